-- Written by a program of this session (wip/pp.py over the kit's printer, with our own texts put in).
import Derived.Test.YtloeealbggobjaaP0
import Derived.Test.YtloeealbggobjaaP3
namespace Go.Proofs.Ytloeealbggobjaa.P
open Go.RowKit Go.Proofs.YtloeealbggobjaaW.PrintWords Go.Proofs.YtloeealbggobjaaW.PrintLast Go.Proofs.YtloeealbggobjaaW.PrintMore
attribute [local go_sem] max2_int min2_int max_two min_two max_three min_three max_four min_four   -- for this text's walks alone
set_option linter.unusedVariables false
set_option linter.unusedSimpArgs false

/-! ### vec_At_44: function 44 -/
def vec_At_44.f (l0 : List (S59)) : Option ((List (S59))) := (some (([] : List (S59)) : List (S59))).bind fun y130 => (if y130.length + l0.length < 5864062014805 then (some (y130 ++ l0)) else (none))
set_option maxHeartbeats 8000000 in
set_option maxRecDepth 100000 in
theorem vec_At_44.calls_some (ad0 : Addr) (c0 : Nat) (l0 : List (S59)) (r : List (S59)) (w : World) (hr0 : Kd.C k59 w (some ad0) l0.length l0) (hc0 : l0.length ≤ c0) (h : vec_At_44.f l0 = some r) :
    Calls Try.prog 44 #[.slice (some ad0) l0.length c0] w fun e w' => ∃ v0_ : Value, e = .returned (v0_) ∧ Kd.R k59 59 w' w.heap.size (fun _ => True) v0_ r ∧ Below w.heap.size w w' := by
  have HR0 := Aside0.mk hr0
  have HC0 := Aside0.mk hc0
  clear hr0 hc0
  have HB := Aside0.mk (Below.refl w.heap.size w)
  have H : ((some (([] : List (S59)) : List (S59))).bind fun y130 => (if y130.length + l0.length < 5864062014805 then (some (y130 ++ l0)) else (none))) = some r := h
  clear h
  obtain ⟨y130, hy130⟩ : ∃ y_ : List (S59), y_ = (([] : List (S59))) := ⟨_, rfl⟩
  replace H : (if y130.length + l0.length < 5864062014805 then (some (y130 ++ l0)) else (none)) = some r := by first | (rw [hy130]; with_reducible exact H) | (have H2_ := (Option.bind_some _ _).symm.trans H; rw [hy130]; with_reducible exact H2_) | (have H2_ := (Option.bind_some _ _).symm.trans H; with_reducible exact H2_) | with_reducible exact H | (rw [hy130]; exact H) | exact H
  have Ny130 := Aside0.mk hy130
  clear hy130
  by_cases c2 : y130.length + l0.length < 5864062014805
  · rw [if_pos c2] at H
    have LMc2 := Aside0.mk c2
    clear c2
    obtain ⟨y133, hy133⟩ : ∃ y_ : List (S59), y_ = (y130 ++ l0) := ⟨_, rfl⟩
    replace H : (some y133) = some r := by first | (rw [hy133]; with_reducible exact H) | (have H2_ := (Option.bind_some _ _).symm.trans H; rw [hy133]; with_reducible exact H2_) | (have H2_ := (Option.bind_some _ _).symm.trans H; with_reducible exact H2_) | with_reducible exact H | (rw [hy133]; exact H) | exact H
    have Ny133 := Aside0.mk hy133
    clear hy133
    obtain rfl := Option.some.inj H
    have hnq_ : ∀ W : World, (binOp .eql 25 (.slice (some ad0) l0.length c0) (.slice none 0 0)).run Try.prog W = .ok (.bool ((some ad0) : Option Addr).isNone) W := fun W => by first | exact Lib.run_eql_slice_nil W 25 59 _ _ _ 0 0 Try.underlying25 | exact Lib.run_eql_slice_nil W 25 59 _ _ _ Try.underlying25
    go_enter Try.func44, Try.ntmps44
    go_wp2_with (first | ((with_reducible refine gate_dst (N := 5) rfl ?_); refine Kd.R_lit k59 _ 59 ?hg (N := 5) ?hd (xs := ([] : List (S59))) (inner := []) (ok := fun _ => True) (okp := fun _ => True) ?hr ?hp (fun _ hk => hk) trivial (Below.refl _ _) (Nat.le_refl _) (by simp) ?_; (case hd => rfl); (case hg => rfl); (case hr => first | (go_simp; done) | (go_simp; rfl)); (case hp => exact (Reps.none _ _)); intro v131 w3 ho4 hb hg_ hnew_; clear hg_ hnew_; (first | rw [← Ny130.out] at ho4 | (simp only [Int.reduceToNat] at ho4; rw [← Ny130.out] at ho4)); have n0_ := Aside0.mk (Kd.R_lower ho4 (below_size (by repeat (first | (with_reducible first | exact HB.out | apply below_alloc | apply pw_below_drewN | apply below_drew1) | exact HB.out)))); have n1_ := Aside0.mk (below_step (by repeat (first | (with_reducible first | exact HB.out | apply below_alloc | apply pw_below_drewN | apply below_drew1) | exact HB.out)) hb); clear HB; have HO132 := n0_; have HB := n1_; clear n0_ n1_; clear hb ho4) | ((with_reducible refine gate_builtin (b := .append) (xs := #[.tmp 5, .tmp 6]) rfl ?_); at_builtin; refine Kd.R_append_rows k59 (w0 := w) w.heap.size rfl (.tmp 5) (.tmp 6) 25 59 (.agg #[(.string ⟨#[]⟩), (.int .i64 0)]) 24 rfl Try.underlying25 info59 rfl (by decide) (by omega) v131 y130 l0 _ _ _ (fun _ => True) (fun _ => False) rfl rfl ?aO ?aR (fun _ _ h => h) (fun _ h => h.elim) ?aF ?aB ?aS ?aL ?_; (case aR => repeat (first | exact (Kd.C_below HR0.out HB.out) | (with_reducible refine Kd.C_alloc ?_ _) | (with_reducible refine Kd.C_drewN ?_ _) | (with_reducible refine Kd.C_drew ?_))); (case aB => exact (by repeat (first | (with_reducible first | exact HB.out | apply below_alloc | apply pw_below_drewN | apply below_drew1) | exact HB.out))); (case aF => exact (fun _ _ => trivial)); (case aO => exact (by (with_reducible repeat (first | apply Kd.R_alloc | apply Kd.R_drewN | apply Kd.R_drew)); exact HO132.out)); (case aS => exact (below_size (by repeat (first | (with_reducible first | exact HB.out | apply below_alloc | apply pw_below_drewN | apply below_drew1) | exact HB.out)))); (case aL => have := LMc2.out; omega); intro v134 w5 ho hb hg hat; rw [← Ny133.out] at ho; have n0_ := Aside0.mk (hb); have n1_ := Aside0.mk (ho); clear HB; clear HO132; have HB := n0_; have HO135 := n1_; clear n0_ n1_; clear ho hb hg hat))
    go_ret
    exact ⟨_, by first | rfl | (simp [errW_none, errW_some] <;> rfl) | (simp [*, errW_none, errW_some] <;> rfl), by (with_reducible repeat (first | apply Kd.R_alloc | apply Kd.R_drewN | apply Kd.R_drew)); exact HO135.out, by repeat (first | (with_reducible first | exact HB.out | apply below_alloc | apply pw_below_drewN | apply below_drew1) | exact HB.out)⟩
  · rw [if_neg c2] at H
    exact absurd H (by simp)

set_option maxHeartbeats 8000000 in
set_option maxRecDepth 100000 in
theorem vec_At_44.calls (A0 : Option Addr) (c0 : Nat) (l0 : List (S59)) (r : List (S59)) (w : World) (hr0 : Kd.C k59 w A0 l0.length l0) (hc0 : l0.length ≤ c0) (h : vec_At_44.f l0 = some r) :
    Calls Try.prog 44 #[.slice A0 l0.length c0] w fun e w' => ∃ v0_ : Value, e = .returned (v0_) ∧ Kd.R k59 59 w' w.heap.size (fun _ => True) v0_ r ∧ Below w.heap.size w w' := by
  cases A0 with
  | some ad0 => exact vec_At_44.calls_some ad0 c0 l0 r w hr0 hc0 h
  | none =>
    have hl : l0 = [] := by
      cases l0 with
      | nil => rfl
      | cons x t => obtain ⟨ad, e, _⟩ := hr0.2.2 (by simp); cases e
    subst hl
    have hr : r = [] := by simpa [vec_At_44.f] using h.symm
    subst hr
    clear h hr0
    have hnq_ : ∀ W : World, (binOp .eql 25 (.slice none 0 c0) (.slice none 0 0)).run Try.prog W = .ok (.bool (none : Option Addr).isNone) W := fun W => by first | exact Lib.run_eql_slice_nil W 25 59 _ _ _ 0 0 Try.underlying25 | exact Lib.run_eql_slice_nil W 25 59 _ _ _ Try.underlying25
    simp only [List.length_nil]
    go_enter Try.func44, Try.ntmps44
    go_wp2
    go_ret
    exact ⟨_, rfl, Kd.R_nil _ _ _ _ _, Below.refl _ _⟩

/-! ### bytealg_CompareString: function 62 -/
def bytealg_CompareString.f (a0 : ByteArray) (a1 : ByteArray) : Option Int := some (Lib.compareBytes a0.data.toList a1.data.toList)
set_option maxHeartbeats 800000 in
set_option maxRecDepth 100000 in
theorem bytealg_CompareString.calls (a0 : ByteArray) (a1 : ByteArray) (r : Int) (w : World) (h : bytealg_CompareString.f a0 a1 = some r) :
    Calls Try.prog 62 #[.string a0, .string a1] w fun e w' => e = .returned (.int .i64 r) ∧ Drawn0 w w' := by
  have HR := Aside0.mk (show Lib.compareBytes a0.data.toList a1.data.toList = r from Option.some.inj h)
  clear h
  go_enter Try.func62, Try.ntmps62
  go_wp2
  rw [run_callFunc_extern Try.func74 (by kernel_rfl) (by kernel_rfl) (by kernel_rfl) (e := Extern.BytealgCompare.compare) (by kernel_rfl), Lib.run_compareString, HR.out]
  simp only [Result.andThen]
  rw [Oper.upon_value]
  go_wp2
  go_ret
  exact ⟨rfl, Drawn0.refl _⟩

/-! ### strings_Compare: function 57 -/
def strings_Compare.f (a0 : ByteArray) (a1 : ByteArray) : Option (Int) := (bytealg_CompareString.f a0 a1).bind fun t136 => (some t136)
set_option maxHeartbeats 8000000 in
set_option maxRecDepth 100000 in
theorem strings_Compare.calls (a0 : ByteArray) (a1 : ByteArray) (r : Int) (w : World) (h : strings_Compare.f a0 a1 = some r) :
    Calls Try.prog 57 #[.string a0, .string a1] w fun e w' => e = .returned (.int .i64 r) ∧ Drawn0 w w' := by
  have H : ((bytealg_CompareString.f a0 a1).bind fun t136 => (some t136)) = some r := h
  clear h
  replace H := Option.bind_eq_some_iff.mp H
  obtain ⟨t136, A30, H⟩ := H
  replace H : (some t136) = some r := H
  have A3 := Aside0.mk A30
  clear A30
  obtain rfl := Option.some.inj H
  go_enter Try.func57, Try.ntmps57
  go_wp2_with (first | ((with_reducible refine gate_callee (f := 62) rfl ?_); refine goesL_ (some 7) rfl rfl Try.func62 (by kernel_rfl) rfl #[.string a0, .string a1] rfl (by (try simp only [List.map_toArray, List.map_cons, List.map_nil]); first | done | rfl | (simp only [List.length_drop, List.length_take]; rfl)) ?_; (with_reducible refine (bytealg_CompareString.calls a0 a1 t136 _ A3.out).mono ?_); rintro e w' ⟨rfl, ⟨nd, rfl⟩⟩; refine ⟨_, rfl, ?_⟩))
  go_ret
  exact ⟨by first | rfl | (simp; done) | (simp [*]; done), by repeat (first | exact Drawn0.refl _ | apply Drawn0.step)⟩

/-! ### id_Compare: function 48 -/
def id_Compare.f (a0 : ByteArray) (a1 : ByteArray) : Option (Int) := (strings_Compare.f a0 a1).bind fun t137 => (some t137)
set_option maxHeartbeats 8000000 in
set_option maxRecDepth 100000 in
theorem id_Compare.calls (a0 : ByteArray) (a1 : ByteArray) (r : Int) (w : World) (h : id_Compare.f a0 a1 = some r) :
    Calls Try.prog 48 #[.string a0, .string a1] w fun e w' => e = .returned (.int .i64 r) ∧ Drawn0 w w' := by
  have H : ((strings_Compare.f a0 a1).bind fun t137 => (some t137)) = some r := h
  clear h
  replace H := Option.bind_eq_some_iff.mp H
  obtain ⟨t137, A30, H⟩ := H
  replace H : (some t137) = some r := H
  have A3 := Aside0.mk A30
  clear A30
  obtain rfl := Option.some.inj H
  go_enter Try.func48, Try.ntmps48
  go_wp2_with (first | ((with_reducible refine gate_callee (f := 57) rfl ?_); refine goesL_ (some 7) rfl rfl Try.func57 (by kernel_rfl) rfl #[.string a0, .string a1] rfl (by (try simp only [List.map_toArray, List.map_cons, List.map_nil]); first | done | rfl | (simp only [List.length_drop, List.length_take]; rfl)) ?_; (with_reducible refine (strings_Compare.calls a0 a1 t137 _ A3.out).mono ?_); rintro e w' ⟨rfl, ⟨nd, rfl⟩⟩; refine ⟨_, rfl, ?_⟩))
  go_ret
  exact ⟨by first | rfl | (simp; done) | (simp [*]; done), by repeat (first | exact Drawn0.refl _ | apply Drawn0.step)⟩

/-! ### vec_order: function 36 -/
def vec_order.f (a0_0 : ByteArray) (a0_1 : Int) (a1_0 : ByteArray) (a1_1 : Int) : Option (Int) := (id_Compare.f a0_0 a1_0).bind fun t140 => (some t140)
set_option maxHeartbeats 8000000 in
set_option maxRecDepth 100000 in
theorem vec_order.calls (a0_0 : ByteArray) (a0_1 : Int) (a1_0 : ByteArray) (a1_1 : Int) (r : Int) (w : World) (h : vec_order.f a0_0 a0_1 a1_0 a1_1 = some r) :
    Calls Try.prog 36 #[.agg #[.string a0_0, .int .i64 a0_1], .agg #[.string a1_0, .int .i64 a1_1]] w fun e w' => e = .returned (.int .i64 r) ∧ Below w.heap.size w w' := by
  have hu59 := Try.underlying59
  have HB := Aside0.mk (Below.refl w.heap.size w)
  have H : ((id_Compare.f a0_0 a1_0).bind fun t140 => (some t140)) = some r := h
  clear h
  replace H := Option.bind_eq_some_iff.mp H
  obtain ⟨t140, A30, H⟩ := H
  replace H : (some t140) = some r := H
  have A3 := Aside0.mk A30
  clear A30
  obtain rfl := Option.some.inj H
  go_enter Try.func36, Try.ntmps36
  go_wp2_with (first | ((with_reducible refine gate_dst (N := 2) rfl ?_); refine box_event ?hg (N := 2) ?hd (cs := #[.string a0_0, .int .i64 a0_1]) (t := 59) ?hr ?_; (case hd => rfl); (case hg => rfl); (case hr => first | (go_simp; done) | (go_simp; rfl)); intro gb138 hg w4 hbox hb; have n0_ := Aside0.mk (below_step (by repeat (first | (with_reducible first | exact HB.out | apply below_alloc | apply pw_below_drewN | apply below_drew1) | exact HB.out)) hb); have n1_ := Aside0.mk (hbox); have n2_ := Aside0.mk ((by rw [hg]; exact (below_size (by repeat (first | (with_reducible first | exact HB.out | apply below_alloc | apply pw_below_drewN | apply below_drew1) | exact HB.out))) : w.heap.size ≤ gb138)); have n3_ := Aside0.mk ((by rw [hg]; exact (below_size (by repeat (first | (with_reducible first | exact HB.out | apply below_alloc | apply pw_below_drewN | apply below_drew1) | exact HB.out))) : w.heap.size ≤ gb138)); clear HB; have HB := n0_; have BK138 := n1_; have GW138 := n2_; have GE138 := n3_; clear n0_ n1_ n2_ n3_; clear hb hbox hg) | ((with_reducible refine gate_dst (N := 3) rfl ?_); refine box_event ?hg (N := 3) ?hd (cs := #[.string a1_0, .int .i64 a1_1]) (t := 59) ?hr ?_; (case hd => rfl); (case hg => rfl); (case hr => first | (go_simp; done) | (go_simp; rfl)); intro gb139 hg w5 hbox hb; have n0_ := Aside0.mk (blk_below (g := gb138) (o := .cells #[.string a0_0, .int .i64 a0_1] 59 (0, 0)) (by (with_reducible repeat (first | refine blk_drewN ?_ _ | refine blk_drew ?_ | refine blk_alloc ?_ _)); exact BK138.out) hb); have n1_ := Aside0.mk (below_step (by repeat (first | (with_reducible first | exact HB.out | apply below_alloc | apply pw_below_drewN | apply below_drew1 | refine below_set ?_ GE138.out) | exact HB.out)) hb); have n2_ := Aside0.mk (hbox); have n3_ := Aside0.mk ((by rw [hg]; exact (below_size (by repeat (first | (with_reducible first | exact HB.out | apply below_alloc | apply pw_below_drewN | apply below_drew1 | refine below_set ?_ GE138.out) | exact HB.out))) : w.heap.size ≤ gb139)); have n4_ := Aside0.mk ((by rw [hg]; exact (below_size (by repeat (first | (with_reducible first | exact HB.out | apply below_alloc | apply pw_below_drewN | apply below_drew1 | refine below_set ?_ GE138.out) | exact HB.out))) : w.heap.size ≤ gb139)); have n5_ := Aside0.mk ((by rw [hg]; exact Nat.ne_of_lt (blk_lt (g := gb138) (o := .cells #[.string a0_0, .int .i64 a0_1] 59 (0, 0)) (by (with_reducible repeat (first | refine blk_drewN ?_ _ | refine blk_drew ?_ | refine blk_alloc ?_ _)); exact BK138.out)) : gb138 ≠ gb139)); have n6_ := Aside0.mk ((by rw [hg]; exact Nat.ne_of_gt (blk_lt (g := gb138) (o := .cells #[.string a0_0, .int .i64 a0_1] 59 (0, 0)) (by (with_reducible repeat (first | refine blk_drewN ?_ _ | refine blk_drew ?_ | refine blk_alloc ?_ _)); exact BK138.out)) : gb139 ≠ gb138)); clear BK138; clear HB; have BK138 := n0_; have HB := n1_; have BK139 := n2_; have GW139 := n3_; have GE139 := n4_; have NB138_139 := n5_; have NB139_138 := n6_; clear n0_ n1_ n2_ n3_ n4_ n5_ n6_; clear hb hbox hg; have hnb6 := NB138_139.out; have hnc6 := NB139_138.out; have hcz7_0 : w5.cell? ⟨gb138, 0, none⟩ = some (.string a0_0) := (blk_cell BK138.out 0).trans rfl; have hcz7_1 : w5.cell? ⟨gb138, 1, none⟩ = some (.int .i64 a0_1) := (blk_cell BK138.out 1).trans rfl; have hfz7_0 := blk_frozen BK138.out 0; have hfz7_1 := blk_frozen BK138.out 1; have hcz8_0 : w5.cell? ⟨gb139, 0, none⟩ = some (.string a1_0) := (blk_cell BK139.out 0).trans rfl; have hcz8_1 : w5.cell? ⟨gb139, 1, none⟩ = some (.int .i64 a1_1) := (blk_cell BK139.out 1).trans rfl; have hfz8_0 := blk_frozen BK139.out 0; have hfz8_1 := blk_frozen BK139.out 1) | ((with_reducible refine gate_callee (f := 48) rfl ?_); refine goesL_ (some 9) rfl rfl Try.func48 (by kernel_rfl) rfl #[.string a0_0, .string a1_0] rfl (by (try simp only [List.map_toArray, List.map_cons, List.map_nil]); first | done | rfl | (simp only [List.length_drop, List.length_take]; rfl)) ?_; (with_reducible refine (id_Compare.calls a0_0 a1_0 t140 _ A3.out).mono ?_); rintro e w' ⟨rfl, ⟨nd, rfl⟩⟩; refine ⟨_, rfl, ?_⟩))
  go_ret
  exact ⟨by first | rfl | (simp [errW_none, errW_some] <;> rfl) | (simp [*, errW_none, errW_some] <;> rfl), by repeat (first | (with_reducible first | exact HB.out | apply below_alloc | apply pw_below_drewN | apply below_drew1 | refine below_set ?_ GE138.out | refine below_set ?_ GE139.out) | exact HB.out)⟩

/-! ### vec_find: function 45 -/
set_option maxHeartbeats 1600000 in
set_option maxRecDepth 100000 in
theorem vecf_bsearch (A0 : Option Addr) (c0 : Nat) (l0 : List S59) (a1 : ByteArray) (w : World) (hr0 : Kd.C k59 w A0 l0.length l0) (hlim : l0.length ≤ 140737488355328) :
    Calls Try.prog 53 #[.slice A0 l0.length c0, .agg #[.string a1, .int .i64 0], .func (.func 36) #[] #[]] w fun e w' => e = .returned (.tuple #[.int .i64 (bsN (fun i => cmpB (l0.getD i z59).f0 a1) l0.length : Nat), .bool (bsB (fun i => cmpB (l0.getD i z59).f0 a1) l0.length)]) ∧ Below w.heap.size w w' := by
  have hlen := hr0.2.1
  have HR0 := Aside0.mk hr0
  clear hr0
  generalize hc : (fun i => cmpB (l0.getD i z59).f0 a1) = c
  have HCC := Aside0.mk (show ∀ i, cmpB (l0.getD i z59).f0 a1 = c i from fun i => by rw [← hc])
  clear hc
  generalize hn : l0.length = n at *
  have HR := Aside0.mk (show bsN c n = bsI c (n + 1) 0 n from rfl)
  clear hn
  have HB := Aside0.mk (below_alloc (Below.refl w.heap.size w) (.cells #[.string a1, .int .i64 0] 59))
  have BK := Aside0.mk (blk_new w (.cells #[.string a1, .int .i64 0] 59))
  have hut := Try.underlying59
  go_enter Try.func53, Try.ntmps53
  go_wp2
  go_loopw [9, 10, 11] (fun vi vj _ wr => ∃ i j fu : Nat, vi = .int .i64 i ∧ vj = .int .i64 j ∧ i ≤ j ∧ j ≤ n ∧ j - i < fu ∧ Aside0 (bsI c fu i j = bsN c n) ∧ Aside0 (Below w.heap.size w wr) ∧ Aside0 (wr.heap[w.heap.size]? = some (.cells #[.string a1, .int .i64 0] 59 (0, 0)))) (fun vi vj _ _ => ((intOf vj).toNat - (intOf vi).toNat))
  case atStart => exact ⟨0, n, n + 1, rfl, rfl, Nat.zero_le _, Nat.le_refl _, by omega, ⟨HR.out.symm⟩, HB, BK⟩
  case round =>
    clear HB BK
    obtain ⟨i, j, fu, rfl, rfl, hij, hjn, hfu, HI, HB, BK⟩ := hrel
    by_cases hlt : i < j
    · obtain ⟨ad, hA, hx0, hx1⟩ := at_T59 HR0.out (((i : Int) + (j : Int)) / 2) (by omega) (by omega)
      obtain rfl := hA
      have hw0 := hx0; have hw1 := hx1; replace hx0 := (HB.out.cell (World.block_lt_of_cell? w _ hx0)).trans hx0; replace hx1 := (HB.out.cell (World.block_lt_of_cell? w _ hx1)).trans hx1
      have hm : (((i : Int) + (j : Int)) / 2).toNat = (i + j) / 2 := by omega
      have e2 : cmpB (l0.getD (((i : Int) + (j : Int)) / 2).toNat z59).f0 a1 = c ((i + j) / 2) := by rw [hm]; exact HCC.out _
      have pm := eq_true (show (0 : Int) ≤ ((i : Int) + (j : Int)) / 2 by omega)
      have qm := eq_true (show ((i : Int) + (j : Int)) / 2 < (n : Int) by omega)
      clear hm
      have hub : bsI c (fu - 1 + 1) i j = if c ((i + j) / 2) < 0 then bsI c (fu - 1) ((i + j) / 2 + 1) j else bsI c (fu - 1) i ((i + j) / 2) := by
        simp only [bsI]; rw [if_pos hlt]
      have HU := Aside0.mk hub
      have hcalls := fun W => vec_order.calls (rd_T59 l0 (((i : Int) + (j : Int)) / 2)).f0 (rd_T59 l0 (((i : Int) + (j : Int)) / 2)).f1 a1 0 (c ((i + j) / 2)) W (by rw [← e2]; rfl)
      clear hub e2
      have HK := Aside0.mk hcalls
      clear hcalls
      have hfu1 : fu - 1 + 1 = fu := by omega
      have HF := Aside0.mk hfu1
      clear hfu1
      by_cases hneg : c ((i + j) / 2) < 0
      · have HN := Aside0.mk hneg
        have hdn : decide (c ((i + j) / 2) < 0) = true := decide_eq_true hneg
        generalize hq : c ((i + j) / 2) = q at hdn HK hneg
        have HQ := Aside0.mk hq
        clear hq
        go_wp2_with fail
        refine start_ (n := 8) (S := fun w' => w'.cell? (ad.add ((((i : Int) + (j : Int)) / 2).toNat * 2)) = some (.string (rd_T59 l0 (((i : Int) + (j : Int)) / 2)).f0) ∧ w'.cell? ⟨(ad.add ((((i : Int) + (j : Int)) / 2).toNat * 2)).block, (ad.add ((((i : Int) + (j : Int)) / 2).toNat * 2)).off + 1, none⟩ = some (.int .i64 (rd_T59 l0 (((i : Int) + (j : Int)) / 2)).f1) ∧ w'.cell? ⟨w.heap.size, 0, none⟩ = some (.string a1) ∧ w'.cell? ⟨w.heap.size, 1, none⟩ = some (.int .i64 0)) (ds := []) #[false, false, false, false, false, false, false, false] (by kernel_rfl) rfl rfl ⟨hx0, hx1, (blk_cell (blk_drew BK.out) 0).trans rfl, (blk_cell (blk_drew BK.out) 1).trans rfl⟩ (fun hHeld => ?_)
        refine pure_ (i := 0) (N := some 24) (v := ?_) (a' := ?_) #[true, false, false, false, false, false, false, false] rfl rfl (by kernel_rfl) (fun _ _ _ h => h) (Or.inl ⟨by rfl, ?_⟩) ?_ ?_
        rotate_left
        · intro w'
          go_simp
          with_reducible rfl
        rotate_left
        · simp only [Act.put, List.setIfInBounds_toArray, List.set_cons_zero, List.set_cons_succ, i64_w, i32_w]
          rfl
        refine pure_ (i := 1) (N := some 25) (v := ?_) (a' := ?_) #[true, true, false, false, false, false, false, false] rfl rfl (by kernel_rfl) (fun _ _ _ h => h) (Or.inl ⟨by rfl, ?_⟩) ?_ ?_
        rotate_left
        · intro w'
          go_simp
          with_reducible rfl
        rotate_left
        · simp only [Act.put, List.setIfInBounds_toArray, List.set_cons_zero, List.set_cons_succ, i64_w, i32_w]
          rfl
        refine pure_ (i := 2) (N := some 26) (v := ?_) (a' := ?_) #[true, true, true, false, false, false, false, false] rfl rfl (by kernel_rfl) (fun _ _ _ h => h) (Or.inl ⟨by rfl, ?_⟩) ?_ ?_
        rotate_left
        · intro w'
          go_simp
          with_reducible rfl
        rotate_left
        · simp only [Act.put, List.setIfInBounds_toArray, List.set_cons_zero, List.set_cons_succ, i64_w, i32_w]
          rfl
        refine pure_ (i := 3) (N := some 27) (v := ?_) (a' := ?_) #[true, true, true, true, false, false, false, false] rfl rfl (by kernel_rfl) (fun _ _ _ h => h) (Or.inl ⟨by rfl, ?_⟩) ?_ ?_
        rotate_left
        · intro w'
          go_simp
          with_reducible rfl
        rotate_left
        · simp only [Act.put, List.setIfInBounds_toArray, List.set_cons_zero, List.set_cons_succ, i64_w, i32_w]
          rfl
        refine take_ (i := 4) (N := some 28) (v := ?_) (a' := ?_) #[true, true, true, true, true, false, false, false] rfl rfl (by kernel_rfl) (fun _ _ _ h => h) (Or.inl ⟨by rfl, ?_⟩) hHeld ?_ ?_
        rotate_left
        · rintro w' ⟨s0, s1, s2, s3⟩
          go_simp
          with_reducible rfl
        rotate_left
        · simp only [Act.put, List.setIfInBounds_toArray, List.set_cons_zero, List.set_cons_succ, i64_w, i32_w]
          rfl
        refine take_ (i := 5) (N := some 29) (v := ?_) (a' := ?_) #[true, true, true, true, true, true, false, false] rfl rfl (by kernel_rfl) (fun _ _ _ h => h) (Or.inl ⟨by rfl, ?_⟩) hHeld ?_ ?_
        rotate_left
        · rintro w' ⟨s0, s1, s2, s3⟩
          go_simp
          with_reducible rfl
        rotate_left
        · simp only [Act.put, List.setIfInBounds_toArray, List.set_cons_zero, List.set_cons_succ, i64_w, i32_w]
          rfl
        refine one_ (i := 6) (N := some 30) #[true, true, true, true, true, true, true, false] rfl rfl (by kernel_rfl) (by decide) (fun K hK => ?_)
        refine goesV_ Try.func36 (by kernel_rfl) rfl #[.agg #[.string (rd_T59 l0 (((i : Int) + (j : Int)) / 2)).f0, .int .i64 (rd_T59 l0 (((i : Int) + (j : Int)) / 2)).f1], .agg #[.string a1, .int .i64 0]] (by rfl) rfl rfl rfl (by (try simp only [List.map_toArray, List.map_cons, List.map_nil]); first | done | rfl) ?_
        refine (HK.out _).mono ?_
        rintro e w' ⟨rfl, hb1⟩
        refine ⟨_, rfl, ?_⟩
        have HB1 := Aside0.mk (below_step (below_drew1 HB.out) hb1)
        have BK1 := Aside0.mk (blk_below (blk_drew BK.out) hb1)
        clear hb1
        refine hK.out _ _ ⟨(HB1.out.cell (World.block_lt_of_cell? w _ hw0)).trans hw0, (HB1.out.cell (World.block_lt_of_cell? w _ hw1)).trans hw1, (blk_cell BK1.out 0).trans rfl, (blk_cell BK1.out 1).trans rfl⟩ (fun hHeld => ?_)
        clear hK K
        refine norm_ (a' := ?_) ?_ ?_
        rotate_left
        · show Act.put _ (some 30) _ = _
          simp only [Act.put, List.setIfInBounds_toArray, List.set_cons_zero, List.set_cons_succ, i64_w, i32_w]
          rfl
        refine pure_ (i := 7) (N := some 31) (v := ?_) (a' := ?_) #[true, true, true, true, true, true, true, true] rfl rfl (by kernel_rfl) (fun _ _ _ h => h) (Or.inl ⟨by rfl, ?_⟩) ?_ ?_
        rotate_left
        · intro w'
          go_simp
          with_reducible rfl
        rotate_left
        · simp only [Act.put, List.setIfInBounds_toArray, List.set_cons_zero, List.set_cons_succ, i64_w, i32_w]
          rfl
        refine done_ (by kernel_rfl) ?_
        go_wp2_with fail
        go_roundw
        case rel => exact ⟨(i + j) / 2 + 1, j, fu - 1, by go_num, rfl, by omega, hjn, by omega, ⟨by have := HU.out; rw [HF.out, HI.out, if_pos HN.out] at this; exact this.symm⟩, HB1, BK1⟩
        case measure => simp [intOf]; omega
      · have HN := Aside0.mk hneg
        have hdn : decide (c ((i + j) / 2) < 0) = false := decide_eq_false hneg
        generalize hq : c ((i + j) / 2) = q at hdn HK hneg
        have HQ := Aside0.mk hq
        clear hq
        go_wp2_with fail
        refine start_ (n := 8) (S := fun w' => w'.cell? (ad.add ((((i : Int) + (j : Int)) / 2).toNat * 2)) = some (.string (rd_T59 l0 (((i : Int) + (j : Int)) / 2)).f0) ∧ w'.cell? ⟨(ad.add ((((i : Int) + (j : Int)) / 2).toNat * 2)).block, (ad.add ((((i : Int) + (j : Int)) / 2).toNat * 2)).off + 1, none⟩ = some (.int .i64 (rd_T59 l0 (((i : Int) + (j : Int)) / 2)).f1) ∧ w'.cell? ⟨w.heap.size, 0, none⟩ = some (.string a1) ∧ w'.cell? ⟨w.heap.size, 1, none⟩ = some (.int .i64 0)) (ds := []) #[false, false, false, false, false, false, false, false] (by kernel_rfl) rfl rfl ⟨hx0, hx1, (blk_cell (blk_drew BK.out) 0).trans rfl, (blk_cell (blk_drew BK.out) 1).trans rfl⟩ (fun hHeld => ?_)
        refine pure_ (i := 0) (N := some 24) (v := ?_) (a' := ?_) #[true, false, false, false, false, false, false, false] rfl rfl (by kernel_rfl) (fun _ _ _ h => h) (Or.inl ⟨by rfl, ?_⟩) ?_ ?_
        rotate_left
        · intro w'
          go_simp
          with_reducible rfl
        rotate_left
        · simp only [Act.put, List.setIfInBounds_toArray, List.set_cons_zero, List.set_cons_succ, i64_w, i32_w]
          rfl
        refine pure_ (i := 1) (N := some 25) (v := ?_) (a' := ?_) #[true, true, false, false, false, false, false, false] rfl rfl (by kernel_rfl) (fun _ _ _ h => h) (Or.inl ⟨by rfl, ?_⟩) ?_ ?_
        rotate_left
        · intro w'
          go_simp
          with_reducible rfl
        rotate_left
        · simp only [Act.put, List.setIfInBounds_toArray, List.set_cons_zero, List.set_cons_succ, i64_w, i32_w]
          rfl
        refine pure_ (i := 2) (N := some 26) (v := ?_) (a' := ?_) #[true, true, true, false, false, false, false, false] rfl rfl (by kernel_rfl) (fun _ _ _ h => h) (Or.inl ⟨by rfl, ?_⟩) ?_ ?_
        rotate_left
        · intro w'
          go_simp
          with_reducible rfl
        rotate_left
        · simp only [Act.put, List.setIfInBounds_toArray, List.set_cons_zero, List.set_cons_succ, i64_w, i32_w]
          rfl
        refine pure_ (i := 3) (N := some 27) (v := ?_) (a' := ?_) #[true, true, true, true, false, false, false, false] rfl rfl (by kernel_rfl) (fun _ _ _ h => h) (Or.inl ⟨by rfl, ?_⟩) ?_ ?_
        rotate_left
        · intro w'
          go_simp
          with_reducible rfl
        rotate_left
        · simp only [Act.put, List.setIfInBounds_toArray, List.set_cons_zero, List.set_cons_succ, i64_w, i32_w]
          rfl
        refine take_ (i := 4) (N := some 28) (v := ?_) (a' := ?_) #[true, true, true, true, true, false, false, false] rfl rfl (by kernel_rfl) (fun _ _ _ h => h) (Or.inl ⟨by rfl, ?_⟩) hHeld ?_ ?_
        rotate_left
        · rintro w' ⟨s0, s1, s2, s3⟩
          go_simp
          with_reducible rfl
        rotate_left
        · simp only [Act.put, List.setIfInBounds_toArray, List.set_cons_zero, List.set_cons_succ, i64_w, i32_w]
          rfl
        refine take_ (i := 5) (N := some 29) (v := ?_) (a' := ?_) #[true, true, true, true, true, true, false, false] rfl rfl (by kernel_rfl) (fun _ _ _ h => h) (Or.inl ⟨by rfl, ?_⟩) hHeld ?_ ?_
        rotate_left
        · rintro w' ⟨s0, s1, s2, s3⟩
          go_simp
          with_reducible rfl
        rotate_left
        · simp only [Act.put, List.setIfInBounds_toArray, List.set_cons_zero, List.set_cons_succ, i64_w, i32_w]
          rfl
        refine one_ (i := 6) (N := some 30) #[true, true, true, true, true, true, true, false] rfl rfl (by kernel_rfl) (by decide) (fun K hK => ?_)
        refine goesV_ Try.func36 (by kernel_rfl) rfl #[.agg #[.string (rd_T59 l0 (((i : Int) + (j : Int)) / 2)).f0, .int .i64 (rd_T59 l0 (((i : Int) + (j : Int)) / 2)).f1], .agg #[.string a1, .int .i64 0]] (by rfl) rfl rfl rfl (by (try simp only [List.map_toArray, List.map_cons, List.map_nil]); first | done | rfl) ?_
        refine (HK.out _).mono ?_
        rintro e w' ⟨rfl, hb1⟩
        refine ⟨_, rfl, ?_⟩
        have HB1 := Aside0.mk (below_step (below_drew1 HB.out) hb1)
        have BK1 := Aside0.mk (blk_below (blk_drew BK.out) hb1)
        clear hb1
        refine hK.out _ _ ⟨(HB1.out.cell (World.block_lt_of_cell? w _ hw0)).trans hw0, (HB1.out.cell (World.block_lt_of_cell? w _ hw1)).trans hw1, (blk_cell BK1.out 0).trans rfl, (blk_cell BK1.out 1).trans rfl⟩ (fun hHeld => ?_)
        clear hK K
        refine norm_ (a' := ?_) ?_ ?_
        rotate_left
        · show Act.put _ (some 30) _ = _
          simp only [Act.put, List.setIfInBounds_toArray, List.set_cons_zero, List.set_cons_succ, i64_w, i32_w]
          rfl
        refine pure_ (i := 7) (N := some 31) (v := ?_) (a' := ?_) #[true, true, true, true, true, true, true, true] rfl rfl (by kernel_rfl) (fun _ _ _ h => h) (Or.inl ⟨by rfl, ?_⟩) ?_ ?_
        rotate_left
        · intro w'
          go_simp
          with_reducible rfl
        rotate_left
        · simp only [Act.put, List.setIfInBounds_toArray, List.set_cons_zero, List.set_cons_succ, i64_w, i32_w]
          rfl
        refine done_ (by kernel_rfl) ?_
        go_wp2_with fail
        go_roundw
        case rel => exact ⟨i, (i + j) / 2, fu - 1, rfl, by go_num, by omega, by omega, by omega, ⟨by have := HU.out; rw [HF.out, HI.out, if_neg (by have := HN.out; omega)] at this; exact this.symm⟩, HB1, BK1⟩
        case measure => simp [intOf]; omega
    · have hres : bsN c n = i := by
        rw [← HI.out]
        obtain ⟨f, rfl⟩ : ∃ f, fu = f + 1 := ⟨fu - 1, by omega⟩
        simp only [bsI]; rw [if_neg hlt]
      have HRS := Aside0.mk hres
      clear hres
      have hge : decide ((i : Int) < (j : Int)) = false := by simp; omega
      by_cases hin : i < n
      · obtain ⟨ad, hA, hx0, hx1⟩ := at_T59 HR0.out (i : Int) (by omega) (by omega)
        obtain rfl := hA
        have pm := eq_true (show (0 : Int) ≤ (i : Int) by omega)
        have qm := eq_true (show (i : Int) < (n : Int) by omega)
        have hw0 := hx0; have hw1 := hx1; replace hx0 := (HB.out.cell (World.block_lt_of_cell? w _ hx0)).trans hx0; replace hx1 := (HB.out.cell (World.block_lt_of_cell? w _ hx1)).trans hx1
        have hcalls := fun W => vec_order.calls (rd_T59 l0 (i : Int)).f0 (rd_T59 l0 (i : Int)).f1 a1 0 (c i) W (by rw [← HCC.out i]; rfl)
        have HK := Aside0.mk hcalls
        clear hcalls
        have hbb : bsB c n = decide (c i = 0) := by unfold bsB; rw [HRS.out, decide_eq_true hin, Bool.true_and]
        have HBB := Aside0.mk hbb
        clear hbb
        have hin2 : decide ((i : Int) < (n : Int)) = true := by simp; omega
        generalize hq : c i = q at HK HBB
        have HQ := Aside0.mk hq
        clear hq
        go_wp2_with fail
        refine start_ (n := 16) (S := fun w' => w'.cell? (ad.add (i * 2)) = some (.string (rd_T59 l0 (i : Int)).f0) ∧ w'.cell? ⟨(ad.add (i * 2)).block, (ad.add (i * 2)).off + 1, none⟩ = some (.int .i64 (rd_T59 l0 (i : Int)).f1) ∧ w'.cell? ⟨w.heap.size, 0, none⟩ = some (.string a1) ∧ w'.cell? ⟨w.heap.size, 1, none⟩ = some (.int .i64 0)) (ds := []) #[false, false, false, false, false, false, false, false, false, false, false, false, false, false, false, false] (by kernel_rfl) rfl rfl ⟨hx0, hx1, (blk_cell (blk_drew BK.out) 0).trans rfl, (blk_cell (blk_drew BK.out) 1).trans rfl⟩ (fun hHeld => ?_)
        refine pure_ (i := 0) (N := some 35) (v := ?_) (a' := ?_) #[true, false, false, false, false, false, false, false, false, false, false, false, false, false, false, false] rfl rfl (by kernel_rfl) (fun _ _ _ h => h) (Or.inl ⟨by rfl, ?_⟩) ?_ ?_
        rotate_left
        · intro w'
          go_simp
          with_reducible rfl
        rotate_left
        · simp only [Act.put, List.setIfInBounds_toArray, List.set_cons_zero, List.set_cons_succ, i64_w, i32_w]
          rfl
        refine pure_ (i := 1) (N := some 36) (v := ?_) (a' := ?_) #[true, true, false, false, false, false, false, false, false, false, false, false, false, false, false, false] rfl rfl (by kernel_rfl) (fun _ _ _ h => h) (Or.inl ⟨by rfl, ?_⟩) ?_ ?_
        rotate_left
        · intro w'
          go_simp
          with_reducible rfl
        rotate_left
        · simp only [Act.put, List.setIfInBounds_toArray, List.set_cons_zero, List.set_cons_succ, i64_w, i32_w]
          rfl
        refine pure_ (i := 2) (N := some 37) (v := ?_) (a' := ?_) #[true, true, true, false, false, false, false, false, false, false, false, false, false, false, false, false] rfl rfl (by kernel_rfl) (fun _ _ _ h => h) (Or.inl ⟨by rfl, ?_⟩) ?_ ?_
        rotate_left
        · intro w'
          go_simp
          with_reducible rfl
        rotate_left
        · simp only [Act.put, List.setIfInBounds_toArray, List.set_cons_zero, List.set_cons_succ, i64_w, i32_w]
          rfl
        refine pure_ (i := 3) (N := some 38) (v := ?_) (a' := ?_) #[true, true, true, true, false, false, false, false, false, false, false, false, false, false, false, false] rfl rfl (by kernel_rfl) (fun _ _ _ h => h) (Or.inl ⟨by rfl, ?_⟩) ?_ ?_
        rotate_left
        · intro w'
          go_simp
          with_reducible rfl
        rotate_left
        · simp only [Act.put, List.setIfInBounds_toArray, List.set_cons_zero, List.set_cons_succ, i64_w, i32_w]
          rfl
        refine pure_ (i := 4) (N := some 39) (v := ?_) (a' := ?_) #[true, true, true, true, true, false, false, false, false, false, false, false, false, false, false, false] rfl rfl (by kernel_rfl) (fun _ _ _ h => h) (Or.inl ⟨by rfl, ?_⟩) ?_ ?_
        rotate_left
        · intro w'
          go_simp
          with_reducible rfl
        rotate_left
        · simp only [Act.put, List.setIfInBounds_toArray, List.set_cons_zero, List.set_cons_succ, i64_w, i32_w]
          rfl
        refine pure_ (i := 5) (N := some 40) (v := ?_) (a' := ?_) #[true, true, true, true, true, true, false, false, false, false, false, false, false, false, false, false] rfl rfl (by kernel_rfl) (fun _ _ _ h => h) (Or.inl ⟨by rfl, ?_⟩) ?_ ?_
        rotate_left
        · intro w'
          go_simp
          with_reducible rfl
        rotate_left
        · simp only [Act.put, List.setIfInBounds_toArray, List.set_cons_zero, List.set_cons_succ, i64_w, i32_w]
          rfl
        refine pure_ (i := 6) (N := some 41) (v := ?_) (a' := ?_) #[true, true, true, true, true, true, true, false, false, false, false, false, false, false, false, false] rfl rfl (by kernel_rfl) (fun _ _ _ h => h) (Or.inl ⟨by rfl, ?_⟩) ?_ ?_
        rotate_left
        · intro w'
          go_simp
          with_reducible rfl
        rotate_left
        · simp only [Act.put, List.setIfInBounds_toArray, List.set_cons_zero, List.set_cons_succ, i64_w, i32_w]
          rfl
        refine pure_ (i := 7) (N := some 42) (v := ?_) (a' := ?_) #[true, true, true, true, true, true, true, true, false, false, false, false, false, false, false, false] rfl rfl (by kernel_rfl) (fun _ _ _ h => h) (Or.inl ⟨by rfl, ?_⟩) ?_ ?_
        rotate_left
        · intro w'
          go_simp
          with_reducible rfl
        rotate_left
        · simp only [Act.put, List.setIfInBounds_toArray, List.set_cons_zero, List.set_cons_succ, i64_w, i32_w]
          rfl
        refine pure_ (i := 8) (N := some 43) (v := ?_) (a' := ?_) #[true, true, true, true, true, true, true, true, true, false, false, false, false, false, false, false] rfl rfl (by kernel_rfl) (fun _ _ _ h => h) (Or.inl ⟨by rfl, ?_⟩) ?_ ?_
        rotate_left
        · intro w'
          go_simp
          with_reducible rfl
        rotate_left
        · simp only [Act.put, List.setIfInBounds_toArray, List.set_cons_zero, List.set_cons_succ, i64_w, i32_w]
          rfl
        refine take_ (i := 9) (N := some 44) (v := ?_) (a' := ?_) #[true, true, true, true, true, true, true, true, true, true, false, false, false, false, false, false] rfl rfl (by kernel_rfl) (fun _ _ _ h => h) (Or.inl ⟨by rfl, ?_⟩) hHeld ?_ ?_
        rotate_left
        · rintro w' ⟨s0, s1, s2, s3⟩
          go_simp
          with_reducible rfl
        rotate_left
        · simp only [Act.put, List.setIfInBounds_toArray, List.set_cons_zero, List.set_cons_succ, i64_w, i32_w]
          rfl
        refine take_ (i := 10) (N := some 45) (v := ?_) (a' := ?_) #[true, true, true, true, true, true, true, true, true, true, true, false, false, false, false, false] rfl rfl (by kernel_rfl) (fun _ _ _ h => h) (Or.inl ⟨by rfl, ?_⟩) hHeld ?_ ?_
        rotate_left
        · rintro w' ⟨s0, s1, s2, s3⟩
          go_simp
          with_reducible rfl
        rotate_left
        · simp only [Act.put, List.setIfInBounds_toArray, List.set_cons_zero, List.set_cons_succ, i64_w, i32_w]
          rfl
        refine one_ (i := 11) (N := some 46) #[true, true, true, true, true, true, true, true, true, true, true, true, false, false, false, false] rfl rfl (by kernel_rfl) (by decide) (fun K hK => ?_)
        refine goesV_ Try.func36 (by kernel_rfl) rfl #[.agg #[.string (rd_T59 l0 (i : Int)).f0, .int .i64 (rd_T59 l0 (i : Int)).f1], .agg #[.string a1, .int .i64 0]] (by rfl) rfl rfl rfl (by (try simp only [List.map_toArray, List.map_cons, List.map_nil]); first | done | rfl) ?_
        refine (HK.out _).mono ?_
        rintro e w' ⟨rfl, hb1⟩
        refine ⟨_, rfl, ?_⟩
        have HB1 := Aside0.mk (below_step (below_drew1 HB.out) hb1)
        have BK1 := Aside0.mk (blk_below (blk_drew BK.out) hb1)
        clear hb1
        refine hK.out _ _ ⟨(HB1.out.cell (World.block_lt_of_cell? w _ hw0)).trans hw0, (HB1.out.cell (World.block_lt_of_cell? w _ hw1)).trans hw1, (blk_cell BK1.out 0).trans rfl, (blk_cell BK1.out 1).trans rfl⟩ (fun hHeld => ?_)
        clear hK K
        refine norm_ (a' := ?_) ?_ ?_
        rotate_left
        · show Act.put _ (some 46) _ = _
          simp only [Act.put, List.setIfInBounds_toArray, List.set_cons_zero, List.set_cons_succ, i64_w, i32_w]
          rfl
        refine pure_ (i := 12) (N := some 47) (v := ?_) (a' := ?_) #[true, true, true, true, true, true, true, true, true, true, true, true, true, false, false, false] rfl rfl (by kernel_rfl) (fun _ _ _ h => h) (Or.inl ⟨by rfl, ?_⟩) ?_ ?_
        rotate_left
        · intro w'
          go_simp
          with_reducible rfl
        rotate_left
        · simp only [Act.put, List.setIfInBounds_toArray, List.set_cons_zero, List.set_cons_succ, i64_w, i32_w]
          rfl
        refine pure_ (i := 13) (N := some 48) (v := ?_) (a' := ?_) #[true, true, true, true, true, true, true, true, true, true, true, true, true, true, false, false] rfl rfl (by kernel_rfl) (fun _ _ _ h => h) (Or.inl ⟨by rfl, ?_⟩) ?_ ?_
        rotate_left
        · intro w'
          go_simp
          with_reducible rfl
        rotate_left
        · simp only [Act.put, List.setIfInBounds_toArray, List.set_cons_zero, List.set_cons_succ, i64_w, i32_w]
          rfl
        refine pure_ (i := 14) (N := some 6) (v := ?_) (a' := ?_) #[true, true, true, true, true, true, true, true, true, true, true, true, true, true, true, false] rfl rfl (by kernel_rfl) (fun _ _ _ h => h) (Or.inl ⟨by rfl, ?_⟩) ?_ ?_
        rotate_left
        · intro w'
          go_simp
          with_reducible rfl
        rotate_left
        · simp only [Act.put, List.setIfInBounds_toArray, List.set_cons_zero, List.set_cons_succ, i64_w, i32_w]
          rfl
        refine pure_ (i := 15) (N := some 7) (v := ?_) (a' := ?_) #[true, true, true, true, true, true, true, true, true, true, true, true, true, true, true, true] rfl rfl (by kernel_rfl) (fun _ _ _ h => h) (Or.inl ⟨by rfl, ?_⟩) ?_ ?_
        rotate_left
        · intro w'
          go_simp
          with_reducible rfl
        rotate_left
        · simp only [Act.put, List.setIfInBounds_toArray, List.set_cons_zero, List.set_cons_succ, i64_w, i32_w]
          rfl
        refine done_ (by kernel_rfl) ?_
        go_wp2_with fail
        go_ret2
        exact ⟨by rw [HRS.out, HBB.out]; rfl, HB1.out⟩
      · have hbb : bsB c n = false := by unfold bsB; rw [HRS.out, decide_eq_false hin, Bool.false_and]
        have HBB := Aside0.mk hbb
        clear hbb
        have hin2 : decide ((i : Int) < (n : Int)) = false := by simp; omega
        go_wp2_with fail
        go_quiet (fail)
        try go_wp2
        go_ret2
        exact ⟨by rw [HRS.out, HBB.out]; rfl, pw_below_drewN HB.out _⟩

def vec_find.f (l0 : List S59) (a1 : ByteArray) : Option (Int × Bool) := if l0.length < 8796093022208 then some ((bsN (fun i => cmpB (l0.getD i z59).f0 a1) l0.length : Nat), bsB (fun i => cmpB (l0.getD i z59).f0 a1) l0.length) else none
set_option maxHeartbeats 800000 in
set_option maxRecDepth 100000 in
theorem vec_find.calls (A0 : Option Addr) (c0 : Nat) (l0 : List S59) (a1 : ByteArray) (r1 : Int) (r2 : Bool) (w : World) (hr0 : Kd.C k59 w A0 l0.length l0) (hc0 : l0.length ≤ c0) (h : vec_find.f l0 a1 = some (r1, r2)) :
    Calls Try.prog 45 #[.slice A0 l0.length c0, .string a1] w fun e w' => e = .returned (.tuple #[.int .i64 r1, .bool r2]) ∧ Below w.heap.size w w' := by
  have hlim : l0.length < 8796093022208 := by
    by_cases hx : l0.length < 8796093022208
    · exact hx
    · rw [vec_find.f, if_neg hx] at h; cases h
  have hr : (((bsN (fun i => cmpB (l0.getD i z59).f0 a1) l0.length : Nat) : Int), bsB (fun i => cmpB (l0.getD i z59).f0 a1) l0.length) = (r1, r2) := by rw [vec_find.f, if_pos hlim] at h; exact Option.some.inj h
  obtain ⟨e1, e2⟩ := Prod.mk.inj hr
  have HB := Aside0.mk (Below.refl w.heap.size w)
  have hc := fun (W : World) (hW : Below w.heap.size w W) => vecf_bsearch A0 c0 l0 a1 W (Kd.C_below hr0 hW) (by omega)
  rw [e1, e2] at hc
  have HC := Aside0.mk hc
  clear hc h hr hlim hr0 e1 e2
  have hut := Try.underlying59
  go_enter Try.func45, Try.ntmps45
  go_wp2_with fail
  refine (HC.out _ (by repeat (first | (with_reducible first | exact HB.out | apply below_alloc | apply pw_below_drewN | apply below_drew1) | exact HB.out))).mono ?_
  rintro e w' ⟨rfl, hb⟩
  have HB1 := Aside0.mk (below_step HB.out hb)
  clear hb
  go_wp2_with fail
  go_ret2
  exact ⟨rfl, HB1.out⟩

/-! ### vec_Set: function 31 -/
theorem vecs_hov (w : World) (vb b off lb cb m vc : Nat) (tA tB : TypeId) (kA kB : Nat) (hvb : vb ≠ b) (hsa : w.shape? vb = some (tA, kA)) (hsb : w.shape? b = some (tB, kB)) (hkB : kB ≠ 0) (hfa : w.frozen? ⟨vb, 0, none⟩ = false) (hfe : w.frozen? ⟨vb, kA, none⟩ = false) :
    (callFunc 54 #[.slice (some ⟨vb, 0, none⟩) m vc, .slice (some ⟨b, off, none⟩) lb cb]).run Try.prog w = .ok (.value (.bool false)) w := by
  rw [run_callFunc_extern Try.func54 (by kernel_rfl) (by kernel_rfl) (by kernel_rfl) (e := Extern.SlicesOverlaps.overlaps #[24, 24] #[4]) (by kernel_rfl),
    Lib.run_overlaps_apart w 24 4 59 Try.underlying24 2 (fun w => by obtain ⟨i0, hi, h0, h1, h2⟩ := info_parts info59; simp [sizeOf, typeInfo, hi, h1]) ⟨vb, 0, none⟩ ⟨b, off, none⟩ m vc lb cb hvb tA tB kA kB hsa hsb hkB hfa hfe]
  rfl
set_option maxHeartbeats 4000000 in
set_option maxRecDepth 100000 in
theorem vecs_insert_room (w : World) (base : Nat) (ok okp : Nat → Prop) (g cap : Nat) (cur : Array Value) (l : List S59) (i : Nat) (x : S59) (cs : List Value) (vb : Nat) (tv : TypeId)
    (hg : base ≤ g) (hk : ok g) (hh : w.heap[g]? = some (.cells cur 59 (0, 0))) (hc : l.length + 1 ≤ cap) (h3 : cap ≤ maxLen) (h4 : cur.size = cap * 2) (hp : Reps (Kd.M k59 w base (fun k => ok k ∧ k ≠ g)) 2 l (cur.toList.take (l.length * 2)))
    (hi : i < l.length) (hx : Kd.M k59 w base okp x cs) (hokp : ∀ k, okp k → ok k ∧ k ≠ g) (hv : w.heap[vb]? = some (.cells cs.toArray tv (0, 0))) (hvb : vb ≠ g) :
    Calls Try.prog 46 #[.slice (some ⟨g, 0, none⟩) l.length cap, .int .i64 i, .slice (some ⟨vb, 0, none⟩) 1 1] w fun e w' => ∃ v' : Value, e = .returned v' ∧ Kd.R k59 59 w' base ok v' (l.take i ++ x :: l.drop i) ∧ w.grownBy w' (some g) := by
  obtain ⟨i0, hi0, hz0, hsz0, hby0⟩ := info_parts info59
  have hR : Kd.R k59 59 ((w.drew.setCells g ((i + 1) * 2) ((cur.toList.take (l.length * 2)).drop (i * 2))).setCells g (i * 2) cs) base ok (.slice (some ⟨g, 0, none⟩) (l.length + 1) cap) (l.take i ++ x :: l.drop i) ∧ w.grownBy ((w.drew.setCells g ((i + 1) * 2) ((cur.toList.take (l.length * 2)).drop (i * 2))).setCells g (i * 2) cs) (some g) := R_insert_room (d := k59) (e := 59) hg hk hh hc h3 h4 hp (Nat.le_of_lt hi) hx hokp 1
  have hcl : cs.length = 2 := (Kd.K_len k59 (Kd.K_of_M k59 hx))
  have h1v : ∀ u ∈ cs, u.oneCell' = true := Kd.K_one k59 (Kd.K_of_M k59 hx)
  have h1c := cells_one (d := k59) hp (by decide : 0 < 2)
  have hil : (cur.toList.take (l.length * 2)).length = l.length * 2 := hp.1
  generalize hinner : cur.toList.take (l.length * 2) = inner at hR h1c hil
  have hM : maxLen = 9223372036854775807 := rfl
  have hm0 : cap ≤ 9223372036854775807 := by rw [← hM]; exact h3
  have hcell : ∀ j u, inner[j]? = some u → w.cell? ⟨g, j, none⟩ = some u := fun j u hj => by
    rw [blk_cell hh j, ← Array.getElem?_toList]
    rw [← hinner, List.getElem?_take] at hj
    split at hj
    · exact hj
    · cases hj
  have hsp : ∀ j, j < cap * 2 → (w.cell? ⟨g, j, none⟩).isSome = true := fun j hj => by
    rw [blk_cell hh j, Array.getElem?_eq_getElem (by omega)]; rfl
  have hfz : ∀ j, w.frozen? ⟨g, j, none⟩ = false := fun j => blk_frozen hh j
  have hvs : ∀ j u, cs[j]? = some u → w.cell? ⟨vb, j, none⟩ = some u := fun j u hj => by
    rw [blk_cell hv j]; simpa using hj
  have hsa : w.shape? vb = some (tv, cs.length) := by simp [World.shape?, hv]
  have hsb : w.shape? g = some (59, cap * 2) := by simp [World.shape?, hh, h4]
  have hov : ∀ W lb cb, (∀ k, W.heap[k]? = w.heap[k]?) → (callFunc 54 #[.slice (some ⟨vb, 0, none⟩) 1 1, .slice (some ⟨g, (i + 1) * 2, none⟩) lb cb]).run Try.prog W = .ok (.value (.bool false)) W := fun W lb cb hW =>
    vecs_hov W vb g ((i + 1) * 2) lb cb 1 1 tv 59 cs.length (cap * 2) hvb (by unfold World.shape? at hsa ⊢; rw [hW]; exact hsa) (by unfold World.shape? at hsb ⊢; rw [hW]; exact hsb) (by omega) (by unfold World.frozen?; simp [hW, hv]) (by unfold World.frozen?; simp [hW, hv])
  have hdl : (inner.drop (i * 2)).length = (l.length - i) * 2 := by rw [List.length_drop, hil, Nat.sub_mul]
  have hsz : (Try.prog.info? 59).map (·.size) = some 2 := by rw [hi0]; simp [hsz0]
  have hcp1 : ∀ (W : World), (∀ a, W.cell? a = w.cell? a) → (∀ a, W.frozen? a = w.frozen? a) → ∀ ty dc sc, (Builtin.copy_ #[25, 25] ty #[.slice (some ⟨g, (i + 1) * 2, none⟩) (l.length - i) dc, .slice (some ⟨g, i * 2, none⟩) (l.length + 1 - i) sc]).run Try.prog W = .ok (goInt (l.length - i : Nat)) (W.setCells g ((i + 1) * 2) (inner.drop (i * 2))) := fun W hW hF ty dc sc => by
    have := run_copy_k (P := Try.prog) W 25 25 ty 59 2 g ((i + 1) * 2) (l.length - i) dc ⟨g, i * 2, none⟩ (l.length + 1 - i) sc (inner.drop (i * 2)) Try.underlying25 hsz (by rw [hdl]; congr 1; simp only [Nat.min_def]; split <;> omega)
      (fun j u hj => by rw [Addr.add_lit, hW]; exact hcell _ u (by rwa [List.getElem?_drop] at hj))
      (fun j hj => by rw [hW]; exact hsp _ (by omega)) (fun j hj => by rw [hF]; exact hfz _) (fun u hu => h1c u (List.mem_of_mem_drop hu))
    rw [this]
    congr 2
    simp only [Nat.min_def]; split <;> omega
  have hcp2 : ∀ (W : World), (∀ a, W.cell? a = (w.setCells g ((i + 1) * 2) (inner.drop (i * 2))).cell? a) → (∀ a, W.frozen? a = w.frozen? a) → ∀ ty dc sc, (Builtin.copy_ #[25, 24] ty #[.slice (some ⟨g, i * 2, none⟩) (l.length + 1 - i) dc, .slice (some ⟨vb, 0, none⟩) 1 sc]).run Try.prog W = .ok (goInt (1 : Nat)) (W.setCells g (i * 2) cs) := fun W hW hF ty dc sc => by
    have := run_copy_k (P := Try.prog) W 25 24 ty 59 2 g (i * 2) (l.length + 1 - i) dc ⟨vb, 0, none⟩ 1 sc cs Try.underlying25 hsz (by rw [hcl]; simp only [Nat.min_def]; split <;> omega)
      (fun j u hj => by rw [Addr.add_lit, Nat.zero_add, hW, World.cell?_setCells_out _ _ _ _ _ (fun h _ => absurd h hvb)]; exact hvs _ u hj)
      (fun j hj => by
        rw [hW]
        by_cases hin : (i + 1) * 2 ≤ i * 2 + j
        · omega
        · rw [World.cell?_setCells_out _ _ _ _ _ (fun _ _ => Or.inl (by show i * 2 + j < (i + 1) * 2; omega))]
          exact hsp _ (by omega))
      (fun j hj => by rw [hF]; exact hfz _) h1v
    rw [this]
    congr 2
    simp only [Nat.min_def]; split <;> omega
  have e1 : ((i : Int) + 1) = ((i + 1 : Nat) : Int) := by omega
  have hw1 : IntKind.i64.wrap ((i : Int) + 1) = (i : Int) + 1 := by rw [IntKind.wrap_i64]; omega
  have hw2 : IntKind.i64.wrap ((l.length : Int) + 1) = (l.length : Int) + 1 := by rw [IntKind.wrap_i64]; omega
  have c1 := cut_from (P := Try.prog) 25 59 .i64 Try.underlying25 hi0 2 hsz0 (some ⟨g, 0, none⟩) l.length cap (i : Int) (by omega) (by omega)
  have c2 : ∀ W : World, (Instr.slice 25 (.slice (some ⟨g, 0, none⟩) l.length cap) none (some (.int .i64 ((l.length : Int) + 1))) none).run Try.prog W = .ok (.slice (some ⟨g, 0, none⟩) (l.length + 1) cap) W := by
    intro W
    have hel : (Try.prog).elem 25 = 59 := by simp [Program.elem, Try.underlying25]
    rw [run_slice_h W 25 (some ⟨g, 0, none⟩) l.length cap (by rw [hel]; exact Try.underlying25) .i64 ((l.length : Int) + 1) (by omega) (by omega), hel]
    simp [sizeOf, typeInfo, hi0, sliced, Result.andThen, Addr.add]
  have c3 : ∀ W : World, (Instr.slice 25 (.slice (some ⟨g, 0, none⟩) (l.length + 1) cap) (some (.int .i64 ((i : Int) + 1))) none none).run Try.prog W = .ok (.slice (some ⟨g, (i + 1) * 2, none⟩) (l.length - i) (cap - (i + 1))) W := by
    intro W
    rw [e1, cut_from (P := Try.prog) 25 59 .i64 Try.underlying25 hi0 2 hsz0 (some ⟨g, 0, none⟩) (l.length + 1) cap ((i + 1 : Nat) : Int) (by omega) (by omega) W, Int.toNat_natCast, if_neg (by omega), Option.map_some, Addr.add_lit, Nat.zero_add, show l.length + 1 - (i + 1) = l.length - i by omega]
  have c4 : ∀ W : World, (Instr.slice 25 (.slice (some ⟨g, 0, none⟩) (l.length + 1) cap) (some (.int .i64 (i : Int))) none none).run Try.prog W = .ok (.slice (some ⟨g, i * 2, none⟩) (l.length + 1 - i) (cap - i)) W := by
    intro W
    rw [cut_from (P := Try.prog) 25 59 .i64 Try.underlying25 hi0 2 hsz0 (some ⟨g, 0, none⟩) (l.length + 1) cap (i : Int) (by omega) (by omega) W, Int.toNat_natCast, if_neg (by omega), Option.map_some, Addr.add_lit, Nat.zero_add]
  have hb1 : decide ((1 : Int) = 0) = false := rfl
  have hb2 : decide ((i : Int) = (l.length : Int)) = false := by simp; omega
  have hb3 : decide ((cap : Int) < (l.length : Int) + 1) = false := by simp; omega
  have hovw := fun lb cb => hov w lb cb (fun _ => rfl)
  have HR := Aside0.mk hR
  clear hR hov e1
  go_enter Try.func46, Try.ntmps46
  go_wp2_with (simp only [hovw])
  have hc1 := hcp1 w.drew (fun _ => rfl) (fun _ => rfl) 3 (cap - (i + 1)) (cap - i)
  have hc2 := hcp2 (w.drew.setCells g ((i + 1) * 2) (inner.drop (i * 2))) (fun _ => by rw [← drew_setCells]; rfl) (fun _ => World.frozen?_setCells _ _ _ _ _) 3 (cap - i) 1
  have mixed : (Try.prog).follows .mixedOrders = true := rfl
  go_region_law_o (refine step_copy_runI rfl _ _ 25 25 rfl (.slice (some ⟨g, (i + 1) * 2, none⟩) (l.length - i) (cap - (i + 1))) (.slice (some ⟨g, i * 2, none⟩) (l.length + 1 - i) (cap - i)) (by simp [Act.eval, Act.put]) (by simp [Act.eval, Act.put]) hc1 ?_)
  clear hc1
  go_wp2_with (at_builtin; refine wpList_copy_runI _ rfl _ _ 25 24 rfl _ _ rfl rfl hc2 ?_)
  go_ret
  exact ⟨_, rfl, HR.out.1, HR.out.2⟩
set_option maxHeartbeats 4000000 in
set_option maxRecDepth 100000 in
theorem vecs_insert_grow (w : World) (base : Nat) (ok okp : Nat → Prop) (g cap : Nat) (cur : Array Value) (l : List S59) (i : Nat) (x : S59) (cs : List Value) (vb : Nat) (tv : TypeId)
    (hbase : base ≤ w.heap.size) (hfresh : ∀ k, w.heap.size ≤ k → ok k) (hh : w.heap[g]? = some (.cells cur 59 (0, 0))) (hnc : l.length ≤ cap) (hc : cap < l.length + 1) (h4 : cur.size = cap * 2) (hp : Reps (Kd.M k59 w base (fun k => ok k ∧ k ≠ g)) 2 l (cur.toList.take (l.length * 2)))
    (hi : i < l.length) (hx : Kd.M k59 w base okp x cs) (hokp : ∀ k, okp k → ok k ∧ k ≠ g) (hv : w.heap[vb]? = some (.cells cs.toArray tv (0, 0))) (hvb : vb ≠ g) (hbig : (l.length + 1) * 24 ≤ 140737488355328) :
    Calls Try.prog 46 #[.slice (some ⟨g, 0, none⟩) l.length cap, .int .i64 i, .slice (some ⟨vb, 0, none⟩) 1 1] w fun e w' => ∃ v' : Value, e = .returned v' ∧ Kd.R k59 59 w' base ok v' (l.take i ++ x :: l.drop i) ∧ w.grownBy w' none := by
  obtain ⟨i0, hi0, hz0, hsz0, hby0⟩ := info_parts info59
  have hcl : cs.length = 2 := (Kd.K_len k59 (Kd.K_of_M k59 hx))
  have h1v : ∀ u ∈ cs, u.oneCell' = true := Kd.K_one k59 (Kd.K_of_M k59 hx)
  have h1c := cells_one (d := k59) hp (by decide : 0 < 2)
  have hil : (cur.toList.take (l.length * 2)).length = l.length * 2 := hp.1
  generalize hinner : cur.toList.take (l.length * 2) = inner at hp h1c hil
  have hcell : ∀ j u, inner[j]? = some u → w.cell? ⟨g, j, none⟩ = some u := fun j u hj => by
    rw [blk_cell hh j, ← Array.getElem?_toList]
    rw [← hinner, List.getElem?_take] at hj
    split at hj
    · exact hj
    · cases hj
  have hvs : ∀ j u, cs[j]? = some u → w.cell? ⟨vb, j, none⟩ = some u := fun j u hj => by
    rw [blk_cell hv j]; simpa using hj
  have hgw : g < w.heap.size := blk_lt hh
  have hvw : vb < w.heap.size := blk_lt hv
  have hsz : (Try.prog.info? 59).map (·.size) = some 2 := by rw [hi0]; simp [hsz0]
  have hdl : (inner.drop (i * 2)).length = (l.length - i) * 2 := by rw [List.length_drop, hil, Nat.sub_mul]
  have hik : i + (l.length + 1 - i) = l.length + 1 := by omega
  have hkk : (l.length : Int) + 1 - (i : Int) = ((l.length + 1 - i : Nat) : Int) := by omega
  have hold : (Builtin.firstCells i0.size i (.slice (some ⟨g, 0, none⟩) i cap)).run Try.prog w.drew = .ok (inner.take (i * 2)).toArray w.drew := by
    rw [hsz0]
    exact run_firstCells_some w.drew 2 i ⟨g, 0, none⟩ i cap (inner.take (i * 2)) (by rw [List.length_take, hil]; omega) (fun j v hj => by
      rw [Addr.add_lit, Nat.zero_add]
      rw [List.getElem?_take] at hj
      split at hj
      · exact hcell j v hj
      · cases hj)
  have hrz := Lib.run_append_grow_zeros (P := Try.prog) w 25 3 25 59 i0 _ .i64 .i64 Try.underlying25 Try.underlying3 hi0 hz0 (some ⟨g, 0, none⟩) i cap (inner.take (i * 2)) hold (l.length + 1 - i) (by omega) (by omega) (by omega) (by omega) (by rw [hby0]; omega) (by rw [hby0, hik]; exact growslice_fits hc hbig)
  rw [hik, ← hkk] at hrz
  have hGn : l.length + 1 ≤ grownCap w (l.length + 1) cap 59 := grownCap_ge w _ _ _
  have hG63 : grownCap w (l.length + 1) cap 59 ≤ maxLen := grownCap_le_maxLen w (l.length + 1) cap 59 (by unfold maxLen; omega)
  generalize grownCap w (l.length + 1) cap 59 = G at hrz hGn hG63
  generalize hROW : (inner.take (i * 2)).toArray ++ Builtin.zeroCells _ (l.length + 1 - i) ++ Builtin.zeroCells _ (G - (l.length + 1)) = ROW at hrz
  have hRl : ROW.size = G * 2 := by
    rw [← hROW]
    simp [Builtin.zeroCells, Value.cells, hil]
    omega
  have hrow : ROW.toList.take (i * 2) = inner.take (i * 2) := by
    rw [← hROW]
    simp only [Array.toList_append, List.append_assoc]
    rw [List.take_append_of_le_length (by rw [List.length_take, hil]; omega), List.take_take, Nat.min_self]
  have hR : Kd.R k59 59 (((w.alloc (.cells ROW 59)).drew.setCells w.heap.size (i * 2) cs).drew.setCells w.heap.size ((i + 1) * 2) (inner.drop (i * 2))) base ok (.slice (some ⟨w.heap.size, 0, none⟩) (l.length + 1) G) (l.take i ++ x :: l.drop i) ∧ w.grownBy (((w.alloc (.cells ROW 59)).drew.setCells w.heap.size (i * 2) cs).drew.setCells w.heap.size ((i + 1) * 2) (inner.drop (i * 2))) none :=
    R_insert_grow (d := k59) (e := 59) hbase hfresh hGn hG63 hRl (hp.imp_ fun _ _ hq => Kd.M_mono k59 (fun k hk => hk.1) hq) hrow (Nat.le_of_lt hi) (Kd.M_mono k59 (fun k hk => (hokp k hk).1) hx) 1 1
  have HR := Aside0.mk hR
  clear hR hROW hrow hp hx hokp hold
  obtain ⟨W1, hW1⟩ : ∃ W1, W1 = (w.alloc (.cells ROW 59)).drew := ⟨_, rfl⟩
  have hN : ∀ j, j < (l.length + 1) * 2 → (W1.cell? ⟨w.heap.size, j, none⟩).isSome = true := fun j hj => by
    rw [hW1]
    show ((w.alloc (.cells ROW 59)).cell? ⟨w.heap.size, j, none⟩).isSome = true
    rw [blk_cell (blk_new w (.cells ROW 59)) j, Array.getElem?_eq_getElem (by omega)]; rfl
  have hNf : ∀ j, W1.frozen? ⟨w.heap.size, j, none⟩ = false := fun j => by rw [hW1]; exact blk_frozen (blk_new w (.cells ROW 59)) j
  have hOb : ∀ j u, w.cell? ⟨g, j, none⟩ = some u → W1.cell? ⟨g, j, none⟩ = some u := fun j u h => by
    rw [hW1]; exact (((Below.refl w.heap.size w).alloc (Nat.le_refl _) (.cells ROW 59)).cell (p := ⟨g, j, none⟩) hgw).trans h
  have hOv : ∀ j u, w.cell? ⟨vb, j, none⟩ = some u → W1.cell? ⟨vb, j, none⟩ = some u := fun j u h => by
    rw [hW1]; exact (((Below.refl w.heap.size w).alloc (Nat.le_refl _) (.cells ROW 59)).cell (p := ⟨vb, j, none⟩) hvw).trans h
  have hcpA : ∀ (W : World), (∀ a, W.cell? a = W1.cell? a) → (∀ a, W.frozen? a = W1.frozen? a) → ∀ ty dc sc, (Builtin.copy_ #[25, 24] ty #[.slice (some ⟨w.heap.size, i * 2, none⟩) (l.length + 1 - i) dc, .slice (some ⟨vb, 0, none⟩) 1 sc]).run Try.prog W = .ok (goInt (1 : Nat)) (W.setCells w.heap.size (i * 2) cs) := fun W hW hF ty dc sc => by
    have := run_copy_k (P := Try.prog) W 25 24 ty 59 2 w.heap.size (i * 2) (l.length + 1 - i) dc ⟨vb, 0, none⟩ 1 sc cs Try.underlying25 hsz (by rw [hcl]; simp only [Nat.min_def]; split <;> omega)
      (fun j u hj => by rw [Addr.add_lit, Nat.zero_add, hW]; exact hOv _ u (hvs _ u hj))
      (fun j hj => by rw [hW]; exact hN _ (by omega)) (fun j hj => by rw [hF]; exact hNf _) h1v
    rw [this]
    congr 2
    simp only [Nat.min_def]; split <;> omega
  have hgN : g ≠ w.heap.size := by omega
  have hcpB : ∀ (W : World), (∀ a, W.cell? a = (W1.setCells w.heap.size (i * 2) cs).cell? a) → (∀ a, W.frozen? a = W1.frozen? a) → ∀ ty dc sc, (Builtin.copy_ #[25, 25] ty #[.slice (some ⟨w.heap.size, (i + 1) * 2, none⟩) (l.length - i) dc, .slice (some ⟨g, i * 2, none⟩) (l.length - i) sc]).run Try.prog W = .ok (goInt (l.length - i : Nat)) (W.setCells w.heap.size ((i + 1) * 2) (inner.drop (i * 2))) := fun W hW hF ty dc sc => by
    have := run_copy_k (P := Try.prog) W 25 25 ty 59 2 w.heap.size ((i + 1) * 2) (l.length - i) dc ⟨g, i * 2, none⟩ (l.length - i) sc (inner.drop (i * 2)) Try.underlying25 hsz (by rw [hdl]; simp)
      (fun j u hj => by
        rw [Addr.add_lit, hW, World.cell?_setCells_out _ _ _ _ _ (fun h _ => absurd h hgN)]
        exact hOb _ u (hcell _ u (by rwa [List.getElem?_drop] at hj)))
      (fun j hj => by rw [hW]; exact isSome_setCells _ _ _ _ (fun t ht => hN _ (by omega)) _ (hN _ (by omega)))
      (fun j hj => by rw [hF]; exact hNf _) (fun u hu => h1c u (List.mem_of_mem_drop hu))
    rw [this]
    congr 2
    simp
  have hw1 : IntKind.i64.wrap ((i : Int) + 1) = (i : Int) + 1 := by rw [IntKind.wrap_i64]; omega
  have hw2 : IntKind.i64.wrap ((l.length : Int) + 1) = (l.length : Int) + 1 := by rw [IntKind.wrap_i64]; omega
  have hw3 : IntKind.i64.wrap ((l.length : Int) + 1 - (i : Int)) = (l.length : Int) + 1 - (i : Int) := by rw [IntKind.wrap_i64]; omega
  have c1 : ∀ W : World, (Instr.slice 25 (.slice (some ⟨g, 0, none⟩) l.length cap) (some (.int .i64 (i : Int))) none none).run Try.prog W = .ok (.slice (some ⟨g, i * 2, none⟩) (l.length - i) (cap - i)) W := by
    intro W
    rw [cut_from (P := Try.prog) 25 59 .i64 Try.underlying25 hi0 2 hsz0 (some ⟨g, 0, none⟩) l.length cap (i : Int) (by omega) (by omega) W, Int.toNat_natCast, if_neg (by omega), Option.map_some, Addr.add_lit, Nat.zero_add]
  have c2 := cut_to (P := Try.prog) 25 59 .i64 Try.underlying25 hi0 (some ⟨g, 0, none⟩) l.length cap (i : Int) (by omega) (by omega) (by omega)
  rw [Int.toNat_natCast] at c2
  have c3 : ∀ W : World, (Instr.slice 25 (.slice (some ⟨w.heap.size, 0, none⟩) (l.length + 1) G) (some (.int .i64 (i : Int))) none none).run Try.prog W = .ok (.slice (some ⟨w.heap.size, i * 2, none⟩) (l.length + 1 - i) (G - i)) W := by
    intro W
    rw [cut_from (P := Try.prog) 25 59 .i64 Try.underlying25 hi0 2 hsz0 (some ⟨w.heap.size, 0, none⟩) (l.length + 1) G (i : Int) (by omega) (by omega) W, Int.toNat_natCast, if_neg (by omega), Option.map_some, Addr.add_lit, Nat.zero_add]
  have c4 : ∀ W : World, (Instr.slice 25 (.slice (some ⟨w.heap.size, 0, none⟩) (l.length + 1) G) (some (.int .i64 ((i : Int) + 1))) none none).run Try.prog W = .ok (.slice (some ⟨w.heap.size, (i + 1) * 2, none⟩) (l.length - i) (G - (i + 1))) W := by
    intro W
    rw [show ((i : Int) + 1) = ((i + 1 : Nat) : Int) by omega, cut_from (P := Try.prog) 25 59 .i64 Try.underlying25 hi0 2 hsz0 (some ⟨w.heap.size, 0, none⟩) (l.length + 1) G ((i + 1 : Nat) : Int) (by omega) (by omega) W, Int.toNat_natCast, if_neg (by omega), Option.map_some, Addr.add_lit, Nat.zero_add, show l.length + 1 - (i + 1) = l.length - i by omega]
  have hb1 : decide ((1 : Int) = 0) = false := rfl
  have hb2 : decide ((i : Int) = (l.length : Int)) = false := by simp; omega
  have hb3 : decide ((cap : Int) < (l.length : Int) + 1) = true := by simp; omega
  have ha := hcpA W1 (fun _ => rfl) (fun _ => rfl) 3 (G - i) 1
  have hb := hcpB ((W1.setCells w.heap.size (i * 2) cs).drew) (fun _ => rfl) (fun _ => World.frozen?_setCells _ _ _ _ _) 3 (G - (i + 1)) (cap - i)
  subst hW1
  have mixed : (Try.prog).follows .mixedOrders = true := rfl
  clear hcpA hcpB hOb hOv hN hNf hcell hvs h1c h1v hkk hik hdl hil hcl
  go_enter Try.func46, Try.ntmps46
  go_wp2_with (first
    | (at_builtin; refine Lib.wpList_append_run _ rfl _ _ _ _ rfl _ _ rfl rfl _ _ hrz ?_)
    | (at_builtin; refine wpList_copy_runI _ rfl _ _ 25 24 rfl _ _ rfl rfl ha ?_))
  go_region_law_o (refine step_copy_runI rfl _ _ 25 25 rfl (.slice (some ⟨w.heap.size, (i + 1) * 2, none⟩) (l.length - i) (G - (i + 1))) (.slice (some ⟨g, i * 2, none⟩) (l.length - i) (cap - i)) (by simp [Act.eval, Act.put]) (by simp [Act.eval, Act.put]) hb ?_)
  go_wp2
  go_ret
  exact ⟨_, rfl, HR.out.1, HR.out.2⟩
set_option maxHeartbeats 4000000 in
set_option maxRecDepth 100000 in
theorem vecs_insert_end (w : World) (base : Nat) (ok okp : Nat → Prop) (A : Option Addr) (cap : Nat) (l : List S59) (x : S59) (cs : List Value) (vb : Nat) (tv : TypeId)
    (hbase : base ≤ w.heap.size) (hfresh : ∀ k, w.heap.size ≤ k → ok k) (ho : Kd.R k59 59 w base ok (.slice A l.length cap) l)
    (hx : Kd.M k59 w base okp x cs) (hokp : ∀ k, okp k → ok k ∧ some k ≠ (Value.slice A l.length cap).ownBlock) (hv : w.heap[vb]? = some (.cells cs.toArray tv (0, 0))) (hbig : (l.length + 1) * 24 ≤ 140737488355328) :
    Calls Try.prog 46 #[.slice A l.length cap, .int .i64 (l.length : Int), .slice (some ⟨vb, 0, none⟩) 1 1] w fun e w' => ∃ v' : Value, e = .returned v' ∧ Kd.R k59 59 w' base ok v' (l ++ [x]) ∧ Below base w w' := by
  obtain ⟨i0, hi0, hz0, hsz0, hby0⟩ := info_parts info59
  have hcl : cs.length = 2 := (Kd.K_len k59 (Kd.K_of_M k59 hx))
  obtain ⟨v1, w1, hrun, hR1, hg1⟩ := R_append_one_run (P := Try.prog) k59 25 24 25 59 59 i0 _ 24 Try.underlying25 Try.underlying24 hi0 hz0 hsz0 hby0 rfl (by decide) (by decide) ho hx hokp hfresh (a := ⟨vb, 0, none⟩) (fun j u hj => by rw [Addr.add_lit, Nat.zero_add, blk_cell hv]; simpa using hj) 1 hbase hbig
  have hB : Below base w w1 := (Below.refl base w).grown hg1 hbase (Kd.R_base ho)
  obtain ⟨cc, hcut⟩ : ∃ cc : Option Addr, ∀ W : World, (Instr.slice 25 (.slice A l.length cap) (some (.int .i64 (l.length : Int))) none none).run Try.prog W = .ok (.slice cc (l.length - l.length) (cap - l.length)) W := by
    exact ⟨_, cut_from (P := Try.prog) 25 59 .i64 Try.underlying25 hi0 2 hsz0 A l.length cap (l.length : Int) (by omega) (by omega)⟩
  rw [Nat.sub_self] at hcut
  have hb1 : decide ((1 : Int) = 0) = false := rfl
  have HR := Aside0.mk hR1
  have HB := Aside0.mk hB
  have HN := Aside0.mk hrun
  clear ho hx hokp hv hcl hR1 hB hg1 hrun hz0 hi0
  go_enter Try.func46, Try.ntmps46
  go_wp2_with (at_builtin; refine Lib.wpList_append_run _ rfl _ _ _ _ rfl _ _ rfl rfl _ _ HN.out ?_)
  go_ret
  exact ⟨_, rfl, HR.out, HB.out⟩
theorem vecs_insert (w : World) (base : Nat) (ok okp : Nat → Prop) (v : Value) (l : List S59) (i : Nat) (x : S59) (cs : List Value) (vb : Nat) (tv : TypeId)
    (ho : Kd.R k59 59 w base ok v l) (hi : i ≤ l.length) (hbase : base ≤ w.heap.size) (hfresh : ∀ k, w.heap.size ≤ k → ok k) (hx : Kd.M k59 w base okp x cs) (hokp : ∀ k, okp k → ok k ∧ some k ≠ v.ownBlock) (hv : w.heap[vb]? = some (.cells cs.toArray tv (0, 0))) (hvb : some vb ≠ v.ownBlock) (hbig : (l.length + 1) * 24 ≤ 140737488355328) :
    Calls Try.prog 46 #[v, .int .i64 i, .slice (some ⟨vb, 0, none⟩) 1 1] w fun e w' => ∃ v' : Value, e = .returned v' ∧ Kd.R k59 59 w' base ok v' (l.take i ++ x :: l.drop i) ∧ Below base w w' := by
  by_cases he : i = l.length
  · obtain ⟨A, c, rfl⟩ := Kd.R_slice ho
    subst he
    rw [List.take_of_length_le (Nat.le_refl _), List.drop_of_length_le (Nat.le_refl _)]
    exact vecs_insert_end w base ok okp A c l x cs vb tv hbase hfresh ho hx hokp hv hbig
  · have hlt : i < l.length := by omega
    obtain ⟨g, cap, cur, rfl, hg, hk, hh, h2, h3, h4, hp⟩ := R_open ho (fun e => by rw [e] at hlt; simp at hlt)
    have hokp' : ∀ k, okp k → ok k ∧ k ≠ g := fun k hk => ⟨(hokp k hk).1, fun e => (hokp k hk).2 (by rw [e]; rfl)⟩
    have hvb' : vb ≠ g := fun e => hvb (by rw [e]; rfl)
    by_cases hc : l.length + 1 ≤ cap
    · refine (vecs_insert_room w base ok okp g cap cur l i x cs vb tv hg hk hh hc h3 h4 hp hlt hx hokp' hv hvb').mono ?_
      rintro e w' ⟨v', rfl, hR, hG⟩
      exact ⟨v', rfl, hR, (Below.refl base w).grown hG hbase (fun k e => by injection e with e; omega)⟩
    · refine (vecs_insert_grow w base ok okp g cap cur l i x cs vb tv hbase hfresh hh h2 (by omega) h4 hp hlt hx hokp' hv hvb' hbig).mono ?_
      rintro e w' ⟨v', rfl, hR, hG⟩
      exact ⟨v', rfl, hR, (Below.refl base w).grown hG hbase (fun k e => by cases e)⟩

def vec_Set.v (l0 : List S59) (a1 : ByteArray) (a2 : Int) : List S59 :=
  if rightB a1 = true ∧ 1 ≤ a2 then
    (if bsB (fun i => cmpB (l0.getD i z59).f0 a1) l0.length = true
      then l0.set (bsN (fun i => cmpB (l0.getD i z59).f0 a1) l0.length) ⟨(l0.getD (bsN (fun i => cmpB (l0.getD i z59).f0 a1) l0.length) z59).f0, mx (l0.getD (bsN (fun i => cmpB (l0.getD i z59).f0 a1) l0.length) z59).f1 (mn a2 1048576)⟩
      else l0.take (bsN (fun i => cmpB (l0.getD i z59).f0 a1) l0.length) ++ ⟨a1, mn a2 1048576⟩ :: l0.drop (bsN (fun i => cmpB (l0.getD i z59).f0 a1) l0.length))
  else l0
def vec_Set.f (l0 : List S59) (a1 : ByteArray) (a2 : Int) : Option (List S59) := if l0.length < 1000000000 then some (vec_Set.v l0 a1 a2) else none
set_option maxHeartbeats 1600000 in
set_option maxRecDepth 100000 in
theorem vec_Set.calls (A0 : Option Addr) (c0 : Nat) (l0 : List S59) (a1 : ByteArray) (a2 : Int) (r : List S59) (w : World) (hr0 : Kd.C k59 w A0 l0.length l0) (hc0 : l0.length ≤ c0) (h : vec_Set.f l0 a1 a2 = some r) :
    Calls Try.prog 31 #[.slice A0 l0.length c0, .string a1, .int .i64 a2] w fun e w' => ∃ v0_ : Value, e = .returned (v0_) ∧ Kd.R k59 59 w' w.heap.size (fun _ => True) v0_ r ∧ Below w.heap.size w w' := by
  --WALK
  have hlim : l0.length < 1000000000 := by
    by_cases hx : l0.length < 1000000000
    · exact hx
    · rw [vec_Set.f, if_neg hx] at h; cases h
  have hr : vec_Set.v l0 a1 a2 = r := by rw [vec_Set.f, if_pos hlim] at h; exact Option.some.inj h
  have HCL := Aside0.mk (vec_At_44.calls A0 c0 l0 l0 w hr0 hc0 (by simp only [vec_At_44.f, Option.bind_some, List.length_nil, List.nil_append]; rw [if_pos (by omega)]))
  have HLIM := Aside0.mk hlim
  obtain ⟨i, hi⟩ : ∃ i : Nat, bsN (fun i => cmpB (l0.getD i z59).f0 a1) l0.length = i := ⟨_, rfl⟩
  obtain ⟨b, hbb⟩ : ∃ b : Bool, bsB (fun i => cmpB (l0.getD i z59).f0 a1) l0.length = b := ⟨_, rfl⟩
  have hile : i ≤ l0.length := by rw [← hi]; exact bsI_le _ _ _ _ (Nat.zero_le _)
  have hilt : b = true → i < l0.length := fun h => by
    rw [h] at hbb
    unfold bsB at hbb
    rw [Bool.and_eq_true, decide_eq_true_eq] at hbb
    rw [← hi]; exact hbb.1
  have hfind : vec_find.f l0 a1 = some ((i : Int), b) := by rw [vec_find.f, if_pos (by omega), hi, hbb]
  have hval : rightB a1 = true → ¬ a2 < 1 → r = if b = true then l0.set i ⟨(l0.getD i z59).f0, mx (l0.getD i z59).f1 (mn a2 1048576)⟩ else l0.take i ++ ⟨a1, mn a2 1048576⟩ :: l0.drop i := fun h1 h2 => by
    rw [← hr, vec_Set.v, if_pos ⟨h1, by omega⟩, hi, hbb]
  have HV := Aside0.mk hr
  have HVAL := Aside0.mk hval
  have HFIND := Aside0.mk hfind
  have HLE := Aside0.mk hile
  have HLT := Aside0.mk hilt
  clear hr h hlim hr0 hc0 hi hbb hfind hval hile hilt
  go_enter Try.func31, Try.ntmps31
  go_wp2_with fail
  refine HCL.out.mono ?_
  rintro e w1 ⟨v1, rfl, ho1, hb1⟩
  obtain ⟨A1, c1, rfl, hc1, hr1⟩ := Kd.R_reads ho1
  have HO := Aside0.mk ho1
  have HB := Aside0.mk hb1
  have HC1 := Aside0.mk hc1
  clear ho1 hb1 hc1 hr1 HCL
  go_wp2_with fail
  refine (id_Right.calls a1 (rightB a1) w1 rfl).mono ?_
  rintro e w2 ⟨rfl, hb2⟩
  replace HO := Aside0.mk (Kd.R_below HO.out hb2)
  replace HB := Aside0.mk (below_then HB.out HB.out.size hb2)
  clear hb2
  by_cases hR : rightB a1 = true
  · have HRR := Aside0.mk hR
    by_cases hn : a2 < 1
    · have hv : r = l0 := by rw [← HV.out, vec_Set.v, if_neg (by omega)]
      have HR := Aside0.mk hv
      have hnb : decide (a2 < 1) = true := decide_eq_true hn
      generalize rightB a1 = b1 at hR
      subst hR
      clear hn hv
      go_wp2_with fail
      go_ret
      exact ⟨_, rfl, by rw [HR.out]; exact HO.out, HB.out⟩
    · have hnb : decide (a2 < 1) = false := decide_eq_false hn
      have hv := HVAL.out hR (by omega)
      have HR := Aside0.mk hv
      generalize rightB a1 = b1 at hR
      subst hR
      clear hn hv
      by_cases hq : (1048576 : Int) < a2
      · have HM := Aside0.mk (show mn a2 1048576 = 1048576 from if_pos hq)
        have hqb := eq_true hq
        clear hq
        go_wp2_with fail
        refine (vec_find.calls A1 c1 l0 a1 (i : Int) b w2 (Kd.R_reads' HO.out).2.2 HC1.out HFIND.out).mono ?_
        rintro e w3 ⟨rfl, hb3⟩
        replace HO := Aside0.mk (Kd.R_below HO.out hb3)
        replace HB := Aside0.mk (below_then HB.out HB.out.size hb3)
        clear hb3
        cases b with
        | false =>
          go_wp2_with fail
          refine (vecs_insert _ w.heap.size (fun _ => True) (fun _ => False) (.slice A1 l0.length c1) l0 i ⟨a1, 1048576⟩ [.string a1, .int .i64 1048576] w3.heap.size _ (Kd.R_below HO.out (below_alloc (Below.refl _ _) _)) HLE.out ?_ (fun _ _ => trivial) (k59_mkM _ _ _ ⟨a1, 1048576⟩) (fun _ h => h.elim) (blk_new w3 _) ?_ (by have := HLIM.out; omega)).mono ?_
          · exact Nat.le_trans (below_size HB.out) (by simp)
          · intro e; have := Kd.R_lt HO.out _ e.symm; omega
          rintro e w4 ⟨v4, rfl, hR4, hB4⟩
          have HO4 := Aside0.mk hR4
          have HB4 := Aside0.mk ((below_alloc HB.out _).trans hB4)
          clear hR4 hB4
          go_wp2_with fail
          go_ret
          exact ⟨_, rfl, by rw [HR.out, if_neg (by simp), HM.out]; exact HO4.out, HB4.out⟩
        | true =>
          have hlt := HLT.out rfl
          obtain ⟨g, cap, cur, ev, hg, _, hh, _, _, hcs, hp⟩ := R_open HO.out (fun e => by rw [e] at hlt; simp at hlt)
          injection ev with eA _ ec
          subst eA; subst ec
          have pm := eq_true (show (0 : Int) ≤ (i : Int) by omega)
          have qm := eq_true (show (i : Int) < (l0.length : Int) by omega)
          obtain ⟨ad, hA, hx0, hx1⟩ := at_T59 (Kd.R_reads' HO.out).2.2 (i : Int) (by omega) (by omega)
          injection hA with hA
          subst hA
          have hn1 : rd_T59 l0 (i : Int) = l0.getD i z59 := rfl
          rw [hn1] at hx0 hx1
          generalize hel : l0.getD i z59 = el at hx0 hx1 HR
          have hy0 : w3.cell? ⟨g, i * 2, none⟩ = some (.string el.f0) := by rw [← hx0, Int.toNat_natCast, Addr.add_lit, Nat.zero_add]
          have hy1 : w3.cell? ⟨g, i * 2 + 1, none⟩ = some (.int .i64 el.f1) := by rw [← hx1, Int.toNat_natCast, Addr.add_lit, Nat.zero_add]
          have hz1 : w3.frozen? ⟨g, i * 2 + 1, none⟩ = false := blk_frozen hh _
          have hset : ∀ m : Int, Kd.R k59 59 (w3.setCell ⟨g, i * 2 + 1, none⟩ (.int .i64 m)) w.heap.size (fun _ => True) (.slice (some ⟨g, 0, none⟩) l0.length c1) (l0.set i ⟨el.f0, m⟩) ∧ Below w.heap.size w (w3.setCell ⟨g, i * 2 + 1, none⟩ (.int .i64 m)) := fun m => by
            have h := (Kd.R_seg (d := k59) (W := w3) (okp := fun _ => False) HO.out (i : Int) (by omega) (by omega) (c := [.string el.f0, .int .i64 el.f1]) (seg := [.int .i64 m]) (j := 1) rfl (fun j u hj => by
              rcases j with _ | _ | j
              · cases hj; rw [Int.toNat_natCast]; exact hy0
              · cases hj; rw [Int.toNat_natCast]; exact hy1
              · cases hj) (show 1 + 1 ≤ 2 by decide) (x' := ⟨el.f0, m⟩) (k59_mkM _ _ _ ⟨el.f0, m⟩) (fun _ h => h.elim)).1
            exact ⟨h, below_set HB.out hg⟩
          have HS := Aside0.mk hset
          clear hset hx0 hx1 hp hcs hg hel
          by_cases hmx : el.f1 < 1048576
          · have hmb := eq_true hmx
            have HX := Aside0.mk (show mx el.f1 1048576 = 1048576 from if_pos hmx)
            clear hmx
            go_wp2_with fail
            go_ret
            exact ⟨_, rfl, by have h_ := HR.out; (first | rw [if_pos rfl] at h_ | skip); rw [HM.out, HX.out] at h_; rw [h_]; exact (HS.out _).1, (HS.out _).2⟩
          · have hmb := eq_false hmx
            have HX := Aside0.mk (show mx el.f1 1048576 = el.f1 from if_neg hmx)
            clear hmx
            go_wp2_with fail
            go_ret
            exact ⟨_, rfl, by have h_ := HR.out; (first | rw [if_pos rfl] at h_ | skip); rw [HM.out, HX.out] at h_; rw [h_]; exact (HS.out _).1, (HS.out _).2⟩
      · have HM := Aside0.mk (show mn a2 1048576 = a2 from if_neg hq)
        have hqb := eq_false hq
        clear hq
        go_wp2_with fail
        refine (vec_find.calls A1 c1 l0 a1 (i : Int) b w2 (Kd.R_reads' HO.out).2.2 HC1.out HFIND.out).mono ?_
        rintro e w3 ⟨rfl, hb3⟩
        replace HO := Aside0.mk (Kd.R_below HO.out hb3)
        replace HB := Aside0.mk (below_then HB.out HB.out.size hb3)
        clear hb3
        cases b with
        | false =>
          go_wp2_with fail
          refine (vecs_insert _ w.heap.size (fun _ => True) (fun _ => False) (.slice A1 l0.length c1) l0 i ⟨a1, a2⟩ [.string a1, .int .i64 a2] w3.heap.size _ (Kd.R_below HO.out (below_alloc (Below.refl _ _) _)) HLE.out ?_ (fun _ _ => trivial) (k59_mkM _ _ _ ⟨a1, a2⟩) (fun _ h => h.elim) (blk_new w3 _) ?_ (by have := HLIM.out; omega)).mono ?_
          · exact Nat.le_trans (below_size HB.out) (by simp)
          · intro e; have := Kd.R_lt HO.out _ e.symm; omega
          rintro e w4 ⟨v4, rfl, hR4, hB4⟩
          have HO4 := Aside0.mk hR4
          have HB4 := Aside0.mk ((below_alloc HB.out _).trans hB4)
          clear hR4 hB4
          go_wp2_with fail
          go_ret
          exact ⟨_, rfl, by rw [HR.out, if_neg (by simp), HM.out]; exact HO4.out, HB4.out⟩
        | true =>
          have hlt := HLT.out rfl
          obtain ⟨g, cap, cur, ev, hg, _, hh, _, _, hcs, hp⟩ := R_open HO.out (fun e => by rw [e] at hlt; simp at hlt)
          injection ev with eA _ ec
          subst eA; subst ec
          have pm := eq_true (show (0 : Int) ≤ (i : Int) by omega)
          have qm := eq_true (show (i : Int) < (l0.length : Int) by omega)
          obtain ⟨ad, hA, hx0, hx1⟩ := at_T59 (Kd.R_reads' HO.out).2.2 (i : Int) (by omega) (by omega)
          injection hA with hA
          subst hA
          have hn1 : rd_T59 l0 (i : Int) = l0.getD i z59 := rfl
          rw [hn1] at hx0 hx1
          generalize hel : l0.getD i z59 = el at hx0 hx1 HR
          have hy0 : w3.cell? ⟨g, i * 2, none⟩ = some (.string el.f0) := by rw [← hx0, Int.toNat_natCast, Addr.add_lit, Nat.zero_add]
          have hy1 : w3.cell? ⟨g, i * 2 + 1, none⟩ = some (.int .i64 el.f1) := by rw [← hx1, Int.toNat_natCast, Addr.add_lit, Nat.zero_add]
          have hz1 : w3.frozen? ⟨g, i * 2 + 1, none⟩ = false := blk_frozen hh _
          have hset : ∀ m : Int, Kd.R k59 59 (w3.setCell ⟨g, i * 2 + 1, none⟩ (.int .i64 m)) w.heap.size (fun _ => True) (.slice (some ⟨g, 0, none⟩) l0.length c1) (l0.set i ⟨el.f0, m⟩) ∧ Below w.heap.size w (w3.setCell ⟨g, i * 2 + 1, none⟩ (.int .i64 m)) := fun m => by
            have h := (Kd.R_seg (d := k59) (W := w3) (okp := fun _ => False) HO.out (i : Int) (by omega) (by omega) (c := [.string el.f0, .int .i64 el.f1]) (seg := [.int .i64 m]) (j := 1) rfl (fun j u hj => by
              rcases j with _ | _ | j
              · cases hj; rw [Int.toNat_natCast]; exact hy0
              · cases hj; rw [Int.toNat_natCast]; exact hy1
              · cases hj) (show 1 + 1 ≤ 2 by decide) (x' := ⟨el.f0, m⟩) (k59_mkM _ _ _ ⟨el.f0, m⟩) (fun _ h => h.elim)).1
            exact ⟨h, below_set HB.out hg⟩
          have HS := Aside0.mk hset
          clear hset hx0 hx1 hp hcs hg hel
          by_cases hmx : el.f1 < a2
          · have hmb := eq_true hmx
            have HX := Aside0.mk (show mx el.f1 a2 = a2 from if_pos hmx)
            clear hmx
            go_wp2_with fail
            go_ret
            exact ⟨_, rfl, by have h_ := HR.out; (first | rw [if_pos rfl] at h_ | skip); rw [HM.out, HX.out] at h_; rw [h_]; exact (HS.out _).1, (HS.out _).2⟩
          · have hmb := eq_false hmx
            have HX := Aside0.mk (show mx el.f1 a2 = el.f1 from if_neg hmx)
            clear hmx
            go_wp2_with fail
            go_ret
            exact ⟨_, rfl, by have h_ := HR.out; (first | rw [if_pos rfl] at h_ | skip); rw [HM.out, HX.out] at h_; rw [h_]; exact (HS.out _).1, (HS.out _).2⟩
  · have hv : r = l0 := by rw [← HV.out, vec_Set.v, if_neg (fun h => hR h.1)]
    have HR := Aside0.mk hv
    have hR' : rightB a1 = false := by simpa using hR
    clear hR
    generalize rightB a1 = b1 at hR'
    subst hR'
    clear hv
    go_wp2_with fail
    go_ret
    exact ⟨_, rfl, by rw [HR.out]; exact HO.out, HB.out⟩

/-! ### cert_Put: function 8 -/
def cert_Put.f (l0 : List (S59)) (a1 : ByteArray) (a2 : Int) : Option ((List (S59))) := (vec_Set.f l0 a1 (1 + (mx 0 (mn a2 1048575)))).bind fun t141 => (some t141)
set_option maxHeartbeats 8000000 in
set_option maxRecDepth 100000 in
theorem cert_Put.calls (A0 : Option Addr) (c0 : Nat) (l0 : List (S59)) (a1 : ByteArray) (a2 : Int) (r : List (S59)) (w : World) (hr0 : Kd.C k59 w A0 l0.length l0) (hc0 : l0.length ≤ c0) (h : cert_Put.f l0 a1 a2 = some r) :
    Calls Try.prog 8 #[.slice A0 l0.length c0, .string a1, .int .i64 a2] w fun e w' => ∃ v0_ : Value, e = .returned (v0_) ∧ Kd.R k59 59 w' w.heap.size (fun _ => True) v0_ r ∧ Below w.heap.size w w' := by
  have HR0 := Aside0.mk hr0
  have HC0 := Aside0.mk hc0
  clear hr0 hc0
  have HB := Aside0.mk (Below.refl w.heap.size w)
  have H : ((vec_Set.f l0 a1 (1 + (mx 0 (mn a2 1048575)))).bind fun t141 => (some t141)) = some r := h
  clear h
  obtain ⟨ji4, hji4⟩ : ∃ j_ : Int, (mn a2 1048575) = j_ := ⟨_, rfl⟩
  replace H : ((vec_Set.f l0 a1 (1 + (mx 0 (ji4)))).bind fun t141 => (some t141)) = some r := by first | (rw [hji4] at H; exact H) | (simp only [hji4] at H ⊢; exact H)
  (try (have hji4h : ji4 ≤ 1048575 := by (rw [← hji4]; unfold mn; (repeat' split) <;> omega)))
  (try (have hji4g : ji4 ≤ 64 := by omega))
  have hji4_ : (if 1048575 < a2 then 1048575 else a2) = ji4 := hji4
  obtain ⟨ji5, hji5⟩ : ∃ j_ : Int, (mx 0 (ji4)) = j_ := ⟨_, rfl⟩
  replace H : ((vec_Set.f l0 a1 (1 + (ji5))).bind fun t141 => (some t141)) = some r := by first | (rw [hji5] at H; exact H) | (simp only [hji5] at H ⊢; exact H)
  have hji5_ : (if 0 < (ji4) then (ji4) else 0) = ji5 := hji5
  replace H := Option.bind_eq_some_iff.mp H
  obtain ⟨t141, A60, H⟩ := H
  replace H : (some t141) = some r := H
  have A6 := Aside0.mk A60
  clear A60
  obtain rfl := Option.some.inj H
  go_enter Try.func8, Try.ntmps8
  go_wp2_with (first | ((with_reducible refine gate_callee (f := 31) rfl ?_); refine goesL_ (some 13) rfl rfl Try.func31 (by kernel_rfl) rfl #[.slice A0 l0.length c0, .string a1, .int .i64 (1 + (ji5))] rfl (by (try simp only [List.map_toArray, List.map_cons, List.map_nil]); first | done | (simp only [hji5]; rfl) | rfl | (simp only [List.length_drop, List.length_take]; rfl)) ?_; (with_reducible refine (vec_Set.calls _ _ l0 a1 (1 + (ji5)) t141 _ ?side1 ?side2 A6.out).mono ?_); (case side1 => repeat (first | exact HR0.out | (with_reducible refine Kd.C_alloc ?_ _) | (with_reducible refine Kd.C_drewN ?_ _) | (with_reducible refine Kd.C_drew ?_))); (case side2 => exact HC0.out); rintro e w7 ⟨v142, rfl, ho0, hb⟩; refine ⟨_, rfl, ?_⟩; have n0_ := Aside0.mk (Kd.R_lower ho0 (below_size (by repeat (first | (with_reducible first | exact HB.out | apply below_alloc | apply pw_below_drewN | apply below_drew1) | exact HB.out)))); have n1_ := Aside0.mk (below_step (by repeat (first | (with_reducible first | exact HB.out | apply below_alloc | apply pw_below_drewN | apply below_drew1) | exact HB.out)) hb); clear HB; have HO143 := n0_; have HB := n1_; clear n0_ n1_; (try clear hb); (try clear hb2); (try clear hk); (try clear hi); (try clear ho0)))
  go_ret
  exact ⟨_, by first | rfl | (simp [errW_none, errW_some] <;> rfl) | (simp only [← hji4, ← hji5]; first | rfl | (simp [errW_none, errW_some] <;> rfl)) | (simp [*, errW_none, errW_some] <;> rfl), by (with_reducible repeat (first | apply Kd.R_alloc | apply Kd.R_drewN | apply Kd.R_drew)); exact HO143.out, by repeat (first | (with_reducible first | exact HB.out | apply below_alloc | apply pw_below_drewN | apply below_drew1) | exact HB.out)⟩

/-! ### cenotaphref03_Of: function 34 -/
def cenotaphref03_Of.l0 : Nat → List (S56) → ByteArray → Int → Option (Int)
  | 0, _, _, _ => none
  | k + 1, x0, x1, x5 => if x5 < (x0.length : Int) then (if 0 ≤ x5 then (if ((rd_T56 x0 x5).f0).toList = x1.toList then (some ((rd_T56 x0 x5).f1)) else (cenotaphref03_Of.l0 k x0 x1 (wrap64 (x5 + 1)))) else (none)) else (some 0)
def cenotaphref03_Of.f (k : Nat) (l0 : List (S56)) (a1 : ByteArray) : Option (Int) := cenotaphref03_Of.l0 k l0 a1 0
theorem cenotaphref03_Of.mono_l : ∀ k, (∀ y0 y1 y2, LeO (cenotaphref03_Of.l0 k y0 y1 y2) (cenotaphref03_Of.l0 (k + 1) y0 y1 y2))
  | 0 => fun _ _ _ r h => by simp [cenotaphref03_Of.l0] at h
  | k + 1 => by
    have ih0 := cenotaphref03_Of.mono_l k
    · intro y0 y1 y2
      unfold cenotaphref03_Of.l0
      repeat' first
      | (with_reducible exact ih0 _ _ _)
      | (with_reducible exact LeO.refl _)
      | (with_reducible exact LeO.none _)
      | (with_reducible refine LeO.ite ?_ ?_)
      | (with_reducible refine LeO.bind ?_ (fun _ => ?_))
      | exact ih0 _ _ _
      | exact LeO.none _
      | refine LeO.ite ?_ ?_
      | refine LeO.bind ?_ (fun _ => ?_)
theorem cenotaphref03_Of.mono : ∀ a0 a1 k, LeO (cenotaphref03_Of.f k a0 a1) (cenotaphref03_Of.f (k + 1) a0 a1) := by
  intro a0 a1 k
  have ih0 := cenotaphref03_Of.mono_l k
  unfold cenotaphref03_Of.f
  repeat' first
      | (with_reducible exact ih0 _ _ _)
      | (with_reducible exact LeO.refl _)
      | (with_reducible exact LeO.none _)
      | (with_reducible refine LeO.ite ?_ ?_)
      | (with_reducible refine LeO.bind ?_ (fun _ => ?_))
      | exact ih0 _ _ _
      | exact LeO.none _
      | refine LeO.ite ?_ ?_
      | refine LeO.bind ?_ (fun _ => ?_)
set_option maxHeartbeats 8000000 in
set_option maxRecDepth 100000 in
theorem cenotaphref03_Of.calls (k : Nat) (A0 : Option Addr) (c0 : Nat) (l0 : List (S56)) (a1 : ByteArray) (r : Int) (w : World) (hr0 : Kd.C k56 w A0 l0.length l0) (hc0 : l0.length ≤ c0) (h : cenotaphref03_Of.f k l0 a1 = some r) :
    Calls Try.prog 34 #[.slice A0 l0.length c0, .string a1] w fun e w' => e = .returned (.int .i64 r) ∧ Drawn0 w w' := by
  have HR0 := Aside0.mk hr0
  have HC0 := Aside0.mk hc0
  clear hr0 hc0
  have H : (cenotaphref03_Of.l0 k l0 a1 0) = some r := h
  clear h
  have H' := Aside0.mk H
  clear H
  go_enter Try.func34, Try.ntmps34
  go_wp2
  go_loopg [5] k (fun kq v5 w' => ∃ (x5_1 : Int), v5 = .int .i64 x5_1 ∧ Aside0 (cenotaphref03_Of.l0 kq l0 a1 x5_1 = some r) ∧ Aside0 (kq ≤ k) ∧ Drawn0 w w')
  case atStart => exact ⟨(0), (by first | rfl | (simp; done) | (simp [*]; done)), H', ⟨Nat.le_refl _⟩, by repeat (first | exact Drawn0.refl _ | apply Drawn0.step)⟩
  case round =>
    clear H'
    try clear p2
    obtain ⟨x5_1, rfl, HA, HK1, ⟨m1, rfl⟩⟩ := hrel
    cases gk with
    | zero => exact absurd HA.out (by simp [cenotaphref03_Of.l0])
    | succ k1 =>
      have H := HA.out
      clear HA
      simp only [cenotaphref03_Of.l0] at H
      by_cases c3 : x5_1 < (l0.length : Int)
      · rw [if_pos c3] at H
        have c3b0 : decide (x5_1 < (l0.length : Int)) = true := decide_eq_true c3
        clear c3
        by_cases c4 : 0 ≤ x5_1
        · rw [if_pos c4] at H
          have c4b0 : decide (0 ≤ x5_1) = true := decide_eq_true c4
          clear c4
          by_cases c5 : ((rd_T56 l0 x5_1).f0).toList = a1.toList
          · rw [if_pos c5] at H
            have c5b0 : (((rd_T56 l0 x5_1).f0).toList == a1.toList) = true := beq_iff_eq.mpr c5
            have c5b1 : (((rd_T56 l0 x5_1).f0).toList != a1.toList) = false := bne_eq_false_iff_eq.mpr c5
            clear c5
            obtain rfl := Option.some.inj H
            have p144 : 0 ≤ (x5_1 : Int) := of_decide_eq_true (by first | (with_reducible assumption) | assumption)
            have q144 : x5_1 < (l0.length : Int) := of_decide_eq_true (by first | (with_reducible assumption) | assumption)
            obtain ⟨ad144, e144, hx144_0, hx144_1⟩ := at_T56 HR0.out x5_1 p144 q144
            cases e144
            replace p144 := eq_true p144
            replace q144 := eq_true q144
            have p145 : 0 ≤ (x5_1 : Int) := of_decide_eq_true (by first | (with_reducible assumption) | assumption)
            have q145 : x5_1 < (l0.length : Int) := of_decide_eq_true (by first | (with_reducible assumption) | assumption)
            obtain ⟨ad145, e145, hx145_0, hx145_1⟩ := at_T56 HR0.out x5_1 p145 q145
            obtain rfl : ad144 = ad145 := (by injection e145)
            replace p145 := eq_true p145
            replace q145 := eq_true q145
            go_wp2
            go_ret
            exact ⟨by first | rfl | (simp; done) | (simp [*]; done), by repeat (first | exact Drawn0.refl _ | apply Drawn0.step)⟩
          · rw [if_neg c5] at H
            have c5b0 : (((rd_T56 l0 x5_1).f0).toList == a1.toList) = false := beq_eq_false_iff_ne.mpr c5
            have c5b1 : (((rd_T56 l0 x5_1).f0).toList != a1.toList) = true := bne_iff_ne.mpr c5
            have H' := Aside0.mk H
            clear H
            have p144 : 0 ≤ (x5_1 : Int) := of_decide_eq_true (by first | (with_reducible assumption) | assumption)
            have q144 : x5_1 < (l0.length : Int) := of_decide_eq_true (by first | (with_reducible assumption) | assumption)
            obtain ⟨ad144, e144, hx144_0, hx144_1⟩ := at_T56 HR0.out x5_1 p144 q144
            cases e144
            replace p144 := eq_true p144
            replace q144 := eq_true q144
            go_wp2
            go_roundg k1
            case measure => have := HK1.out; omega
            case rel => exact ⟨(wrap64 (x5_1 + 1)), (by first | rfl | (simp; done) | (simp [*]; done)), H', ⟨by have := HK1.out; omega⟩, by repeat (first | exact Drawn0.refl _ | apply Drawn0.step)⟩
        · rw [if_neg c4] at H
          exact absurd H (by simp)
      · rw [if_neg c3] at H
        have c3b0 : decide (x5_1 < (l0.length : Int)) = false := decide_eq_false c3
        clear c3
        obtain rfl := Option.some.inj H
        go_wp2
        go_ret
        exact ⟨by first | rfl | (simp; done) | (simp [*]; done), by repeat (first | exact Drawn0.refl _ | apply Drawn0.step)⟩

/-! ### vec_Of: function 33 -/
def vec_Of.f (l0 : List (S59)) (a1 : ByteArray) : Option (Int) := (vec_find.f l0 a1).bind fun bt160 => (if bt160.2 = true then (if 0 ≤ bt160.1 then (if bt160.1 < (l0.length : Int) then (some ((rd_T59 l0 bt160.1).f1)) else (none)) else (none)) else (some 0))
set_option maxHeartbeats 8000000 in
set_option maxRecDepth 100000 in
theorem vec_Of.calls (A0 : Option Addr) (c0 : Nat) (l0 : List (S59)) (a1 : ByteArray) (r : Int) (w : World) (hr0 : Kd.C k59 w A0 l0.length l0) (hc0 : l0.length ≤ c0) (h : vec_Of.f l0 a1 = some r) :
    Calls Try.prog 33 #[.slice A0 l0.length c0, .string a1] w fun e w' => e = .returned (.int .i64 r) ∧ Below w.heap.size w w' := by
  have HR0 := Aside0.mk hr0
  have HC0 := Aside0.mk hc0
  clear hr0 hc0
  have HB := Aside0.mk (Below.refl w.heap.size w)
  have H : ((vec_find.f l0 a1).bind fun bt160 => (if bt160.2 = true then (if 0 ≤ bt160.1 then (if bt160.1 < (l0.length : Int) then (some ((rd_T59 l0 bt160.1).f1)) else (none)) else (none)) else (some 0))) = some r := h
  clear h
  replace H := Option.bind_eq_some_iff.mp H
  obtain ⟨⟨t160, t161⟩, A30, H⟩ := H
  replace H : (if t161 = true then (if 0 ≤ t160 then (if t160 < (l0.length : Int) then (some ((rd_T59 l0 t160).f1)) else (none)) else (none)) else (some 0)) = some r := H
  have A3 := Aside0.mk A30
  clear A30
  by_cases c4 : t161 = true
  · subst c4
    have H1 : (if 0 ≤ t160 then (if t160 < (l0.length : Int) then (some ((rd_T59 l0 t160).f1)) else (none)) else (none)) = some r := by rw [if_pos rfl] at H; exact H
    clear H
    have H := H1
    clear H1
    by_cases c5 : 0 ≤ t160
    · rw [if_pos c5] at H
      have c5b0 : decide (0 ≤ t160) = true := decide_eq_true c5
      clear c5
      by_cases c6 : t160 < (l0.length : Int)
      · rw [if_pos c6] at H
        have c6b0 : decide (t160 < (l0.length : Int)) = true := decide_eq_true c6
        clear c6
        obtain rfl := Option.some.inj H
        go_enter Try.func33, Try.ntmps33
        go_wp2_with (first | ((with_reducible refine gate_callee (f := 45) rfl ?_); refine goesL_ (some 10) rfl rfl Try.func45 (by kernel_rfl) rfl #[.slice A0 l0.length c0, .string a1] rfl (by (try simp only [List.map_toArray, List.map_cons, List.map_nil]); first | done | rfl | (simp only [List.length_drop, List.length_take]; rfl)) ?_; (with_reducible refine (vec_find.calls _ _ l0 a1 t160 true _ ?side1 ?side2 A3.out).mono ?_); (case side1 => repeat (first | exact HR0.out | (with_reducible refine Kd.C_alloc ?_ _) | (with_reducible refine Kd.C_drewN ?_ _) | (with_reducible refine Kd.C_drew ?_))); (case side2 => exact HC0.out); rintro e w7 ⟨rfl, hb⟩; refine ⟨_, rfl, ?_⟩; have n0_ := Aside0.mk (below_step (by repeat (first | (with_reducible first | exact HB.out | apply below_alloc | apply pw_below_drewN | apply below_drew1) | exact HB.out)) hb); clear HB; have HB := n0_; clear n0_; (try clear hb); (try clear hb2); (try clear hk); (try clear hi); have p162 : 0 ≤ (t160 : Int) := of_decide_eq_true (by first | (with_reducible assumption) | assumption); have q162 : t160 < (l0.length : Int) := of_decide_eq_true (by first | (with_reducible assumption) | assumption); obtain ⟨ad162, e162, hx162_0, hx162_1⟩ := at_T59 HR0.out t160 p162 q162; cases e162; replace hx162_0 := (HB.out.cell (World.block_lt_of_cell? w _ hx162_0)).trans hx162_0; replace hx162_1 := (HB.out.cell (World.block_lt_of_cell? w _ hx162_1)).trans hx162_1; replace p162 := eq_true p162; replace q162 := eq_true q162))
        go_ret
        exact ⟨by first | rfl | (simp [errW_none, errW_some] <;> rfl) | (simp [*, errW_none, errW_some] <;> rfl), by repeat (first | (with_reducible first | exact HB.out | apply below_alloc | apply pw_below_drewN | apply below_drew1) | exact HB.out)⟩
      · rw [if_neg c6] at H
        exact absurd H (by simp)
    · rw [if_neg c5] at H
      exact absurd H (by simp)
  · replace c4 := Bool.eq_false_iff.mpr c4
    subst c4
    have H1 : (some 0) = some r := by rw [if_neg (show ¬ (false = true) by decide)] at H; exact H
    clear H
    have H := H1
    clear H1
    obtain rfl := Option.some.inj H
    go_enter Try.func33, Try.ntmps33
    go_wp2_with (first | ((with_reducible refine gate_callee (f := 45) rfl ?_); refine goesL_ (some 10) rfl rfl Try.func45 (by kernel_rfl) rfl #[.slice A0 l0.length c0, .string a1] rfl (by (try simp only [List.map_toArray, List.map_cons, List.map_nil]); first | done | rfl | (simp only [List.length_drop, List.length_take]; rfl)) ?_; (with_reducible refine (vec_find.calls _ _ l0 a1 t160 false _ ?side1 ?side2 A3.out).mono ?_); (case side1 => repeat (first | exact HR0.out | (with_reducible refine Kd.C_alloc ?_ _) | (with_reducible refine Kd.C_drewN ?_ _) | (with_reducible refine Kd.C_drew ?_))); (case side2 => exact HC0.out); rintro e w8 ⟨rfl, hb⟩; refine ⟨_, rfl, ?_⟩; have n0_ := Aside0.mk (below_step (by repeat (first | (with_reducible first | exact HB.out | apply below_alloc | apply pw_below_drewN | apply below_drew1) | exact HB.out)) hb); clear HB; have HB := n0_; clear n0_; (try clear hb); (try clear hb2); (try clear hk); (try clear hi)))
    go_ret
    exact ⟨by first | rfl | (simp [errW_none, errW_some] <;> rfl) | (simp [*, errW_none, errW_some] <;> rfl), by repeat (first | (with_reducible first | exact HB.out | apply below_alloc | apply pw_below_drewN | apply below_drew1) | exact HB.out)⟩

/-! ### cert_Gone: function 13 -/
def cert_Gone.f (l0 : List (S59)) (a1 : ByteArray) : Option (Bool) := (vec_Of.f l0 a1).bind fun t163 => (some (decide (t163 > 0)))
set_option maxHeartbeats 8000000 in
set_option maxRecDepth 100000 in
theorem cert_Gone.calls (A0 : Option Addr) (c0 : Nat) (l0 : List (S59)) (a1 : ByteArray) (r : Bool) (w : World) (hr0 : Kd.C k59 w A0 l0.length l0) (hc0 : l0.length ≤ c0) (h : cert_Gone.f l0 a1 = some r) :
    Calls Try.prog 13 #[.slice A0 l0.length c0, .string a1] w fun e w' => e = .returned (.bool r) ∧ Below w.heap.size w w' := by
  have HR0 := Aside0.mk hr0
  have HC0 := Aside0.mk hc0
  clear hr0 hc0
  have HB := Aside0.mk (Below.refl w.heap.size w)
  have H : ((vec_Of.f l0 a1).bind fun t163 => (some (decide (t163 > 0)))) = some r := h
  clear h
  replace H := Option.bind_eq_some_iff.mp H
  obtain ⟨t163, A30, H⟩ := H
  replace H : (some (decide (t163 > 0))) = some r := H
  have A3 := Aside0.mk A30
  clear A30
  obtain rfl := Option.some.inj H
  go_enter Try.func13, Try.ntmps13
  go_wp2_with (first | ((with_reducible refine gate_callee (f := 33) rfl ?_); refine goesL_ (some 7) rfl rfl Try.func33 (by kernel_rfl) rfl #[.slice A0 l0.length c0, .string a1] rfl (by (try simp only [List.map_toArray, List.map_cons, List.map_nil]); first | done | rfl | (simp only [List.length_drop, List.length_take]; rfl)) ?_; (with_reducible refine (vec_Of.calls _ _ l0 a1 t163 _ ?side1 ?side2 A3.out).mono ?_); (case side1 => repeat (first | exact HR0.out | (with_reducible refine Kd.C_alloc ?_ _) | (with_reducible refine Kd.C_drewN ?_ _) | (with_reducible refine Kd.C_drew ?_))); (case side2 => exact HC0.out); rintro e w4 ⟨rfl, hb⟩; refine ⟨_, rfl, ?_⟩; have n0_ := Aside0.mk (below_step (by repeat (first | (with_reducible first | exact HB.out | apply below_alloc | apply pw_below_drewN | apply below_drew1) | exact HB.out)) hb); clear HB; have HB := n0_; clear n0_; (try clear hb); (try clear hb2); (try clear hk); (try clear hi)))
  go_ret
  exact ⟨by first | rfl | (simp [errW_none, errW_some] <;> rfl) | (simp [*, errW_none, errW_some] <;> rfl), by repeat (first | (with_reducible first | exact HB.out | apply below_alloc | apply pw_below_drewN | apply below_drew1) | exact HB.out)⟩

/-! ### cert_Last: function 15 -/
def cert_Last.f (l0 : List (S59)) (a1 : ByteArray) : Option (Int) := (vec_Of.f l0 a1).bind fun t164 => (some (mx 0 (wrap64 (t164 - 1))))
set_option maxHeartbeats 8000000 in
set_option maxRecDepth 100000 in
theorem cert_Last.calls (A0 : Option Addr) (c0 : Nat) (l0 : List (S59)) (a1 : ByteArray) (r : Int) (w : World) (hr0 : Kd.C k59 w A0 l0.length l0) (hc0 : l0.length ≤ c0) (h : cert_Last.f l0 a1 = some r) :
    Calls Try.prog 15 #[.slice A0 l0.length c0, .string a1] w fun e w' => e = .returned (.int .i64 r) ∧ Below w.heap.size w w' := by
  have HR0 := Aside0.mk hr0
  have HC0 := Aside0.mk hc0
  clear hr0 hc0
  have HB := Aside0.mk (Below.refl w.heap.size w)
  have H : ((vec_Of.f l0 a1).bind fun t164 => (some (mx 0 (wrap64 (t164 - 1))))) = some r := h
  clear h
  replace H := Option.bind_eq_some_iff.mp H
  obtain ⟨t164, A30, H⟩ := H
  replace H : (some (mx 0 (wrap64 (t164 - 1)))) = some r := H
  have A3 := Aside0.mk A30
  clear A30
  obtain ⟨ji4, hji4⟩ : ∃ j_ : Int, (mx 0 (wrap64 (t164 - 1))) = j_ := ⟨_, rfl⟩
  replace H : (some ji4) = some r := by first | (rw [hji4] at H; exact H) | (simp only [hji4] at H ⊢; exact H)
  (try rw [hji4] at A3)
  (try (have hji4l : 0 ≤ ji4 := by (rw [← hji4]; unfold mx; (repeat' split) <;> omega)))
  (try (have hji4m : 0 ≤ ji4 := by omega))
  have hji4_ : (if 0 < (wrap64 (t164 - 1)) then (wrap64 (t164 - 1)) else 0) = ji4 := hji4
  obtain rfl := Option.some.inj H
  go_enter Try.func15, Try.ntmps15
  go_wp2_with (first | ((with_reducible refine gate_callee (f := 33) rfl ?_); refine goesL_ (some 7) rfl rfl Try.func33 (by kernel_rfl) rfl #[.slice A0 l0.length c0, .string a1] rfl (by (try simp only [List.map_toArray, List.map_cons, List.map_nil]); first | done | rfl | (simp only [List.length_drop, List.length_take]; rfl)) ?_; (with_reducible refine (vec_Of.calls _ _ l0 a1 t164 _ ?side1 ?side2 A3.out).mono ?_); (case side1 => repeat (first | exact HR0.out | (with_reducible refine Kd.C_alloc ?_ _) | (with_reducible refine Kd.C_drewN ?_ _) | (with_reducible refine Kd.C_drew ?_))); (case side2 => exact HC0.out); rintro e w5 ⟨rfl, hb⟩; refine ⟨_, rfl, ?_⟩; have n0_ := Aside0.mk (below_step (by repeat (first | (with_reducible first | exact HB.out | apply below_alloc | apply pw_below_drewN | apply below_drew1) | exact HB.out)) hb); clear HB; have HB := n0_; clear n0_; (try clear hb); (try clear hb2); (try clear hk); (try clear hi)))
  go_ret
  exact ⟨by first | rfl | (simp [errW_none, errW_some] <;> rfl) | (simp only [← hji4]; first | rfl | (simp [errW_none, errW_some] <;> rfl)) | (simp [*, errW_none, errW_some] <;> rfl), by repeat (first | (with_reducible first | exact HB.out | apply below_alloc | apply pw_below_drewN | apply below_drew1) | exact HB.out)⟩

/-! ### id_Union: function 39 -/
def laySortId_ren : Go.Shelf.Ren := ⟨fun | 6 => 51 | 15 => 60 | 14 => 59 | 28 => 71 | 29 => 72 | 20 => 63 | 21 => 64 | 22 => 65 | 23 => 66 | 24 => 67 | 25 => 68 | 26 => 69 | 27 => 70 | 46 => 75 | 47 => 76 | 48 => 77 | 49 => 78 | 50 => 79 | 57 => 80 | n => n, fun | 22 => 43 | 24 => 28 | 25 => 72 | 3 => 3 | 39 => 84 | 0 => 0 | 53 => 93 | 55 => 57 | 4 => 4 | 46 => 87 | 45 => 86 | 50 => 67 | 5 => 5 | 9 => 9 | 66 => 96 | 70 => 100 | 76 => 102 | 77 => 103 | n => n, fun | n => n⟩
theorem laySortId : Go.Proofs.SlLaysF.n6 Try.prog laySortId_ren := { mixed := by kernel_rfl, f6 := ⟨Try.f51.name, by decide, Try.func51.trans (congrArg some (by kernel_rfl))⟩, f14 := ⟨Try.f59.name, by decide, Try.func59.trans (congrArg some (by kernel_rfl))⟩, f15 := Try.func60.trans (congrArg some (by kernel_rfl)), f20 := ⟨Try.f63.name, by decide, Try.func63.trans (congrArg some (by kernel_rfl))⟩, f21 := ⟨Try.f64.name, by decide, Try.func64.trans (congrArg some (by kernel_rfl))⟩, f22 := ⟨Try.f65.name, by decide, Try.func65.trans (congrArg some (by kernel_rfl))⟩, f23 := ⟨Try.f66.name, by decide, Try.func66.trans (congrArg some (by kernel_rfl))⟩, f24 := ⟨Try.f67.name, by decide, Try.func67.trans (congrArg some (by kernel_rfl))⟩, f25 := ⟨Try.f68.name, by decide, Try.func68.trans (congrArg some (by kernel_rfl))⟩, f26 := ⟨Try.f69.name, by decide, Try.func69.trans (congrArg some (by kernel_rfl))⟩, f27 := ⟨Try.f70.name, by decide, Try.func70.trans (congrArg some (by kernel_rfl))⟩, f28 := Try.func71.trans (congrArg some (by kernel_rfl)), f29 := Try.func72.trans (congrArg some (by kernel_rfl)), f46 := ⟨Try.f75.name, by decide, Try.func75.trans (congrArg some (by kernel_rfl))⟩, f47 := Try.func76.trans (congrArg some (by kernel_rfl)), f48 := Try.func77.trans (congrArg some (by kernel_rfl)), f49 := ⟨Try.f78.name, by decide, Try.func78.trans (congrArg some (by kernel_rfl))⟩, f50 := ⟨Try.f79.name, by decide, Try.func79.trans (congrArg some (by kernel_rfl))⟩, f57 := ⟨Try.f80.name, by decide, Try.func80.trans (congrArg some (by kernel_rfl))⟩, t0 := Try.underlying0, a0 := Try.isAgg0, z0 := Try.sizeOf0, v0 := Try.zeroValue0, t3 := Try.underlying3, a3 := Try.isAgg3, z3 := Try.sizeOf3, v3 := Try.zeroValue3, t4 := Try.underlying4, a4 := Try.isAgg4, z4 := Try.sizeOf4, v4 := Try.zeroValue4, t5 := Try.underlying5, a5 := Try.isAgg5, z5 := Try.sizeOf5, v5 := Try.zeroValue5, t9 := Try.underlying9, a9 := Try.isAgg9, z9 := Try.sizeOf9, v9 := Try.zeroValue9, t22 := Try.underlying43, a22 := Try.isAgg43, z22 := Try.sizeOf43, v22 := Try.zeroValue43, a24 := Try.isAgg28, z24 := Try.sizeOf28, t25 := Try.underlying72, a25 := Try.isAgg72, z25 := Try.sizeOf72, v25 := Try.zeroValue72, t39 := Try.underlying84, a39 := Try.isAgg84, z39 := Try.sizeOf84, v39 := Try.zeroValue84, t45 := Try.underlying86, a45 := Try.isAgg86, z45 := Try.sizeOf86, v45 := Try.zeroValue86, t46 := Try.underlying87, a46 := Try.isAgg87, z46 := Try.sizeOf87, v46 := Try.zeroValue87, t50 := Try.underlying67, a50 := Try.isAgg67, z50 := Try.sizeOf67, v50 := Try.zeroValue67, t53 := Try.underlying93, a53 := Try.isAgg93, z53 := Try.sizeOf93, v53 := Try.zeroValue93, t55 := Try.underlying57, a55 := Try.isAgg57, z55 := Try.sizeOf57, v55 := Try.zeroValue57, t66 := Try.underlying96, a66 := Try.isAgg96, z66 := Try.sizeOf96, v66 := Try.zeroValue96, t70 := Try.underlying100, a70 := Try.isAgg100, z70 := Try.sizeOf100, v70 := Try.zeroValue100, t76 := Try.underlying102, a76 := Try.isAgg102, z76 := Try.sizeOf102, v76 := Try.zeroValue102, t77 := Try.underlying103, a77 := Try.isAgg103, z77 := Try.sizeOf103, v77 := Try.zeroValue103 }
def layCompactId_ren : Go.Shelf.Ren := ⟨fun | 43 => 52 | n => n, fun | 22 => 43 | 23 => 28 | 3 => 3 | 4 => 4 | 0 => 0 | n => n, fun | n => n⟩
theorem layCompactId : Go.Proofs.SlLaysE.n43 Try.prog layCompactId_ren := { mixed := by kernel_rfl, f43 := ⟨Try.f52.name, by decide, Try.func52.trans (congrArg some (by kernel_rfl))⟩, t0 := Try.underlying0, a0 := Try.isAgg0, z0 := Try.sizeOf0, v0 := Try.zeroValue0, t3 := Try.underlying3, a3 := Try.isAgg3, z3 := Try.sizeOf3, v3 := Try.zeroValue3, t4 := Try.underlying4, a4 := Try.isAgg4, z4 := Try.sizeOf4, v4 := Try.zeroValue4, t22 := Try.underlying43, a22 := Try.isAgg43, z22 := Try.sizeOf43, v22 := Try.zeroValue43, a23 := Try.isAgg28, z23 := Try.sizeOf28 }
set_option maxHeartbeats 800000 in
set_option maxRecDepth 100000 in
theorem idc_grow (n : Nat) (w : World) (hn : n * 16 ≤ 140737488355328) :
    Calls Try.prog 58 #[.slice none 0 0, .int .i64 n] w fun e w' => ∃ v : Value, e = .returned v ∧ Kd.R Kd.string 28 w' w.heap.size (fun _ => True) v ([] : List ByteArray) ∧ Below w.heap.size w w' := by
  obtain ⟨i0, hi0, hz0, hsz0, hby0⟩ := info_parts info28
  have hcut0 := cut_to (P := Try.prog) 43 28 .i64 Try.underlying43 hi0 none 0 0 0 (by omega) (by omega) (by omega)
  by_cases h0 : n = 0
  · subst h0
    go_enter Try.func58, Try.ntmps58
    go_wp2
    go_ret
    exact ⟨_, rfl, Kd.R_nil _ _ _ _ _, Below.refl _ _⟩
  · have hpos : decide ((n : Int) < 0) = false := by simp
    have hgt : decide ((0 : Int) < (n : Int)) = true := by simp; omega
    have hgt' : 0 < n := by omega
    have hg2 : (n : Int) ≤ 140737488355328 := by omega
    go_enter Try.func58, Try.ntmps58
    have hn0 : (0 : Int) ≤ (n : Int) := by omega
    go_wp2_with (first | ((with_reducible refine gate_builtin (b := .append) (xs := #[.tmp 20, .tmp 21]) rfl ?_); at_builtin; (refine Kd.R_append_zeros Kd.string (w0 := w) w.heap.size rfl (.tmp 20) (.tmp 21) 43 3 28 (.string ⟨#[]⟩) 16 rfl Try.underlying43 Try.underlying3 info28 rfl (by decide) (by omega) (.slice none 0 0) ([] : List ByteArray) (⟨#[]⟩ : ByteArray) (n : Int) (fun _ => True) rfl rfl rfl ?aF ?aO hn0 ?aB ?aS ?aL ?_); (case aF => exact fun _ _ => trivial); (case aO => exact Kd.R_nil _ _ _ _ _); (case aB => exact Below.refl _ _); (case aS => exact Nat.le_refl _); (case aL => simp; omega); intro v1 w1 ho hb hg hat; clear hg hat; obtain ⟨A1, c1, rfl, hl1, hr1⟩ := Kd.R_reads ho; clear hr1; have hL : ((([] : List ByteArray) ++ List.replicate (n : Int).toNat (⟨#[]⟩ : ByteArray)).length) = n := (by simp); rw [hL] at ho hl1 ⊢; have ht0 := Kd.R_take (m := 0) ho (Nat.zero_le _); have HT := Aside0.mk ht0; have HBb := Aside0.mk hb; clear ho hb ht0 hL; have hcut1 := cut_to (P := Try.prog) 43 28 .i64 Try.underlying43 hi0 A1 n c1 0 (by omega) (by omega) hl1))
    go_ret
    exact ⟨_, rfl, by simpa using HT.out, HBb.out⟩

set_option maxHeartbeats 1600000 in
set_option maxRecDepth 100000 in
theorem idc_concat (b : Nat) (A0 A1 : Option Addr) (c0 c1 : Nat) (l0 l1 : List ByteArray) (w : World) (hb : w.heap[b]? = some (.cells #[.slice A0 l0.length c0, .slice A1 l1.length c1] 43 (0, 0)))
    (hr0 : Kd.C Kd.string w A0 l0.length l0) (hc0 : l0.length ≤ c0) (hr1 : Kd.C Kd.string w A1 l1.length l1) (hc1 : l1.length ≤ c1) (hn : (l0.length + l1.length) * 16 ≤ 140737488355328) :
    Calls Try.prog 50 #[.slice (some ⟨b, 0, none⟩) 2 2] w fun e w' => ∃ v : Value, e = .returned v ∧ Kd.R Kd.string 28 w' w.heap.size (fun _ => True) v (l0 ++ l1) ∧ Below w.heap.size w w' := by
  have hlt : b < w.heap.size := (Array.getElem?_eq_some_iff.1 hb).1
  have hx0 : w.cell? ⟨b, 0, none⟩ = some (.slice A0 l0.length c0) := by simp [World.cell?, hb]
  have hx1 : w.cell? ⟨b, 1, none⟩ = some (.slice A1 l1.length c1) := by simp [World.cell?, hb]
  have HR0 := Aside0.mk hr0; have HR1 := Aside0.mk hr1; have HB := Aside0.mk hb
  have HX0 := Aside0.mk hx0; have HX1 := Aside0.mk hx1
  clear hr0 hr1 hb hx0 hx1
  generalize hn0 : l0.length = n0 at *
  generalize hn1 : l1.length = n1 at *
  have HN0 := Aside0.mk hn0; have HN1 := Aside0.mk hn1
  clear hn0 hn1
  have hm0 : n0 + n1 ≤ 140737488355328 := by omega
  go_enter Try.func50, Try.ntmps50
  go_wp2
  go_loop [3, 5, 11] (fun s _ i => ∃ k : Nat, k ≤ 2 ∧ i = .int .i64 k ∧ s = .int .i64 ((if k = 0 then 0 else if k = 1 then n0 else n0 + n1 : Nat))) (fun _ _ i => 2 - (intOf i).toNat)
  case atStart => exact ⟨0, Nat.zero_le _, rfl, rfl⟩
  case round =>
    obtain ⟨k, hk, rfl, rfl⟩ := hrel
    rcases (show k = 0 ∨ k = 1 ∨ k = 2 by omega) with rfl | rfl | rfl
    · have hx := HX0.out
      go_wp2
      go_round
      case rel => exact ⟨1, by omega, by go_num, by go_num⟩
      case measure => simp [intOf]
    · have hx := HX1.out
      go_wp2
      go_round
      case rel => exact ⟨2, by omega, by go_num, by go_num⟩
      case measure => simp [intOf]
    · have hg := idc_grow (n0 + n1) w (by omega)
      go_wp2_with (first | (go_at_call 58; refine hg.mono ?_; rintro e w1 ⟨v1, rfl, ho1, hb1⟩; clear hg; have HO := Aside0.mk ho1; have HBL := Aside0.mk hb1; clear ho1 hb1))
      go_loopw [6, 8, 27] (fun v _ i wr => ∃ k : Nat, k ≤ 2 ∧ i = .int .i64 k ∧ Aside0 (Kd.R Kd.string 28 wr w.heap.size (fun _ => True) v (if k = 0 then [] else if k = 1 then l0 else l0 ++ l1)) ∧ Aside0 (Below w.heap.size w wr)) (fun _ _ i _ => 2 - (intOf i).toNat)
      case atStart => exact ⟨0, Nat.zero_le _, rfl, HO, HBL⟩
      case round =>
        clear HO HBL
        obtain ⟨k, hk, rfl, HO, HBL⟩ := hrel
        rcases (show k = 0 ∨ k = 1 ∨ k = 2 by omega) with rfl | rfl | rfl
        · have hx := (HBL.out.cell (p := ⟨b, 0, none⟩) hlt).trans HX0.out
          have HRR := Aside0.mk (Kd.C_below HR0.out HBL.out)
          go_wp2_with (first | ((with_reducible refine gate_builtin (b := .append) (xs := #[.tmp 31, .tmp 32]) rfl ?_); at_builtin; (refine Kd.R_append_rows Kd.string (w0 := w) w.heap.size rfl (.tmp 31) (.tmp 32) 43 28 (.string ⟨#[]⟩) 16 rfl Try.underlying43 info28 rfl (by decide) (by omega) u6 [] l0 A0 n0 c0 (fun _ => True) (fun _ => False) rfl rfl ?aO ?aR (fun _ _ h => h) (fun _ h => h.elim) ?aF ?aB ?aS ?aL ?_); (case aR => exact HRR.out); (case aB => exact HBL.out); (case aF => exact (fun _ _ => trivial)); (case aO => exact HO.out); (case aS => exact below_size HBL.out); (case aL => have := HN0.out; simp; omega); intro v7 w7 ho7 hb7 hg7 hat7; have HO7 := Aside0.mk ho7; have HB7 := Aside0.mk hb7; clear ho7 hb7 hg7 hat7 HO HBL))
          go_roundw
          case rel => exact ⟨1, by omega, by go_num, HO7, HB7⟩
          case measure => simp [intOf]
        · have hx := (HBL.out.cell (p := ⟨b, 1, none⟩) hlt).trans HX1.out
          have HRR := Aside0.mk (Kd.C_below HR1.out HBL.out)
          go_wp2_with (first | ((with_reducible refine gate_builtin (b := .append) (xs := #[.tmp 31, .tmp 32]) rfl ?_); at_builtin; (refine Kd.R_append_rows Kd.string (w0 := w) w.heap.size rfl (.tmp 31) (.tmp 32) 43 28 (.string ⟨#[]⟩) 16 rfl Try.underlying43 info28 rfl (by decide) (by omega) u6 l0 l1 A1 n1 c1 (fun _ => True) (fun _ => False) rfl rfl ?aO ?aR (fun _ _ h => h) (fun _ h => h.elim) ?aF ?aB ?aS ?aL ?_); (case aR => exact HRR.out); (case aB => exact HBL.out); (case aF => exact (fun _ _ => trivial)); (case aO => exact HO.out); (case aS => exact below_size HBL.out); (case aL => have := HN0.out; simp; omega); intro v7 w7 ho7 hb7 hg7 hat7; have HO7 := Aside0.mk ho7; have HB7 := Aside0.mk hb7; clear ho7 hb7 hg7 hat7 HO HBL))
          go_roundw
          case rel => exact ⟨2, by omega, by go_num, HO7, HB7⟩
          case measure => simp [intOf]
        · go_wp2
          go_ret
          exact ⟨_, rfl, HO.out, HBL.out⟩

theorem cmpReads (blk off size : Nat) (w : World) : CmpReads Try.prog 48 #[] Value.string cmpB blk off size w := by
  intro m os dk _ x y
  refine (id_Compare.calls x y (cmpB x y) _ rfl).mono ?_
  rintro e w' ⟨rfl, ⟨q, rfl⟩⟩
  exact ⟨rfl, q, rfl⟩
set_option maxHeartbeats 800000 in
theorem sort_own (w0 w : World) (base : Nat) (v : Value) (l : List ByteArray) (ok : Nat → Prop) (ho : Kd.R Kd.string 28 w base ok v l) (hb : Below base w0 w) (hbase : base ≤ w.heap.size) (hn : l.length ≤ 140737488355328) :
    Calls Try.prog 51 #[v, .func (.func 48) #[] #[]] w fun e w' => e = .returned (.tuple #[]) ∧ Kd.R Kd.string 28 w' base ok v (sortB l) ∧ Below base w0 w' := by
  by_cases hl : l = []
  · subst hl
    obtain ⟨A, c, rfl, hc, _⟩ := Kd.R_reads ho
    refine (AnyF.slices_SortFunc_none (P := Try.prog) (ρ := laySortId_ren) { laySortId with } A c (.func (.func 48) #[] #[]) w).mono ?_
    rintro e w' ⟨rfl, rfl⟩
    exact ⟨rfl, by simpa [sortB] using ho, hb⟩
  · obtain ⟨g, cap, cur, rfl, hg, hk, hh, h2, h3, h4, h5⟩ := R_scalar_open ho hl
    have eg : ∀ args w, (callFunc 48 args).run Try.prog w = .ok (.enter 48 args) w := enters_of Try.func48 (by kernel_rfl) rfl
    have hc := Any.slices_SortFunc_total laySortId Value.string (fun _ => rfl) cmpB swoB 48 #[] g 0 cap l.toArray w eg ((cmpReads g 0 l.toArray.size w).lays) (holds_of_cells hh h5) (Array.getElem?_eq_some_iff.1 hh).1 (by simp; omega) totB
    have hs : l.toArray.size = l.length := by simp
    rw [hs] at hc
    refine hc.mono ?_
    rintro e w' ⟨rfl, n, os, rfl⟩
    have hlen : (sortB l).length = l.length := by simp [sortB]
    refine ⟨rfl, ?_, below_put _ hb hg hbase⟩
    have := R_scalar_mk (h1 := fun _ => rfl) (enc := Value.string) (xs := sortB l) (w := Sort.grow (Sort.putRow Value.string (Sort.ahead w n) g 0 (sortB l).toArray) os) (ok := ok) hg hk (heap_put _ hh) (by rw [hlen]; exact h2) h3 (by rw [put_size, h4]) (by have := put_take (enc := Value.string) cur (sortB l) [] (by rw [hlen]; omega); simpa using this)
    rw [hlen] at this
    exact this

theorem eqlB : EqlAt Try.prog (layCompactId_ren.t 23) Value.string (fun x y => decide (x = y)) := by
  have h := EqlAt.string Try.prog (layCompactId_ren.t 23)
  have e : (fun x y : ByteArray => x.toList == y.toList) = fun x y => decide (x = y) := by
    funext x y
    rw [Lib.toList_data, Lib.toList_data]
    by_cases hx : x = y
    · subst hx; simp
    · have : ¬ x.data.toList = y.data.toList := fun h => hx (bytes_ext h)
      rw [decide_eq_false hx]; simpa using this
  rwa [e] at h
theorem neqB : NeqAt Try.prog (layCompactId_ren.t 23) Value.string (fun x y => decide (x = y)) := by
  have h := NeqAt.string Try.prog (layCompactId_ren.t 23)
  have e : (fun x y : ByteArray => x.toList == y.toList) = fun x y => decide (x = y) := by
    funext x y
    rw [Lib.toList_data, Lib.toList_data]
    by_cases hx : x = y
    · subst hx; simp
    · have : ¬ x.data.toList = y.data.toList := fun h => hx (bytes_ext h)
      rw [decide_eq_false hx]; simpa using this
  rwa [e] at h
theorem compact_own (w0 w : World) (base : Nat) (v : Value) (l : List ByteArray) (ok : Nat → Prop) (ho : Kd.R Kd.string 28 w base ok v l) (hb : Below base w0 w) (hbase : base ≤ w.heap.size) (hn : l.length ≤ 140737488355328) :
    Calls Try.prog 52 #[v] w fun e w' => ∃ v' : Value, e = .returned v' ∧ Kd.R Kd.string 28 w' base ok v' (Lib.compactUpTo l.toArray l.toArray.size) ∧ Below base w0 w' := by
  by_cases hl : l = []
  · subst hl
    obtain ⟨A, c, rfl, hc, _⟩ := Kd.R_reads ho
    have HO := Aside0.mk ho; have HB := Aside0.mk hb
    clear ho hb
    simp only [List.length_nil]
    go_enter Try.func52, Try.ntmps52
    go_wp2
    go_ret
    exact ⟨_, rfl, HO.out, HB.out⟩
  · obtain ⟨g, cap, cur, rfl, hg, hk, hh, h2, h3, h4, h5⟩ := R_scalar_open ho hl
    have hc := AnyE.slices_Compact layCompactId Value.string (fun _ => rfl) eqlB neqB (⟨#[]⟩ : ByteArray) (Try.zeroValue28) g 0 cap l.toArray w (holds_of_cells hh h5) (by simp; omega) (by simpa using h2)
    have hs : l.toArray.size = l.length := by simp
    rw [hs] at hc ⊢
    refine hc.mono ?_
    rintro e w' ⟨rfl, q, rfl⟩
    have hlen : (Lib.compactUpTo l.toArray l.length).length ≤ l.length := by
      unfold Lib.compactUpTo
      rw [List.length_map]
      exact Nat.le_trans (List.length_filter_le _ _) (by simp)
    generalize Lib.compactUpTo l.toArray l.length = m at hlen ⊢
    rw [show Sort.putRow Value.string (Sort.ahead w q) g 0 (m ++ List.replicate (l.length - m.length) (⟨#[]⟩ : ByteArray)).toArray = Sort.grow (Sort.putRow Value.string (Sort.ahead w q) g 0 (m ++ List.replicate (l.length - m.length) (⟨#[]⟩ : ByteArray)).toArray) #[] from (Sort.grow_empty _).symm]
    refine ⟨_, rfl, ?_, below_put _ hb hg hbase⟩
    exact R_scalar_mk hg hk (heap_put _ hh) (by omega) h3 (by rw [put_size, h4]) (put_take cur m _ (by omega))

def id_Union.f (l0 : List ByteArray) (l1 : List ByteArray) : Option (List ByteArray) := if l0.length + l1.length < 8796093022208 then some (unionB (l0 ++ l1)) else none
set_option maxHeartbeats 1600000 in
set_option maxRecDepth 100000 in
theorem id_Union.calls (A0 : Option Addr) (c0 : Nat) (l0 : List ByteArray) (A1 : Option Addr) (c1 : Nat) (l1 : List ByteArray) (r : List ByteArray) (w : World) (hr0 : Kd.C Kd.string w A0 l0.length l0) (hc0 : l0.length ≤ c0) (hr1 : Kd.C Kd.string w A1 l1.length l1) (hc1 : l1.length ≤ c1) (h : id_Union.f l0 l1 = some r) :
    Calls Try.prog 39 #[.slice A0 l0.length c0, .slice A1 l1.length c1] w fun e w' => ∃ v0_ : Value, e = .returned (v0_) ∧ Kd.R Kd.string 28 w' w.heap.size (fun _ => True) v0_ r ∧ Below w.heap.size w w' := by
  have hlim : l0.length + l1.length < 8796093022208 := by
    by_cases hx : l0.length + l1.length < 8796093022208
    · exact hx
    · rw [id_Union.f, if_neg hx] at h; cases h
  have hr : unionB (l0 ++ l1) = r := by rw [id_Union.f, if_pos hlim] at h; exact Option.some.inj h
  have HR := Aside0.mk hr
  clear hr h
  have hcon := fun (W : World) (hW : W = w.alloc (.cells #[.slice A0 l0.length c0, .slice A1 l1.length c1] 43)) => idc_concat w.heap.size A0 A1 c0 c1 l0 l1 W (by rw [hW]; simp [World.alloc, -World.alloc_eq]) (by rw [hW]; exact Kd.C_below hr0 (below_alloc (Below.refl _ _) _)) hc0 (by rw [hW]; exact Kd.C_below hr1 (below_alloc (Below.refl _ _) _)) hc1 (by omega)
  have HCON := Aside0.mk (hcon _ rfl)
  clear hcon hr0 hr1
  have HL := Aside0.mk hlim
  clear hlim
  go_enter Try.func39, Try.ntmps39
  go_wp2_with fail
  refine HCON.out.mono ?_
  rintro e w1 ⟨v1, rfl, ho1, hb1⟩
  have hsz : (w.alloc (.cells #[.slice A0 l0.length c0, .slice A1 l1.length c1] 43)).heap.size = w.heap.size + 1 := by simp
  have hbb : Below w.heap.size w w1 := below_step (below_alloc (Below.refl _ _) _) hb1
  have HO := Aside0.mk (Kd.R_lower ho1 (by rw [hsz]; omega : w.heap.size ≤ _))
  have HB := Aside0.mk hbb
  clear ho1 hb1 hbb hsz HCON
  go_wp2_with fail
  refine (sort_own w w1 w.heap.size v1 (l0 ++ l1) _ HO.out HB.out HB.out.size (by have := HL.out; simp; omega)).mono ?_
  rintro e w2 ⟨rfl, ho2, hb2⟩
  have HO2 := Aside0.mk ho2
  have HB2 := Aside0.mk hb2
  clear ho2 hb2 HO HB
  go_wp2_with fail
  refine (compact_own w w2 w.heap.size v1 (sortB (l0 ++ l1)) _ HO2.out HB2.out HB2.out.size (by have := HL.out; simp [sortB]; omega)).mono ?_
  rintro e w3 ⟨v3, rfl, ho3, hb3⟩
  have HO3 := Aside0.mk ho3
  have HB3 := Aside0.mk hb3
  clear ho3 hb3 HO2 HB2
  go_wp2_with fail
  go_ret
  exact ⟨_, rfl, HR.out ▸ HO3.out, HB3.out⟩

/-! ### cert_Live: function 21 -/
set_option maxHeartbeats 1600000 in
set_option maxRecDepth 100000 in
theorem crt_index (A0 : Option Addr) (c0 : Nat) (l0 : List ByteArray) (cb : Value) (p : ByteArray → Bool) (w : World) (hr0 : Kd.C Kd.string w A0 l0.length l0)
    (hp : ∀ (x : ByteArray) (W : World), x ∈ l0 → Below w.heap.size w W → Calls Try.prog 40 #[.string x, cb] W fun e w' => e = .returned (.bool (p x)) ∧ Below W.heap.size W w') :
    Calls Try.prog 49 #[.slice A0 l0.length c0, .func (.func 40) #[] #[cb]] w fun e w' => e = .returned (.int .i64 (idxI p l0)) ∧ Below w.heap.size w w' := by
  have hlen := hr0.2.1
  have HR0 := Aside0.mk hr0
  have HP := Aside0.mk hp
  clear hr0 hp
  have HF := Aside0.mk (fun i hi hn h => idxI_found p ByteArray.empty l0 i hi hn h)
  have HN := Aside0.mk (fun hn => idxI_none p ByteArray.empty l0 hn)
  generalize idxI p l0 = r at *
  generalize hn : l0.length = n at *
  have HL := Aside0.mk hn
  clear hn
  have HB := Aside0.mk (Below.refl w.heap.size w)
  have hut := Try.underlying28
  go_enter Try.func49, Try.ntmps49
  go_wp2
  go_loopw [8] (fun vi wr => ∃ i : Nat, vi = .int .i64 i ∧ i ≤ n ∧ Aside0 (∀ j, j < i → p (l0.getD j ByteArray.empty) = false) ∧ Aside0 (Below w.heap.size w wr)) (fun vi _ => n - (intOf vi).toNat)
  case atStart => exact ⟨0, rfl, Nat.zero_le _, ⟨fun j hj => absurd hj (Nat.not_lt_zero _)⟩, HB⟩
  case round =>
    clear HB
    obtain ⟨i, rfl, hin, HA, HB⟩ := hrel
    by_cases hlt : i < n
    · obtain ⟨ad, hA, hx0⟩ := Kd.at_string HR0.out (i : Int) (by omega) (by omega)
      obtain rfl := hA
      have pm := eq_true (show (0 : Int) ≤ (i : Int) by omega)
      have qm := eq_true (show (i : Int) < (n : Int) by omega)
      replace hx0 := (HB.out.cell (World.block_lt_of_cell? w _ hx0)).trans hx0
      have hel : rdOf ByteArray.empty l0 (i : Int) = l0.getD i ByteArray.empty := rfl
      simp only [Int.toNat_natCast, hel] at hx0
      have HK := Aside0.mk (HP.out (l0.getD i ByteArray.empty)  wr (by rw [← List.getElem_eq_getD (h := by have := HL.out; omega)]; exact List.getElem_mem _) HB.out)
      by_cases hpx : p (l0.getD i ByteArray.empty) = true
      · have HRES := Aside0.mk (HF.out i (by have := HL.out; omega) HA.out hpx)
        rw [hpx] at HK
        clear hel hpx
        go_wp2_with fail
        refine HK.out.mono ?_
        rintro e w' ⟨rfl, hb1⟩
        have HB1 := Aside0.mk (below_step HB.out hb1)
        clear hb1
        go_wp2_with fail
        go_ret
        exact ⟨by rw [HRES.out]; rfl, HB1.out⟩
      · have hpf : p (l0.getD i ByteArray.empty) = false := by simpa using hpx
        rw [hpf] at HK
        have HPF := Aside0.mk hpf
        clear hel hpx hpf
        go_wp2_with fail
        refine HK.out.mono ?_
        rintro e w' ⟨rfl, hb1⟩
        have HB1 := Aside0.mk (below_step HB.out hb1)
        clear hb1
        go_wp2_with fail
        go_roundw
        case rel => exact ⟨i + 1, by go_num, by omega, ⟨fun j hj => by
          by_cases e : j = i
          · subst e; exact HPF.out
          · exact HA.out j (by omega)⟩, HB1⟩
        case measure => simp [intOf]; omega
    · have hge : decide ((i : Int) < (n : Int)) = false := by simp; omega
      have HRES := Aside0.mk (HN.out (fun j hj => HA.out j (by have := HL.out; omega)))
      go_wp2_with fail
      go_ret
      exact ⟨by rw [HRES.out]; rfl, HB.out⟩

theorem crt_put2 {w : World} {base g n cap e : Nat} {ok : Nat → Prop} {xs : List ByteArray} (h : Kd.R Kd.string e w base ok (.slice (some ⟨g, 0, none⟩) n cap) xs) (i : Int) (x : ByteArray) : Kd.R Kd.string e (w.setCell ⟨g, i.toNat, none⟩ (.string x)) base ok (.slice (some ⟨g, 0, none⟩) n cap) (xs.set i.toNat x) ∧ w.grownBy (w.setCell ⟨g, i.toNat, none⟩ (.string x)) (some g) := by
  obtain ⟨rfl, _⟩ := Kd.R_reads' h
  exact Kd.R_put h i x
set_option maxHeartbeats 3200000 in
set_option maxRecDepth 100000 in
theorem crt_delete (w : World) (base : Nat) (ok : Nat → Prop) (v : Value) (l : List ByteArray) (cb : Value) (p : ByteArray → Bool) (ho : Kd.R Kd.string 28 w base ok v l) (hbase : base ≤ w.heap.size)
    (hp : ∀ (x : ByteArray) (W : World), x ∈ l → Below base w W → Calls Try.prog 40 #[.string x, cb] W fun e w' => e = .returned (.bool (p x)) ∧ Below W.heap.size W w') :
    Calls Try.prog 38 #[v, .func (.func 40) #[] #[cb]] w fun e w' => ∃ v' : Value, e = .returned v' ∧ Kd.R Kd.string 28 w' base ok v' (l.filter fun x => !p x) ∧ Below base w w' := by
  obtain ⟨A, c, rfl, hlc, hC⟩ := Kd.R_reads ho
  have hix := crt_index A c l cb p w hC (fun x  W hx hW => hp x  W hx ⟨hW.os, hW.tape, hW.output, by have := hW.size; omega, fun k hk => hW.block k (by omega)⟩)
  have hle := idxP_le p l
  have HIX := Aside0.mk hix
  have HP := Aside0.mk hp
  have HO := Aside0.mk ho
  clear hix hp hC
  obtain ⟨i0, hi0⟩ : ∃ i0, idxP p l = i0 := ⟨_, rfl⟩
  have hut := Try.underlying28
  by_cases hlt : i0 < l.length
  · have hq : idxI p l = (i0 : Int) := by unfold idxI; rw [hi0, if_pos hlt]
    rw [hq] at HIX
    have hq1 : ((i0 : Int) == -1) = false := by rw [beq_eq_false_iff_ne]; omega
    have hne : l ≠ [] := fun e => by rw [e] at hlt; simp at hlt
    obtain ⟨g, cap, cur, ev, hg, hk, hh, h2, h3, h4, hpp⟩ := R_open ho hne
    injection ev with eA _ ec
    subst eA; subst ec
    clear hh h4 hpp ho hq
    have hw1 : IntKind.i64.wrap ((i0 : Int) + 1) = (i0 : Int) + 1 := by
      have : maxLen = 9223372036854775807 := rfl
      rw [IntKind.wrap_i64] <;> omega
    go_enter Try.func38, Try.ntmps38
    go_wp2_with fail
    refine HIX.out.mono ?_
    rintro e w1 ⟨rfl, hb1⟩
    have HO1 := Aside0.mk (Kd.R_below HO.out hb1)
    have HB1 := Aside0.mk (below_then (Below.refl base w) hbase hb1)
    clear hb1 HO HIX
    go_wp2_with fail
    have HS := Aside0.mk (del_start p ByteArray.empty l (by rw [hi0]; exact hlt))
    rw [hi0] at HS
    generalize hn : l.length = n at *
    have HL := Aside0.mk hn
    clear hn hi0 hq1 hw1
    have hmax : maxLen = 9223372036854775807 := rfl
    go_loopw [5, 6] (fun vi vj wr => ∃ (i j : Nat) (L : List ByteArray), vi = .int .i64 i ∧ vj = .int .i64 j ∧ i < j ∧ j ≤ n ∧ Aside0 (L.length = n) ∧ Aside0 (L.take i = (l.take j).filter (fun x => !p x)) ∧ Aside0 (L.drop j = l.drop j) ∧ Aside0 (Kd.R Kd.string 28 wr base ok (.slice (some ⟨g, 0, none⟩) n c) L) ∧ Aside0 (Below base w wr)) (fun _ vj _ => n - (intOf vj).toNat)
    case atStart => exact ⟨i0, i0 + 1, l, rfl, by go_num, by omega, by omega, HL, HS, ⟨rfl⟩, HO1, HB1⟩
    case round =>
      clear HS HO1 HB1
      obtain ⟨i, j, L, rfl, rfl, hij, hjn, HLL, HT, HD, HO, HB⟩ := hrel
      by_cases hj : j < n
      · have hC := (Kd.R_reads' HO.out).2.2
        obtain ⟨ad, hA, hx0⟩ := Kd.at_string hC (j : Int) (by omega) (by have := HLL.out; omega)
        injection hA with hA
        subst hA
        have pm := eq_true (show (0 : Int) ≤ (j : Int) by omega)
        have qm := eq_true (show (j : Int) < (n : Int) by omega)
        have hel : rdOf ByteArray.empty L (j : Int) = l.getD j ByteArray.empty := drop_get ByteArray.empty HD.out (by have := HL.out; omega)
        simp only [Int.toNat_natCast, hel, Addr.add_lit, Nat.zero_add] at hx0
        clear hC
        have HMEM := Aside0.mk (show l.getD j ByteArray.empty ∈ l by rw [← List.getElem_eq_getD (h := by have := HL.out; omega)]; exact List.getElem_mem _)
        generalize hx : l.getD j ByteArray.empty = x at hx0 hel HMEM
        have HX := Aside0.mk hx
        clear hx hel
        go_wp2_with fail
        have HK := Aside0.mk (HP.out x  _ HMEM.out HB.out)
        by_cases hpx : p x = true
        · rw [hpx] at HK
          have HPX := Aside0.mk hpx
          clear hpx
          refine HK.out.mono ?_
          rintro e w' ⟨rfl, hb1⟩
          have HB1 := Aside0.mk (below_then HB.out (below_size' HB.out hbase) hb1)
          have HO1 := Aside0.mk (Kd.R_below HO.out hb1)
          clear hb1
          go_wp2_with fail
          go_roundw
          case rel => exact ⟨i, j + 1, L, rfl, by go_num, by omega, by omega, HLL, ⟨del_skip p ByteArray.empty HT.out (by have := HL.out; omega) (by rw [HX.out]; exact HPX.out)⟩, ⟨drop_succ_eq HD.out⟩, HO1, HB1⟩
          case measure => simp [intOf]; omega
        · have hpf : p x = false := by simpa using hpx
          rw [hpf] at HK
          have HPX := Aside0.mk hpf
          clear hpx hpf
          refine HK.out.mono ?_
          rintro e w' ⟨rfl, hb1⟩
          have HB1 := Aside0.mk (below_then HB.out (below_size' HB.out hbase) hb1)
          have HO1 := Aside0.mk (Kd.R_below HO.out hb1)
          clear hb1
          have hin : i < n := by omega
          have pi := eq_true (show (0 : Int) ≤ (i : Int) by omega)
          have qi := eq_true (show (i : Int) < (n : Int) by omega)
          obtain ⟨gI, capI, curI, evI, _, _, hhI, _, _, _, _⟩ := R_open HO1.out (fun e => by have := HLL.out; rw [e] at this; simp at this; omega)
          injection evI with eA eN eC
          clear eN eC
          injection eA with eA
          injection eA with eA
          subst eA
          obtain ⟨adI, hAI, hy0⟩ := Kd.at_string (Kd.R_reads' HO1.out).2.2 (i : Int) (by omega) (by have := HLL.out; omega)
          injection hAI with hAI
          subst hAI
          simp only [Int.toNat_natCast, Addr.add_lit, Nat.zero_add] at hy0
          have hz0 : w'.frozen? ⟨g, i, none⟩ = false := blk_frozen hhI _
          have hres := crt_put2 HO1.out (i : Int) x
          rw [Int.toNat_natCast] at hres
          have HR := Aside0.mk hres.1
          have HG := Aside0.mk (HB1.out.grown hres.2 (below_size' HB1.out hbase) (fun k e => by injection e with e; omega))
          clear hres hhI
          go_wp2_with fail
          go_roundw
          case rel => exact ⟨i + 1, j + 1, L.set i x, by go_num, by go_num, by omega, by omega, ⟨by rw [List.length_set]; exact HLL.out⟩, ⟨by rw [← HX.out]; exact del_keep p ByteArray.empty HT.out (by have := HL.out; omega) (by have := HLL.out; omega) (by rw [HX.out]; exact HPX.out)⟩, ⟨del_drop x HD.out hij⟩, HR, HG⟩
          case measure => simp [intOf]; omega
      · have hge : decide ((j : Int) < (n : Int)) = false := by simp; omega
        have hjj : j = n := by omega
        obtain ⟨i1, hi1, hz1, hsz1, hby1⟩ := info_parts info28
        obtain ⟨gI, capI, curI, evI, hgI, hkI, hhI, h2I, h3I, h4I, hpI⟩ := R_open HO.out (fun e => by have := HLL.out; rw [e] at this; simp at this; omega)
        injection evI with eA eN eC
        clear eN
        injection eA with eA
        injection eA with eA
        subst eA; subst eC
        rw [HLL.out] at h2I
        have hin : i < n := by omega
        have c1 : ∀ W : World, (Instr.slice 43 (.slice (some ⟨g, 0, none⟩) n c) (some (.int .i64 (i : Int))) none none).run Try.prog W = .ok (.slice (some ⟨g, i, none⟩) (n - i) (c - i)) W := by
          intro W
          rw [cut_from (P := Try.prog) 43 28 .i64 Try.underlying43 hi1 1 hsz1 (some ⟨g, 0, none⟩) n c (i : Int) (by omega) (by omega) W, Int.toNat_natCast, if_neg (by omega), Option.map_some, Addr.add_lit, Nat.zero_add, Nat.mul_one]
        have c2 := cut_to (P := Try.prog) 43 28 .i64 Try.underlying43 hi1 (some ⟨g, 0, none⟩) n c (i : Int) (by omega) (by omega) h2I
        rw [Int.toNat_natCast] at c2
        have hcl := fun ty => run_clear_k (P := Try.prog) wr 43 28 ty _ [.string ⟨#[]⟩] Try.underlying43 Try.zeroValue28 rfl (by decide) (by decide) g (i) (n - i) (c - i) (by omega) (fun q hq => by
          have hq' : q < (n - i) * 1 := hq
          rw [blk_cell hhI, Array.getElem?_eq_getElem (by have h4' : curI.size = c * 1 := h4I; omega)]; rfl) (fun q _ => blk_frozen hhI _)
        have hfin := R_cut_clear (d := Kd.string) (i := i) hgI hkI hhI (by rw [HLL.out]; exact h2I) h3I h4I hpI (by rw [HLL.out]; omega) (List.replicate (n - i) ([.string ⟨#[]⟩] : List Value)).flatten (by
          have h4' : curI.size = c * 1 := h4I
          have hl : ((List.replicate (n - i) ([.string ⟨#[]⟩] : List Value)).flatten).length = (n - i) * 1 := by simp
          rw [hl]
          show i * 1 + _ ≤ _
          omega)
        generalize (List.replicate (n - i) ([.string ⟨#[]⟩] : List Value)).flatten = vs at hcl hfin
        have HR := Aside0.mk (show Kd.R Kd.string 28 (wr.setCells g (i) vs) base ok (.slice (some ⟨g, 0, none⟩) i c) (l.filter fun x => !p x) from by
          have h := hfin.1
          rw [show i * Kd.string.sz = i from Nat.mul_one i] at h
          rw [HT.out, hjj, List.take_of_length_le (by have := HL.out; omega)] at h
          exact h)
        have HG := Aside0.mk (show Below base w (wr.setCells g (i) vs) from by
          have h := hfin.2
          rw [show i * Kd.string.sz = i from Nat.mul_one i] at h
          exact HB.out.grown h (below_size' HB.out hbase) (fun k e => by injection e with e; omega))
        clear hfin hhI hpI h4I
        go_wp2
        go_ret
        exact ⟨_, rfl, HR.out, HG.out⟩
  · have hq : idxI p l = -1 := by unfold idxI; rw [hi0, if_neg hlt]
    have HF := Aside0.mk (filter_none p l (by omega))
    rw [hq] at HIX
    clear hq hi0 hlt hle hlc ho
    go_enter Try.func38, Try.ntmps38
    go_wp2_with fail
    refine HIX.out.mono ?_
    rintro e w1 ⟨rfl, hb1⟩
    have HO1 := Aside0.mk (Kd.R_below HO.out hb1)
    have HB1 := Aside0.mk (below_then (Below.refl base w) hbase hb1)
    clear hb1 HO HIX
    go_wp2_with fail
    go_ret
    exact ⟨_, rfl, by rw [HF.out]; exact HO1.out, HB1.out⟩

set_option maxHeartbeats 800000 in
set_option maxRecDepth 100000 in
theorem crt_pred (x : ByteArray) (B : Nat) (A1 : Option Addr) (c1 : Nat) (l1 : List S59) (b : Bool) (W : World) (hr1 : Kd.C k59 W A1 l1.length l1) (hc1 : l1.length ≤ c1) (h : cert_Gone.f l1 x = some b) (hB : W.heap[B]? = some (.cells #[.slice A1 l1.length c1] 25 (0, 0))) :
    Calls Try.prog 40 #[.string x, .pointer (some ⟨B, 0, none⟩)] W fun e w' => e = .returned (.bool b) ∧ Below W.heap.size W w' := by
  have HB := Aside0.mk (Below.refl W.heap.size W)
  have HC := Aside0.mk (cert_Gone.calls A1 c1 l1 x b W hr1 hc1 h)
  have hc0 : W.cell? ⟨B, 0, none⟩ = some (.slice A1 l1.length c1) := (blk_cell hB 0).trans rfl
  clear hB hr1 hc1 h
  go_enter Try.func40, Try.ntmps40
  go_wp2_with fail
  refine HC.out.mono ?_
  rintro e w1 ⟨rfl, hb1⟩
  have HB1 := Aside0.mk (below_step HB.out hb1)
  clear hb1
  go_wp2_with fail
  go_ret
  exact ⟨rfl, HB1.out⟩
def cert_Live.f (l0 : List ByteArray) (l1 : List S59) : Option (List ByteArray) := (id_Union.f l0 []).bind fun u => if (u.all fun x => (cert_Gone.f l1 x).isSome) = true then some (u.filter fun x => !((cert_Gone.f l1 x).getD false)) else none
set_option maxHeartbeats 800000 in
set_option maxRecDepth 100000 in
theorem cert_Live.calls (A0 : Option Addr) (c0 : Nat) (l0 : List ByteArray) (A1 : Option Addr) (c1 : Nat) (l1 : List S59) (r : List ByteArray) (w : World) (hr0 : Kd.C Kd.string w A0 l0.length l0) (hc0 : l0.length ≤ c0) (hr1 : Kd.C k59 w A1 l1.length l1) (hc1 : l1.length ≤ c1) (h : cert_Live.f l0 l1 = some r) :
    Calls Try.prog 21 #[.slice A0 l0.length c0, .slice A1 l1.length c1] w fun e w' => ∃ v0_ : Value, e = .returned (v0_) ∧ Kd.R Kd.string 28 w' w.heap.size (fun _ => True) v0_ r ∧ Below w.heap.size w w' := by
  obtain ⟨u, hu, h2⟩ := Option.bind_eq_some_iff.mp h
  have hall : ∀ x ∈ u, (cert_Gone.f l1 x).isSome = true := by
    by_cases hx : (u.all fun x => (cert_Gone.f l1 x).isSome) = true
    · exact List.all_eq_true.mp hx
    · rw [if_neg hx] at h2; cases h2
  have hr : (u.filter fun x => !((cert_Gone.f l1 x).getD false)) = r := by
    rw [if_pos (List.all_eq_true.mpr hall)] at h2; exact Option.some.inj h2
  have HR := Aside0.mk hr
  have HCU := Aside0.mk (fun (W : World) (hW : Below w.heap.size w W) => id_Union.calls A0 c0 l0 none 0 [] u W (Kd.C_below hr0 hW) hc0 (Kd.C_nil _ _) (Nat.zero_le _) hu)
  have HP := Aside0.mk (fun (x : ByteArray) (W : World) (hx : x ∈ u) (hW : Below w.heap.size w W) (hb : W.heap[w.heap.size]? = some (.cells #[.slice A1 l1.length c1] 25 (0, 0))) => (show Calls Try.prog 40 #[.string x, .pointer (some ⟨w.heap.size, 0, none⟩)] W fun e w' => e = .returned (.bool ((cert_Gone.f l1 x).getD false)) ∧ Below W.heap.size W w' from by
    obtain ⟨n, hn⟩ := Option.isSome_iff_exists.mp (hall x hx)
    have := crt_pred x w.heap.size A1 c1 l1 n W (Kd.C_below hr1 hW) hc1 hn hb
    rw [hn]; exact this))
  have HB := Aside0.mk (below_alloc (Below.refl w.heap.size w) (.cells #[.slice A1 l1.length c1] 25))
  have BK := Aside0.mk (blk_new w (.cells #[.slice A1 l1.length c1] 25))
  clear hr h h2 hu hall hr0 hc0 hr1
  go_enter Try.func21, Try.ntmps21
  go_wp2_with fail
  refine (HCU.out _ HB.out).mono ?_
  rintro e w1 ⟨v1, rfl, ho1, hb1⟩
  have HO := Aside0.mk ho1
  have BK1 := Aside0.mk (blk_below BK.out hb1)
  have HB1 := Aside0.mk (below_step HB.out hb1)
  have hsz : (w.alloc (.cells #[.slice A1 l1.length c1] 25)).heap.size = w.heap.size + 1 := by simp
  have hz1 : w.heap.size + 1 ≤ w1.heap.size := by rw [← hsz]; exact hb1.size
  rw [hsz] at HO
  have HZ := Aside0.mk hz1
  clear ho1 hb1 hsz hz1 HCU
  go_wp2_with fail
  refine (crt_delete w1 (w.heap.size + 1) (fun _ => True) v1 u (.pointer (some ⟨w.heap.size, 0, none⟩)) (fun x => (cert_Gone.f l1 x).getD false) HO.out HZ.out (fun x W hx hW => HP.out x W hx (HB1.out.trans ⟨hW.os, hW.tape, hW.output, hW.size, fun k hk => hW.block k (by omega)⟩) ((hW.block _ (by omega)).trans BK1.out))).mono ?_
  rintro e w2 ⟨v2, rfl, ho2, hb2⟩
  have HO2 := Aside0.mk (Kd.R_lower ho2 (show w.heap.size ≤ w.heap.size + 1 by omega))
  have HB2 := Aside0.mk (HB1.out.trans ⟨hb2.os, hb2.tape, hb2.output, hb2.size, fun k hk => hb2.block k (by omega)⟩)
  clear ho2 hb2
  go_wp2_with fail
  go_ret
  exact ⟨_, rfl, by rw [← HR.out]; exact HO2.out, HB2.out⟩

end Go.Proofs.Ytloeealbggobjaa.P
