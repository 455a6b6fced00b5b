-- Written by a program of this session (wip/pp.py over the kit's printer, with our own texts put in).
import Derived.Test.YtoodahceejdbcaaP0
namespace Go.Proofs.Ytoodahceejdbcaa.P
open Go.RowKit Go.Proofs.YtoodahceejdbcaaW.PrintWords Go.Proofs.YtoodahceejdbcaaW.PrintLast Go.Proofs.YtoodahceejdbcaaW.PrintMore
attribute [local go_sem] max2_int min2_int max_two min_two max_three min_three max_four min_four   -- for this text's walks alone
set_option linter.unusedVariables false
set_option linter.unusedSimpArgs false

/-! ### bytealg_CompareString: function 79 -/
def bytealg_CompareString.f (a0 : ByteArray) (a1 : ByteArray) : Option Int := some (Lib.compareBytes a0.data.toList a1.data.toList)
set_option maxHeartbeats 800000 in
set_option maxRecDepth 100000 in
theorem bytealg_CompareString.calls (a0 : ByteArray) (a1 : ByteArray) (r : Int) (w : World) (h : bytealg_CompareString.f a0 a1 = some r) :
  Calls Try.prog 79 #[.string a0, .string a1] w fun e w' => e = .returned (.int .i64 r) ∧ Drawn0 w w' := by
 have HR := Aside0.mk (show Lib.compareBytes a0.data.toList a1.data.toList = r from Option.some.inj h)
 clear h
 go_enter Try.func79, Try.ntmps79
 go_wp2
 rw [run_callFunc_extern Try.func82 (by kernel_rfl) (by kernel_rfl) (by kernel_rfl) (e := Extern.BytealgCompare.compare) (by kernel_rfl), Lib.run_compareString, HR.out]
 simp only [Result.andThen]
 rw [Oper.upon_value]
 go_wp2
 go_ret
 exact ⟨rfl, Drawn0.refl _⟩

/-! ### strings_Compare: function 74 -/
def strings_Compare.f (a0 : ByteArray) (a1 : ByteArray) : Option (Int) := (bytealg_CompareString.f a0 a1).bind fun t101 => (some t101)
set_option maxHeartbeats 8000000 in
set_option maxRecDepth 100000 in
theorem strings_Compare.calls (a0 : ByteArray) (a1 : ByteArray) (r : Int) (w : World) (h : strings_Compare.f a0 a1 = some r) :
    Calls Try.prog 74 #[.string a0, .string a1] w fun e w' => e = .returned (.int .i64 r) ∧ Drawn0 w w' := by
  have H : ((bytealg_CompareString.f a0 a1).bind fun t101 => (some t101)) = some r := h
  clear h
  replace H := Option.bind_eq_some_iff.mp H
  obtain ⟨t101, A30, H⟩ := H
  have A3 := Aside0.mk A30
  clear A30
  obtain rfl := Option.some.inj H
  go_enter Try.func74, Try.ntmps74
  go_wp2_with (first | ((with_reducible refine gate_callee (f := 79) rfl ?_); refine goesL_ (some 7) rfl rfl Try.func79 (by kernel_rfl) rfl #[.string a0, .string a1] rfl (by (try simp only [List.map_toArray, List.map_cons, List.map_nil]); first | done | rfl | (simp only [List.length_drop, List.length_take]; rfl)) ?_; (with_reducible refine (bytealg_CompareString.calls a0 a1 t101 _ A3.out).mono ?_); rintro e w' ⟨rfl, ⟨nd, rfl⟩⟩; refine ⟨_, rfl, ?_⟩))
  go_ret
  exact ⟨by first | rfl | (simp; done) | (simp [*]; done), by repeat (first | exact Drawn0.refl _ | apply Drawn0.step)⟩

/-! ### id_Compare: function 62 -/
def id_Compare.f (a0 : ByteArray) (a1 : ByteArray) : Option (Int) := (strings_Compare.f a0 a1).bind fun t102 => (some t102)
set_option maxHeartbeats 8000000 in
set_option maxRecDepth 100000 in
theorem id_Compare.calls (a0 : ByteArray) (a1 : ByteArray) (r : Int) (w : World) (h : id_Compare.f a0 a1 = some r) :
    Calls Try.prog 62 #[.string a0, .string a1] w fun e w' => e = .returned (.int .i64 r) ∧ Drawn0 w w' := by
  have H : ((strings_Compare.f a0 a1).bind fun t102 => (some t102)) = some r := h
  clear h
  replace H := Option.bind_eq_some_iff.mp H
  obtain ⟨t102, A30, H⟩ := H
  have A3 := Aside0.mk A30
  clear A30
  obtain rfl := Option.some.inj H
  go_enter Try.func62, Try.ntmps62
  go_wp2_with (first | ((with_reducible refine gate_callee (f := 74) rfl ?_); refine goesL_ (some 7) rfl rfl Try.func74 (by kernel_rfl) rfl #[.string a0, .string a1] rfl (by (try simp only [List.map_toArray, List.map_cons, List.map_nil]); first | done | rfl | (simp only [List.length_drop, List.length_take]; rfl)) ?_; (with_reducible refine (strings_Compare.calls a0 a1 t102 _ A3.out).mono ?_); rintro e w' ⟨rfl, ⟨nd, rfl⟩⟩; refine ⟨_, rfl, ?_⟩))
  go_ret
  exact ⟨by first | rfl | (simp; done) | (simp [*]; done), by repeat (first | exact Drawn0.refl _ | apply Drawn0.step)⟩

/-! ### matrix_order: function 37 -/
set_option maxHeartbeats 800000 in
set_option maxRecDepth 100000 in
theorem matrix_order.raw (s : ByteArray) (A : Option Addr) (n c : Nat) (t : ByteArray) (A' : Option Addr) (n' c' : Nat) (r : Int) (W : World) (hr : cmpB s t = r) :
  Calls Try.prog 37 #[.agg #[.string s, .slice A n c], .agg #[.string t, .slice A' n' c']] W fun e w' => e = .returned (.int .i64 r) ∧ Below W.heap.size W w' := by
 have hu := Try.underlying50
 have hc := fun (W : World) => id_Compare.calls s t r W (by rw [← hr]; rfl)
 have HC := Aside0.mk hc
 clear hc hr
 have HB := Aside0.mk (below_alloc (below_alloc (Below.refl W.heap.size W) (.cells #[.string s, .slice A n c] 50)) (.cells #[.string t, .slice A' n' c'] 50))
 have BK0 := Aside0.mk (blk_alloc (blk_new W (.cells #[.string s, .slice A n c] 50)) (.cells #[.string t, .slice A' n' c'] 50))
 have BK1 := Aside0.mk (blk_new (W.alloc (.cells #[.string s, .slice A n c] 50)) (.cells #[.string t, .slice A' n' c'] 50))
 have e : (W.alloc (.cells #[.string s, .slice A n c] 50)).heap.size = W.heap.size + 1 := Array.size_push _
 rw [e] at BK1
 clear e
 go_enter Try.func37, Try.ntmps37
 go_upto_region 1 with fail
 generalize (W.alloc _).alloc _ = w1 at BK0 BK1 HB ⊢
 have hc0 : w1.cell? ⟨W.heap.size, 0, none⟩ = some (.string s) := (blk_cell BK0.out 0).trans rfl
 have hc1 : w1.cell? ⟨W.heap.size + 1, 0, none⟩ = some (.string t) := (blk_cell BK1.out 0).trans rfl
 go_wp2_with fail
 refine (HC.out _).mono ?_
 rintro e w' ⟨rfl, hb⟩
 have HB1 := Aside0.mk (below_step HB.out hb.below)
 clear hb
 go_wp2_with fail
 go_ret
 exact ⟨rfl, HB1.out⟩

/-! ### matrix_find: function 49 -/
set_option maxHeartbeats 1600000 in
set_option maxRecDepth 100000 in
theorem matf_bsearch (A0 : Option Addr) (c0 : Nat) (l0 : List RW) (a1 : ByteArray) (w : World) (hr0 : Kd.C kRW w A0 l0.length l0) (hlim : l0.length ≤ 140737488355328) :
  Calls Try.prog 66 #[.slice A0 l0.length c0, .agg #[.string a1, .slice none 0 0], .func (.func 37) #[] #[]] w fun e w' => e = .returned (.tuple #[.int .i64 (bsN (fun i => cmpB (l0.getD i zRW).f0 a1) l0.length : Nat), .bool (bsB (fun i => cmpB (l0.getD i zRW).f0 a1) l0.length)]) ∧ Below w.heap.size w w' := by
 have hlen := hr0.2.1
 have HR0 := Aside0.mk hr0
 clear hr0
 generalize hc : (fun i => cmpB (l0.getD i zRW).f0 a1) = c
 have HCC := Aside0.mk (show ∀ i, cmpB (l0.getD i zRW).f0 a1 = c i from fun i => by rw [← hc])
 clear hc
 generalize hn : l0.length = n at *
 have HR := Aside0.mk (show bsN c n = bsI c (n + 1) 0 n from rfl)
 clear hn
 have HB := Aside0.mk (below_alloc (Below.refl w.heap.size w) (.cells #[.string a1, .slice none 0 0] 50))
 have BK := Aside0.mk (blk_new w (.cells #[.string a1, .slice none 0 0] 50))
 have hut := Try.underlying50
 go_enter Try.func66, Try.ntmps66
 go_wp2
 go_loopw [9, 10, 11] (fun vi vj _ wr => ∃ i j fu : Nat, vi = .int .i64 i ∧ vj = .int .i64 j ∧ i ≤ j ∧ j ≤ n ∧ j - i < fu ∧ Aside0 (bsI c fu i j = bsN c n) ∧ Aside0 (Below w.heap.size w wr) ∧ Aside0 (wr.heap[w.heap.size]? = some (.cells #[.string a1, .slice none 0 0] 50 (0, 0)))) (fun vi vj _ _ => ((intOf vj).toNat - (intOf vi).toNat))
 case atStart => exact ⟨0, n, n + 1, rfl, rfl, Nat.zero_le _, Nat.le_refl _, by omega, ⟨HR.out.symm⟩, HB, BK⟩
 case round =>
  clear HB BK
  obtain ⟨i, j, fu, rfl, rfl, hij, hjn, hfu, HI, HB, BK⟩ := hrel
  by_cases hlt : i < j
  ·obtain ⟨ad, hA, hx0, hx1⟩ := at_RW HR0.out (((i : Int) + (j : Int)) / 2) (by omega) (by omega)
   obtain rfl := hA
   have hw0 := hx0; have hw1 := hx1; replace hx0 := (HB.out.cell (World.block_lt_of_cell? w _ hx0)).trans hx0; replace hx1 := (HB.out.cell (World.block_lt_of_cell? w _ hx1)).trans hx1
   have hm : (((i : Int) + (j : Int)) / 2).toNat = (i + j) / 2 := by omega
   have e2 : cmpB (l0.getD (((i : Int) + (j : Int)) / 2).toNat zRW).f0 a1 = c ((i + j) / 2) := by rw [hm]; exact HCC.out _
   have pm := eq_true (show (0 : Int) ≤ ((i : Int) + (j : Int)) / 2 by omega)
   have qm := eq_true (show ((i : Int) + (j : Int)) / 2 < (n : Int) by omega)
   clear hm
   have hub : bsI c (fu - 1 + 1) i j = if c ((i + j) / 2) < 0 then bsI c (fu - 1) ((i + j) / 2 + 1) j else bsI c (fu - 1) i ((i + j) / 2) := by
    simp only [bsI]; rw [if_pos hlt]
   have HU := Aside0.mk hub
   have hcalls := fun W => matrix_order.raw (rd_RW l0 (((i : Int) + (j : Int)) / 2)).f0 (rd_RW l0 (((i : Int) + (j : Int)) / 2)).A (rd_RW l0 (((i : Int) + (j : Int)) / 2)).n (rd_RW l0 (((i : Int) + (j : Int)) / 2)).c a1 none 0 0 (c ((i + j) / 2)) W e2
   clear hub e2
   have HK := Aside0.mk hcalls
   clear hcalls
   have hfu1 : fu - 1 + 1 = fu := by omega
   have HF := Aside0.mk hfu1
   clear hfu1
   by_cases hneg : c ((i + j) / 2) < 0
   ·have HN := Aside0.mk hneg
    have hdn : decide (c ((i + j) / 2) < 0) = true := decide_eq_true hneg
    generalize hq : c ((i + j) / 2) = q at hdn HK hneg
    have HQ := Aside0.mk hq
    clear hq
    go_wp2_with fail
    refine start_ (n := 8) (S := fun w' => w'.cell? (ad.add ((((i : Int) + (j : Int)) / 2).toNat * 2)) = some (.string (rd_RW l0 (((i : Int) + (j : Int)) / 2)).f0) ∧ w'.cell? ⟨(ad.add ((((i : Int) + (j : Int)) / 2).toNat * 2)).block, (ad.add ((((i : Int) + (j : Int)) / 2).toNat * 2)).off + 1, none⟩ = some (.slice (rd_RW l0 (((i : Int) + (j : Int)) / 2)).A (rd_RW l0 (((i : Int) + (j : Int)) / 2)).n (rd_RW l0 (((i : Int) + (j : Int)) / 2)).c) ∧ w'.cell? ⟨w.heap.size, 0, none⟩ = some (.string a1) ∧ w'.cell? ⟨w.heap.size, 1, none⟩ = some (.slice none 0 0)) (ds := []) #[false, false, false, false, false, false, false, false] (by kernel_rfl) rfl rfl ⟨hx0, hx1, (blk_cell (blk_drew BK.out) 0).trans rfl, (blk_cell (blk_drew BK.out) 1).trans rfl⟩ (fun hHeld => ?_)
    refine p_ 0 24 (mk_ 8 0x1) ?_
    refine p_ 1 25 (mk_ 8 0x3) ?_
    refine p_ 2 26 (mk_ 8 0x7) ?_
    refine p_ 3 27 (mk_ 8 0xf) ?_
    refine t_ 4 28 (mk_ 8 0x1f) hHeld ?_
    refine t_ 5 29 (mk_ 8 0x3f) hHeld ?_
    refine one_ (i := 6) (N := some 30) #[true, true, true, true, true, true, true, false] rfl rfl (by kernel_rfl) (by decide) (fun K hK => ?_)
    refine goesV_ Try.func37 (by kernel_rfl) rfl #[.agg #[.string (rd_RW l0 (((i : Int) + (j : Int)) / 2)).f0, .slice (rd_RW l0 (((i : Int) + (j : Int)) / 2)).A (rd_RW l0 (((i : Int) + (j : Int)) / 2)).n (rd_RW l0 (((i : Int) + (j : Int)) / 2)).c], .agg #[.string a1, .slice none 0 0]] (by rfl) rfl rfl rfl (by (try simp only [List.map_toArray, List.map_cons, List.map_nil]); first | done | rfl) ?_
    refine (HK.out _).mono ?_
    rintro e w' ⟨rfl, hb1⟩
    refine ⟨_, rfl, ?_⟩
    have HB1 := Aside0.mk (below_step (below_drew1 HB.out) hb1)
    have BK1 := Aside0.mk (blk_below (blk_drew BK.out) hb1)
    clear hb1
    refine hK.out _ _ ⟨(HB1.out.cell (World.block_lt_of_cell? w _ hw0)).trans hw0, (HB1.out.cell (World.block_lt_of_cell? w _ hw1)).trans hw1, (blk_cell BK1.out 0).trans rfl, (blk_cell BK1.out 1).trans rfl⟩ (fun hHeld => ?_)
    clear hK K
    refine norm_ (a' := ?_) ?_ ?_
    rotate_left
    ·show Act.put _ (some 30) _ = _
     simp only [Act.put, List.setIfInBounds_toArray, List.set_cons_zero, List.set_cons_succ, i64_w, i32_w]
     rfl
    refine p_ 7 31 (mk_ 8 0xff) ?_
    refine done_ (by kernel_rfl) ?_
    go_wp2_with fail
    go_roundw
    case rel => exact ⟨(i + j) / 2 + 1, j, fu - 1, by go_num, rfl, by omega, hjn, by omega, ⟨by have := HU.out; rw [HF.out, HI.out, if_pos HN.out] at this; exact this.symm⟩, HB1, BK1⟩
    case measure => simp [intOf]; omega
   ·have HN := Aside0.mk hneg
    have hdn : decide (c ((i + j) / 2) < 0) = false := decide_eq_false hneg
    generalize hq : c ((i + j) / 2) = q at hdn HK hneg
    have HQ := Aside0.mk hq
    clear hq
    go_wp2_with fail
    refine start_ (n := 8) (S := fun w' => w'.cell? (ad.add ((((i : Int) + (j : Int)) / 2).toNat * 2)) = some (.string (rd_RW l0 (((i : Int) + (j : Int)) / 2)).f0) ∧ w'.cell? ⟨(ad.add ((((i : Int) + (j : Int)) / 2).toNat * 2)).block, (ad.add ((((i : Int) + (j : Int)) / 2).toNat * 2)).off + 1, none⟩ = some (.slice (rd_RW l0 (((i : Int) + (j : Int)) / 2)).A (rd_RW l0 (((i : Int) + (j : Int)) / 2)).n (rd_RW l0 (((i : Int) + (j : Int)) / 2)).c) ∧ w'.cell? ⟨w.heap.size, 0, none⟩ = some (.string a1) ∧ w'.cell? ⟨w.heap.size, 1, none⟩ = some (.slice none 0 0)) (ds := []) #[false, false, false, false, false, false, false, false] (by kernel_rfl) rfl rfl ⟨hx0, hx1, (blk_cell (blk_drew BK.out) 0).trans rfl, (blk_cell (blk_drew BK.out) 1).trans rfl⟩ (fun hHeld => ?_)
    refine p_ 0 24 (mk_ 8 0x1) ?_
    refine p_ 1 25 (mk_ 8 0x3) ?_
    refine p_ 2 26 (mk_ 8 0x7) ?_
    refine p_ 3 27 (mk_ 8 0xf) ?_
    refine t_ 4 28 (mk_ 8 0x1f) hHeld ?_
    refine t_ 5 29 (mk_ 8 0x3f) hHeld ?_
    refine one_ (i := 6) (N := some 30) #[true, true, true, true, true, true, true, false] rfl rfl (by kernel_rfl) (by decide) (fun K hK => ?_)
    refine goesV_ Try.func37 (by kernel_rfl) rfl #[.agg #[.string (rd_RW l0 (((i : Int) + (j : Int)) / 2)).f0, .slice (rd_RW l0 (((i : Int) + (j : Int)) / 2)).A (rd_RW l0 (((i : Int) + (j : Int)) / 2)).n (rd_RW l0 (((i : Int) + (j : Int)) / 2)).c], .agg #[.string a1, .slice none 0 0]] (by rfl) rfl rfl rfl (by (try simp only [List.map_toArray, List.map_cons, List.map_nil]); first | done | rfl) ?_
    refine (HK.out _).mono ?_
    rintro e w' ⟨rfl, hb1⟩
    refine ⟨_, rfl, ?_⟩
    have HB1 := Aside0.mk (below_step (below_drew1 HB.out) hb1)
    have BK1 := Aside0.mk (blk_below (blk_drew BK.out) hb1)
    clear hb1
    refine hK.out _ _ ⟨(HB1.out.cell (World.block_lt_of_cell? w _ hw0)).trans hw0, (HB1.out.cell (World.block_lt_of_cell? w _ hw1)).trans hw1, (blk_cell BK1.out 0).trans rfl, (blk_cell BK1.out 1).trans rfl⟩ (fun hHeld => ?_)
    clear hK K
    refine norm_ (a' := ?_) ?_ ?_
    rotate_left
    ·show Act.put _ (some 30) _ = _
     simp only [Act.put, List.setIfInBounds_toArray, List.set_cons_zero, List.set_cons_succ, i64_w, i32_w]
     rfl
    refine p_ 7 31 (mk_ 8 0xff) ?_
    refine done_ (by kernel_rfl) ?_
    go_wp2_with fail
    go_roundw
    case rel => exact ⟨i, (i + j) / 2, fu - 1, rfl, by go_num, by omega, by omega, by omega, ⟨by have := HU.out; rw [HF.out, HI.out, if_neg (by have := HN.out; omega)] at this; exact this.symm⟩, HB1, BK1⟩
    case measure => simp [intOf]; omega
  ·have hres : bsN c n = i := by
    rw [← HI.out]
    obtain ⟨f, rfl⟩ : ∃ f, fu = f + 1 := ⟨fu - 1, by omega⟩
    simp only [bsI]; rw [if_neg hlt]
   have HRS := Aside0.mk hres
   clear hres
   have hge : decide ((i : Int) < (j : Int)) = false := by simp; omega
   by_cases hin : i < n
   ·obtain ⟨ad, hA, hx0, hx1⟩ := at_RW HR0.out (i : Int) (by omega) (by omega)
    obtain rfl := hA
    have pm := eq_true (show (0 : Int) ≤ (i : Int) by omega)
    have qm := eq_true (show (i : Int) < (n : Int) by omega)
    have hw0 := hx0; have hw1 := hx1; replace hx0 := (HB.out.cell (World.block_lt_of_cell? w _ hx0)).trans hx0; replace hx1 := (HB.out.cell (World.block_lt_of_cell? w _ hx1)).trans hx1
    have hcalls := fun W => matrix_order.raw (rd_RW l0 (i : Int)).f0 (rd_RW l0 (i : Int)).A (rd_RW l0 (i : Int)).n (rd_RW l0 (i : Int)).c a1 none 0 0 (c i) W (HCC.out i)
    have HK := Aside0.mk hcalls
    clear hcalls
    have hbb : bsB c n = decide (c i = 0) := by unfold bsB; rw [HRS.out, decide_eq_true hin, Bool.true_and]
    have HBB := Aside0.mk hbb
    clear hbb
    have hin2 : decide ((i : Int) < (n : Int)) = true := by simp; omega
    generalize hq : c i = q at HK HBB
    have HQ := Aside0.mk hq
    clear hq
    go_wp2_with fail
    refine start_ (n := 16) (S := fun w' => w'.cell? (ad.add (i * 2)) = some (.string (rd_RW l0 (i : Int)).f0) ∧ w'.cell? ⟨(ad.add (i * 2)).block, (ad.add (i * 2)).off + 1, none⟩ = some (.slice (rd_RW l0 (i : Int)).A (rd_RW l0 (i : Int)).n (rd_RW l0 (i : Int)).c) ∧ w'.cell? ⟨w.heap.size, 0, none⟩ = some (.string a1) ∧ w'.cell? ⟨w.heap.size, 1, none⟩ = some (.slice none 0 0)) (ds := []) #[false, false, false, false, false, false, false, false, false, false, false, false, false, false, false, false] (by kernel_rfl) rfl rfl ⟨hx0, hx1, (blk_cell (blk_drew BK.out) 0).trans rfl, (blk_cell (blk_drew BK.out) 1).trans rfl⟩ (fun hHeld => ?_)
    refine p_ 0 35 (mk_ 16 0x1) ?_
    refine p_ 1 36 (mk_ 16 0x3) ?_
    refine p_ 2 37 (mk_ 16 0x7) ?_
    refine p_ 3 38 (mk_ 16 0xf) ?_
    refine p_ 4 39 (mk_ 16 0x1f) ?_
    refine p_ 5 40 (mk_ 16 0x3f) ?_
    refine p_ 6 41 (mk_ 16 0x7f) ?_
    refine p_ 7 42 (mk_ 16 0xff) ?_
    refine p_ 8 43 (mk_ 16 0x1ff) ?_
    refine t_ 9 44 (mk_ 16 0x3ff) hHeld ?_
    refine t_ 10 45 (mk_ 16 0x7ff) hHeld ?_
    refine one_ (i := 11) (N := some 46) #[true, true, true, true, true, true, true, true, true, true, true, true, false, false, false, false] rfl rfl (by kernel_rfl) (by decide) (fun K hK => ?_)
    refine goesV_ Try.func37 (by kernel_rfl) rfl #[.agg #[.string (rd_RW l0 (i : Int)).f0, .slice (rd_RW l0 (i : Int)).A (rd_RW l0 (i : Int)).n (rd_RW l0 (i : Int)).c], .agg #[.string a1, .slice none 0 0]] (by rfl) rfl rfl rfl (by (try simp only [List.map_toArray, List.map_cons, List.map_nil]); first | done | rfl) ?_
    refine (HK.out _).mono ?_
    rintro e w' ⟨rfl, hb1⟩
    refine ⟨_, rfl, ?_⟩
    have HB1 := Aside0.mk (below_step (below_drew1 HB.out) hb1)
    have BK1 := Aside0.mk (blk_below (blk_drew BK.out) hb1)
    clear hb1
    refine hK.out _ _ ⟨(HB1.out.cell (World.block_lt_of_cell? w _ hw0)).trans hw0, (HB1.out.cell (World.block_lt_of_cell? w _ hw1)).trans hw1, (blk_cell BK1.out 0).trans rfl, (blk_cell BK1.out 1).trans rfl⟩ (fun hHeld => ?_)
    clear hK K
    refine norm_ (a' := ?_) ?_ ?_
    rotate_left
    ·show Act.put _ (some 46) _ = _
     simp only [Act.put, List.setIfInBounds_toArray, List.set_cons_zero, List.set_cons_succ, i64_w, i32_w]
     rfl
    refine p_ 12 47 (mk_ 16 0x1fff) ?_
    refine p_ 13 48 (mk_ 16 0x3fff) ?_
    refine p_ 14 6 (mk_ 16 0x7fff) ?_
    refine p_ 15 7 (mk_ 16 0xffff) ?_
    refine done_ (by kernel_rfl) ?_
    go_wp2_with fail
    go_ret2
    exact ⟨by rw [HRS.out, HBB.out]; rfl, HB1.out⟩
   ·have hbb : bsB c n = false := by unfold bsB; rw [HRS.out, decide_eq_false hin, Bool.false_and]
    have HBB := Aside0.mk hbb
    clear hbb
    have hin2 : decide ((i : Int) < (n : Int)) = false := by simp; omega
    go_wp2_with fail
    go_quiet (fail)
    try go_wp2
    go_ret2
    exact ⟨by rw [HRS.out, HBB.out]; rfl, pw_below_drewN HB.out _⟩

set_option maxHeartbeats 800000 in
set_option maxRecDepth 100000 in
theorem matrix_find.raw (A0 : Option Addr) (c0 : Nat) (l0 : List RW) (a1 : ByteArray) (w : World) (hr0 : Kd.C kRW w A0 l0.length l0) (hlim : l0.length < 1000000000) :
  Calls Try.prog 49 #[.slice A0 l0.length c0, .string a1] w fun e w' => e = .returned (.tuple #[.int .i64 (bsN (fun i => cmpB (l0.getD i zRW).f0 a1) l0.length : Nat), .bool (bsB (fun i => cmpB (l0.getD i zRW).f0 a1) l0.length)]) ∧ Below w.heap.size w w' := by
 have HB := Aside0.mk (Below.refl w.heap.size w)
 have hc := fun (W : World) (hW : Below w.heap.size w W) => matf_bsearch A0 c0 l0 a1 W (Kd.C_below hr0 hW) (by omega)
 generalize ((bsN (fun i => cmpB (l0.getD i zRW).f0 a1) l0.length : Nat) : Int) = r1 at hc ⊢
 generalize bsB (fun i => cmpB (l0.getD i zRW).f0 a1) l0.length = r2 at hc ⊢
 have HC := Aside0.mk hc
 clear hc hlim hr0
 have hut := Try.underlying50
 go_enter Try.func49, Try.ntmps49
 go_wp2_with fail
 refine (HC.out _ (by repeat (first | (with_reducible first | exact HB.out | apply below_alloc | apply pw_below_drewN | apply below_drew1) | exact HB.out))).mono ?_
 rintro e w' ⟨rfl, hb⟩
 have HB1 := Aside0.mk (below_step HB.out hb)
 clear hb
 go_wp2_with fail
 go_ret2
 exact ⟨rfl, HB1.out⟩

/-! ### vec_At_50: function 50 -/
def vec_At_50.f (l0 : List (S67)) : Option ((List (S67))) := (some (([] : List (S67)) : List (S67))).bind fun y103 => (if y103.length + l0.length < 5864062014805 then (some (y103 ++ l0)) else (none))
set_option maxHeartbeats 8000000 in
set_option maxRecDepth 100000 in
theorem vec_At_50.calls_some (ad0 : Addr) (c0 : Nat) (l0 : List (S67)) (r : List (S67)) (w : World) (hr0 : Kd.C k67 w (some ad0) l0.length l0) (hc0 : l0.length ≤ c0) (h : vec_At_50.f l0 = some r) :
    Calls Try.prog 50 #[.slice (some ad0) l0.length c0] w fun e w' => ∃ v0_ : Value, e = .returned (v0_) ∧ Kd.R k67 67 w' w.heap.size (fun _ => True) v0_ r ∧ Below w.heap.size w w' := by
  have HR0 := Aside0.mk hr0
  have HC0 := Aside0.mk hc0
  clear hr0 hc0
  have HB := Aside0.mk (Below.refl w.heap.size w)
  have H : ((some (([] : List (S67)) : List (S67))).bind fun y103 => (if y103.length + l0.length < 5864062014805 then (some (y103 ++ l0)) else (none))) = some r := h
  clear h
  obtain ⟨y103, hy103⟩ : ∃ y_ : List (S67), y_ = (([] : List (S67))) := ⟨_, rfl⟩
  replace H : (if y103.length + l0.length < 5864062014805 then (some (y103 ++ l0)) else (none)) = some r := by first | (rw [hy103]; with_reducible exact H) | (have H2_ := (Option.bind_some _ _).symm.trans H; rw [hy103]; with_reducible exact H2_) | (have H2_ := (Option.bind_some _ _).symm.trans H; with_reducible exact H2_) | with_reducible exact H | (rw [hy103]; exact H) | exact H
  have Ny103 := Aside0.mk hy103
  clear hy103
  by_cases c2 : y103.length + l0.length < 5864062014805
  · rw [if_pos c2] at H
    have LMc2 := Aside0.mk c2
    clear c2
    obtain ⟨y106, hy106⟩ : ∃ y_ : List (S67), y_ = (y103 ++ l0) := ⟨_, rfl⟩
    replace H : (some y106) = some r := by first | (rw [hy106]; with_reducible exact H) | (have H2_ := (Option.bind_some _ _).symm.trans H; rw [hy106]; with_reducible exact H2_) | (have H2_ := (Option.bind_some _ _).symm.trans H; with_reducible exact H2_) | with_reducible exact H | (rw [hy106]; exact H) | exact H
    have Ny106 := Aside0.mk hy106
    clear hy106
    obtain rfl := Option.some.inj H
    have hnq_ : ∀ W : World, (binOp .eql 36 (.slice (some ad0) l0.length c0) (.slice none 0 0)).run Try.prog W = .ok (.bool ((some ad0) : Option Addr).isNone) W := fun W => by first | exact Lib.run_eql_slice_nil W 36 67 _ _ _ 0 0 Try.underlying36 | exact Lib.run_eql_slice_nil W 36 67 _ _ _ Try.underlying36
    go_enter Try.func50, Try.ntmps50
    go_wp2_with (first | ((with_reducible refine gate_dst (N := 5) rfl ?_); refine Kd.R_lit k67 _ 67 ?hg (N := 5) ?hd (xs := ([] : List (S67))) (inner := []) (ok := fun _ => True) (okp := fun _ => True) ?hr ?hp (fun _ hk => hk) trivial (Below.refl _ _) (Nat.le_refl _) (by simp) ?_; (case hd => rfl); (case hg => rfl); (case hr => first | (go_simp; done) | (go_simp; rfl)); (case hp => exact (Reps.none _ _)); intro v104 w3 ho4 hb hg_ hnew_; clear hg_ hnew_; (first | rw [← Ny103.out] at ho4 | (simp only [Int.reduceToNat] at ho4; rw [← Ny103.out] at ho4)); have HO105 := Aside0.mk (Kd.R_lower ho4 (below_size (by repeat (first | (with_reducible first | exact HB.out | apply below_alloc | apply pw_below_drewN | apply below_drew1) | exact HB.out)))); replace HB := Aside0.mk (below_step (by repeat (first | (with_reducible first | exact HB.out | apply below_alloc | apply pw_below_drewN | apply below_drew1) | exact HB.out)) hb); clear hb ho4) | ((with_reducible refine gate_builtin (b := .append) (xs := #[.tmp 5, .tmp 6]) rfl ?_); at_builtin; refine Kd.R_append_rows k67 (w0 := w) w.heap.size rfl (.tmp 5) (.tmp 6) 36 67 (.agg #[(.string ⟨#[]⟩), (.int .i64 0)]) 24 rfl Try.underlying36 info67 rfl (by decide) (by omega) v104 y103 l0 _ _ _ (fun _ => True) (fun _ => False) rfl rfl ?aO ?aR (fun _ _ h => h) (fun _ h => h.elim) ?aF ?aB ?aS ?aL ?_; (case aR => repeat (first | exact (Kd.C_below HR0.out HB.out) | (with_reducible refine Kd.C_alloc ?_ _) | (with_reducible refine Kd.C_drewN ?_ _) | (with_reducible refine Kd.C_drew ?_))); (case aB => exact (by repeat (first | (with_reducible first | exact HB.out | apply below_alloc | apply pw_below_drewN | apply below_drew1) | exact HB.out))); (case aF => exact (fun _ _ => trivial)); (case aO => exact (by (with_reducible repeat (first | apply Kd.R_alloc | apply Kd.R_drewN | apply Kd.R_drew)); exact HO105.out)); (case aS => exact (below_size (by repeat (first | (with_reducible first | exact HB.out | apply below_alloc | apply pw_below_drewN | apply below_drew1) | exact HB.out)))); (case aL => have := LMc2.out; omega); intro v107 w5 ho hb hg hat; rw [← Ny106.out] at ho; replace HB := Aside0.mk (hb); have HO108 := Aside0.mk (ho); clear HO105; clear ho hb hg hat))
    go_ret
    exact ⟨_, by first | rfl | (simp [errW_none, errW_some] <;> rfl) | (simp [*, errW_none, errW_some] <;> rfl), by (with_reducible repeat (first | apply Kd.R_alloc | apply Kd.R_drewN | apply Kd.R_drew)); exact HO108.out, by repeat (first | (with_reducible first | exact HB.out | apply below_alloc | apply pw_below_drewN | apply below_drew1) | exact HB.out)⟩
  · rw [if_neg c2] at H
    exact absurd H (by simp)

set_option maxHeartbeats 8000000 in
set_option maxRecDepth 100000 in
theorem vec_At_50.calls (A0 : Option Addr) (c0 : Nat) (l0 : List (S67)) (r : List (S67)) (w : World) (hr0 : Kd.C k67 w A0 l0.length l0) (hc0 : l0.length ≤ c0) (h : vec_At_50.f l0 = some r) :
    Calls Try.prog 50 #[.slice A0 l0.length c0] w fun e w' => ∃ v0_ : Value, e = .returned (v0_) ∧ Kd.R k67 67 w' w.heap.size (fun _ => True) v0_ r ∧ Below w.heap.size w w' := by
  cases A0 with
  | some ad0 => exact vec_At_50.calls_some ad0 c0 l0 r w hr0 hc0 h
  | none =>
    have hl : l0 = [] := by
      cases l0 with
      | nil => rfl
      | cons x t => obtain ⟨ad, e, _⟩ := hr0.2.2 (by simp); cases e
    subst hl
    have hr : r = [] := by simpa [vec_At_50.f] using h.symm
    subst hr
    clear h hr0
    have hnq_ : ∀ W : World, (binOp .eql 36 (.slice none 0 c0) (.slice none 0 0)).run Try.prog W = .ok (.bool (none : Option Addr).isNone) W := fun W => by first | exact Lib.run_eql_slice_nil W 36 67 _ _ _ 0 0 Try.underlying36 | exact Lib.run_eql_slice_nil W 36 67 _ _ _ Try.underlying36
    simp only [List.length_nil]
    go_enter Try.func50, Try.ntmps50
    go_wp2
    go_ret
    exact ⟨_, rfl, Kd.R_nil _ _ _ _ _, Below.refl _ _⟩

/-! ### matrix_Row: function 67 -/
set_option maxHeartbeats 8000000 in
set_option maxRecDepth 100000 in
theorem matrix_Row.raw_some (ad0 : Addr) (c0 : Nat) (l0 : List RW) (w : World) (hr0 : Kd.C kRW w (some ad0) l0.length l0) (hc0 : l0.length ≤ c0) (hlim : l0.length < 1000000000) :
  Calls Try.prog 67 #[.slice (some ad0) l0.length c0] w fun e w' => ∃ v0_ : Value, e = .returned (v0_) ∧ Kd.R kRW 50 w' w.heap.size (fun _ => True) v0_ l0 ∧ Below w.heap.size w w' := by
 have HR0 := Aside0.mk hr0
 have HC0 := Aside0.mk hc0
 clear hr0 hc0
 have HB := Aside0.mk (Below.refl w.heap.size w)
 have LM := Aside0.mk hlim
 clear hlim
 have hnq_ : ∀ W : World, (binOp .eql 29 (.slice (some ad0) l0.length c0) (.slice none 0 0)).run Try.prog W = .ok (.bool ((some ad0) : Option Addr).isNone) W := fun W => by first | exact Lib.run_eql_slice_nil W 29 50 _ _ _ 0 0 Try.underlying29 | exact Lib.run_eql_slice_nil W 29 50 _ _ _ Try.underlying29
 go_enter Try.func67, Try.ntmps67
 go_wp2_with (first | ((with_reducible refine gate_dst (N := 5) rfl ?_); refine Kd.R_lit kRW _ 50 ?hg (N := 5) ?hd (xs := ([] : List RW)) (inner := []) (ok := fun _ => True) (okp := fun _ => True) ?hr ?hp (fun _ hk => hk) trivial (Below.refl _ _) (Nat.le_refl _) (by simp) ?_; (case hd => rfl); (case hg => rfl); (case hr => first | (go_simp; done) | (go_simp; rfl)); (case hp => exact (Reps.none _ _)); intro v121 w3 ho4 hb hg_ hnew_; clear hg_ hnew_; have n0_ := Aside0.mk (Kd.R_lower ho4 (below_size HB.out)); have n1_ := Aside0.mk (below_step HB.out hb); clear HB; have HO122 := n0_; have HB := n1_; clear n0_ n1_; clear hb ho4) | ((with_reducible refine gate_builtin (b := .append) (xs := #[.tmp 5, .tmp 6]) rfl ?_); at_builtin; refine Kd.R_append_rows kRW (w0 := w) w.heap.size rfl (.tmp 5) (.tmp 6) 29 50 (.agg #[(.string ⟨#[]⟩), (.slice none 0 0)]) 40 rfl Try.underlying29 info50 rfl (by decide) (by omega) v121 ([] : List RW) l0 _ _ _ (fun _ => True) (fun _ => False) rfl rfl ?aO ?aR (fun _ _ h => h) (fun _ h => h.elim) ?aF ?aB ?aS ?aL ?_; (case aR => exact (Kd.C_below HR0.out HB.out)); (case aB => exact HB.out); (case aF => exact (fun _ _ => trivial)); (case aO => exact HO122.out); (case aS => exact (below_size HB.out)); (case aL => have := LM.out; simp only [List.length_nil]; omega); intro v124 w5 ho hb hg hat; rw [List.nil_append] at ho; have n0_ := Aside0.mk (hb); have n1_ := Aside0.mk (ho); clear HB; clear HO122; have HB := n0_; have HO125 := n1_; clear n0_ n1_; clear ho hb hg hat))
 go_ret
 exact ⟨_, rfl, HO125.out, HB.out⟩
set_option maxHeartbeats 8000000 in
set_option maxRecDepth 100000 in
theorem matrix_Row.raw (A0 : Option Addr) (c0 : Nat) (l0 : List RW) (w : World) (hr0 : Kd.C kRW w A0 l0.length l0) (hc0 : l0.length ≤ c0) (hlim : l0.length < 1000000000) :
  Calls Try.prog 67 #[.slice A0 l0.length c0] w fun e w' => ∃ v0_ : Value, e = .returned (v0_) ∧ Kd.R kRW 50 w' w.heap.size (fun _ => True) v0_ l0 ∧ Below w.heap.size w w' := by
 cases A0 with
 | some ad0 => exact matrix_Row.raw_some ad0 c0 l0 w hr0 hc0 hlim
 | none =>
  have hl : l0 = [] := by
   cases l0 with
   | nil => rfl
   | cons x t => obtain ⟨ad, e, _⟩ := hr0.2.2 (by simp); cases e
  subst hl
  clear hr0
  have hnq_ : ∀ W : World, (binOp .eql 29 (.slice none 0 c0) (.slice none 0 0)).run Try.prog W = .ok (.bool (none : Option Addr).isNone) W := fun W => by first | exact Lib.run_eql_slice_nil W 29 50 _ _ _ 0 0 Try.underlying29 | exact Lib.run_eql_slice_nil W 29 50 _ _ _ Try.underlying29
  simp only [List.length_nil]
  go_enter Try.func67, Try.ntmps67
  go_wp2
  go_ret
  exact ⟨_, rfl, Kd.R_nil _ _ _ _ _, Below.refl _ _⟩

/-! ### matrix_copied: function 51 -/
theorem lead_m : LeadK k50 k67 S50.f0 S50.f1 := ⟨rfl, k67_heap, fun h => k50_open h, fun h1 h2 => k50_mk _ _ h1 h2⟩
/-- A Matrix of the call's own (its rows' Vecs are told by other blocks than its own). -/
def OWm (w : World) (base : Nat) (v : Value) (rs : List RW) (xs : List S50) : Prop := Kd.R kRW 50 w base (fun _ => True) v rs ∧ INs k67 S50.f0 S50.f1 w (fun k => some k ≠ v.ownBlock ∧ base ≤ k) rs xs
def okM (l : List S50) : Prop := l.length < 1000000000 ∧ ∀ x ∈ l, x.f1.length < 1000000000
theorem okM_get {l : List S50} (h : okM l) {i : Nat} (hi : i < l.length) : (l.getD i z50).f1.length < 1000000000 := h.2 _ (by rw [← List.getElem_eq_getD (h := hi)]; exact List.getElem_mem _)
theorem vclone (A0 : Option Addr) (c0 : Nat) (l0 : List S67) (W : World) (hr0 : Kd.C k67 W A0 l0.length l0) (hc0 : l0.length ≤ c0) (hl : l0.length < 1000000000) :
  Calls Try.prog 50 #[.slice A0 l0.length c0] W fun e w' => ∃ v0_ : Value, e = .returned (v0_) ∧ Kd.R k67 67 w' W.heap.size (fun _ => True) v0_ l0 ∧ Below W.heap.size W w' :=
 vec_At_50.calls A0 c0 l0 l0 W hr0 hc0 (by simp only [vec_At_50.f, Option.bind_some, List.length_nil, List.nil_append]; rw [if_pos (by omega)])
set_option maxHeartbeats 3200000 in
set_option maxRecDepth 100000 in
theorem matrix_copied.own (A0 : Option Addr) (c0 : Nat) (l0 : List S50) (w : World) (hr0 : Kd.C k50 w A0 l0.length l0) (hc0 : l0.length ≤ c0) (hl : okM l0) :
  Calls Try.prog 51 #[.slice A0 l0.length c0] w fun e w' => ∃ (v : Value) (rs : List RW), e = .returned v ∧ OWm w' w.heap.size v rs l0 ∧ Below w.heap.size w w' := by
 obtain ⟨rs, hC, hI⟩ := lead_raw lead_m hr0
 have hlen := F2.len hI
 have HCL := Aside0.mk (fun W (hW : Below w.heap.size w W) => matrix_Row.raw A0 c0 rs W (by rw [hlen]; exact Kd.C_below hC hW) (by omega) (by have := hl.1; omega))
 have HB := Aside0.mk (Below.refl w.heap.size w)
 have HI := Aside0.mk hI
 have HL := Aside0.mk hl
 have HLEN := Aside0.mk hlen
 rw [hlen] at HCL
 clear hC hI hr0 hl hc0
 have hut := Try.underlying50
 go_enter Try.func51, Try.ntmps51
 go_wp2_with fail
 refine (HCL.out w HB.out).mono ?_
 rintro e w1 ⟨v, rfl, ho1, hb1⟩
 have HB1 := Aside0.mk hb1
 have HI1 := Aside0.mk (INj.of (okj := fun j k => some k ≠ v.ownBlock ∧ (j < 0 → w.heap.size ≤ k)) (HI.out.below hb1) (fun j k hk => ⟨fun he => by have := Kd.R_base ho1 k he.symm; omega, fun h => absurd h (Nat.not_lt_zero _)⟩))
 obtain ⟨A, c, rfl, hle, -⟩ := Kd.R_reads ho1
 rw [hlen] at ho1 HI1 hle ⊢
 have HO1 := Aside0.mk ho1
 clear ho1 hb1 HCL HI HB hlen hle
 generalize hn : l0.length = n at *
 have HN := Aside0.mk hn
 clear hn
 have hmax : n < 1000000000 := by have := HL.out.1; have := HN.out; omega
 go_wp2_with fail
 go_loopw [9] (fun vi wr => ∃ (i : Nat) (L : List RW), vi = .int .i64 i ∧ i ≤ n ∧ Aside0 (L.length = n) ∧ Aside0 (Kd.R kRW 50 wr w.heap.size (fun _ => True) (.slice A n c) L ∧ INj k67 S50.f0 S50.f1 wr (fun j k => some k ≠ (Value.slice A n c).ownBlock ∧ (j < i → w.heap.size ≤ k)) L l0) ∧ Aside0 (Below w.heap.size w wr)) (fun vi _ => n - (intOf vi).toNat)
 case atStart => exact ⟨0, rs, rfl, Nat.zero_le _, HLEN, ⟨HO1.out, HI1.out⟩, HB1⟩
 case round =>
  clear HO1 HI1 HB1
  obtain ⟨i, L, rfl, hin, HLL, HO, HB⟩ := hrel
  by_cases hj : i < n
  ·obtain ⟨ho, hI⟩ := HO.out
   obtain ⟨g, cap, ev, hg, hgl, cells, hcells⟩ := Kd.R_form ho (by have := HLL.out; omega)
   have hnL : L.length = n := HLL.out
   rw [hnL] at ev
   injection ev with eA _ ec
   subst eA; subst ec
   obtain ⟨ad, hA, hx0, hx1⟩ := at_RW (Kd.R_reads' ho).2.2 (i : Int) (by omega) (by omega)
   injection hA with hA
   subst hA
   obtain ⟨i0, i1, i2, i3⟩ := (INj.getD hI (j := i) (by rw [HN.out]; exact hj) z50).now
   have hrd : rd_RW L (i : Int) = L.getD i zRW := by unfold rd_RW; rw [Int.toNat_natCast]
   rw [hrd] at hx0 hx1
   simp only [Int.toNat_natCast, Addr.add_lit, Nat.zero_add] at hx0 hx1
   have hxl := okM_get HL.out (i := i) (by rw [HN.out]; exact hj)
   generalize hr : L.getD i zRW = r at hx0 hx1 i0 i1 i2 i3
   generalize hx : l0.getD i z50 = x at i0 i1 i2 i3 hxl
   obtain ⟨s0, rA, rn, rc⟩ := r
   dsimp only at i0 i1 i2 i3 hx0 hx1
   subst i0; subst i1
   have HK := Aside0.mk (fun W (hW : Below wr.heap.size wr W) => vclone rA rc x.f1 W (Kd.C_below i3 hW) i2 hxl)
   have HX0 := Aside0.mk hx0
   have HX1 := Aside0.mk hx1
   have HX := Aside0.mk (And.intro hr hx)
   have HGL := Aside0.mk hgl
   have HG := Aside0.mk hg
   have HCE := Aside0.mk (show ∃ cells : Array Value, wr.heap[g]? = some (.cells cells 50 (0, 0)) from ⟨cells, hcells⟩)
   have pm := eq_true (show (0 : Int) ≤ (i : Int) by omega)
   have qm := eq_true (show (i : Int) < (n : Int) by omega)
   have hz1 : wr.frozen? ⟨g, i * 2 + 1, none⟩ = false := blk_frozen hcells _
   clear hrd hr hx i2 i3 hxl hcells cells hg hgl ho hI hx0
   go_wp2_with fail
   refine (HK.out wr (Below.refl _ _)).mono ?_
   rintro e w2 ⟨v2, rfl, ho2, hb2⟩
   clear hx1 hz1 HK
   obtain ⟨A2, c2, rfl⟩ := Kd.R_slice ho2
   obtain ⟨cells, hcells⟩ := HCE.out
   have hcells2 := blk_below hcells hb2
   have hz1 : w2.frozen? ⟨g, i * 2 + 1, none⟩ = false := blk_frozen hcells2 _
   have hx1 : w2.cell? ⟨g, i * 2 + 1, none⟩ = some (.slice rA x.f1.length rc) := (hb2.cell HGL.out).trans HX1.out
   have hx0 : w2.cell? ⟨g, i * 2, none⟩ = some (.string x.f0) := (hb2.cell HGL.out).trans HX0.out
   have HOb := Kd.R_below HO.out.1 hb2
   have hres := Kd.R_seg (d := kRW) (W := w2) (okp := fun _ => False) HOb (i : Int) (by omega) (by omega) (c := [.string x.f0, .slice rA x.f1.length rc]) (seg := [.slice A2 x.f1.length c2]) (j := 1) rfl (fun q u hq => by rw [Int.toNat_natCast]; rcases q with _ | _ | q; (cases hq; exact hx0); (cases hq; exact hx1); (cases hq)) (show 1 + 1 ≤ 2 by decide) (x' := ⟨x.f0, A2, x.f1.length, c2⟩) (kRW_mkM _ _ _ _) (fun _ h => h.elim)
   rw [Int.toNat_natCast] at hres
   have hINew : IN k67 (w2.setCell ⟨g, i * 2 + 1, none⟩ (.slice A2 x.f1.length c2)) (fun k => some k ≠ (Value.slice (some ⟨g, 0, none⟩) n c).ownBlock ∧ (i < i + 1 → w.heap.size ≤ k)) ⟨x.f0, A2, x.f1.length, c2⟩ x.f0 x.f1 := by
    refine ⟨rfl, rfl, (Kd.R_reads' ho2).2.1, ?_⟩
    have h1 := Kd.F_mono (Kd.R_F (Kd.R_bound ho2)) (ok' := fun k => k ≠ g ∧ w.heap.size ≤ k) (fun k hk => by have := hk.2.1; have := HGL.out; have := below_size HB.out; omega)
    exact Kd.F_mono (Kd.F_far h1 (p := ⟨g, i * 2 + 1, none⟩) (fun k hk => hk.1) _) (fun k hk => ⟨fun he => hk.1 (by simpa [Value.ownBlock] using he), fun _ => hk.2⟩)
   have hIold := (HO.out.2.below hb2).step (w1 := w2.setCell ⟨g, i * 2 + 1, none⟩ (.slice A2 x.f1.length c2)) (fun j k hk _ => Below.heap_setCell _ _ _ _ (fun he => hk.1 (by rw [he]; simp [Value.ownBlock])))
   have hxi : l0[i]? = some x := by
    have hil : i < l0.length := by rw [HN.out]; exact hj
    rw [← HX.out.2, List.getD_eq_getElem?_getD, List.getElem?_eq_getElem hil]; rfl
   have HI2 := Aside0.mk (INj.set hIold (okj' := fun j k => some k ≠ (Value.slice (some ⟨g, 0, none⟩) n c).ownBlock ∧ (j < i + 1 → w.heap.size ≤ k)) hxi hINew (fun j k hne hk => ⟨hk.1, fun hlt => hk.2 (by omega)⟩))
   have HO2 := Aside0.mk (show Kd.R kRW 50 (w2.setCell ⟨g, i * 2 + 1, none⟩ (.slice A2 x.f1.length c2)) w.heap.size (fun _ => True) (.slice (some ⟨g, 0, none⟩) n c) (L.set i ⟨x.f0, A2, x.f1.length, c2⟩) from hres.1)
   have HB2 := Aside0.mk (show Below w.heap.size w (w2.setCell ⟨g, i * 2 + 1, none⟩ (.slice A2 x.f1.length c2)) from below_set (below_step HB.out hb2) HG.out)
   clear hINew hIold hxi hres HOb hcells hcells2 cells HCE ho2 hb2 hx0
   go_wp2_with fail
   go_roundw
   case rel => exact ⟨i + 1, L.set i ⟨x.f0, A2, x.f1.length, c2⟩, by go_num, by omega, ⟨by rw [List.length_set]; exact HLL.out⟩, ⟨HO2.out, HI2.out⟩, HB2⟩
   case measure => simp [intOf]; omega
  ·have hge : decide ((i : Int) < (n : Int)) = false := by simp; omega
   go_wp2_with fail
   go_ret
   exact ⟨_, L, rfl, ⟨HO.out.1, HO.out.2.to (fun j hjl k hk => ⟨hk.1, hk.2 (by have := HN.out; omega)⟩)⟩, HB.out⟩

/-! ### matrix_Of: function 21 -/
/-- One's row's place in a Matrix, and whether it is there. -/
def mN (l : List S50) (a : ByteArray) : Nat := bsN (fun i => cmpB (l.getD i z50).f0 a) l.length
def mB (l : List S50) (a : ByteArray) : Bool := bsB (fun i => cmpB (l.getD i z50).f0 a) l.length
theorem mN_le (l : List S50) (a : ByteArray) : mN l a ≤ l.length := bsI_le _ _ _ _ (Nat.zero_le _)
theorem mN_lt {l : List S50} {a : ByteArray} (h : mB l a = true) : mN l a < l.length := by
 unfold mB bsB at h
 rw [Bool.and_eq_true, decide_eq_true_eq] at h
 exact h.1
def ofM (l : List S50) (a : ByteArray) : List S67 := if mB l a = true then (l.getD (mN l a) z50).f1 else []
theorem mfind_raw (A0 : Option Addr) (c0 : Nat) (rs : List RW) (l0 : List S50) (a1 : ByteArray) (w : World) (ok : Nat → Prop) (hr0 : Kd.C kRW w A0 l0.length rs) (hI : INs k67 S50.f0 S50.f1 w ok rs l0) (hlim : l0.length < 1000000000) :
  Calls Try.prog 49 #[.slice A0 l0.length c0, .string a1] w fun e w' => e = .returned (.tuple #[.int .i64 (mN l0 a1 : Nat), .bool (mB l0 a1)]) ∧ Below w.heap.size w w' := by
 have hl := F2.len hI
 have h := matrix_find.raw A0 c0 rs a1 w (by rw [hl]; exact hr0) (by omega)
 have hf : (fun i => cmpB (rs.getD i zRW).f0 a1) = fun i => cmpB (l0.getD i z50).f0 a1 := funext fun i => by rw [INs.f0 hI z50 rfl]
 rw [hf, hl] at h
 exact h
theorem mfind (A0 : Option Addr) (c0 : Nat) (l0 : List S50) (a1 : ByteArray) (w : World) (hr0 : Kd.C k50 w A0 l0.length l0) (hlim : l0.length < 1000000000) :
  Calls Try.prog 49 #[.slice A0 l0.length c0, .string a1] w fun e w' => e = .returned (.tuple #[.int .i64 (mN l0 a1 : Nat), .bool (mB l0 a1)]) ∧ Below w.heap.size w w' := by
 obtain ⟨rs, hC, hI⟩ := lead_raw lead_m hr0
 exact mfind_raw A0 c0 rs l0 a1 w _ hC hI hlim
set_option maxHeartbeats 1600000 in
set_option maxRecDepth 100000 in
theorem matrix_Of.at (A0 : Option Addr) (c0 : Nat) (l0 : List S50) (a1 : ByteArray) (w : World) (hr0 : Kd.C k50 w A0 l0.length l0) (hc0 : l0.length ≤ c0) (hl : okM l0) :
  Calls Try.prog 21 #[.slice A0 l0.length c0, .string a1] w fun e w' => ∃ v0_ : Value, e = .returned (v0_) ∧ Kd.V k67 67 w' w.heap.size (fun k_ => w.heap.size ≤ k_) v0_ (ofM l0 a1) ∧ Below w.heap.size w w' := by
 have hF := mfind A0 c0 l0 a1 w hr0 hl.1
 have hut := Try.underlying50
 have hlen := hl.1
 by_cases hB : mB l0 a1 = true
 ·have hlt := mN_lt hB
  have hval : ofM l0 a1 = (l0.getD (mN l0 a1) z50).f1 := by unfold ofM; rw [if_pos hB]
  have hx := okM_get hl hlt
  rw [hval]
  rw [hB] at hF
  obtain ⟨ad, A1, c1, hA, hx0, hx1, hle1, hC1⟩ := at_T50 hr0 (mN l0 a1 : Int) (by omega) (by omega)
  have hrd : rd_T50 l0 (mN l0 a1 : Int) = l0.getD (mN l0 a1) z50 := by unfold rd_T50; rw [Int.toNat_natCast]
  rw [hrd] at hx0 hx1 hle1 hC1
  simp only [Int.toNat_natCast] at hx1
  generalize hxx : l0.getD (mN l0 a1) z50 = x at *
  generalize hi : mN l0 a1 = i at *
  subst hA
  have HF := Aside0.mk hF
  clear hF
  have HX1 := Aside0.mk hx1
  have HC1 := Aside0.mk hC1
  have HLE := Aside0.mk hle1
  have HX := Aside0.mk hx
  have pm := eq_true (show (0 : Int) ≤ (i : Int) by omega)
  have qm := eq_true (show (i : Int) < (l0.length : Int) by omega)
  clear hx0 hx1 hC1 hle1 hrd hxx hi hval hl hx hr0 hB
  go_enter Try.func21, Try.ntmps21
  go_wp2_with fail
  refine HF.out.mono ?_
  rintro e w1 ⟨rfl, hb⟩
  have HB := Aside0.mk hb
  have hx1 := (hb.cell (World.block_lt_of_cell? w _ HX1.out)).trans HX1.out
  clear hb HF
  go_wp2_with fail
  refine (vclone A1 c1 x.f1 _ (Kd.C_below HC1.out HB.out) HLE.out HX.out).mono ?_
  rintro e w2 ⟨v2, rfl, ho2, hb2⟩
  have HV2 := Aside0.mk (Kd.V_mono (Kd.R_V (base' := w.heap.size) (Kd.R_bound ho2)) (ok' := fun k => w.heap.size ≤ k) (fun k hk => by have := hk.2.1; have := below_size HB.out; omega))
  obtain ⟨A2, c2, rfl⟩ := Kd.V_slice HV2.out
  have HB2 := Aside0.mk (below_step HB.out hb2)
  clear ho2 hb2 hx1
  go_wp2_with fail
  go_ret
  exact ⟨_, rfl, HV2.out, HB2.out⟩
 ·have hB' : mB l0 a1 = false := by simpa using hB
  have hval : ofM l0 a1 = [] := by unfold ofM; rw [if_neg hB]
  rw [hval]
  rw [hB'] at hF
  clear hval hl hr0 hB hB'
  generalize mN l0 a1 = i at *
  have HF := Aside0.mk hF
  clear hF
  go_enter Try.func21, Try.ntmps21
  go_wp2_with fail
  refine HF.out.mono ?_
  rintro e w1 ⟨rfl, hb⟩
  have HB := Aside0.mk hb
  clear hb HF
  go_wp2_with fail
  go_ret
  exact ⟨_, rfl, Kd.V_nil _ _ _ _ _, HB.out⟩
instance (l : List S50) : Decidable (okM l) := by unfold okM; infer_instance
def matrix_Of.f (l0 : List S50) (a1 : ByteArray) : Option (List S67) := if okM l0 then some (ofM l0 a1) else none
theorem matrix_Of.calls (A0 : Option Addr) (c0 : Nat) (l0 : List S50) (a1 : ByteArray) (r : List S67) (w : World) (hr0 : Kd.C k50 w A0 l0.length l0) (hc0 : l0.length ≤ c0) (h : matrix_Of.f l0 a1 = some r) :
  Calls Try.prog 21 #[.slice A0 l0.length c0, .string a1] w fun e w' => ∃ v0_ : Value, e = .returned (v0_) ∧ Kd.V k67 67 w' w.heap.size (fun k_ => w.heap.size ≤ k_) v0_ r ∧ Below w.heap.size w w' := by
 unfold matrix_Of.f at h
 by_cases hc : okM l0
 ·rw [if_pos hc] at h
  obtain rfl := Option.some.inj h
  exact matrix_Of.at A0 c0 l0 a1 w hr0 hc0 hc
 ·rw [if_neg hc] at h; cases h

/-! ### vec_order: function 45 -/
def vec_order.f (a0_0 : ByteArray) (a0_1 : Int) (a1_0 : ByteArray) (a1_1 : Int) : Option (Int) := (id_Compare.f a0_0 a1_0).bind fun t111 => (some t111)
set_option maxHeartbeats 8000000 in
set_option maxRecDepth 100000 in
theorem vec_order.calls (a0_0 : ByteArray) (a0_1 : Int) (a1_0 : ByteArray) (a1_1 : Int) (r : Int) (w : World) (h : vec_order.f a0_0 a0_1 a1_0 a1_1 = some r) :
    Calls Try.prog 45 #[.agg #[.string a0_0, .int .i64 a0_1], .agg #[.string a1_0, .int .i64 a1_1]] w fun e w' => e = .returned (.int .i64 r) ∧ Below w.heap.size w w' := by
  have hu67 := Try.underlying67
  have HB := Aside0.mk (Below.refl w.heap.size w)
  have H : ((id_Compare.f a0_0 a1_0).bind fun t111 => (some t111)) = some r := h
  clear h
  replace H := Option.bind_eq_some_iff.mp H
  obtain ⟨t111, A30, H⟩ := H
  have A3 := Aside0.mk A30
  clear A30
  obtain rfl := Option.some.inj H
  go_enter Try.func45, Try.ntmps45
  go_wp2_with (first | ((with_reducible refine gate_dst (N := 2) rfl ?_); refine box_event ?hg (N := 2) ?hd (cs := #[.string a0_0, .int .i64 a0_1]) (t := 67) ?hr ?_; (case hd => rfl); (case hg => rfl); (case hr => first | (go_simp; done) | (go_simp; rfl)); intro gb109 hg w4 hbox hb; have BK109 := Aside0.mk (hbox); have GW109 := Aside0.mk ((by rw [hg]; exact (below_size (by repeat (first | (with_reducible first | exact HB.out | apply below_alloc | apply pw_below_drewN | apply below_drew1) | exact HB.out))) : w.heap.size ≤ gb109)); have GE109 := Aside0.mk ((by rw [hg]; exact (below_size (by repeat (first | (with_reducible first | exact HB.out | apply below_alloc | apply pw_below_drewN | apply below_drew1) | exact HB.out))) : w.heap.size ≤ gb109)); replace HB := Aside0.mk (below_step (by repeat (first | (with_reducible first | exact HB.out | apply below_alloc | apply pw_below_drewN | apply below_drew1) | exact HB.out)) hb); clear hb hbox hg) | ((with_reducible refine gate_dst (N := 3) rfl ?_); refine box_event ?hg (N := 3) ?hd (cs := #[.string a1_0, .int .i64 a1_1]) (t := 67) ?hr ?_; (case hd => rfl); (case hg => rfl); (case hr => first | (go_simp; done) | (go_simp; rfl)); intro gb110 hg w5 hbox hb; have BK110 := Aside0.mk (hbox); have GW110 := Aside0.mk ((by rw [hg]; exact (below_size (by repeat (first | (with_reducible first | exact HB.out | apply below_alloc | apply pw_below_drewN | apply below_drew1 | refine below_set ?_ GE109.out) | exact HB.out))) : w.heap.size ≤ gb110)); have GE110 := Aside0.mk ((by rw [hg]; exact (below_size (by repeat (first | (with_reducible first | exact HB.out | apply below_alloc | apply pw_below_drewN | apply below_drew1 | refine below_set ?_ GE109.out) | exact HB.out))) : w.heap.size ≤ gb110)); replace HB := Aside0.mk (below_step (by repeat (first | (with_reducible first | exact HB.out | apply below_alloc | apply pw_below_drewN | apply below_drew1 | refine below_set ?_ GE109.out) | exact HB.out)) hb); have NB109_110 := Aside0.mk ((by rw [hg]; exact Nat.ne_of_lt (blk_lt (g := gb109) (o := .cells #[.string a0_0, .int .i64 a0_1] 67 (0, 0)) (by (with_reducible repeat (first | refine blk_drewN ?_ _ | refine blk_drew ?_ | refine blk_alloc ?_ _)); exact BK109.out)) : gb109 ≠ gb110)); have NB110_109 := Aside0.mk ((by rw [hg]; exact Nat.ne_of_gt (blk_lt (g := gb109) (o := .cells #[.string a0_0, .int .i64 a0_1] 67 (0, 0)) (by (with_reducible repeat (first | refine blk_drewN ?_ _ | refine blk_drew ?_ | refine blk_alloc ?_ _)); exact BK109.out)) : gb110 ≠ gb109)); replace BK109 := Aside0.mk (blk_below (g := gb109) (o := .cells #[.string a0_0, .int .i64 a0_1] 67 (0, 0)) (by (with_reducible repeat (first | refine blk_drewN ?_ _ | refine blk_drew ?_ | refine blk_alloc ?_ _)); exact BK109.out) hb); clear hb hbox hg; have hnb6 := NB109_110.out; have hnc6 := NB110_109.out; have hcz7_0 : w5.cell? ⟨gb109, 0, none⟩ = some (.string a0_0) := (blk_cell BK109.out 0).trans rfl; have hcz7_1 : w5.cell? ⟨gb109, 1, none⟩ = some (.int .i64 a0_1) := (blk_cell BK109.out 1).trans rfl; have hfz7_0 := blk_frozen BK109.out 0; have hfz7_1 := blk_frozen BK109.out 1; have hcz8_0 : w5.cell? ⟨gb110, 0, none⟩ = some (.string a1_0) := (blk_cell BK110.out 0).trans rfl; have hcz8_1 : w5.cell? ⟨gb110, 1, none⟩ = some (.int .i64 a1_1) := (blk_cell BK110.out 1).trans rfl; have hfz8_0 := blk_frozen BK110.out 0; have hfz8_1 := blk_frozen BK110.out 1) | ((with_reducible refine gate_callee (f := 62) rfl ?_); refine goesL_ (some 9) rfl rfl Try.func62 (by kernel_rfl) rfl #[.string a0_0, .string a1_0] rfl (by (try simp only [List.map_toArray, List.map_cons, List.map_nil]); first | done | rfl | (simp only [List.length_drop, List.length_take]; rfl)) ?_; (with_reducible refine (id_Compare.calls a0_0 a1_0 t111 _ A3.out).mono ?_); rintro e w' ⟨rfl, ⟨nd, rfl⟩⟩; refine ⟨_, rfl, ?_⟩))
  go_ret
  exact ⟨by first | rfl | (simp [errW_none, errW_some] <;> rfl) | (simp [*, errW_none, errW_some] <;> rfl), by repeat (first | (with_reducible first | exact HB.out | apply below_alloc | apply pw_below_drewN | apply below_drew1 | refine below_set ?_ GE109.out | refine below_set ?_ GE110.out) | exact HB.out)⟩

/-! ### vec_find: function 65 -/
set_option maxHeartbeats 1600000 in
set_option maxRecDepth 100000 in
theorem vecf_bsearch (A0 : Option Addr) (c0 : Nat) (l0 : List S67) (a1 : ByteArray) (w : World) (hr0 : Kd.C k67 w A0 l0.length l0) (hlim : l0.length ≤ 140737488355328) :
  Calls Try.prog 75 #[.slice A0 l0.length c0, .agg #[.string a1, .int .i64 0], .func (.func 45) #[] #[]] w fun e w' => e = .returned (.tuple #[.int .i64 (bsN (fun i => cmpB (l0.getD i z67).f0 a1) l0.length : Nat), .bool (bsB (fun i => cmpB (l0.getD i z67).f0 a1) l0.length)]) ∧ Below w.heap.size w w' := by
 have hlen := hr0.2.1
 have HR0 := Aside0.mk hr0
 clear hr0
 generalize hc : (fun i => cmpB (l0.getD i z67).f0 a1) = c
 have HCC := Aside0.mk (show ∀ i, cmpB (l0.getD i z67).f0 a1 = c i from fun i => by rw [← hc])
 clear hc
 generalize hn : l0.length = n at *
 have HR := Aside0.mk (show bsN c n = bsI c (n + 1) 0 n from rfl)
 clear hn
 have HB := Aside0.mk (below_alloc (Below.refl w.heap.size w) (.cells #[.string a1, .int .i64 0] 67))
 have BK := Aside0.mk (blk_new w (.cells #[.string a1, .int .i64 0] 67))
 have hut := Try.underlying67
 go_enter Try.func75, Try.ntmps75
 go_wp2
 go_loopw [9, 10, 11] (fun vi vj _ wr => ∃ i j fu : Nat, vi = .int .i64 i ∧ vj = .int .i64 j ∧ i ≤ j ∧ j ≤ n ∧ j - i < fu ∧ Aside0 (bsI c fu i j = bsN c n) ∧ Aside0 (Below w.heap.size w wr) ∧ Aside0 (wr.heap[w.heap.size]? = some (.cells #[.string a1, .int .i64 0] 67 (0, 0)))) (fun vi vj _ _ => ((intOf vj).toNat - (intOf vi).toNat))
 case atStart => exact ⟨0, n, n + 1, rfl, rfl, Nat.zero_le _, Nat.le_refl _, by omega, ⟨HR.out.symm⟩, HB, BK⟩
 case round =>
  clear HB BK
  obtain ⟨i, j, fu, rfl, rfl, hij, hjn, hfu, HI, HB, BK⟩ := hrel
  by_cases hlt : i < j
  ·obtain ⟨ad, hA, hx0, hx1⟩ := at_T67 HR0.out (((i : Int) + (j : Int)) / 2) (by omega) (by omega)
   obtain rfl := hA
   have hw0 := hx0; have hw1 := hx1; replace hx0 := (HB.out.cell (World.block_lt_of_cell? w _ hx0)).trans hx0; replace hx1 := (HB.out.cell (World.block_lt_of_cell? w _ hx1)).trans hx1
   have hm : (((i : Int) + (j : Int)) / 2).toNat = (i + j) / 2 := by omega
   have e2 : cmpB (l0.getD (((i : Int) + (j : Int)) / 2).toNat z67).f0 a1 = c ((i + j) / 2) := by rw [hm]; exact HCC.out _
   have pm := eq_true (show (0 : Int) ≤ ((i : Int) + (j : Int)) / 2 by omega)
   have qm := eq_true (show ((i : Int) + (j : Int)) / 2 < (n : Int) by omega)
   clear hm
   have hub : bsI c (fu - 1 + 1) i j = if c ((i + j) / 2) < 0 then bsI c (fu - 1) ((i + j) / 2 + 1) j else bsI c (fu - 1) i ((i + j) / 2) := by
    simp only [bsI]; rw [if_pos hlt]
   have HU := Aside0.mk hub
   have hcalls := fun W => vec_order.calls (rd_T67 l0 (((i : Int) + (j : Int)) / 2)).f0 (rd_T67 l0 (((i : Int) + (j : Int)) / 2)).f1 a1 0 (c ((i + j) / 2)) W (by rw [← e2]; rfl)
   clear hub e2
   have HK := Aside0.mk hcalls
   clear hcalls
   have hfu1 : fu - 1 + 1 = fu := by omega
   have HF := Aside0.mk hfu1
   clear hfu1
   by_cases hneg : c ((i + j) / 2) < 0
   ·have HN := Aside0.mk hneg
    have hdn : decide (c ((i + j) / 2) < 0) = true := decide_eq_true hneg
    generalize hq : c ((i + j) / 2) = q at hdn HK hneg
    have HQ := Aside0.mk hq
    clear hq
    go_wp2_with fail
    refine start_ (n := 8) (S := fun w' => w'.cell? (ad.add ((((i : Int) + (j : Int)) / 2).toNat * 2)) = some (.string (rd_T67 l0 (((i : Int) + (j : Int)) / 2)).f0) ∧ w'.cell? ⟨(ad.add ((((i : Int) + (j : Int)) / 2).toNat * 2)).block, (ad.add ((((i : Int) + (j : Int)) / 2).toNat * 2)).off + 1, none⟩ = some (.int .i64 (rd_T67 l0 (((i : Int) + (j : Int)) / 2)).f1) ∧ w'.cell? ⟨w.heap.size, 0, none⟩ = some (.string a1) ∧ w'.cell? ⟨w.heap.size, 1, none⟩ = some (.int .i64 0)) (ds := []) #[false, false, false, false, false, false, false, false] (by kernel_rfl) rfl rfl ⟨hx0, hx1, (blk_cell (blk_drew BK.out) 0).trans rfl, (blk_cell (blk_drew BK.out) 1).trans rfl⟩ (fun hHeld => ?_)
    refine p_ 0 24 (mk_ 8 0x1) ?_
    refine p_ 1 25 (mk_ 8 0x3) ?_
    refine p_ 2 26 (mk_ 8 0x7) ?_
    refine p_ 3 27 (mk_ 8 0xf) ?_
    refine t_ 4 28 (mk_ 8 0x1f) hHeld ?_
    refine t_ 5 29 (mk_ 8 0x3f) hHeld ?_
    refine one_ (i := 6) (N := some 30) #[true, true, true, true, true, true, true, false] rfl rfl (by kernel_rfl) (by decide) (fun K hK => ?_)
    refine goesV_ Try.func45 (by kernel_rfl) rfl #[.agg #[.string (rd_T67 l0 (((i : Int) + (j : Int)) / 2)).f0, .int .i64 (rd_T67 l0 (((i : Int) + (j : Int)) / 2)).f1], .agg #[.string a1, .int .i64 0]] (by rfl) rfl rfl rfl (by (try simp only [List.map_toArray, List.map_cons, List.map_nil]); first | done | rfl) ?_
    refine (HK.out _).mono ?_
    rintro e w' ⟨rfl, hb1⟩
    refine ⟨_, rfl, ?_⟩
    have HB1 := Aside0.mk (below_step (below_drew1 HB.out) hb1)
    have BK1 := Aside0.mk (blk_below (blk_drew BK.out) hb1)
    clear hb1
    refine hK.out _ _ ⟨(HB1.out.cell (World.block_lt_of_cell? w _ hw0)).trans hw0, (HB1.out.cell (World.block_lt_of_cell? w _ hw1)).trans hw1, (blk_cell BK1.out 0).trans rfl, (blk_cell BK1.out 1).trans rfl⟩ (fun hHeld => ?_)
    clear hK K
    refine norm_ (a' := ?_) ?_ ?_
    rotate_left
    ·show Act.put _ (some 30) _ = _
     simp only [Act.put, List.setIfInBounds_toArray, List.set_cons_zero, List.set_cons_succ, i64_w, i32_w]
     rfl
    refine p_ 7 31 (mk_ 8 0xff) ?_
    refine done_ (by kernel_rfl) ?_
    go_wp2_with fail
    go_roundw
    case rel => exact ⟨(i + j) / 2 + 1, j, fu - 1, by go_num, rfl, by omega, hjn, by omega, ⟨by have := HU.out; rw [HF.out, HI.out, if_pos HN.out] at this; exact this.symm⟩, HB1, BK1⟩
    case measure => simp [intOf]; omega
   ·have HN := Aside0.mk hneg
    have hdn : decide (c ((i + j) / 2) < 0) = false := decide_eq_false hneg
    generalize hq : c ((i + j) / 2) = q at hdn HK hneg
    have HQ := Aside0.mk hq
    clear hq
    go_wp2_with fail
    refine start_ (n := 8) (S := fun w' => w'.cell? (ad.add ((((i : Int) + (j : Int)) / 2).toNat * 2)) = some (.string (rd_T67 l0 (((i : Int) + (j : Int)) / 2)).f0) ∧ w'.cell? ⟨(ad.add ((((i : Int) + (j : Int)) / 2).toNat * 2)).block, (ad.add ((((i : Int) + (j : Int)) / 2).toNat * 2)).off + 1, none⟩ = some (.int .i64 (rd_T67 l0 (((i : Int) + (j : Int)) / 2)).f1) ∧ w'.cell? ⟨w.heap.size, 0, none⟩ = some (.string a1) ∧ w'.cell? ⟨w.heap.size, 1, none⟩ = some (.int .i64 0)) (ds := []) #[false, false, false, false, false, false, false, false] (by kernel_rfl) rfl rfl ⟨hx0, hx1, (blk_cell (blk_drew BK.out) 0).trans rfl, (blk_cell (blk_drew BK.out) 1).trans rfl⟩ (fun hHeld => ?_)
    refine p_ 0 24 (mk_ 8 0x1) ?_
    refine p_ 1 25 (mk_ 8 0x3) ?_
    refine p_ 2 26 (mk_ 8 0x7) ?_
    refine p_ 3 27 (mk_ 8 0xf) ?_
    refine t_ 4 28 (mk_ 8 0x1f) hHeld ?_
    refine t_ 5 29 (mk_ 8 0x3f) hHeld ?_
    refine one_ (i := 6) (N := some 30) #[true, true, true, true, true, true, true, false] rfl rfl (by kernel_rfl) (by decide) (fun K hK => ?_)
    refine goesV_ Try.func45 (by kernel_rfl) rfl #[.agg #[.string (rd_T67 l0 (((i : Int) + (j : Int)) / 2)).f0, .int .i64 (rd_T67 l0 (((i : Int) + (j : Int)) / 2)).f1], .agg #[.string a1, .int .i64 0]] (by rfl) rfl rfl rfl (by (try simp only [List.map_toArray, List.map_cons, List.map_nil]); first | done | rfl) ?_
    refine (HK.out _).mono ?_
    rintro e w' ⟨rfl, hb1⟩
    refine ⟨_, rfl, ?_⟩
    have HB1 := Aside0.mk (below_step (below_drew1 HB.out) hb1)
    have BK1 := Aside0.mk (blk_below (blk_drew BK.out) hb1)
    clear hb1
    refine hK.out _ _ ⟨(HB1.out.cell (World.block_lt_of_cell? w _ hw0)).trans hw0, (HB1.out.cell (World.block_lt_of_cell? w _ hw1)).trans hw1, (blk_cell BK1.out 0).trans rfl, (blk_cell BK1.out 1).trans rfl⟩ (fun hHeld => ?_)
    clear hK K
    refine norm_ (a' := ?_) ?_ ?_
    rotate_left
    ·show Act.put _ (some 30) _ = _
     simp only [Act.put, List.setIfInBounds_toArray, List.set_cons_zero, List.set_cons_succ, i64_w, i32_w]
     rfl
    refine p_ 7 31 (mk_ 8 0xff) ?_
    refine done_ (by kernel_rfl) ?_
    go_wp2_with fail
    go_roundw
    case rel => exact ⟨i, (i + j) / 2, fu - 1, rfl, by go_num, by omega, by omega, by omega, ⟨by have := HU.out; rw [HF.out, HI.out, if_neg (by have := HN.out; omega)] at this; exact this.symm⟩, HB1, BK1⟩
    case measure => simp [intOf]; omega
  ·have hres : bsN c n = i := by
    rw [← HI.out]
    obtain ⟨f, rfl⟩ : ∃ f, fu = f + 1 := ⟨fu - 1, by omega⟩
    simp only [bsI]; rw [if_neg hlt]
   have HRS := Aside0.mk hres
   clear hres
   have hge : decide ((i : Int) < (j : Int)) = false := by simp; omega
   by_cases hin : i < n
   ·obtain ⟨ad, hA, hx0, hx1⟩ := at_T67 HR0.out (i : Int) (by omega) (by omega)
    obtain rfl := hA
    have pm := eq_true (show (0 : Int) ≤ (i : Int) by omega)
    have qm := eq_true (show (i : Int) < (n : Int) by omega)
    have hw0 := hx0; have hw1 := hx1; replace hx0 := (HB.out.cell (World.block_lt_of_cell? w _ hx0)).trans hx0; replace hx1 := (HB.out.cell (World.block_lt_of_cell? w _ hx1)).trans hx1
    have hcalls := fun W => vec_order.calls (rd_T67 l0 (i : Int)).f0 (rd_T67 l0 (i : Int)).f1 a1 0 (c i) W (by rw [← HCC.out i]; rfl)
    have HK := Aside0.mk hcalls
    clear hcalls
    have hbb : bsB c n = decide (c i = 0) := by unfold bsB; rw [HRS.out, decide_eq_true hin, Bool.true_and]
    have HBB := Aside0.mk hbb
    clear hbb
    have hin2 : decide ((i : Int) < (n : Int)) = true := by simp; omega
    generalize hq : c i = q at HK HBB
    have HQ := Aside0.mk hq
    clear hq
    go_wp2_with fail
    refine start_ (n := 16) (S := fun w' => w'.cell? (ad.add (i * 2)) = some (.string (rd_T67 l0 (i : Int)).f0) ∧ w'.cell? ⟨(ad.add (i * 2)).block, (ad.add (i * 2)).off + 1, none⟩ = some (.int .i64 (rd_T67 l0 (i : Int)).f1) ∧ w'.cell? ⟨w.heap.size, 0, none⟩ = some (.string a1) ∧ w'.cell? ⟨w.heap.size, 1, none⟩ = some (.int .i64 0)) (ds := []) #[false, false, false, false, false, false, false, false, false, false, false, false, false, false, false, false] (by kernel_rfl) rfl rfl ⟨hx0, hx1, (blk_cell (blk_drew BK.out) 0).trans rfl, (blk_cell (blk_drew BK.out) 1).trans rfl⟩ (fun hHeld => ?_)
    refine p_ 0 35 (mk_ 16 0x1) ?_
    refine p_ 1 36 (mk_ 16 0x3) ?_
    refine p_ 2 37 (mk_ 16 0x7) ?_
    refine p_ 3 38 (mk_ 16 0xf) ?_
    refine p_ 4 39 (mk_ 16 0x1f) ?_
    refine p_ 5 40 (mk_ 16 0x3f) ?_
    refine p_ 6 41 (mk_ 16 0x7f) ?_
    refine p_ 7 42 (mk_ 16 0xff) ?_
    refine p_ 8 43 (mk_ 16 0x1ff) ?_
    refine t_ 9 44 (mk_ 16 0x3ff) hHeld ?_
    refine t_ 10 45 (mk_ 16 0x7ff) hHeld ?_
    refine one_ (i := 11) (N := some 46) #[true, true, true, true, true, true, true, true, true, true, true, true, false, false, false, false] rfl rfl (by kernel_rfl) (by decide) (fun K hK => ?_)
    refine goesV_ Try.func45 (by kernel_rfl) rfl #[.agg #[.string (rd_T67 l0 (i : Int)).f0, .int .i64 (rd_T67 l0 (i : Int)).f1], .agg #[.string a1, .int .i64 0]] (by rfl) rfl rfl rfl (by (try simp only [List.map_toArray, List.map_cons, List.map_nil]); first | done | rfl) ?_
    refine (HK.out _).mono ?_
    rintro e w' ⟨rfl, hb1⟩
    refine ⟨_, rfl, ?_⟩
    have HB1 := Aside0.mk (below_step (below_drew1 HB.out) hb1)
    have BK1 := Aside0.mk (blk_below (blk_drew BK.out) hb1)
    clear hb1
    refine hK.out _ _ ⟨(HB1.out.cell (World.block_lt_of_cell? w _ hw0)).trans hw0, (HB1.out.cell (World.block_lt_of_cell? w _ hw1)).trans hw1, (blk_cell BK1.out 0).trans rfl, (blk_cell BK1.out 1).trans rfl⟩ (fun hHeld => ?_)
    clear hK K
    refine norm_ (a' := ?_) ?_ ?_
    rotate_left
    ·show Act.put _ (some 46) _ = _
     simp only [Act.put, List.setIfInBounds_toArray, List.set_cons_zero, List.set_cons_succ, i64_w, i32_w]
     rfl
    refine p_ 12 47 (mk_ 16 0x1fff) ?_
    refine p_ 13 48 (mk_ 16 0x3fff) ?_
    refine p_ 14 6 (mk_ 16 0x7fff) ?_
    refine p_ 15 7 (mk_ 16 0xffff) ?_
    refine done_ (by kernel_rfl) ?_
    go_wp2_with fail
    go_ret2
    exact ⟨by rw [HRS.out, HBB.out]; rfl, HB1.out⟩
   ·have hbb : bsB c n = false := by unfold bsB; rw [HRS.out, decide_eq_false hin, Bool.false_and]
    have HBB := Aside0.mk hbb
    clear hbb
    have hin2 : decide ((i : Int) < (n : Int)) = false := by simp; omega
    go_wp2_with fail
    go_quiet (fail)
    try go_wp2
    go_ret2
    exact ⟨by rw [HRS.out, HBB.out]; rfl, pw_below_drewN HB.out _⟩

def vec_find.f (l0 : List S67) (a1 : ByteArray) : Option (Int × Bool) := if l0.length < 8796093022208 then some ((bsN (fun i => cmpB (l0.getD i z67).f0 a1) l0.length : Nat), bsB (fun i => cmpB (l0.getD i z67).f0 a1) l0.length) else none
set_option maxHeartbeats 800000 in
set_option maxRecDepth 100000 in
theorem vec_find.calls (A0 : Option Addr) (c0 : Nat) (l0 : List S67) (a1 : ByteArray) (r1 : Int) (r2 : Bool) (w : World) (hr0 : Kd.C k67 w A0 l0.length l0) (hc0 : l0.length ≤ c0) (h : vec_find.f l0 a1 = some (r1, r2)) :
  Calls Try.prog 65 #[.slice A0 l0.length c0, .string a1] w fun e w' => e = .returned (.tuple #[.int .i64 r1, .bool r2]) ∧ Below w.heap.size w w' := by
 have hlim : l0.length < 8796093022208 := by
  by_cases hx : l0.length < 8796093022208
  ·exact hx
  ·rw [vec_find.f, if_neg hx] at h; cases h
 have hr : (((bsN (fun i => cmpB (l0.getD i z67).f0 a1) l0.length : Nat) : Int), bsB (fun i => cmpB (l0.getD i z67).f0 a1) l0.length) = (r1, r2) := by rw [vec_find.f, if_pos hlim] at h; exact Option.some.inj h
 obtain ⟨e1, e2⟩ := Prod.mk.inj hr
 have HB := Aside0.mk (Below.refl w.heap.size w)
 have hc := fun (W : World) (hW : Below w.heap.size w W) => vecf_bsearch A0 c0 l0 a1 W (Kd.C_below hr0 hW) (by omega)
 rw [e1, e2] at hc
 have HC := Aside0.mk hc
 clear hc h hr hlim hr0 e1 e2
 have hut := Try.underlying67
 go_enter Try.func65, Try.ntmps65
 go_wp2_with fail
 refine (HC.out _ (by repeat (first | (with_reducible first | exact HB.out | apply below_alloc | apply pw_below_drewN | apply below_drew1) | exact HB.out))).mono ?_
 rintro e w' ⟨rfl, hb⟩
 have HB1 := Aside0.mk (below_step HB.out hb)
 clear hb
 go_wp2_with fail
 go_ret2
 exact ⟨rfl, HB1.out⟩

/-! ### vec_Of: function 48 -/
def vec_Of.f (l0 : List (S67)) (a1 : ByteArray) : Option (Int) := (vec_find.f l0 a1).bind fun bt112 => (if bt112.2 = true then (if 0 ≤ bt112.1 then (if bt112.1 < (l0.length : Int) then (some ((rd_T67 l0 bt112.1).f1)) else (none)) else (none)) else (some 0))
set_option maxHeartbeats 8000000 in
set_option maxRecDepth 100000 in
theorem vec_Of.calls (A0 : Option Addr) (c0 : Nat) (l0 : List (S67)) (a1 : ByteArray) (r : Int) (w : World) (hr0 : Kd.C k67 w A0 l0.length l0) (hc0 : l0.length ≤ c0) (h : vec_Of.f l0 a1 = some r) :
    Calls Try.prog 48 #[.slice A0 l0.length c0, .string a1] w fun e w' => e = .returned (.int .i64 r) ∧ Below w.heap.size w w' := by
  have HR0 := Aside0.mk hr0
  have HC0 := Aside0.mk hc0
  clear hr0 hc0
  have HB := Aside0.mk (Below.refl w.heap.size w)
  have H := h
  unfold vec_Of.f at H
  clear h
  replace H := Option.bind_eq_some_iff.mp H
  obtain ⟨⟨t112, t113⟩, A30, H⟩ := H
  have A3 := Aside0.mk A30
  clear A30
  by_cases c4 : t113 = true
  · subst c4
    have H1 : (if 0 ≤ t112 then (if t112 < (l0.length : Int) then (some ((rd_T67 l0 t112).f1)) else (none)) else (none)) = some r := by rw [if_pos rfl] at H; exact H
    clear H
    have H := H1
    clear H1
    by_cases c5 : 0 ≤ t112
    · rw [if_pos c5] at H
      have c5b0 : decide (0 ≤ t112) = true := decide_eq_true c5
      clear c5
      by_cases c6 : t112 < (l0.length : Int)
      · rw [if_pos c6] at H
        have c6b0 : decide (t112 < (l0.length : Int)) = true := decide_eq_true c6
        clear c6
        obtain rfl := Option.some.inj H
        go_enter Try.func48, Try.ntmps48
        go_wp2_with (first | ((with_reducible refine gate_callee (f := 65) rfl ?_); refine goesL_ (some 10) rfl rfl Try.func65 (by kernel_rfl) rfl #[.slice A0 l0.length c0, .string a1] rfl (by (try simp only [List.map_toArray, List.map_cons, List.map_nil]); first | done | rfl | (simp only [List.length_drop, List.length_take]; rfl)) ?_; (with_reducible refine (vec_find.calls _ _ l0 a1 t112 true _ ?side1 ?side2 A3.out).mono ?_); (case side1 => repeat (first | exact HR0.out | (with_reducible refine Kd.C_alloc ?_ _) | (with_reducible refine Kd.C_drewN ?_ _) | (with_reducible refine Kd.C_drew ?_))); (case side2 => exact HC0.out); rintro e w7 ⟨rfl, hb⟩; refine ⟨_, rfl, ?_⟩; replace HB := Aside0.mk (below_step (by repeat (first | (with_reducible first | exact HB.out | apply below_alloc | apply pw_below_drewN | apply below_drew1) | exact HB.out)) hb); (try clear hb); (try clear hb2); (try clear hk); (try clear hi); have p114 : 0 ≤ (t112 : Int) := of_decide_eq_true (by first | (with_reducible assumption) | assumption); have q114 : t112 < (l0.length : Int) := of_decide_eq_true (by first | (with_reducible assumption) | assumption); obtain ⟨ad114, e114, hx114_0, hx114_1⟩ := at_T67 HR0.out t112 p114 q114; cases e114; replace hx114_0 := (HB.out.cell (World.block_lt_of_cell? w _ hx114_0)).trans hx114_0; replace hx114_1 := (HB.out.cell (World.block_lt_of_cell? w _ hx114_1)).trans hx114_1; replace p114 := eq_true p114; replace q114 := eq_true q114))
        go_ret
        exact ⟨by first | rfl | (simp [errW_none, errW_some] <;> rfl) | (simp [*, errW_none, errW_some] <;> rfl), by repeat (first | (with_reducible first | exact HB.out | apply below_alloc | apply pw_below_drewN | apply below_drew1) | exact HB.out)⟩
      · rw [if_neg c6] at H
        exact absurd H (by simp)
    · rw [if_neg c5] at H
      exact absurd H (by simp)
  · replace c4 := Bool.eq_false_iff.mpr c4
    subst c4
    have H1 : (some 0) = some r := by rw [if_neg (show ¬ (false = true) by decide)] at H; exact H
    clear H
    have H := H1
    clear H1
    obtain rfl := Option.some.inj H
    go_enter Try.func48, Try.ntmps48
    go_wp2_with (first | ((with_reducible refine gate_callee (f := 65) rfl ?_); refine goesL_ (some 10) rfl rfl Try.func65 (by kernel_rfl) rfl #[.slice A0 l0.length c0, .string a1] rfl (by (try simp only [List.map_toArray, List.map_cons, List.map_nil]); first | done | rfl | (simp only [List.length_drop, List.length_take]; rfl)) ?_; (with_reducible refine (vec_find.calls _ _ l0 a1 t112 false _ ?side1 ?side2 A3.out).mono ?_); (case side1 => repeat (first | exact HR0.out | (with_reducible refine Kd.C_alloc ?_ _) | (with_reducible refine Kd.C_drewN ?_ _) | (with_reducible refine Kd.C_drew ?_))); (case side2 => exact HC0.out); rintro e w8 ⟨rfl, hb⟩; refine ⟨_, rfl, ?_⟩; replace HB := Aside0.mk (below_step (by repeat (first | (with_reducible first | exact HB.out | apply below_alloc | apply pw_below_drewN | apply below_drew1) | exact HB.out)) hb); (try clear hb); (try clear hb2); (try clear hk); (try clear hi)))
    go_ret
    exact ⟨by first | rfl | (simp [errW_none, errW_some] <;> rfl) | (simp [*, errW_none, errW_some] <;> rfl), by repeat (first | (with_reducible first | exact HB.out | apply below_alloc | apply pw_below_drewN | apply below_drew1) | exact HB.out)⟩

/-! ### vec_Meet: function 43 -/
theorem zq43_0 {p_ : Prop} (h_ : p_ := by rw [hg]; exact (below_size (by repeat (first | (with_reducible first | exact HB.out | apply below_alloc | apply pw_below_drewN | apply below_drew1) | exact HB.out)))) : p_ := h_
theorem zq43_1 {p_ : Prop} (h_ : p_ := by repeat (first | (with_reducible first | exact HB.out | apply below_alloc | apply pw_below_drewN | apply below_drew1 | refine below_set ?_ GE116.out) | exact HB.out)) : p_ := h_
theorem zq43_2 {p_ : Prop} (h_ : p_ := by (with_reducible repeat (first | refine blk_drewN ?_ _ | refine blk_drew ?_ | refine blk_alloc ?_ _)); exact BK116.out) : p_ := h_
theorem zq43_3 {p_ : Prop} (h_ : p_ := by (with_reducible repeat (first | apply Kd.R_alloc | apply Kd.R_drewN | apply Kd.R_drew)); exact HO_5.out) : p_ := h_
theorem zq43_4 {p_ : Prop} (h_ : p_ := by first | (with_reducible assumption) | assumption) : p_ := h_
theorem zq43_5 {p_ : Prop} (h_ : p_ := by first | rfl | (simp; done) | (simp [*]; done)) : p_ := h_
def vec_Meet.l0 : Nat → List (S67) → List (S67) → List (S67) → Int → Int → Option ((List (S67)))
 | 0, _, _, _, _, _ => none
 | k + 1, x1, x5, x9, x10, x11 => if x11 < x10 then (if 0 ≤ x11 then (if x11 < (x9.length : Int) then ((vec_Of.f x1 ((rd_T67 x9 x11).f0)).bind fun t117 => (if (mn ((rd_T67 x9 x11).f1) t117) > 0 then (if x5.length < 5864062014805 then (vec_Meet.l0 k x1 (x5 ++ [(⟨(rd_T67 x9 x11).f0, mn ((rd_T67 x9 x11).f1) t117⟩ : S67)]) x9 x10 (wrap64 (x11 + 1))) else (none)) else (vec_Meet.l0 k x1 x5 x9 x10 (wrap64 (x11 + 1))))) else (none)) else (none)) else (some x5)
def vec_Meet.f (k : Nat) (l0 : List (S67)) (l1 : List (S67)) : Option ((List (S67))) := vec_Meet.l0 k l1 ([] : List (S67)) l0 (l0.length : Int) 0
theorem vec_Meet.mono_l : ∀ k, (∀ y0 y1 y2 y3 y4, LeO (vec_Meet.l0 k y0 y1 y2 y3 y4) (vec_Meet.l0 (k + 1) y0 y1 y2 y3 y4))
 | 0 => fun _ _ _ _ _ r h => by simp [vec_Meet.l0] at h
 | k + 1 => by
  have ih0 := vec_Meet.mono_l k
  ·intro y0 y1 y2 y3 y4
   unfold vec_Meet.l0
   repeat' first
   | (with_reducible exact ih0 _ _ _ _ _)
   | (with_reducible exact LeO.refl _)
   | (with_reducible exact LeO.none _)
   | (with_reducible refine LeO.ite ?_ ?_)
   | (with_reducible refine LeO.bind ?_ (fun _ => ?_))
   | exact ih0 _ _ _ _ _
   | exact LeO.none _
   | refine LeO.ite ?_ ?_
   | refine LeO.bind ?_ (fun _ => ?_)
theorem vec_Meet.mono : ∀ a0 a1 k, LeO (vec_Meet.f k a0 a1) (vec_Meet.f (k + 1) a0 a1) := by
 intro a0 a1 k
 have ih0 := vec_Meet.mono_l k
 unfold vec_Meet.f
 repeat' first
   | (with_reducible exact ih0 _ _ _ _ _)
   | (with_reducible exact LeO.refl _)
   | (with_reducible exact LeO.none _)
   | (with_reducible refine LeO.ite ?_ ?_)
   | (with_reducible refine LeO.bind ?_ (fun _ => ?_))
   | exact ih0 _ _ _ _ _
   | exact LeO.none _
   | refine LeO.ite ?_ ?_
   | refine LeO.bind ?_ (fun _ => ?_)
def vec_Meet.T5 : Bool × List (List Nat × List Nat) := (true, [([], []), ([0], [0]), ([], []), ([], []), ([3], [3]), ([2, 4], [2, 4]), ([1, 5], [1, 5]), ([6, 5, 0, 1, 2, 3, 4, 5, 6], [6])])
def vec_Meet.B5 : List Nat := [0, 1, 0, 0, 8, 28, 63, 127]
theorem vec_Meet.tab5 : rtab .any (opsOf Try.f43 5) = vec_Meet.T5 := by kernel_rfl
theorem vec_Meet.bits5 : waitsOk vec_Meet.T5.2 vec_Meet.B5 = true := by kernel_rfl
set_option maxHeartbeats 8000000 in
set_option maxRecDepth 100000 in
theorem vec_Meet.calls (k : Nat) (A0 : Option Addr) (c0 : Nat) (l0 : List (S67)) (A1 : Option Addr) (c1 : Nat) (l1 : List (S67)) (r : List (S67)) (w : World) (hr0 : Kd.C k67 w A0 l0.length l0) (hc0 : l0.length ≤ c0) (hr1 : Kd.C k67 w A1 l1.length l1) (hc1 : l1.length ≤ c1) (h : vec_Meet.f k l0 l1 = some r) :
  Calls Try.prog 43 #[.slice A0 l0.length c0, .slice A1 l1.length c1] w fun e w' => ∃ v0_ : Value, e = .returned (v0_) ∧ Kd.R k67 67 w' w.heap.size (fun _ => True) v0_ r ∧ Below w.heap.size w w' := by
 have hu67 := Try.underlying67
 have HR0 := Aside0.mk hr0
 have HC0 := Aside0.mk hc0
 clear hr0 hc0
 have HR1 := Aside0.mk hr1
 have HC1 := Aside0.mk hc1
 clear hr1 hc1
 have HB := Aside0.mk (Below.refl w.heap.size w)
 have H : (vec_Meet.l0 k l1 ([] : List (S67)) l0 (l0.length : Int) 0) = some r := h
 clear h
 have H' := Aside0.mk H
 clear H
 go_enter Try.func43, Try.ntmps43
 go_wp2
 go_loopg [5, 11] k (fun kq v5 v11 w' => ∃ (x5_1 : List (S67)) (x11_1 : Int), v11 = .int .i64 x11_1 ∧ Aside0 (vec_Meet.l0 kq l1 x5_1 l0 (l0.length : Int) x11_1 = some r) ∧ Aside0 (kq ≤ k) ∧ Aside0 (Kd.R k67 67 w' w.heap.size (fun _ => True) v5 x5_1) ∧ Aside0 (Below w.heap.size w w'))
 case atStart => exact ⟨(([] : List (S67))), (0), zq43_5, H', ⟨Nat.le_refl _⟩, ⟨by first | exact Kd.R_nil _ _ _ _ _ | exact Kd.N_nil _ _ _ _ _ | exact Kd.V_nil _ _ _ _ _ | exact Kd.Q_nil _ _ _ _ _ | exact Kd.S_nil _ _ _ _ _⟩, ⟨by repeat (first | (with_reducible first | exact HB.out | apply below_alloc | apply pw_below_drewN | apply below_drew1) | exact HB.out)⟩⟩
 case round =>
  clear H'
  try clear c1
  try clear p2
  obtain ⟨x5_1, x11_1, rfl, HA, HK1, HO_5, HB⟩ := hrel
  cases gk with
  | zero => exact absurd HA.out (by simp [vec_Meet.l0])
  | succ k1 =>
   have H := HA.out
   clear HA
   simp only [vec_Meet.l0] at H
   by_cases c3 : x11_1 < (l0.length : Int)
   ·rw [if_pos c3] at H
    have c3b0 : decide (x11_1 < (l0.length : Int)) = true := decide_eq_true c3
    clear c3
    by_cases c4 : 0 ≤ x11_1
    ·rw [if_pos c4] at H
     have c4b0 : decide (0 ≤ x11_1) = true := decide_eq_true c4
     clear c4
     by_cases c5 : x11_1 < (l0.length : Int)
     ·rw [if_pos c5] at H
      have c5b0 : decide (x11_1 < (l0.length : Int)) = true := decide_eq_true c5
      clear c5
      replace H := Option.bind_eq_some_iff.mp H
      obtain ⟨t117, A60, H⟩ := H
      have A6 := Aside0.mk A60
      clear A60
      obtain ⟨ji7, hji7⟩ : ∃ j_ : Int, (mn ((rd_T67 l0 x11_1).f1) t117) = j_ := ⟨_, rfl⟩
      replace H : (if (ji7) > 0 then (if x5_1.length < 5864062014805 then (vec_Meet.l0 k1 l1 (x5_1 ++ [(⟨(rd_T67 l0 x11_1).f0, ji7⟩ : S67)]) l0 (l0.length : Int) (wrap64 (x11_1 + 1))) else (none)) else (vec_Meet.l0 k1 l1 x5_1 l0 (l0.length : Int) (wrap64 (x11_1 + 1)))) = some r := by first | (rw [hji7] at H; exact H) | (simp only [hji7] at H ⊢; exact H)
      (try rw [hji7] at A6)
      have hji7_ : (if t117 < ((rd_T67 l0 x11_1).f1) then t117 else ((rd_T67 l0 x11_1).f1)) = ji7 := hji7
      by_cases c8 : (ji7) > 0
      ·rw [if_pos c8] at H
       have c8b0 : decide (0 < (ji7)) = true := decide_eq_true c8
       clear c8
       by_cases c9 : x5_1.length < 5864062014805
       ·rw [if_pos c9] at H
        have LMc9 := Aside0.mk c9
        clear c9
        obtain ⟨y118, hy118⟩ : ∃ y_ : List (S67), y_ = (x5_1 ++ [(⟨(rd_T67 l0 x11_1).f0, ji7⟩ : S67)]) := ⟨_, rfl⟩
        replace H : (vec_Meet.l0 k1 l1 y118 l0 (l0.length : Int) (wrap64 (x11_1 + 1))) = some r := by first | (rw [hy118]; with_reducible exact H) | (have H2_ := (Option.bind_some _ _).symm.trans H; rw [hy118]; with_reducible exact H2_) | (have H2_ := (Option.bind_some _ _).symm.trans H; with_reducible exact H2_) | with_reducible exact H | (rw [hy118]; exact H) | exact H
        have Ny118 := Aside0.mk hy118
        clear hy118
        have H' := Aside0.mk H
        clear H
        have p115 : 0 ≤ (x11_1 : Int) := of_decide_eq_true zq43_4
        have q115 : x11_1 < (l0.length : Int) := of_decide_eq_true zq43_4
        obtain ⟨ad115, e115, hx115_0, hx115_1⟩ := at_T67 HR0.out x11_1 p115 q115
        cases e115
        replace hx115_0 := (HB.out.cell (World.block_lt_of_cell? w _ hx115_0)).trans hx115_0
        replace hx115_1 := (HB.out.cell (World.block_lt_of_cell? w _ hx115_1)).trans hx115_1
        replace p115 := eq_true p115
        replace q115 := eq_true q115
        try go_wp2_with (first | ((with_reducible refine gate_dst (N := 7) rfl ?_); refine box_event ?hg (N := 7) ?hd (cs := #[.string (⟨#[]⟩ : ByteArray), .int .i64 0]) (t := 67) ?hr ?_; (case hd => rfl); (case hg => rfl); (case hr => first | (go_simp; done) | (go_simp; rfl)); intro gb116 hg w10 hbox hb; replace HO_5 := Aside0.mk (Kd.R_below (Kd.R_elderB zq43_3 gb116 (Nat.le_of_eq hg.symm)) hb); have BK116 := Aside0.mk (hbox); have GW116 := Aside0.mk ((zq43_0 : w.heap.size ≤ gb116)); have GE116 := Aside0.mk ((zq43_0 : w.heap.size ≤ gb116)); replace HB := Aside0.mk (below_step (by repeat (first | (with_reducible first | exact HB.out | apply below_alloc | apply pw_below_drewN | apply below_drew1) | exact HB.out)) hb); clear hb hbox hg; have hcz11_0 : w10.cell? ⟨gb116, 0, none⟩ = some (.string (⟨#[]⟩ : ByteArray)) := (blk_cell BK116.out 0).trans rfl; have hcz11_1 : w10.cell? ⟨gb116, 1, none⟩ = some (.int .i64 0) := (blk_cell BK116.out 1).trans rfl; have hfz11_0 := blk_frozen BK116.out 0; have hfz11_1 := blk_frozen BK116.out 1))
        have n0_ : Aside0 (Kd.R k67 67 ((w10.setCell ⟨gb116, 0, none⟩ (.string ((rd_T67 l0 x11_1).f0))).setCell ⟨gb116, 1, none⟩ (.int .i64 ((rd_T67 l0 x11_1).f1))) w.heap.size (fun k_ => k_ ≠ gb116) u5 x5_1) := ⟨by (with_reducible repeat (first | apply Kd.R_alloc | apply Kd.R_drewN | apply Kd.R_drew)); exact Kd.R_mono (Kd.R_far (p := ⟨gb116, 1, none⟩) (Kd.R_far (p := ⟨gb116, 0, none⟩) (Kd.R_mono HO_5.out (fun k_ hk => (⟨hk, hk.2⟩ : _ ∧ k_ ≠ gb116))) (fun _ hk => hk.2) (.string ((rd_T67 l0 x11_1).f0))) (fun _ hk => hk.2) (.int .i64 ((rd_T67 l0 x11_1).f1))) (fun _ hk => hk.1.2)⟩
        have n1_ : Aside0 (((w10.setCell ⟨gb116, 0, none⟩ (.string ((rd_T67 l0 x11_1).f0))).setCell ⟨gb116, 1, none⟩ (.int .i64 ((rd_T67 l0 x11_1).f1))).heap[gb116]? = some (.cells #[.string ((rd_T67 l0 x11_1).f0), .int .i64 ((rd_T67 l0 x11_1).f1)] 67 (0, 0))) := ⟨by (with_reducible repeat (first | refine blk_drewN ?_ _ | refine blk_drew ?_ | refine blk_alloc ?_ _)); refine blk_put (cs := #[.string ((rd_T67 l0 x11_1).f0), .int .i64 0]) ?_ 1 _ rfl; (with_reducible repeat (first | refine blk_drewN ?_ _ | refine blk_drew ?_ | refine blk_alloc ?_ _)); refine blk_put (cs := #[.string (⟨#[]⟩ : ByteArray), .int .i64 0]) ?_ 0 _ rfl; (with_reducible repeat (first | refine blk_drewN ?_ _ | refine blk_drew ?_ | refine blk_alloc ?_ _)); exact BK116.out⟩
        have n2_ : Aside0 (Below w.heap.size w ((w10.setCell ⟨gb116, 0, none⟩ (.string ((rd_T67 l0 x11_1).f0))).setCell ⟨gb116, 1, none⟩ (.int .i64 ((rd_T67 l0 x11_1).f1)))) := ⟨by repeat (first | (with_reducible first | exact HB.out | apply below_alloc | apply pw_below_drewN | apply below_drew1 | refine below_set ?_ GE116.out) | exact HB.out)⟩
        (try clear HO_5)
        (try clear BK116)
        (try clear HB)
        generalize ((w10.setCell ⟨gb116, 0, none⟩ (.string ((rd_T67 l0 x11_1).f0))).setCell ⟨gb116, 1, none⟩ (.int .i64 ((rd_T67 l0 x11_1).f1))) = w12 at n0_ n1_ n2_ ⊢
        have HO_5 := n0_
        have BK116 := n1_
        have HB := n2_
        clear n0_ n1_ n2_
        replace HO_5 := Aside0.mk (Kd.R_drew HO_5.out)
        replace BK116 := Aside0.mk (blk_drew BK116.out)
        replace HB := Aside0.mk (below_drew1 HB.out)
        refine start_ (n := 8) (S := fun w' => w'.cell? ⟨gb116, 0, none⟩ = some (.string ((rd_T67 l0 x11_1).f0)) ∧ w'.cell? ⟨gb116, 1, none⟩ = some (.int .i64 ((rd_T67 l0 x11_1).f1))) (ds := []) #[false, false, false, false, false, false, false, false] (by kernel_rfl) rfl rfl ⟨(blk_cell BK116.out 0).trans rfl, (blk_cell BK116.out 1).trans rfl⟩ (fun hHeld => ?_); refine with_tabW vec_Meet.tab5 vec_Meet.bits5 (fun HT_ HW_ => ?_)
        generalize w12.drew = w13 at HO_5 BK116 HB hHeld ⊢
        refine p_ 0 15 (mk_ 8 0x1) ?_
        refine p_ 2 17 (mk_ 8 0x5) ?_
        refine p_ 3 18 (mk_ 8 0xd) ?_
        refine t_ 1 16 (mk_ 8 0xf) hHeld ?_
        refine t_ 4 19 (mk_ 8 0x1f) hHeld ?_
        refine one_ (i := 5) (N := some 20) #[true, true, true, true, true, true, false, false] rfl rfl (one_of HT_.out (by kernel_rfl)) (by decide) (fun K hK => ?_)
        refine goes_ Try.func48 (by kernel_rfl) rfl #[.slice A1 l1.length c1, .string ((rd_T67 l0 x11_1).f0)] (by rfl) rfl rfl (by (try simp only [List.map_toArray, List.map_cons, List.map_nil]); first | done | rfl | (simp only [List.length_drop, List.length_take]; rfl)) ?_
        with_reducible refine (vec_Of.calls _ _ l1 ((rd_T67 l0 x11_1).f0) t117 _ ?side1 ?side2 A6.out).mono ?_
        (case side1 => repeat (first | exact (Kd.C_below HR1.out HB.out) | (with_reducible refine Kd.C_alloc ?_ _) | (with_reducible refine Kd.C_drewN ?_ _) | (with_reducible refine Kd.C_drew ?_)))
        (case side2 => exact HC1.out)
        rintro e w14 ⟨rfl, hb⟩
        refine ⟨_, rfl, ?_⟩
        replace HO_5 := Aside0.mk (Kd.R_below zq43_3 hb)
        replace BK116 := Aside0.mk (blk_below (g := gb116) (o := .cells #[.string ((rd_T67 l0 x11_1).f0), .int .i64 ((rd_T67 l0 x11_1).f1)] 67 (0, 0)) zq43_2 hb)
        replace HB := Aside0.mk (below_step zq43_1 hb)
        (try clear hb)
        (try clear hb2)
        (try clear hk)
        (try clear hi)
        refine hK.out _ _ ⟨(blk_cell BK116.out 0).trans rfl, (blk_cell BK116.out 1).trans rfl⟩ (fun hHeld => ?_)
        clear hK K
        refine norm_ (a' := ?_) ?_ ?_
        rotate_left
        ·show Act.put _ (some 20) _ = _
         simp only [Act.put, List.setIfInBounds_toArray, List.set_cons_zero, List.set_cons_succ, i64_w, i32_w]
         rfl
        refine p_ 6 21 (mk_ 8 0x7f) ?_
        refine p_ 7 8 (mk_ 8 0xff) ?_
        refine done_ (done_of HT_.out (by kernel_rfl)) ?_
        have hcz15_0 : w14.cell? ⟨gb116, 0, none⟩ = some (.string ((rd_T67 l0 x11_1).f0)) := (blk_cell BK116.out 0).trans rfl
        have hcz15_1 : w14.cell? ⟨gb116, 1, none⟩ = some (.int .i64 ((rd_T67 l0 x11_1).f1)) := (blk_cell BK116.out 1).trans rfl
        have hfz15_0 := blk_frozen BK116.out 0
        have hfz15_1 := blk_frozen BK116.out 1
        try go_wp2_with (first | ((with_reducible refine gate_builtin (b := .append) (xs := #[.tmp 24, .tmp 29]) rfl ?_); at_builtin; refine Kd.R_append k67 (w0 := w) w.heap.size rfl (.tmp 24) (.tmp 29) 36 67 (.agg #[(.string ⟨#[]⟩), (.int .i64 0)]) 24 rfl Try.underlying36 info67 rfl (by decide) (by omega) u5 x5_1 (⟨(rd_T67 l0 x11_1).f0, ji7⟩ : S67) [.string ((rd_T67 l0 x11_1).f0), .int .i64 ji7] (fun k_ => k_ ≠ gb116) (fun _ => False) rfl rfl ?aP (fun _ hk => hk.elim) ?aF ?aO ?aB ?aS ?aL ?_; (case aP => exact k67_mkM _ _ _ (⟨(rd_T67 l0 x11_1).f0, ji7⟩ : S67)); (case aB => exact zq43_1); (case aF => exact (fun k_ hk => Kd.freshB (g := gb116) (o := .cells #[.string ((rd_T67 l0 x11_1).f0), .int .i64 ((rd_T67 l0 x11_1).f1)] 67 (0, 0)) zq43_2 k_ hk)); (case aO => exact zq43_3); (case aS => exact (below_size zq43_1)); (case aL => have := LMc9.out; omega); intro v119 w16 ho hb hg hat; rw [← Ny118.out] at ho; replace BK116 := Aside0.mk (blk_grown (g := gb116) (o := .cells #[.string ((rd_T67 l0 x11_1).f0), .int .i64 ((rd_T67 l0 x11_1).f1)] 67 (0, 0)) zq43_2 hg (Kd.R_away HO_5.out (fun _ hk => hk))); replace HB := Aside0.mk (hb); have HO120 := Aside0.mk (ho); clear HO_5; clear ho hb hg hat))
        go_roundg k1
        case measure => have := HK1.out; omega
        case rel => exact ⟨(y118), (wrap64 (x11_1 + 1)), zq43_5, H', ⟨by have := HK1.out; omega⟩, ⟨by (with_reducible repeat (first | apply Kd.R_alloc | apply Kd.R_drewN | apply Kd.R_drew)); exact Kd.R_mono HO120.out (fun _ hk => trivial)⟩, ⟨by repeat (first | (with_reducible first | exact HB.out | apply below_alloc | apply pw_below_drewN | apply below_drew1 | refine below_set ?_ GE116.out) | exact HB.out)⟩⟩
       ·rw [if_neg c9] at H
        exact absurd H (by simp)
      ·rw [if_neg c8] at H
       have c8b0 : decide (0 < (ji7)) = false := decide_eq_false c8
       clear c8
       have H' := Aside0.mk H
       clear H
       have p115 : 0 ≤ (x11_1 : Int) := of_decide_eq_true zq43_4
       have q115 : x11_1 < (l0.length : Int) := of_decide_eq_true zq43_4
       obtain ⟨ad115, e115, hx115_0, hx115_1⟩ := at_T67 HR0.out x11_1 p115 q115
       cases e115
       replace hx115_0 := (HB.out.cell (World.block_lt_of_cell? w _ hx115_0)).trans hx115_0
       replace hx115_1 := (HB.out.cell (World.block_lt_of_cell? w _ hx115_1)).trans hx115_1
       replace p115 := eq_true p115
       replace q115 := eq_true q115
       try go_wp2_with (first | ((with_reducible refine gate_dst (N := 7) rfl ?_); refine box_event ?hg (N := 7) ?hd (cs := #[.string (⟨#[]⟩ : ByteArray), .int .i64 0]) (t := 67) ?hr ?_; (case hd => rfl); (case hg => rfl); (case hr => first | (go_simp; done) | (go_simp; rfl)); intro gb116 hg w17 hbox hb; replace HO_5 := Aside0.mk (Kd.R_below (Kd.R_elderB zq43_3 gb116 (Nat.le_of_eq hg.symm)) hb); have BK116 := Aside0.mk (hbox); have GW116 := Aside0.mk ((zq43_0 : w.heap.size ≤ gb116)); have GE116 := Aside0.mk ((zq43_0 : w.heap.size ≤ gb116)); replace HB := Aside0.mk (below_step (by repeat (first | (with_reducible first | exact HB.out | apply below_alloc | apply pw_below_drewN | apply below_drew1) | exact HB.out)) hb); clear hb hbox hg; have hcz18_0 : w17.cell? ⟨gb116, 0, none⟩ = some (.string (⟨#[]⟩ : ByteArray)) := (blk_cell BK116.out 0).trans rfl; have hcz18_1 : w17.cell? ⟨gb116, 1, none⟩ = some (.int .i64 0) := (blk_cell BK116.out 1).trans rfl; have hfz18_0 := blk_frozen BK116.out 0; have hfz18_1 := blk_frozen BK116.out 1))
       have n0_ : Aside0 (Kd.R k67 67 ((w17.setCell ⟨gb116, 0, none⟩ (.string ((rd_T67 l0 x11_1).f0))).setCell ⟨gb116, 1, none⟩ (.int .i64 ((rd_T67 l0 x11_1).f1))) w.heap.size (fun k_ => k_ ≠ gb116) u5 x5_1) := ⟨by (with_reducible repeat (first | apply Kd.R_alloc | apply Kd.R_drewN | apply Kd.R_drew)); exact Kd.R_mono (Kd.R_far (p := ⟨gb116, 1, none⟩) (Kd.R_far (p := ⟨gb116, 0, none⟩) (Kd.R_mono HO_5.out (fun k_ hk => (⟨hk, hk.2⟩ : _ ∧ k_ ≠ gb116))) (fun _ hk => hk.2) (.string ((rd_T67 l0 x11_1).f0))) (fun _ hk => hk.2) (.int .i64 ((rd_T67 l0 x11_1).f1))) (fun _ hk => hk.1.2)⟩
       have n1_ : Aside0 (((w17.setCell ⟨gb116, 0, none⟩ (.string ((rd_T67 l0 x11_1).f0))).setCell ⟨gb116, 1, none⟩ (.int .i64 ((rd_T67 l0 x11_1).f1))).heap[gb116]? = some (.cells #[.string ((rd_T67 l0 x11_1).f0), .int .i64 ((rd_T67 l0 x11_1).f1)] 67 (0, 0))) := ⟨by (with_reducible repeat (first | refine blk_drewN ?_ _ | refine blk_drew ?_ | refine blk_alloc ?_ _)); refine blk_put (cs := #[.string ((rd_T67 l0 x11_1).f0), .int .i64 0]) ?_ 1 _ rfl; (with_reducible repeat (first | refine blk_drewN ?_ _ | refine blk_drew ?_ | refine blk_alloc ?_ _)); refine blk_put (cs := #[.string (⟨#[]⟩ : ByteArray), .int .i64 0]) ?_ 0 _ rfl; (with_reducible repeat (first | refine blk_drewN ?_ _ | refine blk_drew ?_ | refine blk_alloc ?_ _)); exact BK116.out⟩
       have n2_ : Aside0 (Below w.heap.size w ((w17.setCell ⟨gb116, 0, none⟩ (.string ((rd_T67 l0 x11_1).f0))).setCell ⟨gb116, 1, none⟩ (.int .i64 ((rd_T67 l0 x11_1).f1)))) := ⟨by repeat (first | (with_reducible first | exact HB.out | apply below_alloc | apply pw_below_drewN | apply below_drew1 | refine below_set ?_ GE116.out) | exact HB.out)⟩
       (try clear HO_5)
       (try clear BK116)
       (try clear HB)
       generalize ((w17.setCell ⟨gb116, 0, none⟩ (.string ((rd_T67 l0 x11_1).f0))).setCell ⟨gb116, 1, none⟩ (.int .i64 ((rd_T67 l0 x11_1).f1))) = w19 at n0_ n1_ n2_ ⊢
       have HO_5 := n0_
       have BK116 := n1_
       have HB := n2_
       clear n0_ n1_ n2_
       replace HO_5 := Aside0.mk (Kd.R_drew HO_5.out)
       replace BK116 := Aside0.mk (blk_drew BK116.out)
       replace HB := Aside0.mk (below_drew1 HB.out)
       refine start_ (n := 8) (S := fun w' => w'.cell? ⟨gb116, 0, none⟩ = some (.string ((rd_T67 l0 x11_1).f0)) ∧ w'.cell? ⟨gb116, 1, none⟩ = some (.int .i64 ((rd_T67 l0 x11_1).f1))) (ds := []) #[false, false, false, false, false, false, false, false] (by kernel_rfl) rfl rfl ⟨(blk_cell BK116.out 0).trans rfl, (blk_cell BK116.out 1).trans rfl⟩ (fun hHeld => ?_); refine with_tabW vec_Meet.tab5 vec_Meet.bits5 (fun HT_ HW_ => ?_)
       generalize w19.drew = w20 at HO_5 BK116 HB hHeld ⊢
       refine p_ 0 15 (mk_ 8 0x1) ?_
       refine p_ 2 17 (mk_ 8 0x5) ?_
       refine p_ 3 18 (mk_ 8 0xd) ?_
       refine t_ 1 16 (mk_ 8 0xf) hHeld ?_
       refine t_ 4 19 (mk_ 8 0x1f) hHeld ?_
       refine one_ (i := 5) (N := some 20) #[true, true, true, true, true, true, false, false] rfl rfl (one_of HT_.out (by kernel_rfl)) (by decide) (fun K hK => ?_)
       refine goes_ Try.func48 (by kernel_rfl) rfl #[.slice A1 l1.length c1, .string ((rd_T67 l0 x11_1).f0)] (by rfl) rfl rfl (by (try simp only [List.map_toArray, List.map_cons, List.map_nil]); first | done | rfl | (simp only [List.length_drop, List.length_take]; rfl)) ?_
       with_reducible refine (vec_Of.calls _ _ l1 ((rd_T67 l0 x11_1).f0) t117 _ ?side1 ?side2 A6.out).mono ?_
       (case side1 => repeat (first | exact (Kd.C_below HR1.out HB.out) | (with_reducible refine Kd.C_alloc ?_ _) | (with_reducible refine Kd.C_drewN ?_ _) | (with_reducible refine Kd.C_drew ?_)))
       (case side2 => exact HC1.out)
       rintro e w21 ⟨rfl, hb⟩
       refine ⟨_, rfl, ?_⟩
       replace HO_5 := Aside0.mk (Kd.R_below zq43_3 hb)
       replace BK116 := Aside0.mk (blk_below (g := gb116) (o := .cells #[.string ((rd_T67 l0 x11_1).f0), .int .i64 ((rd_T67 l0 x11_1).f1)] 67 (0, 0)) zq43_2 hb)
       replace HB := Aside0.mk (below_step zq43_1 hb)
       (try clear hb)
       (try clear hb2)
       (try clear hk)
       (try clear hi)
       refine hK.out _ _ ⟨(blk_cell BK116.out 0).trans rfl, (blk_cell BK116.out 1).trans rfl⟩ (fun hHeld => ?_)
       clear hK K
       refine norm_ (a' := ?_) ?_ ?_
       rotate_left
       ·show Act.put _ (some 20) _ = _
        simp only [Act.put, List.setIfInBounds_toArray, List.set_cons_zero, List.set_cons_succ, i64_w, i32_w]
        rfl
       refine p_ 6 21 (mk_ 8 0x7f) ?_
       refine p_ 7 8 (mk_ 8 0xff) ?_
       refine done_ (done_of HT_.out (by kernel_rfl)) ?_
       try go_wp2
       go_roundg k1
       case measure => have := HK1.out; omega
       case rel => exact ⟨(x5_1), (wrap64 (x11_1 + 1)), zq43_5, H', ⟨by have := HK1.out; omega⟩, ⟨by (with_reducible repeat (first | apply Kd.R_alloc | apply Kd.R_drewN | apply Kd.R_drew)); exact Kd.R_mono HO_5.out (fun _ hk => trivial)⟩, ⟨by repeat (first | (with_reducible first | exact HB.out | apply below_alloc | apply pw_below_drewN | apply below_drew1 | refine below_set ?_ GE116.out) | exact HB.out)⟩⟩
     ·rw [if_neg c5] at H
      exact absurd H (by simp)
    ·rw [if_neg c4] at H
     exact absurd H (by simp)
   ·rw [if_neg c3] at H
    have c3b0 : decide (x11_1 < (l0.length : Int)) = false := decide_eq_false c3
    clear c3
    obtain rfl := Option.some.inj H
    go_wp2
    go_ret
    exact ⟨_, by first | rfl | (simp [errW_none, errW_some] <;> rfl) | (simp [*, errW_none, errW_some] <;> rfl), by (with_reducible repeat (first | apply Kd.R_alloc | apply Kd.R_drewN | apply Kd.R_drew)); exact HO_5.out, by repeat (first | (with_reducible first | exact HB.out | apply below_alloc | apply pw_below_drewN | apply below_drew1) | exact HB.out)⟩

/-! ### matrix_Stable: function 14 -/
theorem str_at {w : World} {A : Option Addr} {n : Nat} {l : List ByteArray} (h : Kd.C Kd.string w A n l) {i : Nat} (hi : i < n) : ∃ ad, A = some ad ∧ w.cell? (ad.add i) = some (.string (l.getD i ByteArray.empty)) := by
 obtain ⟨ad, cs, e, _, hk, hc⟩ := Kd.C_get h ByteArray.empty (i : Int) (by omega) (by omega)
 have h2 := hc 0 (.string (l.getD i ByteArray.empty)) (by rw [show cs = [.string (l.getD (i : Int).toNat ByteArray.empty)] from hk]; simp)
 refine ⟨ad, e, ?_⟩
 simpa [Kd.string, Kd.scalar] using h2
theorem drop_cons_getD {α : Type} (l : List α) (z : α) {i : Nat} (hi : i < l.length) : l.drop i = l.getD i z :: l.drop (i + 1) := by
 rw [List.getD_eq_getElem?_getD, List.getElem?_eq_getElem hi, List.drop_eq_getElem_cons hi]; rfl
def stF (k : Nat) (m : List S50) : List S67 → List ByteArray → Option (List S67)
 | out, [] => some out
 | out, a :: l => (vec_Meet.f k out (ofM m a)).bind fun o => stF k m o l
def stableM (k : Nat) (m : List S50) : List ByteArray → Option (List S67)
 | [] => some []
 | a :: l => stF k m (ofM m a) l
set_option maxHeartbeats 3200000 in
set_option maxRecDepth 100000 in
theorem matrix_Stable.at (k : Nat) (A0 : Option Addr) (c0 : Nat) (m : List S50) (A1 : Option Addr) (c1 : Nat) (l : List ByteArray) (res : List S67) (w : World) (hr0 : Kd.C k50 w A0 m.length m) (hc0 : m.length ≤ c0) (hm : okM m) (hr1 : Kd.C Kd.string w A1 l.length l) (h : stableM k m l = some res) :
  Calls Try.prog 14 #[.slice A0 m.length c0, .slice A1 l.length c1] w fun e w' => ∃ v0_ : Value, e = .returned (v0_) ∧ Kd.V k67 67 w' w.heap.size (fun k_ => w.heap.size ≤ k_) v0_ res ∧ Below w.heap.size w w' := by
 have hn1 := hr1.2.1
 have HS := Aside0.mk (fun i (hi : i < l.length) => str_at hr1 hi)
 have HOF := Aside0.mk (fun a W (hW : Below w.heap.size w W) => matrix_Of.at A0 c0 m a W (Kd.C_below hr0 hW) hc0 hm)
 have H := Aside0.mk h
 clear hr0 hr1 h hm hc0
 generalize hn : l.length = n at *
 have HN := Aside0.mk hn
 clear hn
 have HB := Aside0.mk (Below.refl w.heap.size w)
 go_enter Try.func14, Try.ntmps14
 go_wp2
 go_loopw [5, 10] (fun vo vi wr => ∃ (i : Nat) (out : List S67) (Ao : Option Addr) (co : Nat), vo = .slice Ao out.length co ∧ vi = .int .i64 i ∧ i ≤ n ∧ Aside0 (i = 0 → out = []) ∧ Aside0 (0 < i → stF k m out (l.drop i) = some res) ∧ Aside0 (Kd.V k67 67 wr w.heap.size (fun k => w.heap.size ≤ k) (.slice Ao out.length co) out) ∧ Aside0 (Below w.heap.size w wr)) (fun _ vi _ => n - (intOf vi).toNat)
 case atStart => exact ⟨0, [], none, 0, rfl, rfl, Nat.zero_le _, ⟨fun _ => rfl⟩, ⟨fun h => absurd h (by omega)⟩, ⟨Kd.V_nil _ _ _ _ _⟩, HB⟩
 case round =>
  clear HB
  obtain ⟨i, out, Ao, co, rfl, rfl, hin, HZ, HP, HC, HB⟩ := hrel
  by_cases hj : i < n
  ·obtain ⟨ad, hA, hcl⟩ := HS.out i hj
   subst hA
   have hcl2 := (HB.out.cell (World.block_lt_of_cell? w _ hcl)).trans hcl
   clear hcl
   have hdr := drop_cons_getD l ByteArray.empty (i := i) (by rw [HN.out]; exact hj)
   generalize hx : l.getD i ByteArray.empty = x at hcl2 hdr
   have HDR := Aside0.mk hdr
   clear hdr hx
   have pm := eq_true (show (0 : Int) ≤ (i : Int) by omega)
   have qm := eq_true (show (i : Int) < (n : Int) by omega)
   have HO := Aside0.mk (HOF.out x wr HB.out)
   by_cases hz : i = 0
   ·have HV := Aside0.mk (show stF k m (ofM m x) (l.drop (i + 1)) = some res from by
     have := H.out
     have h2 := HDR.out
     subst hz
     rw [List.drop_zero] at h2
     rw [h2] at this
     exact this)
    have hz1 : ((i : Int) == 0) = true := by rw [hz]; rfl
    have hz2 := eq_true (show (i : Int) = 0 by omega)
    have hz3 : decide ((i : Int) = 0) = true := decide_eq_true (by omega)
    clear hz
    go_wp2_with fail
    refine HO.out.mono ?_
    rintro e w2 ⟨v2, rfl, hV2, hb2⟩
    obtain ⟨A2, c2, rfl⟩ := Kd.V_slice hV2
    have HB2 := Aside0.mk (below_step HB.out hb2)
    have HC2 := Aside0.mk (Kd.V_lower (base' := w.heap.size) (Kd.V_mono hV2 (ok' := fun k => w.heap.size ≤ k) (fun k hk => by have := below_size HB.out; omega)) (below_size HB.out))
    clear hb2 hV2
    go_wp2_with fail
    go_roundw
    case rel => exact ⟨i + 1, _, A2, c2, rfl, by go_num, by omega, ⟨fun h => absurd h (by omega)⟩, ⟨fun _ => HV.out⟩, HC2, HB2⟩
    case measure => simp [intOf]; omega
   ·have hs := HP.out (by omega)
    rw [HDR.out] at hs
    obtain ⟨o, ho, hs⟩ := Option.bind_eq_some_iff.mp (show (vec_Meet.f k out (ofM m x)).bind (fun o => stF k m o (l.drop (i + 1))) = some res from hs)
    have HV := Aside0.mk hs
    have HM := Aside0.mk ho
    have hz1 : ((i : Int) == 0) = false := by rw [beq_eq_false_iff_ne]; omega
    have hz2 := eq_false (show ¬ (i : Int) = 0 by omega)
    have hz3 : decide ((i : Int) = 0) = false := decide_eq_false (by omega)
    have hz4 := eq_false hz
    have hz5 : decide (i = 0) = false := decide_eq_false hz
    clear hz hs ho
    go_wp2_with fail
    refine HO.out.mono ?_
    rintro e w2 ⟨v2, rfl, hV2, hb2⟩
    obtain ⟨A2, c2, rfl⟩ := Kd.V_slice hV2
    have HB2 := Aside0.mk (below_step HB.out hb2)
    have HC2 := Aside0.mk (Kd.V_reads' hV2)
    have HC1 := Aside0.mk (Kd.V_reads' (Kd.V_below HC.out hb2))
    clear hb2 hV2
    go_wp2_with fail
    refine (vec_Meet.calls k Ao co out A2 c2 (ofM m x) o w2 HC1.out.2.2 HC1.out.2.1 HC2.out.2.2 HC2.out.2.1 HM.out).mono ?_
    rintro e w3 ⟨v3, rfl, ho3, hb3⟩
    obtain ⟨A3, c3, rfl⟩ := Kd.R_slice ho3
    have HB3 := Aside0.mk (below_step HB2.out hb3)
    have HC3 := Aside0.mk (Kd.V_mono (Kd.R_V (base' := w.heap.size) (Kd.R_bound ho3)) (ok' := fun k => w.heap.size ≤ k) (fun k hk => by have := hk.2.1; have := below_size HB2.out; omega))
    clear ho3 hb3
    go_wp2_with fail
    go_roundw
    case rel => exact ⟨i + 1, o, A3, c3, rfl, by go_num, by omega, ⟨fun h => absurd h (by omega)⟩, ⟨fun _ => HV.out⟩, HC3, HB3⟩
    case measure => simp [intOf]; omega
  ·have hge : decide ((i : Int) < (n : Int)) = false := by simp; omega
   have hres : res = out := by
    have hni : l.drop i = [] := List.drop_of_length_le (by rw [HN.out]; omega)
    by_cases hz : i = 0
    ·have h0 : l = [] := by rw [hz, List.drop_zero] at hni; exact hni
     have h1 := H.out
     rw [h0] at h1
     rw [HZ.out hz]
     exact (Option.some.inj h1).symm
    ·have h1 := HP.out (by omega)
     rw [hni] at h1
     exact (Option.some.inj h1).symm
   subst hres
   go_wp2_with fail
   go_ret
   exact ⟨_, rfl, HC.out, HB.out⟩
theorem stF_mono (k : Nat) (m : List S50) : ∀ (l : List ByteArray) (out : List S67), LeO (stF k m out l) (stF (k + 1) m out l)
 | [], _ => LeO.refl _
 | a :: l, out => by unfold stF; exact LeO.bind (vec_Meet.mono _ _ _) (fun _ => stF_mono k m l _)
def matrix_Stable.f (k : Nat) (l0 : List S50) (l1 : List ByteArray) : Option (List S67) := if okM l0 then stableM k l0 l1 else none
theorem matrix_Stable.mono : ∀ a0 a1 k, LeO (matrix_Stable.f k a0 a1) (matrix_Stable.f (k + 1) a0 a1) := by
 intro a0 a1 k
 unfold matrix_Stable.f
 refine LeO.ite ?_ (LeO.refl _)
 cases a1 with
 | nil => exact LeO.refl _
 | cons a l => exact stF_mono _ _ _ _
theorem matrix_Stable.calls (k : Nat) (A0 : Option Addr) (c0 : Nat) (l0 : List S50) (A1 : Option Addr) (c1 : Nat) (l1 : List ByteArray) (r : List S67) (w : World) (hr0 : Kd.C k50 w A0 l0.length l0) (hc0 : l0.length ≤ c0) (hr1 : Kd.C Kd.string w A1 l1.length l1) (hc1 : l1.length ≤ c1) (h : matrix_Stable.f k l0 l1 = some r) :
  Calls Try.prog 14 #[.slice A0 l0.length c0, .slice A1 l1.length c1] w fun e w' => ∃ v0_ : Value, e = .returned (v0_) ∧ Kd.V k67 67 w' w.heap.size (fun k_ => w.heap.size ≤ k_) v0_ r ∧ Below w.heap.size w w' := by
 unfold matrix_Stable.f at h
 by_cases hc : okM l0
 ·rw [if_pos hc] at h
  exact matrix_Stable.at k A0 c0 l0 A1 c1 l1 r w hr0 hc0 hc hr1 h
 ·rw [if_neg hc] at h; cases h

/-! ### strings_HasPrefix: function 61 -/
def strings_HasPrefix.f (a0 : ByteArray) (a1 : ByteArray) : Option Bool := some (a1.data.toList.isPrefixOf a0.data.toList)
set_option maxHeartbeats 800000 in
theorem strings_HasPrefix.calls (a0 : ByteArray) (a1 : ByteArray) (r : Bool) (w : World) (h : strings_HasPrefix.f a0 a1 = some r) :
  Calls Try.prog 61 #[.string a0, .string a1] w fun e w' => e = .returned (.bool r) ∧ Drawn0 w w' := by
 have hr : r = (decide (a1.size ≤ a0.size) && ((a0.extract 0 a1.size).toList == a1.toList)) := by
  rw [Lib.hasPrefix_raw]; exact (Option.some.inj h).symm
 have HR := Aside0.mk hr
 clear hr h
 go_enter Try.func61, Try.ntmps61
 go_wp2
 ·rename_i h
  go_ret
  refine ⟨?_, Drawn0.refl _⟩
  have h2 : decide (a1.size ≤ a0.size) = true := by simpa using h
  rw [HR.out, h2, Bool.true_and]; rfl
 ·rename_i h
  go_ret
  refine ⟨?_, Drawn0.refl _⟩
  have h2 : decide (a1.size ≤ a0.size) = false := by simpa using h
  rw [HR.out, h2, Bool.false_and]; rfl

/-! ### id_Right: function 36 -/
def id_Right.f (a0 : ByteArray) : Option Bool := some (rightB a0)
set_option maxHeartbeats 800000 in
set_option maxRecDepth 100000 in
theorem id_Right.mid (a0 : ByteArray) (r : Bool) (w : World) (hp1 : (({ data := #[48] } : ByteArray).data.toList.isPrefixOf a0.data.toList) = true) (h1 : 1 ≤ a0.size) (h6 : a0.size ≤ 6) (hr : Aside0 ((a0.extract 1 a0.size).data.toList.all okDigit = r)) :
  Calls Try.prog 36 #[.string a0] w fun e w' => e = .returned (.bool r) ∧ Below w.heap.size w w' := by
 have hc0 : decide (6 < (a0.size : Int)) = false := by simp; omega
 have hcv := fun W => Lib.run_convert_string_bytes (P := Try.prog) W 46 95 5 (a0.extract 1 a0.size) Try.underlying46 Try.underlying95 Try.underlying5
 have hes : (a0.extract 1 a0.size).size = a0.size - 1 := by simp [ByteArray.size_extract]
 have hx : (a0.extract 1 a0.size).size ≤ 5 := by omega
 have hpre : strings_HasPrefix.f a0 ⟨#[48]⟩ = some true := congrArg some hp1
 generalize hs : a0.extract 1 a0.size = s at hcv hes hx hr ⊢
 have HP := Aside0.mk hpre
 clear hpre
 go_enter Try.func36, Try.ntmps36
 go_wp2_with (first | (go_at_call 61; refine (strings_HasPrefix.calls _ _ true _ HP.out).mono ?_; rintro e w' ⟨rfl, ⟨nd, rfl⟩⟩))
 have HC := Aside0.mk (show ∀ j, j < s.size → (Lib.bytesWorld (w.drewN nd) 5 s).cell? ⟨w.heap.size, j, none⟩ = some (.int .u8 (s.data.toList.getD j 0).toNat) from fun j hj => Lib.bytesWorld_cell (w.drewN nd) 5 s j hj)
 have HB := Aside0.mk (below_bytesWorldN w nd 5 s)
 clear hcv
 generalize Lib.bytesWorld (w.drewN nd) 5 s = W at HB HC ⊢
 have HL := Aside0.mk (show s.data.toList.length = s.size by simp)
 clear hs
 go_loop [4, 17] (fun _ i => ∃ k : Nat, k ≤ s.size ∧ i = .int .i64 k ∧ Aside0 ((s.data.toList.take k).all okDigit = true)) (fun _ i => s.size - (intOf i).toNat)
 case atStart => exact ⟨0, Nat.zero_le _, rfl, ⟨by simp⟩⟩
 case round =>
  obtain ⟨k, hk, rfl, HA⟩ := hrel
  by_cases hlt : k < s.size
  ·have hc := HC.out k hlt
   have hks : s.data.toList.getD k 0 = s.data.toList[k]'(by simpa using hlt) := by simp [List.getD, hlt]
   have hsn : (s.data.toList.take (k + 1)).all okDigit = okDigit (s.data.toList.getD k 0) := by
    rw [List.take_succ_eq_append_getElem (by simpa using hlt), List.all_append, HA.out, hks]; simp
   have hno : okDigit (s.data.toList.getD k 0) = false → s.data.toList.all okDigit = false := by
    intro h; rw [hks] at h
    rw [List.all_eq_false]; exact ⟨s.data.toList[k]'(by simpa using hlt), List.getElem_mem _, by rw [h]; decide⟩
   generalize s.data.toList.getD k 0 = c at hc hsn hks hno
   by_cases hd : okDigit c = true
   ·obtain ⟨h48, h57⟩ := u8_digit hd
    rw [hd] at hsn
    have HN := Aside0.mk hsn
    clear hsn hd hks hno
    go_wp2
    go_round
    case rel => exact ⟨k + 1, by omega, by go_num, HN⟩
    case measure => simp [intOf]; omega
   ·have HN := Aside0.mk (hno (by simpa using hd))
    have hdd := u8_nodigit hd
    clear hsn hks hno hd
    have fin : r = false := by rw [← hr.out, HN.out]
    subst fin
    rcases hdd with hdd | hdd
    ·have hdd' : decide ((c.toNat : Int) ≤ 48) = true := decide_eq_true hdd
     clear hdd
     go_wp2
     go_ret
     exact ⟨rfl, HB.out⟩
    ·have hdd' : decide ((57 : Int) < c.toNat) = true := decide_eq_true hdd
     clear hdd
     go_wp2
     all_goals (go_ret; exact ⟨rfl, HB.out⟩)
  ·have e : k = s.size := by omega
   have hall : s.data.toList.all okDigit = true := by
    have := HA.out; rwa [e, ← HL.out, List.take_length] at this
   have fin : r = true := by rw [← hr.out, hall]
   clear hall e
   subst fin
   have hge : decide ((k : Int) < (s.size : Int)) = false := by simp; omega
   go_wp2
   go_ret
   exact ⟨rfl, HB.out⟩

set_option maxHeartbeats 800000 in
set_option maxRecDepth 100000 in
theorem id_Right.calls (a0 : ByteArray) (r : Bool) (w : World) (h : id_Right.f a0 = some r) :
  Calls Try.prog 36 #[.string a0] w fun e w' => e = .returned (.bool r) ∧ Below w.heap.size w w' := by
 have hr : rightB a0 = r := Option.some.inj h
 clear h
 unfold rightB at hr
 by_cases hp1 : (({ data := #[48] } : ByteArray).data.toList.isPrefixOf a0.data.toList) = true
 ·have h1 : 1 ≤ a0.size := by
   cases e : a0.data.toList with
   | nil => rw [e] at hp1; simp [List.isPrefixOf] at hp1
   | cons c t =>
    have : a0.data.toList.length = t.length + 1 := by rw [e]; rfl
    have h2 : a0.data.toList.length = a0.size := by simp
    omega
  by_cases h6 : a0.size ≤ 6
  ·exact id_Right.mid a0 r w hp1 h1 h6 ⟨by rw [← hr, hp1, decide_eq_true h6]; simp⟩
  ·have fin : r = false := by rw [← hr, decide_eq_false h6]; simp
   subst fin
   clear hr
   have HP := Aside0.mk (show strings_HasPrefix.f a0 ⟨#[48]⟩ = some true from congrArg some hp1)
   clear hp1
   have hc0 : decide (6 < (a0.size : Int)) = true := by simp; omega
   go_enter Try.func36, Try.ntmps36
   go_wp2_with (first | (go_at_call 61; refine (strings_HasPrefix.calls _ _ true _ HP.out).mono ?_; rintro e w' ⟨rfl, ⟨nd, rfl⟩⟩))
   go_ret
   exact ⟨rfl, pw_below_drewN (Below.refl _ _) _⟩
 ·have hpf : (({ data := #[48] } : ByteArray).data.toList.isPrefixOf a0.data.toList) = false := (Bool.not_eq_true _).mp hp1
  have fin : r = false := by rw [← hr, hpf]; rfl
  subst fin
  clear hr
  have HP := Aside0.mk (show strings_HasPrefix.f a0 ⟨#[48]⟩ = some false from congrArg some hpf)
  clear hp1 hpf
  go_enter Try.func36, Try.ntmps36
  go_wp2_with (first | (go_at_call 61; refine (strings_HasPrefix.calls _ _ false _ HP.out).mono ?_; rintro e w' ⟨rfl, ⟨nd, rfl⟩⟩))
  go_ret
  exact ⟨rfl, pw_below_drewN (Below.refl _ _) _⟩

end Go.Proofs.Ytoodahceejdbcaa.P
