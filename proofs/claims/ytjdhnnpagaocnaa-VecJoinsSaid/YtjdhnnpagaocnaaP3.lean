-- Written by a program of this session (wip/pp.py over the kit's printer, with our own texts put in).
import Derived.Test.YtjdhnnpagaocnaaP0
namespace Go.Proofs.Ytjdhnnpagaocnaa.P
open Go.RowKit Go.Proofs.YtjdhnnpagaocnaaW.PrintWords Go.Proofs.YtjdhnnpagaocnaaW.PrintLast Go.Proofs.YtjdhnnpagaocnaaW.PrintMore
attribute [local go_sem] max2_int min2_int max_two min_two max_three min_three max_four min_four   -- for this text's walks alone
set_option linter.unusedVariables false
set_option linter.unusedSimpArgs false

/-! ### strings_HasPrefix: function 42 -/
def strings_HasPrefix.f (a0 : ByteArray) (a1 : ByteArray) : Option Bool := some (a1.data.toList.isPrefixOf a0.data.toList)
set_option maxHeartbeats 800000 in
theorem strings_HasPrefix.calls (a0 : ByteArray) (a1 : ByteArray) (r : Bool) (w : World) (h : strings_HasPrefix.f a0 a1 = some r) :
    Calls Try.prog 42 #[.string a0, .string a1] w fun e w' => e = .returned (.bool r) ∧ Drawn0 w w' := by
  have hr : r = (decide (a1.size ≤ a0.size) && ((a0.extract 0 a1.size).toList == a1.toList)) := by
    rw [Lib.hasPrefix_raw]; exact (Option.some.inj h).symm
  have HR := Aside0.mk hr
  clear hr h
  go_enter Try.func42, Try.ntmps42
  go_wp2
  · rename_i h
    go_ret
    refine ⟨?_, Drawn0.refl _⟩
    have h2 : decide (a1.size ≤ a0.size) = true := by simpa using h
    rw [HR.out, h2, Bool.true_and]; rfl
  · rename_i h
    go_ret
    refine ⟨?_, Drawn0.refl _⟩
    have h2 : decide (a1.size ≤ a0.size) = false := by simpa using h
    rw [HR.out, h2, Bool.false_and]; rfl

/-! ### id_Right: function 28 -/
def id_Right.f (a0 : ByteArray) : Option Bool := some (rightB a0)
set_option maxHeartbeats 800000 in
set_option maxRecDepth 100000 in
theorem id_Right.mid (a0 : ByteArray) (r : Bool) (w : World) (hp1 : (({ data := #[48] } : ByteArray).data.toList.isPrefixOf a0.data.toList) = true) (h1 : 1 ≤ a0.size) (h6 : a0.size ≤ 6) (hr : Aside0 ((a0.extract 1 a0.size).data.toList.all okDigit = r)) :
    Calls Try.prog 28 #[.string a0] w fun e w' => e = .returned (.bool r) ∧ Below w.heap.size w w' := by
  have hc0 : decide (6 < (a0.size : Int)) = false := by simp; omega
  have hcv := fun W => Lib.run_convert_string_bytes (P := Try.prog) W 31 62 5 (a0.extract 1 a0.size) Try.underlying31 Try.underlying62 Try.underlying5
  have hes : (a0.extract 1 a0.size).size = a0.size - 1 := by simp [ByteArray.size_extract]
  have hx : (a0.extract 1 a0.size).size ≤ 5 := by omega
  have hpre : strings_HasPrefix.f a0 ⟨#[48]⟩ = some true := congrArg some hp1
  generalize hs : a0.extract 1 a0.size = s at hcv hes hx hr ⊢
  have HP := Aside0.mk hpre
  clear hpre
  go_enter Try.func28, Try.ntmps28
  go_wp2_with (first | (go_at_call 42; refine (strings_HasPrefix.calls _ _ true _ HP.out).mono ?_; rintro e w' ⟨rfl, ⟨nd, rfl⟩⟩))
  have HC := Aside0.mk (show ∀ j, j < s.size → (Lib.bytesWorld (w.drewN nd) 5 s).cell? ⟨w.heap.size, j, none⟩ = some (.int .u8 (s.data.toList.getD j 0).toNat) from fun j hj => Lib.bytesWorld_cell (w.drewN nd) 5 s j hj)
  have HB := Aside0.mk (below_bytesWorldN w nd 5 s)
  clear hcv
  generalize Lib.bytesWorld (w.drewN nd) 5 s = W at HB HC ⊢
  have HL := Aside0.mk (show s.data.toList.length = s.size by simp)
  clear hs
  go_loop [4, 17] (fun _ i => ∃ k : Nat, k ≤ s.size ∧ i = .int .i64 k ∧ Aside0 ((s.data.toList.take k).all okDigit = true)) (fun _ i => s.size - (intOf i).toNat)
  case atStart => exact ⟨0, Nat.zero_le _, rfl, ⟨by simp⟩⟩
  case round =>
    obtain ⟨k, hk, rfl, HA⟩ := hrel
    by_cases hlt : k < s.size
    · have hc := HC.out k hlt
      have hks : s.data.toList.getD k 0 = s.data.toList[k]'(by simpa using hlt) := by simp [List.getD, hlt]
      have hsn : (s.data.toList.take (k + 1)).all okDigit = okDigit (s.data.toList.getD k 0) := by
        rw [List.take_succ_eq_append_getElem (by simpa using hlt), List.all_append, HA.out, hks]; simp
      have hno : okDigit (s.data.toList.getD k 0) = false → s.data.toList.all okDigit = false := by
        intro h; rw [hks] at h
        rw [List.all_eq_false]; exact ⟨s.data.toList[k]'(by simpa using hlt), List.getElem_mem _, by rw [h]; decide⟩
      generalize s.data.toList.getD k 0 = c at hc hsn hks hno
      by_cases hd : okDigit c = true
      · obtain ⟨h48, h57⟩ := u8_digit hd
        rw [hd] at hsn
        have HN := Aside0.mk hsn
        clear hsn hd hks hno
        go_wp2
        go_round
        case rel => exact ⟨k + 1, by omega, by go_num, HN⟩
        case measure => simp [intOf]; omega
      · have HN := Aside0.mk (hno (by simpa using hd))
        have hdd := u8_nodigit hd
        clear hsn hks hno hd
        have fin : r = false := by rw [← hr.out, HN.out]
        subst fin
        rcases hdd with hdd | hdd
        · have hdd' : decide ((c.toNat : Int) ≤ 48) = true := decide_eq_true hdd
          clear hdd
          go_wp2
          go_ret
          exact ⟨rfl, HB.out⟩
        · have hdd' : decide ((57 : Int) < c.toNat) = true := decide_eq_true hdd
          clear hdd
          go_wp2
          all_goals (go_ret; exact ⟨rfl, HB.out⟩)
    · have e : k = s.size := by omega
      have hall : s.data.toList.all okDigit = true := by
        have := HA.out; rwa [e, ← HL.out, List.take_length] at this
      have fin : r = true := by rw [← hr.out, hall]
      clear hall e
      subst fin
      have hge : decide ((k : Int) < (s.size : Int)) = false := by simp; omega
      go_wp2
      go_ret
      exact ⟨rfl, HB.out⟩

set_option maxHeartbeats 800000 in
set_option maxRecDepth 100000 in
theorem id_Right.calls (a0 : ByteArray) (r : Bool) (w : World) (h : id_Right.f a0 = some r) :
    Calls Try.prog 28 #[.string a0] w fun e w' => e = .returned (.bool r) ∧ Below w.heap.size w w' := by
  have hr : rightB a0 = r := Option.some.inj h
  clear h
  unfold rightB at hr
  by_cases hp1 : (({ data := #[48] } : ByteArray).data.toList.isPrefixOf a0.data.toList) = true
  · have h1 : 1 ≤ a0.size := by
      cases e : a0.data.toList with
      | nil => rw [e] at hp1; simp [List.isPrefixOf] at hp1
      | cons c t => have : a0.data.toList.length = t.length + 1 := by rw [e]; rfl
                    have h2 : a0.data.toList.length = a0.size := by simp
                    omega
    by_cases h6 : a0.size ≤ 6
    · exact id_Right.mid a0 r w hp1 h1 h6 ⟨by rw [← hr, hp1, decide_eq_true h6]; simp⟩
    · have fin : r = false := by rw [← hr, decide_eq_false h6]; simp
      subst fin
      clear hr
      have HP := Aside0.mk (show strings_HasPrefix.f a0 ⟨#[48]⟩ = some true from congrArg some hp1)
      clear hp1
      have hc0 : decide (6 < (a0.size : Int)) = true := by simp; omega
      go_enter Try.func28, Try.ntmps28
      go_wp2_with (first | (go_at_call 42; refine (strings_HasPrefix.calls _ _ true _ HP.out).mono ?_; rintro e w' ⟨rfl, ⟨nd, rfl⟩⟩))
      go_ret
      exact ⟨rfl, pw_below_drewN (Below.refl _ _) _⟩
  · have hpf : (({ data := #[48] } : ByteArray).data.toList.isPrefixOf a0.data.toList) = false := (Bool.not_eq_true _).mp hp1
    have fin : r = false := by rw [← hr, hpf]; rfl
    subst fin
    clear hr
    have HP := Aside0.mk (show strings_HasPrefix.f a0 ⟨#[48]⟩ = some false from congrArg some hpf)
    clear hp1 hpf
    go_enter Try.func28, Try.ntmps28
    go_wp2_with (first | (go_at_call 42; refine (strings_HasPrefix.calls _ _ false _ HP.out).mono ?_; rintro e w' ⟨rfl, ⟨nd, rfl⟩⟩))
    go_ret
    exact ⟨rfl, pw_below_drewN (Below.refl _ _) _⟩

/-! ### bytealg_CompareString: function 51 -/
def bytealg_CompareString.f (a0 : ByteArray) (a1 : ByteArray) : Option Int := some (Lib.compareBytes a0.data.toList a1.data.toList)
set_option maxHeartbeats 800000 in
set_option maxRecDepth 100000 in
theorem bytealg_CompareString.calls (a0 : ByteArray) (a1 : ByteArray) (r : Int) (w : World) (h : bytealg_CompareString.f a0 a1 = some r) :
    Calls Try.prog 51 #[.string a0, .string a1] w fun e w' => e = .returned (.int .i64 r) ∧ Drawn0 w w' := by
  have HR := Aside0.mk (show Lib.compareBytes a0.data.toList a1.data.toList = r from Option.some.inj h)
  clear h
  go_enter Try.func51, Try.ntmps51
  go_wp2
  rw [run_callFunc_extern Try.func53 (by kernel_rfl) (by kernel_rfl) (by kernel_rfl) (e := Extern.BytealgCompare.compare) (by kernel_rfl), Lib.run_compareString, HR.out]
  simp only [Result.andThen]
  rw [Oper.upon_value]
  go_wp2
  go_ret
  exact ⟨rfl, Drawn0.refl _⟩

/-! ### strings_Compare: function 49 -/
def strings_Compare.f (a0 : ByteArray) (a1 : ByteArray) : Option (Int) := (bytealg_CompareString.f a0 a1).bind fun t101 => (some t101)
set_option maxHeartbeats 8000000 in
set_option maxRecDepth 100000 in
theorem strings_Compare.calls (a0 : ByteArray) (a1 : ByteArray) (r : Int) (w : World) (h : strings_Compare.f a0 a1 = some r) :
    Calls Try.prog 49 #[.string a0, .string a1] w fun e w' => e = .returned (.int .i64 r) ∧ Drawn0 w w' := by
  have H : ((bytealg_CompareString.f a0 a1).bind fun t101 => (some t101)) = some r := h
  clear h
  replace H := Option.bind_eq_some_iff.mp H
  obtain ⟨t101, A30, H⟩ := H
  replace H : (some t101) = some r := H
  have A3 := Aside0.mk A30
  clear A30
  obtain rfl := Option.some.inj H
  go_enter Try.func49, Try.ntmps49
  go_wp2_with (first | ((with_reducible refine gate_callee (f := 51) rfl ?_); refine goesL_ (some 7) rfl rfl Try.func51 (by kernel_rfl) rfl #[.string a0, .string a1] rfl (by (try simp only [List.map_toArray, List.map_cons, List.map_nil]); first | done | rfl | (simp only [List.length_drop, List.length_take]; rfl)) ?_; (with_reducible refine (bytealg_CompareString.calls a0 a1 t101 _ A3.out).mono ?_); rintro e w' ⟨rfl, ⟨nd, rfl⟩⟩; refine ⟨_, rfl, ?_⟩))
  go_ret
  exact ⟨by first | rfl | (simp; done) | (simp [*]; done), by repeat (first | exact Drawn0.refl _ | apply Drawn0.step)⟩

/-! ### id_Compare: function 43 -/
def id_Compare.f (a0 : ByteArray) (a1 : ByteArray) : Option (Int) := (strings_Compare.f a0 a1).bind fun t102 => (some t102)
set_option maxHeartbeats 8000000 in
set_option maxRecDepth 100000 in
theorem id_Compare.calls (a0 : ByteArray) (a1 : ByteArray) (r : Int) (w : World) (h : id_Compare.f a0 a1 = some r) :
    Calls Try.prog 43 #[.string a0, .string a1] w fun e w' => e = .returned (.int .i64 r) ∧ Drawn0 w w' := by
  have H : ((strings_Compare.f a0 a1).bind fun t102 => (some t102)) = some r := h
  clear h
  replace H := Option.bind_eq_some_iff.mp H
  obtain ⟨t102, A30, H⟩ := H
  replace H : (some t102) = some r := H
  have A3 := Aside0.mk A30
  clear A30
  obtain rfl := Option.some.inj H
  go_enter Try.func43, Try.ntmps43
  go_wp2_with (first | ((with_reducible refine gate_callee (f := 49) rfl ?_); refine goesL_ (some 7) rfl rfl Try.func49 (by kernel_rfl) rfl #[.string a0, .string a1] rfl (by (try simp only [List.map_toArray, List.map_cons, List.map_nil]); first | done | rfl | (simp only [List.length_drop, List.length_take]; rfl)) ?_; (with_reducible refine (strings_Compare.calls a0 a1 t102 _ A3.out).mono ?_); rintro e w' ⟨rfl, ⟨nd, rfl⟩⟩; refine ⟨_, rfl, ?_⟩))
  go_ret
  exact ⟨by first | rfl | (simp; done) | (simp [*]; done), by repeat (first | exact Drawn0.refl _ | apply Drawn0.step)⟩

/-! ### vec_order: function 29 -/
def vec_order.f (a0_0 : ByteArray) (a0_1 : Int) (a1_0 : ByteArray) (a1_1 : Int) : Option (Int) := (id_Compare.f a0_0 a1_0).bind fun t105 => (some t105)
set_option maxHeartbeats 8000000 in
set_option maxRecDepth 100000 in
theorem vec_order.calls (a0_0 : ByteArray) (a0_1 : Int) (a1_0 : ByteArray) (a1_1 : Int) (r : Int) (w : World) (h : vec_order.f a0_0 a0_1 a1_0 a1_1 = some r) :
    Calls Try.prog 29 #[.agg #[.string a0_0, .int .i64 a0_1], .agg #[.string a1_0, .int .i64 a1_1]] w fun e w' => e = .returned (.int .i64 r) ∧ Below w.heap.size w w' := by
  have hu47 := Try.underlying47
  have HB := Aside0.mk (Below.refl w.heap.size w)
  have H : ((id_Compare.f a0_0 a1_0).bind fun t105 => (some t105)) = some r := h
  clear h
  replace H := Option.bind_eq_some_iff.mp H
  obtain ⟨t105, A30, H⟩ := H
  replace H : (some t105) = some r := H
  have A3 := Aside0.mk A30
  clear A30
  obtain rfl := Option.some.inj H
  go_enter Try.func29, Try.ntmps29
  go_wp2_with (first | ((with_reducible refine gate_dst (N := 2) rfl ?_); refine box_event ?hg (N := 2) ?hd (cs := #[.string a0_0, .int .i64 a0_1]) (t := 47) ?hr ?_; (case hd => rfl); (case hg => rfl); (case hr => first | (go_simp; done) | (go_simp; rfl)); intro gb103 hg w4 hbox hb; have n0_ := Aside0.mk (below_step (by repeat (first | (with_reducible first | exact HB.out | apply below_alloc | apply pw_below_drewN | apply below_drew1) | exact HB.out)) hb); have n1_ := Aside0.mk (hbox); have n2_ := Aside0.mk ((by rw [hg]; exact (below_size (by repeat (first | (with_reducible first | exact HB.out | apply below_alloc | apply pw_below_drewN | apply below_drew1) | exact HB.out))) : w.heap.size ≤ gb103)); have n3_ := Aside0.mk ((by rw [hg]; exact (below_size (by repeat (first | (with_reducible first | exact HB.out | apply below_alloc | apply pw_below_drewN | apply below_drew1) | exact HB.out))) : w.heap.size ≤ gb103)); clear HB; have HB := n0_; have BK103 := n1_; have GW103 := n2_; have GE103 := n3_; clear n0_ n1_ n2_ n3_; clear hb hbox hg) | ((with_reducible refine gate_dst (N := 3) rfl ?_); refine box_event ?hg (N := 3) ?hd (cs := #[.string a1_0, .int .i64 a1_1]) (t := 47) ?hr ?_; (case hd => rfl); (case hg => rfl); (case hr => first | (go_simp; done) | (go_simp; rfl)); intro gb104 hg w5 hbox hb; have n0_ := Aside0.mk (blk_below (g := gb103) (o := .cells #[.string a0_0, .int .i64 a0_1] 47 (0, 0)) (by (with_reducible repeat (first | refine blk_drewN ?_ _ | refine blk_drew ?_ | refine blk_alloc ?_ _)); exact BK103.out) hb); have n1_ := Aside0.mk (below_step (by repeat (first | (with_reducible first | exact HB.out | apply below_alloc | apply pw_below_drewN | apply below_drew1 | refine below_set ?_ GE103.out) | exact HB.out)) hb); have n2_ := Aside0.mk (hbox); have n3_ := Aside0.mk ((by rw [hg]; exact (below_size (by repeat (first | (with_reducible first | exact HB.out | apply below_alloc | apply pw_below_drewN | apply below_drew1 | refine below_set ?_ GE103.out) | exact HB.out))) : w.heap.size ≤ gb104)); have n4_ := Aside0.mk ((by rw [hg]; exact (below_size (by repeat (first | (with_reducible first | exact HB.out | apply below_alloc | apply pw_below_drewN | apply below_drew1 | refine below_set ?_ GE103.out) | exact HB.out))) : w.heap.size ≤ gb104)); have n5_ := Aside0.mk ((by rw [hg]; exact Nat.ne_of_lt (blk_lt (g := gb103) (o := .cells #[.string a0_0, .int .i64 a0_1] 47 (0, 0)) (by (with_reducible repeat (first | refine blk_drewN ?_ _ | refine blk_drew ?_ | refine blk_alloc ?_ _)); exact BK103.out)) : gb103 ≠ gb104)); have n6_ := Aside0.mk ((by rw [hg]; exact Nat.ne_of_gt (blk_lt (g := gb103) (o := .cells #[.string a0_0, .int .i64 a0_1] 47 (0, 0)) (by (with_reducible repeat (first | refine blk_drewN ?_ _ | refine blk_drew ?_ | refine blk_alloc ?_ _)); exact BK103.out)) : gb104 ≠ gb103)); clear BK103; clear HB; have BK103 := n0_; have HB := n1_; have BK104 := n2_; have GW104 := n3_; have GE104 := n4_; have NB103_104 := n5_; have NB104_103 := n6_; clear n0_ n1_ n2_ n3_ n4_ n5_ n6_; clear hb hbox hg; have hnb6 := NB103_104.out; have hnc6 := NB104_103.out; have hcz7_0 : w5.cell? ⟨gb103, 0, none⟩ = some (.string a0_0) := (blk_cell BK103.out 0).trans rfl; have hcz7_1 : w5.cell? ⟨gb103, 1, none⟩ = some (.int .i64 a0_1) := (blk_cell BK103.out 1).trans rfl; have hfz7_0 := blk_frozen BK103.out 0; have hfz7_1 := blk_frozen BK103.out 1; have hcz8_0 : w5.cell? ⟨gb104, 0, none⟩ = some (.string a1_0) := (blk_cell BK104.out 0).trans rfl; have hcz8_1 : w5.cell? ⟨gb104, 1, none⟩ = some (.int .i64 a1_1) := (blk_cell BK104.out 1).trans rfl; have hfz8_0 := blk_frozen BK104.out 0; have hfz8_1 := blk_frozen BK104.out 1) | ((with_reducible refine gate_callee (f := 43) rfl ?_); refine goesL_ (some 9) rfl rfl Try.func43 (by kernel_rfl) rfl #[.string a0_0, .string a1_0] rfl (by (try simp only [List.map_toArray, List.map_cons, List.map_nil]); first | done | rfl | (simp only [List.length_drop, List.length_take]; rfl)) ?_; (with_reducible refine (id_Compare.calls a0_0 a1_0 t105 _ A3.out).mono ?_); rintro e w' ⟨rfl, ⟨nd, rfl⟩⟩; refine ⟨_, rfl, ?_⟩))
  go_ret
  exact ⟨by first | rfl | (simp [errW_none, errW_some] <;> rfl) | (simp [*, errW_none, errW_some] <;> rfl), by repeat (first | (with_reducible first | exact HB.out | apply below_alloc | apply pw_below_drewN | apply below_drew1 | refine below_set ?_ GE103.out | refine below_set ?_ GE104.out) | exact HB.out)⟩

end Go.Proofs.Ytjdhnnpagaocnaa.P
