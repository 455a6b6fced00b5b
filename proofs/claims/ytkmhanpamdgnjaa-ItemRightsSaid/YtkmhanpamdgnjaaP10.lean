-- Written by a program of this session (wip/pp.py over the kit's printer, with our own texts put in).
import Derived.Test.YtkmhanpamdgnjaaP0
import Derived.Test.YtkmhanpamdgnjaaP2
import Derived.Test.YtkmhanpamdgnjaaP3
import Derived.Test.YtkmhanpamdgnjaaP4
import Derived.Test.YtkmhanpamdgnjaaP5
import Derived.Test.YtkmhanpamdgnjaaP9
namespace Go.Proofs.Ytkmhanpamdgnjaa.P
open Go.RowKit Go.Proofs.YtkmhanpamdgnjaaW.PrintWords Go.Proofs.YtkmhanpamdgnjaaW.PrintLast Go.Proofs.YtkmhanpamdgnjaaW.PrintMore
attribute [local go_sem] max2_int min2_int max_two min_two max_three min_three max_four min_four   -- for this text's walks alone
set_option linter.unusedVariables false
set_option linter.unusedSimpArgs false

/-! ### cenotaphlaw07_ItemRights: function 6 -/
attribute [local go_sem] run_store_complex
def cenotaphlaw07_ItemRights.f (k : Nat) (a0_0 : Int) (a0_1 : ByteArray) (a0_2 : Int) (a0_3 : Int) (a0_4 : Bool) (a0_5 : Int) (a0_6 : Int) (a0_7 : ByteArray) (a0_8 : Bool) : Option Bool := (cenotaphlaw07_near.f a0_5 a0_6).bind fun nr => if nr = false then some true else if 300 < (a0_7.size : Int) then some true else
  (itRight a0_0 a0_1 a0_2 a0_3 a0_4 a0_5 a0_6 a0_7 a0_8).bind fun b => (cenotaphref07_Right.f k a0_0 a0_1 a0_2 a0_3 a0_4 a0_5 a0_6 a0_7 a0_8).bind fun c => (itPut k [7] ⟨a0_0, a0_1, a0_2, a0_3, a0_4, a0_5, a0_6, a0_7, a0_8⟩).bind fun p => (cenotaphref07_Put.f k [7] a0_0 a0_1 a0_2 a0_3 a0_4 a0_5 a0_6 a0_7 a0_8).bind fun q => if (a0_5.natAbs < 2 ^ 53 ∧ a0_6.natAbs < 2 ^ 53) ∧ b = c ∧ (strOfNums p).toList = (strOfNums q).toList then some true else none
theorem seven_C (W : World) (t : TypeId) : Kd.C (Kd.int .u8) (W.alloc (.cells #[.int .u8 7] t)) (some ⟨W.heap.size, 0, none⟩) ([7] : List Int).length [7] := by
  refine Kd.C_of_reads (enc := Value.int .u8) (d := (0 : Int)) (h1 := fun _ => rfl) ⟨rfl, by decide, fun _ => ⟨_, rfl, fun j hj => ?_⟩⟩
  obtain rfl : j = 0 := by simp at hj; omega
  exact (blk_cell (blk_new W (.cells #[.int .u8 7] t)) 0).trans rfl
set_option maxHeartbeats 8000000 in
set_option maxRecDepth 100000 in
theorem cenotaphlaw07_ItemRights.calls (k : Nat) (a0_0 : Int) (a0_1 : ByteArray) (a0_2 : Int) (a0_3 : Int) (a0_4 : Bool) (a0_5 : Int) (a0_6 : Int) (a0_7 : ByteArray) (a0_8 : Bool) (r : Bool) (w : World) (h : cenotaphlaw07_ItemRights.f k a0_0 a0_1 a0_2 a0_3 a0_4 a0_5 a0_6 a0_7 a0_8 = some r) :
    Calls Try.prog 6 #[.agg #[.int .i64 a0_0, .string a0_1, .int .i64 a0_2, .int .i64 a0_3, .bool a0_4, .int .i64 a0_5, .int .i64 a0_6, .string a0_7, .bool a0_8]] w fun e w' => e = .returned (.bool r) ∧ Below w.heap.size w w' := by
  obtain ⟨nr, hnr, h⟩ := Option.bind_eq_some_iff.mp h
  have HNR := Aside0.mk hnr
  have H := Aside0.mk h
  clear hnr h
  have hu := Try.underlying46
  have hu2 := Try.underlying40
  have BX := Aside0.mk (blk_new w (.cells #[.int .i64 a0_0, .string a0_1, .int .i64 a0_2, .int .i64 a0_3, .bool a0_4, .int .i64 a0_5, .int .i64 a0_6, .string a0_7, .bool a0_8] 46))
  have HB := Aside0.mk (below_alloc (Below.refl w.heap.size w) (.cells #[.int .i64 a0_0, .string a0_1, .int .i64 a0_2, .int .i64 a0_3, .bool a0_4, .int .i64 a0_5, .int .i64 a0_6, .string a0_7, .bool a0_8] 46))
  go_enter Try.func6, Try.ntmps6
  go_wp2_with fail
  refine (cenotaphlaw07_near.calls a0_5 a0_6 nr _ HNR.out).mono ?_
  rintro ev w1 ⟨rfl, hb⟩
  try replace hb := hb.below
  replace BX := Aside0.mk (blk_below BX.out hb)
  replace HB := Aside0.mk (below_step HB.out hb)
  clear hb HNR
  obtain ⟨c0, c1, c2, c3, c4, c5, c6, c7, c8⟩ := ta_cells BX.out
  cases nr with
  | false =>
    obtain rfl := Option.some.inj ((if_pos rfl).symm.trans H.out)
    clear H
    go_wp2_with fail
    refine (cenotaphlaw07_told.calls true _ rfl).mono ?_
    rintro ev w2 ⟨rfl, hb⟩
    replace HB := Aside0.mk (below_step HB.out hb)
    clear hb
    go_wp2_with fail
    go_ret
    exact ⟨rfl, HB.out⟩
  | true =>
    have h := (if_neg (by decide)).symm.trans H.out
    by_cases hs : 300 < (a0_7.size : Int)
    · obtain rfl := Option.some.inj ((if_pos hs).symm.trans h)
      have e3 : decide (300 < (a0_7.size : Int)) = true := decide_eq_true hs
      have e4 := eq_true hs
      clear H h hs
      go_wp2_with fail
      refine (cenotaphlaw07_told.calls true _ rfl).mono ?_
      rintro ev w2 ⟨rfl, hb⟩
      replace HB := Aside0.mk (below_step HB.out hb)
      clear hb
      go_wp2_with fail
      go_ret
      exact ⟨rfl, HB.out⟩
    replace h := (if_neg hs).symm.trans h
    have e3 : decide (300 < (a0_7.size : Int)) = false := decide_eq_false hs
    have e4 := eq_false hs
    obtain ⟨b, hb1, h⟩ := Option.bind_eq_some_iff.mp h
    obtain ⟨c, hc1, h⟩ := Option.bind_eq_some_iff.mp h
    obtain ⟨p, hp, h⟩ := Option.bind_eq_some_iff.mp h
    obtain ⟨q, hq, h⟩ := Option.bind_eq_some_iff.mp h
    by_cases hok : (a0_5.natAbs < 2 ^ 53 ∧ a0_6.natAbs < 2 ^ 53) ∧ b = c ∧ (strOfNums p).toList = (strOfNums q).toList
    rotate_left
    · rw [if_neg hok] at h; cases h
    rw [if_pos hok] at h
    obtain rfl := Option.some.inj h
    obtain ⟨hxy, rfl, hst⟩ := hok
    have HRI := Aside0.mk (fun (W : World) => it_right a0_0 a0_1 a0_2 a0_3 a0_4 a0_5 a0_6 a0_7 a0_8 b W hxy.1 hxy.2 hb1)
    have HRR := Aside0.mk (fun (W : World) => cenotaphref07_Right.calls k a0_0 a0_1 a0_2 a0_3 a0_4 a0_5 a0_6 a0_7 a0_8 b W hc1)
    have HTO := Aside0.mk (fun (W : World) => it_to a0_0 a0_1 a0_2 a0_3 a0_4 a0_5 a0_6 a0_7 a0_8 W)
    have HSB := Aside0.mk (fun (W : World) => it_stub a0_0 a0_1 a0_2 a0_3 a0_4 a0_5 a0_6 a0_7 a0_8 W)
    have HFR := Aside0.mk (fun (W : World) => it_from a0_0 a0_1 a0_2 a0_3 a0_4 a0_5 a0_6 ⟨#[]⟩ false W hxy.1 hxy.2)
    have HRS := Aside0.mk (fun (W : World) => cenotaphref07_Stub.calls a0_0 a0_1 a0_2 a0_3 a0_4 a0_5 a0_6 a0_7 a0_8 a0_0 a0_1 a0_2 a0_3 a0_4 a0_5 a0_6 ⟨#[]⟩ false W rfl)
    have HPP := Aside0.mk (fun (A : Option Addr) (W : World) (hc : Kd.C (Kd.int .u8) W A ([7] : List Int).length [7]) => it_put k A 1 [7] ⟨a0_0, a0_1, a0_2, a0_3, a0_4, a0_5, a0_6, a0_7, a0_8⟩ p W hc (Nat.le_refl _) hxy.1 hxy.2 hp)
    have HRP := Aside0.mk (fun (A : Option Addr) (W : World) (hc : Kd.C (Kd.int .u8) W A ([7] : List Int).length [7]) => cenotaphref07_Put.calls k A 1 [7] a0_0 a0_1 a0_2 a0_3 a0_4 a0_5 a0_6 a0_7 a0_8 q W hc (Nat.le_refl _) hq)
    have hes : It.eq (⟨a0_0, a0_1, a0_2, a0_3, a0_4, a0_5, a0_6, ⟨#[]⟩, false⟩ : It) ⟨a0_0, a0_1, a0_2, a0_3, a0_4, a0_5, a0_6, ⟨#[]⟩, false⟩ = true := (It.eq_iff _ _).mpr rfl
    have her := fun (W : World) => eq_ref (⟨a0_0, a0_1, a0_2, a0_3, a0_4, a0_5, a0_6, ⟨#[]⟩, false⟩ : It) ⟨a0_0, a0_1, a0_2, a0_3, a0_4, a0_5, a0_6, ⟨#[]⟩, false⟩ W
    rw [hes] at her
    have HER := Aside0.mk her
    have HST := Aside0.mk (show ((strOfNums p).toList == (strOfNums q).toList) = true from beq_iff_eq.mpr hst)
    clear H h hb1 hc1 hp hq hes her hxy hst hs
    go_upto_region 3 with fail
    clear c0 c1 c2 c3 c4 c5 c6 c7 c8 e3 e4
    have her := HER.out
    have hbb : (b == b) = true := beq_self_eq_true b
    clear HER
    refine start_ (n := 29) (S := fun w' => w'.cell? ⟨w.heap.size, 0, none⟩ = some (.int .i64 a0_0) ∧ w'.cell? ⟨w.heap.size, 1, none⟩ = some (.string a0_1) ∧ w'.cell? ⟨w.heap.size, 2, none⟩ = some (.int .i64 a0_2) ∧ w'.cell? ⟨w.heap.size, 3, none⟩ = some (.int .i64 a0_3) ∧ w'.cell? ⟨w.heap.size, 4, none⟩ = some (.bool a0_4) ∧ w'.cell? ⟨w.heap.size, 5, none⟩ = some (.int .i64 a0_5) ∧ w'.cell? ⟨w.heap.size, 6, none⟩ = some (.int .i64 a0_6) ∧ w'.cell? ⟨w.heap.size, 7, none⟩ = some (.string a0_7) ∧ w'.cell? ⟨w.heap.size, 8, none⟩ = some (.bool a0_8)) (ds := []) #[false, false, false, false, false, false, false, false, false, false, false, false, false, false, false, false, false, false, false, false, false, false, false, false, false, false, false, false, false] (by kernel_rfl) rfl rfl (ta_cells (blk_drew BX.out)) (fun hHeld => ?_)
    replace BX := Aside0.mk (blk_drew BX.out)
    replace HB := Aside0.mk (below_drew1 HB.out)
    generalize w1.drew = w2 at BX HB hHeld ⊢
    refine one_ (i := 0) (N := some 14) #[true, false, false, false, false, false, false, false, false, false, false, false, false, false, false, false, false, false, false, false, false, false, false, false, false, false, false, false, false] rfl rfl (by kernel_rfl) (by decide) (fun K hK => ?_)
    refine goes_ Try.func11 (by kernel_rfl) rfl #[] (by rfl) rfl rfl (by (try simp only [List.map_toArray, List.map_cons, List.map_nil]); first | done | rfl) ?_
    refine (cenotaphlaw07_told.calls true w2 rfl).mono ?_
    rintro ev w3 ⟨rfl, hb⟩
    refine ⟨_, rfl, ?_⟩
    replace BX := Aside0.mk (blk_below BX.out hb)
    replace HB := Aside0.mk (below_step HB.out hb)
    clear hb
    refine hK.out _ _ (ta_cells BX.out) (fun hHeld => ?_)
    clear hK K
    refine norm_ (a' := ?_) ?_ ?_
    rotate_left
    · show Act.put _ (some 14) _ = _
      simp only [Act.put, List.setIfInBounds_toArray, List.set_cons_zero, List.set_cons_succ, i64_w, i32_w]
      rfl
    refine pure_ (i := 1) (N := some 15) (v := ?_) (a' := ?_) #[true, true, false, false, false, false, false, false, false, false, false, false, false, false, false, false, false, false, false, false, false, false, false, false, false, false, false, false, false] rfl rfl (by kernel_rfl) (fun _ _ _ h => h) (Or.inl ⟨by rfl, ?_⟩) ?_ ?_
    rotate_left
    · intro w'
      go_simp
      with_reducible rfl
    rotate_left
    · simp only [Act.put, List.setIfInBounds_toArray, List.set_cons_zero, List.set_cons_succ, i64_w, i32_w]
      rfl
    refine take_ (i := 2) (N := some 16) (v := ?_) (a' := ?_) #[true, true, true, false, false, false, false, false, false, false, false, false, false, false, false, false, false, false, false, false, false, false, false, false, false, false, false, false, false] rfl rfl (by kernel_rfl) (fun _ _ _ h => h) (Or.inl ⟨by rfl, ?_⟩) hHeld ?_ ?_
    rotate_left
    · rintro w' ⟨s0, s1, s2, s3, s4, s5, s6, s7, s8⟩
      go_simp
      with_reducible rfl
    rotate_left
    · simp only [Act.put, List.setIfInBounds_toArray, List.set_cons_zero, List.set_cons_succ, i64_w, i32_w]
      rfl
    refine take_ (i := 5) (N := some 19) (v := ?_) (a' := ?_) #[true, true, true, false, false, true, false, false, false, false, false, false, false, false, false, false, false, false, false, false, false, false, false, false, false, false, false, false, false] rfl rfl (by kernel_rfl) (fun _ _ _ h => h) (Or.inl ⟨by rfl, ?_⟩) hHeld ?_ ?_
    rotate_left
    · rintro w' ⟨s0, s1, s2, s3, s4, s5, s6, s7, s8⟩
      go_simp
      with_reducible rfl
    rotate_left
    · simp only [Act.put, List.setIfInBounds_toArray, List.set_cons_zero, List.set_cons_succ, i64_w, i32_w]
      rfl
    refine one_ (i := 3) (N := some 17) #[true, true, true, true, false, true, false, false, false, false, false, false, false, false, false, false, false, false, false, false, false, false, false, false, false, false, false, false, false] rfl rfl (by kernel_rfl) (by decide) (fun K hK => ?_)
    refine goes_ Try.func21 (by kernel_rfl) rfl #[.agg #[.int .i64 a0_0, .string a0_1, .int .i64 a0_2, .int .i64 a0_3, .bool a0_4, .int .i64 a0_5, .int .i64 a0_6, .string a0_7, .bool a0_8]] (by rfl) rfl rfl (by (try simp only [List.map_toArray, List.map_cons, List.map_nil]); first | done | rfl) ?_
    refine (HTO.out w3).mono ?_
    rintro ev w4 ⟨rfl, hb⟩
    refine ⟨_, rfl, ?_⟩
    replace BX := Aside0.mk (blk_below BX.out hb)
    replace HB := Aside0.mk (below_step HB.out hb)
    clear hb
    refine hK.out _ _ (ta_cells BX.out) (fun hHeld => ?_)
    clear hK K
    refine norm_ (a' := ?_) ?_ ?_
    rotate_left
    · show Act.put _ (some 17) _ = _
      simp only [Act.put, List.setIfInBounds_toArray, List.set_cons_zero, List.set_cons_succ, i64_w, i32_w]
      rfl
    refine one_ (i := 4) (N := some 18) #[true, true, true, true, true, true, false, false, false, false, false, false, false, false, false, false, false, false, false, false, false, false, false, false, false, false, false, false, false] rfl rfl (by kernel_rfl) (by decide) (fun K hK => ?_)
    refine goes_ Try.func23 (by kernel_rfl) rfl #[.agg #[.int .i64 a0_0, .string a0_1, .int .i64 a0_2, .int .i64 a0_3, .bool a0_4, .complex .f64 (fl a0_5) (fl a0_6), .string a0_7, .bool a0_8]] (by rfl) rfl rfl (by (try simp only [List.map_toArray, List.map_cons, List.map_nil]); first | done | rfl) ?_
    refine (HRI.out w4).mono ?_
    rintro ev w5 ⟨rfl, hb⟩
    refine ⟨_, rfl, ?_⟩
    replace BX := Aside0.mk (blk_below BX.out hb)
    replace HB := Aside0.mk (below_step HB.out hb)
    clear hb
    refine hK.out _ _ (ta_cells BX.out) (fun hHeld => ?_)
    clear hK K
    refine norm_ (a' := ?_) ?_ ?_
    rotate_left
    · show Act.put _ (some 18) _ = _
      simp only [Act.put, List.setIfInBounds_toArray, List.set_cons_zero, List.set_cons_succ, i64_w, i32_w]
      rfl
    refine one_ (i := 6) (N := some 20) #[true, true, true, true, true, true, true, false, false, false, false, false, false, false, false, false, false, false, false, false, false, false, false, false, false, false, false, false, false] rfl rfl (by kernel_rfl) (by decide) (fun K hK => ?_)
    refine goes_ Try.func24 (by kernel_rfl) rfl #[.agg #[.int .i64 a0_0, .string a0_1, .int .i64 a0_2, .int .i64 a0_3, .bool a0_4, .int .i64 a0_5, .int .i64 a0_6, .string a0_7, .bool a0_8]] (by rfl) rfl rfl (by (try simp only [List.map_toArray, List.map_cons, List.map_nil]); first | done | rfl) ?_
    refine (HRR.out w5).mono ?_
    rintro ev w6 ⟨rfl, hb⟩
    try replace hb := hb.below
    refine ⟨_, rfl, ?_⟩
    replace BX := Aside0.mk (blk_below BX.out hb)
    replace HB := Aside0.mk (below_step HB.out hb)
    clear hb
    refine hK.out _ _ (ta_cells BX.out) (fun hHeld => ?_)
    clear hK K
    refine norm_ (a' := ?_) ?_ ?_
    rotate_left
    · show Act.put _ (some 20) _ = _
      simp only [Act.put, List.setIfInBounds_toArray, List.set_cons_zero, List.set_cons_succ, i64_w, i32_w]
      rfl
    refine pure_ (i := 7) (N := some 21) (v := ?_) (a' := ?_) #[true, true, true, true, true, true, true, true, false, false, false, false, false, false, false, false, false, false, false, false, false, false, false, false, false, false, false, false, false] rfl rfl (by kernel_rfl) (fun _ _ _ h => h) (Or.inl ⟨by rfl, ?_⟩) ?_ ?_
    rotate_left
    · intro w'
      go_simp
      with_reducible rfl
    rotate_left
    · simp only [Act.put, List.setIfInBounds_toArray, List.set_cons_zero, List.set_cons_succ, i64_w, i32_w]
      rfl
    refine pure_ (i := 8) (N := some 22) (v := ?_) (a' := ?_) #[true, true, true, true, true, true, true, true, true, false, false, false, false, false, false, false, false, false, false, false, false, false, false, false, false, false, false, false, false] rfl rfl (by kernel_rfl) (fun _ _ _ h => h) (Or.inl ⟨by rfl, ?_⟩) ?_ ?_
    rotate_left
    · intro w'
      go_simp
      with_reducible rfl
    rotate_left
    · simp only [Act.put, List.setIfInBounds_toArray, List.set_cons_zero, List.set_cons_succ, i64_w, i32_w]
      rfl
    refine pure_ (i := 9) (N := some 23) (v := ?_) (a' := ?_) #[true, true, true, true, true, true, true, true, true, true, false, false, false, false, false, false, false, false, false, false, false, false, false, false, false, false, false, false, false] rfl rfl (by kernel_rfl) (fun _ _ _ h => h) (Or.inl ⟨by rfl, ?_⟩) ?_ ?_
    rotate_left
    · intro w'
      go_simp
      with_reducible rfl
    rotate_left
    · simp only [Act.put, List.setIfInBounds_toArray, List.set_cons_zero, List.set_cons_succ, i64_w, i32_w]
      rfl
    refine take_ (i := 10) (N := some 24) (v := ?_) (a' := ?_) #[true, true, true, true, true, true, true, true, true, true, true, false, false, false, false, false, false, false, false, false, false, false, false, false, false, false, false, false, false] rfl rfl (by kernel_rfl) (fun _ _ _ h => h) (Or.inl ⟨by rfl, ?_⟩) hHeld ?_ ?_
    rotate_left
    · rintro w' ⟨s0, s1, s2, s3, s4, s5, s6, s7, s8⟩
      go_simp
      with_reducible rfl
    rotate_left
    · simp only [Act.put, List.setIfInBounds_toArray, List.set_cons_zero, List.set_cons_succ, i64_w, i32_w]
      rfl
    refine take_ (i := 14) (N := some 28) (v := ?_) (a' := ?_) #[true, true, true, true, true, true, true, true, true, true, true, false, false, false, true, false, false, false, false, false, false, false, false, false, false, false, false, false, false] rfl rfl (by kernel_rfl) (fun _ _ _ h => h) (Or.inl ⟨by rfl, ?_⟩) hHeld ?_ ?_
    rotate_left
    · rintro w' ⟨s0, s1, s2, s3, s4, s5, s6, s7, s8⟩
      go_simp
      with_reducible rfl
    rotate_left
    · simp only [Act.put, List.setIfInBounds_toArray, List.set_cons_zero, List.set_cons_succ, i64_w, i32_w]
      rfl
    refine one_ (i := 11) (N := some 25) #[true, true, true, true, true, true, true, true, true, true, true, true, false, false, true, false, false, false, false, false, false, false, false, false, false, false, false, false, false] rfl rfl (by kernel_rfl) (by decide) (fun K hK => ?_)
    refine goes_ Try.func21 (by kernel_rfl) rfl #[.agg #[.int .i64 a0_0, .string a0_1, .int .i64 a0_2, .int .i64 a0_3, .bool a0_4, .int .i64 a0_5, .int .i64 a0_6, .string a0_7, .bool a0_8]] (by rfl) rfl rfl (by (try simp only [List.map_toArray, List.map_cons, List.map_nil]); first | done | rfl) ?_
    refine (HTO.out w6).mono ?_
    rintro ev w7 ⟨rfl, hb⟩
    refine ⟨_, rfl, ?_⟩
    replace BX := Aside0.mk (blk_below BX.out hb)
    replace HB := Aside0.mk (below_step HB.out hb)
    clear hb
    refine hK.out _ _ (ta_cells BX.out) (fun hHeld => ?_)
    clear hK K
    refine norm_ (a' := ?_) ?_ ?_
    rotate_left
    · show Act.put _ (some 25) _ = _
      simp only [Act.put, List.setIfInBounds_toArray, List.set_cons_zero, List.set_cons_succ, i64_w, i32_w]
      rfl
    refine one_ (i := 12) (N := some 26) #[true, true, true, true, true, true, true, true, true, true, true, true, true, false, true, false, false, false, false, false, false, false, false, false, false, false, false, false, false] rfl rfl (by kernel_rfl) (by decide) (fun K hK => ?_)
    refine goes_ Try.func25 (by kernel_rfl) rfl #[.agg #[.int .i64 a0_0, .string a0_1, .int .i64 a0_2, .int .i64 a0_3, .bool a0_4, .complex .f64 (fl a0_5) (fl a0_6), .string a0_7, .bool a0_8]] (by rfl) rfl rfl (by (try simp only [List.map_toArray, List.map_cons, List.map_nil]); first | done | rfl) ?_
    refine (HSB.out w7).mono ?_
    rintro ev w8 ⟨rfl, hb⟩
    refine ⟨_, rfl, ?_⟩
    replace BX := Aside0.mk (blk_below BX.out hb)
    replace HB := Aside0.mk (below_step HB.out hb)
    clear hb
    refine hK.out _ _ (ta_cells BX.out) (fun hHeld => ?_)
    clear hK K
    refine norm_ (a' := ?_) ?_ ?_
    rotate_left
    · show Act.put _ (some 26) _ = _
      simp only [Act.put, List.setIfInBounds_toArray, List.set_cons_zero, List.set_cons_succ, i64_w, i32_w]
      rfl
    refine one_ (i := 13) (N := some 27) #[true, true, true, true, true, true, true, true, true, true, true, true, true, true, true, false, false, false, false, false, false, false, false, false, false, false, false, false, false] rfl rfl (by kernel_rfl) (by decide) (fun K hK => ?_)
    refine goes_ Try.func16 (by kernel_rfl) rfl #[.agg #[.int .i64 a0_0, .string a0_1, .int .i64 a0_2, .int .i64 a0_3, .bool a0_4, .complex .f64 (fl a0_5) (fl a0_6), .string ⟨#[]⟩, .bool false]] (by rfl) rfl rfl (by (try simp only [List.map_toArray, List.map_cons, List.map_nil]); first | done | rfl) ?_
    refine (HFR.out w8).mono ?_
    rintro ev w9 ⟨rfl, hb⟩
    refine ⟨_, rfl, ?_⟩
    replace BX := Aside0.mk (blk_below BX.out hb)
    replace HB := Aside0.mk (below_step HB.out hb)
    clear hb
    refine hK.out _ _ (ta_cells BX.out) (fun hHeld => ?_)
    clear hK K
    refine norm_ (a' := ?_) ?_ ?_
    rotate_left
    · show Act.put _ (some 27) _ = _
      simp only [Act.put, List.setIfInBounds_toArray, List.set_cons_zero, List.set_cons_succ, i64_w, i32_w]
      rfl
    refine one_ (i := 15) (N := some 29) #[true, true, true, true, true, true, true, true, true, true, true, true, true, true, true, true, false, false, false, false, false, false, false, false, false, false, false, false, false] rfl rfl (by kernel_rfl) (by decide) (fun K hK => ?_)
    refine goes_ Try.func26 (by kernel_rfl) rfl #[.agg #[.int .i64 a0_0, .string a0_1, .int .i64 a0_2, .int .i64 a0_3, .bool a0_4, .int .i64 a0_5, .int .i64 a0_6, .string a0_7, .bool a0_8]] (by rfl) rfl rfl (by (try simp only [List.map_toArray, List.map_cons, List.map_nil]); first | done | rfl) ?_
    refine (HRS.out w9).mono ?_
    rintro ev w10 ⟨rfl, hb⟩
    try replace hb := hb.below
    refine ⟨_, rfl, ?_⟩
    replace BX := Aside0.mk (blk_below BX.out hb)
    replace HB := Aside0.mk (below_step HB.out hb)
    clear hb
    refine hK.out _ _ (ta_cells BX.out) (fun hHeld => ?_)
    clear hK K
    refine norm_ (a' := ?_) ?_ ?_
    rotate_left
    · show Act.put _ (some 29) _ = _
      simp only [Act.put, List.setIfInBounds_toArray, List.set_cons_zero, List.set_cons_succ, i64_w, i32_w]
      rfl
    refine pure_ (i := 16) (N := some 30) (v := ?_) (a' := ?_) #[true, true, true, true, true, true, true, true, true, true, true, true, true, true, true, true, true, false, false, false, false, false, false, false, false, false, false, false, false] rfl rfl (by kernel_rfl) (fun _ _ _ h => h) (Or.inl ⟨by rfl, ?_⟩) ?_ ?_
    rotate_left
    · intro w'
      go_simp
      with_reducible rfl
    rotate_left
    · simp only [Act.put, List.setIfInBounds_toArray, List.set_cons_zero, List.set_cons_succ, i64_w, i32_w]
      rfl
    refine pure_ (i := 17) (N := some 31) (v := ?_) (a' := ?_) #[true, true, true, true, true, true, true, true, true, true, true, true, true, true, true, true, true, true, false, false, false, false, false, false, false, false, false, false, false] rfl rfl (by kernel_rfl) (fun _ _ _ h => h) (Or.inl ⟨by rfl, ?_⟩) ?_ ?_
    rotate_left
    · intro w'
      go_simp
      with_reducible rfl
    rotate_left
    · simp only [Act.put, List.setIfInBounds_toArray, List.set_cons_zero, List.set_cons_succ, i64_w, i32_w]
      rfl
    refine pure_ (i := 18) (N := some 32) (v := ?_) (a' := ?_) #[true, true, true, true, true, true, true, true, true, true, true, true, true, true, true, true, true, true, true, false, false, false, false, false, false, false, false, false, false] rfl rfl (by kernel_rfl) (fun _ _ _ h => h) (Or.inl ⟨by rfl, ?_⟩) ?_ ?_
    rotate_left
    · intro w'
      go_simp
      with_reducible rfl
    rotate_left
    · simp only [Act.put, List.setIfInBounds_toArray, List.set_cons_zero, List.set_cons_succ, i64_w, i32_w]
      rfl
    refine take_ (i := 20) (N := some 34) (v := ?_) (a' := ?_) #[true, true, true, true, true, true, true, true, true, true, true, true, true, true, true, true, true, true, true, false, true, false, false, false, false, false, false, false, false] rfl rfl (by kernel_rfl) (fun _ _ _ h => h) (Or.inl ⟨by rfl, ?_⟩) hHeld ?_ ?_
    rotate_left
    · rintro w' ⟨s0, s1, s2, s3, s4, s5, s6, s7, s8⟩
      go_simp
      with_reducible rfl
    rotate_left
    · simp only [Act.put, List.setIfInBounds_toArray, List.set_cons_zero, List.set_cons_succ, i64_w, i32_w]
      rfl
    refine take_ (i := 24) (N := some 38) (v := ?_) (a' := ?_) #[true, true, true, true, true, true, true, true, true, true, true, true, true, true, true, true, true, true, true, false, true, false, false, false, true, false, false, false, false] rfl rfl (by kernel_rfl) (fun _ _ _ h => h) (Or.inl ⟨by rfl, ?_⟩) hHeld ?_ ?_
    rotate_left
    · rintro w' ⟨s0, s1, s2, s3, s4, s5, s6, s7, s8⟩
      go_simp
      with_reducible rfl
    rotate_left
    · simp only [Act.put, List.setIfInBounds_toArray, List.set_cons_zero, List.set_cons_succ, i64_w, i32_w]
      rfl
    clear her hbb HRI HRR HSB HFR HRS
    refine join_ (σ := Nat × Option Addr × Nat × Nat) 4 #[true, true, true, true, true, true, true, true, true, true, true, true, true, true, true, true, true, true, true, true, true, true, true, true, true, false, false, false, false] (fun s => [(33, .slice (some ⟨s.1, 0, none⟩) 1 1), (35, .agg #[.int .i64 a0_0, .string a0_1, .int .i64 a0_2, .int .i64 a0_3, .bool a0_4, .complex .f64 (fl a0_5) (fl a0_6), .string a0_7, .bool a0_8]), (36, .slice s.2.1 p.length s.2.2.1), (37, .slice (some ⟨s.2.2.2, 0, none⟩) 1 1)]) (fun s w' => w'.heap[w.heap.size]? = some (.cells #[.int .i64 a0_0, .string a0_1, .int .i64 a0_2, .int .i64 a0_3, .bool a0_4, .int .i64 a0_5, .int .i64 a0_6, .string a0_7, .bool a0_8] 46 (0, 0)) ∧ Below w.heap.size w w' ∧ p.length ≤ s.2.2.1 ∧ Kd.C (Kd.int .u8) w' s.2.1 p.length p ∧ Kd.C (Kd.int .u8) w' (some ⟨s.2.2.2, 0, none⟩) ([7] : List Int).length [7]) ?_ ?_
    · rintro ⟨g1, A2, c2, g3⟩ w20 ⟨bx, hb, hl2, hc2, hc3⟩
      replace BX := Aside0.mk bx
      replace HB := Aside0.mk hb
      have HC2 := Aside0.mk hc2
      have HC3 := Aside0.mk hc3
      clear bx hb hc2 hc3
      have hHeld := ta_cells BX.out
      dsimp only at hl2 HC2 HC3 ⊢
      refine norm_ (a' := ?_) ?_ ?_
      rotate_left
      · simp only [Go.Proofs.YtkmhanpamdgnjaaW.PrintLast.putAll, Act.put, List.setIfInBounds_toArray, List.set_cons_zero, List.set_cons_succ, i64_w, i32_w]
        rfl
      refine one_ (i := 25) (N := some 39) #[true, true, true, true, true, true, true, true, true, true, true, true, true, true, true, true, true, true, true, true, true, true, true, true, true, true, false, false, false] rfl rfl (by kernel_rfl) (by decide) (fun K hK => ?_)
      refine goes_ Try.func27 (by kernel_rfl) rfl #[.slice (some ⟨g3, 0, none⟩) 1 1, .agg #[.int .i64 a0_0, .string a0_1, .int .i64 a0_2, .int .i64 a0_3, .bool a0_4, .int .i64 a0_5, .int .i64 a0_6, .string a0_7, .bool a0_8]] (by rfl) rfl rfl (by (try simp only [List.map_toArray, List.map_cons, List.map_nil]); first | done | rfl) ?_
      refine (HRP.out (some ⟨g3, 0, none⟩) w20 HC3.out).mono ?_
      rintro ev w21 ⟨u, rfl, ho, hb⟩
      obtain ⟨A4, c4, rfl, hl4, hC4⟩ := Kd.R_reads ho
      refine ⟨_, rfl, ?_⟩
      have HC4 := Aside0.mk hC4
      clear ho hC4
      replace HC2 := Aside0.mk (Kd.C_below HC2.out hb)
      replace BX := Aside0.mk (blk_below BX.out hb)
      replace HB := Aside0.mk (below_step HB.out hb)
      clear hb
      refine hK.out _ _ (ta_cells BX.out) (fun hHeld => ?_)
      clear hK K
      refine norm_ (a' := ?_) ?_ ?_
      rotate_left
      · show Act.put _ (some 39) _ = _
        simp only [Act.put, List.setIfInBounds_toArray, List.set_cons_zero, List.set_cons_succ, i64_w, i32_w]
        rfl
      refine one_ (i := 26) (N := some 40) #[true, true, true, true, true, true, true, true, true, true, true, true, true, true, true, true, true, true, true, true, true, true, true, true, true, true, true, false, false] rfl rfl (by kernel_rfl) (by decide) (fun K hK => ?_)
      refine goes_ Try.func19 (by kernel_rfl) rfl #[.slice A2 p.length c2, .slice A4 q.length c4] (by rfl) rfl rfl (by (try simp only [List.map_toArray, List.map_cons, List.map_nil]); first | done | rfl) ?_
      refine (cenotaphref06_Same.calls A2 c2 p A4 c4 q true w21 HC2.out hl2 HC4.out hl4 (by rw [cenotaphref06_Same.f, HST.out])).mono ?_
      rintro ev w22 ⟨rfl, hb⟩
      replace hb := hb.below
      refine ⟨_, rfl, ?_⟩
      replace BX := Aside0.mk (blk_below BX.out hb)
      replace HB := Aside0.mk (below_step HB.out hb)
      clear hb
      refine hK.out _ _ (ta_cells BX.out) (fun hHeld => ?_)
      clear hK K
      refine norm_ (a' := ?_) ?_ ?_
      rotate_left
      · show Act.put _ (some 40) _ = _
        simp only [Act.put, List.setIfInBounds_toArray, List.set_cons_zero, List.set_cons_succ, i64_w, i32_w]
        rfl
      refine pure_ (i := 27) (N := some 41) (v := ?_) (a' := ?_) #[true, true, true, true, true, true, true, true, true, true, true, true, true, true, true, true, true, true, true, true, true, true, true, true, true, true, true, true, false] rfl rfl (by kernel_rfl) (fun _ _ _ h => h) (Or.inl ⟨by rfl, ?_⟩) ?_ ?_
      rotate_left
      · intro w'
        go_simp
        with_reducible rfl
      rotate_left
      · simp only [Act.put, List.setIfInBounds_toArray, List.set_cons_zero, List.set_cons_succ, i64_w, i32_w]
        rfl
      refine pure_ (i := 28) (N := some 2) (v := ?_) (a' := ?_) #[true, true, true, true, true, true, true, true, true, true, true, true, true, true, true, true, true, true, true, true, true, true, true, true, true, true, true, true, true] rfl rfl (by kernel_rfl) (fun _ _ _ h => h) (Or.inl ⟨by rfl, ?_⟩) ?_ ?_
      rotate_left
      · intro w'
        go_simp
        with_reducible rfl
      rotate_left
      · simp only [Act.put, List.setIfInBounds_toArray, List.set_cons_zero, List.set_cons_succ, i64_w, i32_w]
        rfl
      refine done_ (by kernel_rfl) ?_
      go_wp2_with fail
      go_ret
      exact ⟨rfl, HB.out⟩
    · intro hcont
      refine three_ (i := 19) (j := 21) (k := 23) (Ni := some 33) (Nj := some 35) (Nk := some 37) #[true, true, true, true, true, true, true, true, true, true, true, true, true, true, true, true, true, true, true, true, true, false, false, false, true, false, false, false, false] #[true, true, true, true, true, true, true, true, true, true, true, true, true, true, true, true, true, true, true, false, true, true, false, false, true, false, false, false, false] #[true, true, true, true, true, true, true, true, true, true, true, true, true, true, true, true, true, true, true, false, true, false, false, true, true, false, false, false, false] rfl rfl rfl rfl rfl rfl (by kernel_rfl) (by decide) (by decide) (by decide) (fun K hK => ?_) (fun K hK => ?_) (fun K hK => ?_)
      · refine value_ (v := .slice (some ⟨w10.heap.size, 0, none⟩) 1 1) (w1 := w10.alloc (.cells #[.int .u8 7] 5)) (by rfl) rfl (by first | (go_simp; done) | (go_simp; rfl)) ?_
        have HC1 := Aside0.mk (seven_C w10 5)
        replace BX := Aside0.mk (blk_below BX.out (below_alloc (Below.refl w10.heap.size w10) (.cells #[.int .u8 7] 5)))
        replace HB := Aside0.mk (below_alloc HB.out (.cells #[.int .u8 7] 5))
        refine hK.out _ _ (ta_cells BX.out) (fun hHeld => ?_)
        clear hK K hHeld
        generalize w10.alloc _ = w31 at HC1 BX HB ⊢
        generalize w10.heap.size = g1 at HC1 ⊢
        refine norm_ (a' := ?_) ?_ ?_
        rotate_left
        · show Act.put _ (some 33) _ = _
          simp only [Act.put, List.setIfInBounds_toArray, List.set_cons_zero, List.set_cons_succ, i64_w, i32_w]
          rfl
        refine two_ (i := 21) (j := 23) (Ni := some 35) (Nj := some 37) #[true, true, true, true, true, true, true, true, true, true, true, true, true, true, true, true, true, true, true, true, true, true, false, false, true, false, false, false, false] #[true, true, true, true, true, true, true, true, true, true, true, true, true, true, true, true, true, true, true, true, true, false, false, true, true, false, false, false, false] rfl rfl rfl rfl (by kernel_rfl) (by decide) (by decide) (fun K hK => ?_) (fun K hK => ?_)
        · refine goes_ Try.func21 (by kernel_rfl) rfl #[.agg #[.int .i64 a0_0, .string a0_1, .int .i64 a0_2, .int .i64 a0_3, .bool a0_4, .int .i64 a0_5, .int .i64 a0_6, .string a0_7, .bool a0_8]] (by rfl) rfl rfl (by (try simp only [List.map_toArray, List.map_cons, List.map_nil]); first | done | rfl) ?_
          refine (HTO.out w31).mono ?_
          rintro ev w32 ⟨rfl, hb⟩
          refine ⟨_, rfl, ?_⟩
          replace HC1 := Aside0.mk (Kd.C_below HC1.out hb)
          replace BX := Aside0.mk (blk_below BX.out hb)
          replace HB := Aside0.mk (below_step HB.out hb)
          clear hb
          refine hK.out _ _ (ta_cells BX.out) (fun hHeld => ?_)
          clear hK K hHeld
          refine norm_ (a' := ?_) ?_ ?_
          rotate_left
          · show Act.put _ (some 35) _ = _
            simp only [Act.put, List.setIfInBounds_toArray, List.set_cons_zero, List.set_cons_succ, i64_w, i32_w]
            rfl
          refine two_ (i := 22) (j := 23) (Ni := some 36) (Nj := some 37) #[true, true, true, true, true, true, true, true, true, true, true, true, true, true, true, true, true, true, true, true, true, true, true, false, true, false, false, false, false] #[true, true, true, true, true, true, true, true, true, true, true, true, true, true, true, true, true, true, true, true, true, true, false, true, true, false, false, false, false] rfl rfl rfl rfl (by kernel_rfl) (by decide) (by decide) (fun K hK => ?_) (fun K hK => ?_)
          · refine goes_ Try.func18 (by kernel_rfl) rfl #[.slice (some ⟨g1, 0, none⟩) 1 1, .agg #[.int .i64 a0_0, .string a0_1, .int .i64 a0_2, .int .i64 a0_3, .bool a0_4, .complex .f64 (fl a0_5) (fl a0_6), .string a0_7, .bool a0_8]] (by rfl) rfl rfl (by (try simp only [List.map_toArray, List.map_cons, List.map_nil]); first | done | rfl) ?_
            refine (HPP.out (some ⟨g1, 0, none⟩) w32 HC1.out).mono ?_
            rintro ev w33 ⟨A2, c2, rfl, hl2, hc2, hb⟩
            refine ⟨_, rfl, ?_⟩
            replace HC1 := Aside0.mk (Kd.C_below HC1.out hb)
            have HC2 := Aside0.mk hc2
            clear hc2
            replace BX := Aside0.mk (blk_below BX.out hb)
            replace HB := Aside0.mk (below_step HB.out hb)
            clear hb
            refine hK.out _ _ (ta_cells BX.out) (fun hHeld => ?_)
            clear hK K hHeld
            refine norm_ (a' := ?_) ?_ ?_
            rotate_left
            · show Act.put _ (some 36) _ = _
              simp only [Act.put, List.setIfInBounds_toArray, List.set_cons_zero, List.set_cons_succ, i64_w, i32_w]
              rfl
            refine one_ (i := 23) (N := some 37) #[true, true, true, true, true, true, true, true, true, true, true, true, true, true, true, true, true, true, true, true, true, true, true, true, true, false, false, false, false] rfl rfl (by kernel_rfl) (by decide) (fun K hK => ?_)
            refine value_ (v := .slice (some ⟨w33.heap.size, 0, none⟩) 1 1) (w1 := w33.alloc (.cells #[.int .u8 7] 5)) (by rfl) rfl (by first | (go_simp; done) | (go_simp; rfl)) ?_
            have HC3 := Aside0.mk (seven_C w33 5)
            replace HC1 := Aside0.mk (Kd.C_below HC1.out (below_alloc (Below.refl _ _) (.cells #[.int .u8 7] 5)))
            replace HC2 := Aside0.mk (Kd.C_below HC2.out (below_alloc (Below.refl _ _) (.cells #[.int .u8 7] 5)))
            replace BX := Aside0.mk (blk_below BX.out (below_alloc (Below.refl w33.heap.size w33) (.cells #[.int .u8 7] 5)))
            replace HB := Aside0.mk (below_alloc HB.out (.cells #[.int .u8 7] 5))
            refine hK.out _ _ (ta_cells BX.out) (fun hHeld => ?_)
            clear hK K hHeld
            generalize w33.alloc _ = w34 at HC3 HC1 HC2 BX HB ⊢
            generalize w33.heap.size = g3 at HC3 ⊢
            refine norm_ (a' := ?_) ?_ ?_
            rotate_left
            · show Act.put _ (some 37) _ = _
              simp only [Act.put, List.setIfInBounds_toArray, List.set_cons_zero, List.set_cons_succ, i64_w, i32_w]
              rfl
            exact hcont (g1, A2, c2, g3) _ ⟨BX.out, HB.out, hl2, HC2.out, HC3.out⟩
          · refine value_ (v := .slice (some ⟨w32.heap.size, 0, none⟩) 1 1) (w1 := w32.alloc (.cells #[.int .u8 7] 5)) (by rfl) rfl (by first | (go_simp; done) | (go_simp; rfl)) ?_
            have HC3 := Aside0.mk (seven_C w32 5)
            replace HC1 := Aside0.mk (Kd.C_below HC1.out (below_alloc (Below.refl _ _) (.cells #[.int .u8 7] 5)))
            replace BX := Aside0.mk (blk_below BX.out (below_alloc (Below.refl w32.heap.size w32) (.cells #[.int .u8 7] 5)))
            replace HB := Aside0.mk (below_alloc HB.out (.cells #[.int .u8 7] 5))
            refine hK.out _ _ (ta_cells BX.out) (fun hHeld => ?_)
            clear hK K hHeld
            generalize w32.alloc _ = w35 at HC3 HC1 BX HB ⊢
            generalize w32.heap.size = g3 at HC3 ⊢
            refine norm_ (a' := ?_) ?_ ?_
            rotate_left
            · show Act.put _ (some 37) _ = _
              simp only [Act.put, List.setIfInBounds_toArray, List.set_cons_zero, List.set_cons_succ, i64_w, i32_w]
              rfl
            refine one_ (i := 22) (N := some 36) #[true, true, true, true, true, true, true, true, true, true, true, true, true, true, true, true, true, true, true, true, true, true, true, true, true, false, false, false, false] rfl rfl (by kernel_rfl) (by decide) (fun K hK => ?_)
            refine goes_ Try.func18 (by kernel_rfl) rfl #[.slice (some ⟨g1, 0, none⟩) 1 1, .agg #[.int .i64 a0_0, .string a0_1, .int .i64 a0_2, .int .i64 a0_3, .bool a0_4, .complex .f64 (fl a0_5) (fl a0_6), .string a0_7, .bool a0_8]] (by rfl) rfl rfl (by (try simp only [List.map_toArray, List.map_cons, List.map_nil]); first | done | rfl) ?_
            refine (HPP.out (some ⟨g1, 0, none⟩) w35 HC1.out).mono ?_
            rintro ev w36 ⟨A2, c2, rfl, hl2, hc2, hb⟩
            refine ⟨_, rfl, ?_⟩
            replace HC1 := Aside0.mk (Kd.C_below HC1.out hb)
            replace HC3 := Aside0.mk (Kd.C_below HC3.out hb)
            have HC2 := Aside0.mk hc2
            clear hc2
            replace BX := Aside0.mk (blk_below BX.out hb)
            replace HB := Aside0.mk (below_step HB.out hb)
            clear hb
            refine hK.out _ _ (ta_cells BX.out) (fun hHeld => ?_)
            clear hK K hHeld
            refine norm_ (a' := ?_) ?_ ?_
            rotate_left
            · show Act.put _ (some 36) _ = _
              simp only [Act.put, List.setIfInBounds_toArray, List.set_cons_zero, List.set_cons_succ, i64_w, i32_w]
              rfl
            exact hcont (g1, A2, c2, g3) _ ⟨BX.out, HB.out, hl2, HC2.out, HC3.out⟩
        · refine value_ (v := .slice (some ⟨w31.heap.size, 0, none⟩) 1 1) (w1 := w31.alloc (.cells #[.int .u8 7] 5)) (by rfl) rfl (by first | (go_simp; done) | (go_simp; rfl)) ?_
          have HC3 := Aside0.mk (seven_C w31 5)
          replace HC1 := Aside0.mk (Kd.C_below HC1.out (below_alloc (Below.refl _ _) (.cells #[.int .u8 7] 5)))
          replace BX := Aside0.mk (blk_below BX.out (below_alloc (Below.refl w31.heap.size w31) (.cells #[.int .u8 7] 5)))
          replace HB := Aside0.mk (below_alloc HB.out (.cells #[.int .u8 7] 5))
          refine hK.out _ _ (ta_cells BX.out) (fun hHeld => ?_)
          clear hK K hHeld
          generalize w31.alloc _ = w37 at HC3 HC1 BX HB ⊢
          generalize w31.heap.size = g3 at HC3 ⊢
          refine norm_ (a' := ?_) ?_ ?_
          rotate_left
          · show Act.put _ (some 37) _ = _
            simp only [Act.put, List.setIfInBounds_toArray, List.set_cons_zero, List.set_cons_succ, i64_w, i32_w]
            rfl
          refine one_ (i := 21) (N := some 35) #[true, true, true, true, true, true, true, true, true, true, true, true, true, true, true, true, true, true, true, true, true, true, false, true, true, false, false, false, false] rfl rfl (by kernel_rfl) (by decide) (fun K hK => ?_)
          refine goes_ Try.func21 (by kernel_rfl) rfl #[.agg #[.int .i64 a0_0, .string a0_1, .int .i64 a0_2, .int .i64 a0_3, .bool a0_4, .int .i64 a0_5, .int .i64 a0_6, .string a0_7, .bool a0_8]] (by rfl) rfl rfl (by (try simp only [List.map_toArray, List.map_cons, List.map_nil]); first | done | rfl) ?_
          refine (HTO.out w37).mono ?_
          rintro ev w38 ⟨rfl, hb⟩
          refine ⟨_, rfl, ?_⟩
          replace HC1 := Aside0.mk (Kd.C_below HC1.out hb)
          replace HC3 := Aside0.mk (Kd.C_below HC3.out hb)
          replace BX := Aside0.mk (blk_below BX.out hb)
          replace HB := Aside0.mk (below_step HB.out hb)
          clear hb
          refine hK.out _ _ (ta_cells BX.out) (fun hHeld => ?_)
          clear hK K hHeld
          refine norm_ (a' := ?_) ?_ ?_
          rotate_left
          · show Act.put _ (some 35) _ = _
            simp only [Act.put, List.setIfInBounds_toArray, List.set_cons_zero, List.set_cons_succ, i64_w, i32_w]
            rfl
          refine one_ (i := 22) (N := some 36) #[true, true, true, true, true, true, true, true, true, true, true, true, true, true, true, true, true, true, true, true, true, true, true, true, true, false, false, false, false] rfl rfl (by kernel_rfl) (by decide) (fun K hK => ?_)
          refine goes_ Try.func18 (by kernel_rfl) rfl #[.slice (some ⟨g1, 0, none⟩) 1 1, .agg #[.int .i64 a0_0, .string a0_1, .int .i64 a0_2, .int .i64 a0_3, .bool a0_4, .complex .f64 (fl a0_5) (fl a0_6), .string a0_7, .bool a0_8]] (by rfl) rfl rfl (by (try simp only [List.map_toArray, List.map_cons, List.map_nil]); first | done | rfl) ?_
          refine (HPP.out (some ⟨g1, 0, none⟩) w38 HC1.out).mono ?_
          rintro ev w39 ⟨A2, c2, rfl, hl2, hc2, hb⟩
          refine ⟨_, rfl, ?_⟩
          replace HC1 := Aside0.mk (Kd.C_below HC1.out hb)
          replace HC3 := Aside0.mk (Kd.C_below HC3.out hb)
          have HC2 := Aside0.mk hc2
          clear hc2
          replace BX := Aside0.mk (blk_below BX.out hb)
          replace HB := Aside0.mk (below_step HB.out hb)
          clear hb
          refine hK.out _ _ (ta_cells BX.out) (fun hHeld => ?_)
          clear hK K hHeld
          refine norm_ (a' := ?_) ?_ ?_
          rotate_left
          · show Act.put _ (some 36) _ = _
            simp only [Act.put, List.setIfInBounds_toArray, List.set_cons_zero, List.set_cons_succ, i64_w, i32_w]
            rfl
          exact hcont (g1, A2, c2, g3) _ ⟨BX.out, HB.out, hl2, HC2.out, HC3.out⟩
      · refine goes_ Try.func21 (by kernel_rfl) rfl #[.agg #[.int .i64 a0_0, .string a0_1, .int .i64 a0_2, .int .i64 a0_3, .bool a0_4, .int .i64 a0_5, .int .i64 a0_6, .string a0_7, .bool a0_8]] (by rfl) rfl rfl (by (try simp only [List.map_toArray, List.map_cons, List.map_nil]); first | done | rfl) ?_
        refine (HTO.out w10).mono ?_
        rintro ev w40 ⟨rfl, hb⟩
        refine ⟨_, rfl, ?_⟩
        replace BX := Aside0.mk (blk_below BX.out hb)
        replace HB := Aside0.mk (below_step HB.out hb)
        clear hb
        refine hK.out _ _ (ta_cells BX.out) (fun hHeld => ?_)
        clear hK K hHeld
        refine norm_ (a' := ?_) ?_ ?_
        rotate_left
        · show Act.put _ (some 35) _ = _
          simp only [Act.put, List.setIfInBounds_toArray, List.set_cons_zero, List.set_cons_succ, i64_w, i32_w]
          rfl
        refine two_ (i := 19) (j := 23) (Ni := some 33) (Nj := some 37) #[true, true, true, true, true, true, true, true, true, true, true, true, true, true, true, true, true, true, true, true, true, true, false, false, true, false, false, false, false] #[true, true, true, true, true, true, true, true, true, true, true, true, true, true, true, true, true, true, true, false, true, true, false, true, true, false, false, false, false] rfl rfl rfl rfl (by kernel_rfl) (by decide) (by decide) (fun K hK => ?_) (fun K hK => ?_)
        · refine value_ (v := .slice (some ⟨w40.heap.size, 0, none⟩) 1 1) (w1 := w40.alloc (.cells #[.int .u8 7] 5)) (by rfl) rfl (by first | (go_simp; done) | (go_simp; rfl)) ?_
          have HC1 := Aside0.mk (seven_C w40 5)
          replace BX := Aside0.mk (blk_below BX.out (below_alloc (Below.refl w40.heap.size w40) (.cells #[.int .u8 7] 5)))
          replace HB := Aside0.mk (below_alloc HB.out (.cells #[.int .u8 7] 5))
          refine hK.out _ _ (ta_cells BX.out) (fun hHeld => ?_)
          clear hK K hHeld
          generalize w40.alloc _ = w41 at HC1 BX HB ⊢
          generalize w40.heap.size = g1 at HC1 ⊢
          refine norm_ (a' := ?_) ?_ ?_
          rotate_left
          · show Act.put _ (some 33) _ = _
            simp only [Act.put, List.setIfInBounds_toArray, List.set_cons_zero, List.set_cons_succ, i64_w, i32_w]
            rfl
          refine two_ (i := 22) (j := 23) (Ni := some 36) (Nj := some 37) #[true, true, true, true, true, true, true, true, true, true, true, true, true, true, true, true, true, true, true, true, true, true, true, false, true, false, false, false, false] #[true, true, true, true, true, true, true, true, true, true, true, true, true, true, true, true, true, true, true, true, true, true, false, true, true, false, false, false, false] rfl rfl rfl rfl (by kernel_rfl) (by decide) (by decide) (fun K hK => ?_) (fun K hK => ?_)
          · refine goes_ Try.func18 (by kernel_rfl) rfl #[.slice (some ⟨g1, 0, none⟩) 1 1, .agg #[.int .i64 a0_0, .string a0_1, .int .i64 a0_2, .int .i64 a0_3, .bool a0_4, .complex .f64 (fl a0_5) (fl a0_6), .string a0_7, .bool a0_8]] (by rfl) rfl rfl (by (try simp only [List.map_toArray, List.map_cons, List.map_nil]); first | done | rfl) ?_
            refine (HPP.out (some ⟨g1, 0, none⟩) w41 HC1.out).mono ?_
            rintro ev w42 ⟨A2, c2, rfl, hl2, hc2, hb⟩
            refine ⟨_, rfl, ?_⟩
            replace HC1 := Aside0.mk (Kd.C_below HC1.out hb)
            have HC2 := Aside0.mk hc2
            clear hc2
            replace BX := Aside0.mk (blk_below BX.out hb)
            replace HB := Aside0.mk (below_step HB.out hb)
            clear hb
            refine hK.out _ _ (ta_cells BX.out) (fun hHeld => ?_)
            clear hK K hHeld
            refine norm_ (a' := ?_) ?_ ?_
            rotate_left
            · show Act.put _ (some 36) _ = _
              simp only [Act.put, List.setIfInBounds_toArray, List.set_cons_zero, List.set_cons_succ, i64_w, i32_w]
              rfl
            refine one_ (i := 23) (N := some 37) #[true, true, true, true, true, true, true, true, true, true, true, true, true, true, true, true, true, true, true, true, true, true, true, true, true, false, false, false, false] rfl rfl (by kernel_rfl) (by decide) (fun K hK => ?_)
            refine value_ (v := .slice (some ⟨w42.heap.size, 0, none⟩) 1 1) (w1 := w42.alloc (.cells #[.int .u8 7] 5)) (by rfl) rfl (by first | (go_simp; done) | (go_simp; rfl)) ?_
            have HC3 := Aside0.mk (seven_C w42 5)
            replace HC1 := Aside0.mk (Kd.C_below HC1.out (below_alloc (Below.refl _ _) (.cells #[.int .u8 7] 5)))
            replace HC2 := Aside0.mk (Kd.C_below HC2.out (below_alloc (Below.refl _ _) (.cells #[.int .u8 7] 5)))
            replace BX := Aside0.mk (blk_below BX.out (below_alloc (Below.refl w42.heap.size w42) (.cells #[.int .u8 7] 5)))
            replace HB := Aside0.mk (below_alloc HB.out (.cells #[.int .u8 7] 5))
            refine hK.out _ _ (ta_cells BX.out) (fun hHeld => ?_)
            clear hK K hHeld
            generalize w42.alloc _ = w43 at HC3 HC1 HC2 BX HB ⊢
            generalize w42.heap.size = g3 at HC3 ⊢
            refine norm_ (a' := ?_) ?_ ?_
            rotate_left
            · show Act.put _ (some 37) _ = _
              simp only [Act.put, List.setIfInBounds_toArray, List.set_cons_zero, List.set_cons_succ, i64_w, i32_w]
              rfl
            exact hcont (g1, A2, c2, g3) _ ⟨BX.out, HB.out, hl2, HC2.out, HC3.out⟩
          · refine value_ (v := .slice (some ⟨w41.heap.size, 0, none⟩) 1 1) (w1 := w41.alloc (.cells #[.int .u8 7] 5)) (by rfl) rfl (by first | (go_simp; done) | (go_simp; rfl)) ?_
            have HC3 := Aside0.mk (seven_C w41 5)
            replace HC1 := Aside0.mk (Kd.C_below HC1.out (below_alloc (Below.refl _ _) (.cells #[.int .u8 7] 5)))
            replace BX := Aside0.mk (blk_below BX.out (below_alloc (Below.refl w41.heap.size w41) (.cells #[.int .u8 7] 5)))
            replace HB := Aside0.mk (below_alloc HB.out (.cells #[.int .u8 7] 5))
            refine hK.out _ _ (ta_cells BX.out) (fun hHeld => ?_)
            clear hK K hHeld
            generalize w41.alloc _ = w44 at HC3 HC1 BX HB ⊢
            generalize w41.heap.size = g3 at HC3 ⊢
            refine norm_ (a' := ?_) ?_ ?_
            rotate_left
            · show Act.put _ (some 37) _ = _
              simp only [Act.put, List.setIfInBounds_toArray, List.set_cons_zero, List.set_cons_succ, i64_w, i32_w]
              rfl
            refine one_ (i := 22) (N := some 36) #[true, true, true, true, true, true, true, true, true, true, true, true, true, true, true, true, true, true, true, true, true, true, true, true, true, false, false, false, false] rfl rfl (by kernel_rfl) (by decide) (fun K hK => ?_)
            refine goes_ Try.func18 (by kernel_rfl) rfl #[.slice (some ⟨g1, 0, none⟩) 1 1, .agg #[.int .i64 a0_0, .string a0_1, .int .i64 a0_2, .int .i64 a0_3, .bool a0_4, .complex .f64 (fl a0_5) (fl a0_6), .string a0_7, .bool a0_8]] (by rfl) rfl rfl (by (try simp only [List.map_toArray, List.map_cons, List.map_nil]); first | done | rfl) ?_
            refine (HPP.out (some ⟨g1, 0, none⟩) w44 HC1.out).mono ?_
            rintro ev w45 ⟨A2, c2, rfl, hl2, hc2, hb⟩
            refine ⟨_, rfl, ?_⟩
            replace HC1 := Aside0.mk (Kd.C_below HC1.out hb)
            replace HC3 := Aside0.mk (Kd.C_below HC3.out hb)
            have HC2 := Aside0.mk hc2
            clear hc2
            replace BX := Aside0.mk (blk_below BX.out hb)
            replace HB := Aside0.mk (below_step HB.out hb)
            clear hb
            refine hK.out _ _ (ta_cells BX.out) (fun hHeld => ?_)
            clear hK K hHeld
            refine norm_ (a' := ?_) ?_ ?_
            rotate_left
            · show Act.put _ (some 36) _ = _
              simp only [Act.put, List.setIfInBounds_toArray, List.set_cons_zero, List.set_cons_succ, i64_w, i32_w]
              rfl
            exact hcont (g1, A2, c2, g3) _ ⟨BX.out, HB.out, hl2, HC2.out, HC3.out⟩
        · refine value_ (v := .slice (some ⟨w40.heap.size, 0, none⟩) 1 1) (w1 := w40.alloc (.cells #[.int .u8 7] 5)) (by rfl) rfl (by first | (go_simp; done) | (go_simp; rfl)) ?_
          have HC3 := Aside0.mk (seven_C w40 5)
          replace BX := Aside0.mk (blk_below BX.out (below_alloc (Below.refl w40.heap.size w40) (.cells #[.int .u8 7] 5)))
          replace HB := Aside0.mk (below_alloc HB.out (.cells #[.int .u8 7] 5))
          refine hK.out _ _ (ta_cells BX.out) (fun hHeld => ?_)
          clear hK K hHeld
          generalize w40.alloc _ = w46 at HC3 BX HB ⊢
          generalize w40.heap.size = g3 at HC3 ⊢
          refine norm_ (a' := ?_) ?_ ?_
          rotate_left
          · show Act.put _ (some 37) _ = _
            simp only [Act.put, List.setIfInBounds_toArray, List.set_cons_zero, List.set_cons_succ, i64_w, i32_w]
            rfl
          refine one_ (i := 19) (N := some 33) #[true, true, true, true, true, true, true, true, true, true, true, true, true, true, true, true, true, true, true, true, true, true, false, true, true, false, false, false, false] rfl rfl (by kernel_rfl) (by decide) (fun K hK => ?_)
          refine value_ (v := .slice (some ⟨w46.heap.size, 0, none⟩) 1 1) (w1 := w46.alloc (.cells #[.int .u8 7] 5)) (by rfl) rfl (by first | (go_simp; done) | (go_simp; rfl)) ?_
          have HC1 := Aside0.mk (seven_C w46 5)
          replace HC3 := Aside0.mk (Kd.C_below HC3.out (below_alloc (Below.refl _ _) (.cells #[.int .u8 7] 5)))
          replace BX := Aside0.mk (blk_below BX.out (below_alloc (Below.refl w46.heap.size w46) (.cells #[.int .u8 7] 5)))
          replace HB := Aside0.mk (below_alloc HB.out (.cells #[.int .u8 7] 5))
          refine hK.out _ _ (ta_cells BX.out) (fun hHeld => ?_)
          clear hK K hHeld
          generalize w46.alloc _ = w47 at HC1 HC3 BX HB ⊢
          generalize w46.heap.size = g1 at HC1 ⊢
          refine norm_ (a' := ?_) ?_ ?_
          rotate_left
          · show Act.put _ (some 33) _ = _
            simp only [Act.put, List.setIfInBounds_toArray, List.set_cons_zero, List.set_cons_succ, i64_w, i32_w]
            rfl
          refine one_ (i := 22) (N := some 36) #[true, true, true, true, true, true, true, true, true, true, true, true, true, true, true, true, true, true, true, true, true, true, true, true, true, false, false, false, false] rfl rfl (by kernel_rfl) (by decide) (fun K hK => ?_)
          refine goes_ Try.func18 (by kernel_rfl) rfl #[.slice (some ⟨g1, 0, none⟩) 1 1, .agg #[.int .i64 a0_0, .string a0_1, .int .i64 a0_2, .int .i64 a0_3, .bool a0_4, .complex .f64 (fl a0_5) (fl a0_6), .string a0_7, .bool a0_8]] (by rfl) rfl rfl (by (try simp only [List.map_toArray, List.map_cons, List.map_nil]); first | done | rfl) ?_
          refine (HPP.out (some ⟨g1, 0, none⟩) w47 HC1.out).mono ?_
          rintro ev w48 ⟨A2, c2, rfl, hl2, hc2, hb⟩
          refine ⟨_, rfl, ?_⟩
          replace HC1 := Aside0.mk (Kd.C_below HC1.out hb)
          replace HC3 := Aside0.mk (Kd.C_below HC3.out hb)
          have HC2 := Aside0.mk hc2
          clear hc2
          replace BX := Aside0.mk (blk_below BX.out hb)
          replace HB := Aside0.mk (below_step HB.out hb)
          clear hb
          refine hK.out _ _ (ta_cells BX.out) (fun hHeld => ?_)
          clear hK K hHeld
          refine norm_ (a' := ?_) ?_ ?_
          rotate_left
          · show Act.put _ (some 36) _ = _
            simp only [Act.put, List.setIfInBounds_toArray, List.set_cons_zero, List.set_cons_succ, i64_w, i32_w]
            rfl
          exact hcont (g1, A2, c2, g3) _ ⟨BX.out, HB.out, hl2, HC2.out, HC3.out⟩
      · refine value_ (v := .slice (some ⟨w10.heap.size, 0, none⟩) 1 1) (w1 := w10.alloc (.cells #[.int .u8 7] 5)) (by rfl) rfl (by first | (go_simp; done) | (go_simp; rfl)) ?_
        have HC3 := Aside0.mk (seven_C w10 5)
        replace BX := Aside0.mk (blk_below BX.out (below_alloc (Below.refl w10.heap.size w10) (.cells #[.int .u8 7] 5)))
        replace HB := Aside0.mk (below_alloc HB.out (.cells #[.int .u8 7] 5))
        refine hK.out _ _ (ta_cells BX.out) (fun hHeld => ?_)
        clear hK K hHeld
        generalize w10.alloc _ = w49 at HC3 BX HB ⊢
        generalize w10.heap.size = g3 at HC3 ⊢
        refine norm_ (a' := ?_) ?_ ?_
        rotate_left
        · show Act.put _ (some 37) _ = _
          simp only [Act.put, List.setIfInBounds_toArray, List.set_cons_zero, List.set_cons_succ, i64_w, i32_w]
          rfl
        refine two_ (i := 19) (j := 21) (Ni := some 33) (Nj := some 35) #[true, true, true, true, true, true, true, true, true, true, true, true, true, true, true, true, true, true, true, true, true, false, false, true, true, false, false, false, false] #[true, true, true, true, true, true, true, true, true, true, true, true, true, true, true, true, true, true, true, false, true, true, false, true, true, false, false, false, false] rfl rfl rfl rfl (by kernel_rfl) (by decide) (by decide) (fun K hK => ?_) (fun K hK => ?_)
        · refine value_ (v := .slice (some ⟨w49.heap.size, 0, none⟩) 1 1) (w1 := w49.alloc (.cells #[.int .u8 7] 5)) (by rfl) rfl (by first | (go_simp; done) | (go_simp; rfl)) ?_
          have HC1 := Aside0.mk (seven_C w49 5)
          replace HC3 := Aside0.mk (Kd.C_below HC3.out (below_alloc (Below.refl _ _) (.cells #[.int .u8 7] 5)))
          replace BX := Aside0.mk (blk_below BX.out (below_alloc (Below.refl w49.heap.size w49) (.cells #[.int .u8 7] 5)))
          replace HB := Aside0.mk (below_alloc HB.out (.cells #[.int .u8 7] 5))
          refine hK.out _ _ (ta_cells BX.out) (fun hHeld => ?_)
          clear hK K hHeld
          generalize w49.alloc _ = w50 at HC1 HC3 BX HB ⊢
          generalize w49.heap.size = g1 at HC1 ⊢
          refine norm_ (a' := ?_) ?_ ?_
          rotate_left
          · show Act.put _ (some 33) _ = _
            simp only [Act.put, List.setIfInBounds_toArray, List.set_cons_zero, List.set_cons_succ, i64_w, i32_w]
            rfl
          refine one_ (i := 21) (N := some 35) #[true, true, true, true, true, true, true, true, true, true, true, true, true, true, true, true, true, true, true, true, true, true, false, true, true, false, false, false, false] rfl rfl (by kernel_rfl) (by decide) (fun K hK => ?_)
          refine goes_ Try.func21 (by kernel_rfl) rfl #[.agg #[.int .i64 a0_0, .string a0_1, .int .i64 a0_2, .int .i64 a0_3, .bool a0_4, .int .i64 a0_5, .int .i64 a0_6, .string a0_7, .bool a0_8]] (by rfl) rfl rfl (by (try simp only [List.map_toArray, List.map_cons, List.map_nil]); first | done | rfl) ?_
          refine (HTO.out w50).mono ?_
          rintro ev w51 ⟨rfl, hb⟩
          refine ⟨_, rfl, ?_⟩
          replace HC1 := Aside0.mk (Kd.C_below HC1.out hb)
          replace HC3 := Aside0.mk (Kd.C_below HC3.out hb)
          replace BX := Aside0.mk (blk_below BX.out hb)
          replace HB := Aside0.mk (below_step HB.out hb)
          clear hb
          refine hK.out _ _ (ta_cells BX.out) (fun hHeld => ?_)
          clear hK K hHeld
          refine norm_ (a' := ?_) ?_ ?_
          rotate_left
          · show Act.put _ (some 35) _ = _
            simp only [Act.put, List.setIfInBounds_toArray, List.set_cons_zero, List.set_cons_succ, i64_w, i32_w]
            rfl
          refine one_ (i := 22) (N := some 36) #[true, true, true, true, true, true, true, true, true, true, true, true, true, true, true, true, true, true, true, true, true, true, true, true, true, false, false, false, false] rfl rfl (by kernel_rfl) (by decide) (fun K hK => ?_)
          refine goes_ Try.func18 (by kernel_rfl) rfl #[.slice (some ⟨g1, 0, none⟩) 1 1, .agg #[.int .i64 a0_0, .string a0_1, .int .i64 a0_2, .int .i64 a0_3, .bool a0_4, .complex .f64 (fl a0_5) (fl a0_6), .string a0_7, .bool a0_8]] (by rfl) rfl rfl (by (try simp only [List.map_toArray, List.map_cons, List.map_nil]); first | done | rfl) ?_
          refine (HPP.out (some ⟨g1, 0, none⟩) w51 HC1.out).mono ?_
          rintro ev w52 ⟨A2, c2, rfl, hl2, hc2, hb⟩
          refine ⟨_, rfl, ?_⟩
          replace HC1 := Aside0.mk (Kd.C_below HC1.out hb)
          replace HC3 := Aside0.mk (Kd.C_below HC3.out hb)
          have HC2 := Aside0.mk hc2
          clear hc2
          replace BX := Aside0.mk (blk_below BX.out hb)
          replace HB := Aside0.mk (below_step HB.out hb)
          clear hb
          refine hK.out _ _ (ta_cells BX.out) (fun hHeld => ?_)
          clear hK K hHeld
          refine norm_ (a' := ?_) ?_ ?_
          rotate_left
          · show Act.put _ (some 36) _ = _
            simp only [Act.put, List.setIfInBounds_toArray, List.set_cons_zero, List.set_cons_succ, i64_w, i32_w]
            rfl
          exact hcont (g1, A2, c2, g3) _ ⟨BX.out, HB.out, hl2, HC2.out, HC3.out⟩
        · refine goes_ Try.func21 (by kernel_rfl) rfl #[.agg #[.int .i64 a0_0, .string a0_1, .int .i64 a0_2, .int .i64 a0_3, .bool a0_4, .int .i64 a0_5, .int .i64 a0_6, .string a0_7, .bool a0_8]] (by rfl) rfl rfl (by (try simp only [List.map_toArray, List.map_cons, List.map_nil]); first | done | rfl) ?_
          refine (HTO.out w49).mono ?_
          rintro ev w53 ⟨rfl, hb⟩
          refine ⟨_, rfl, ?_⟩
          replace HC3 := Aside0.mk (Kd.C_below HC3.out hb)
          replace BX := Aside0.mk (blk_below BX.out hb)
          replace HB := Aside0.mk (below_step HB.out hb)
          clear hb
          refine hK.out _ _ (ta_cells BX.out) (fun hHeld => ?_)
          clear hK K hHeld
          refine norm_ (a' := ?_) ?_ ?_
          rotate_left
          · show Act.put _ (some 35) _ = _
            simp only [Act.put, List.setIfInBounds_toArray, List.set_cons_zero, List.set_cons_succ, i64_w, i32_w]
            rfl
          refine one_ (i := 19) (N := some 33) #[true, true, true, true, true, true, true, true, true, true, true, true, true, true, true, true, true, true, true, true, true, true, false, true, true, false, false, false, false] rfl rfl (by kernel_rfl) (by decide) (fun K hK => ?_)
          refine value_ (v := .slice (some ⟨w53.heap.size, 0, none⟩) 1 1) (w1 := w53.alloc (.cells #[.int .u8 7] 5)) (by rfl) rfl (by first | (go_simp; done) | (go_simp; rfl)) ?_
          have HC1 := Aside0.mk (seven_C w53 5)
          replace HC3 := Aside0.mk (Kd.C_below HC3.out (below_alloc (Below.refl _ _) (.cells #[.int .u8 7] 5)))
          replace BX := Aside0.mk (blk_below BX.out (below_alloc (Below.refl w53.heap.size w53) (.cells #[.int .u8 7] 5)))
          replace HB := Aside0.mk (below_alloc HB.out (.cells #[.int .u8 7] 5))
          refine hK.out _ _ (ta_cells BX.out) (fun hHeld => ?_)
          clear hK K hHeld
          generalize w53.alloc _ = w54 at HC1 HC3 BX HB ⊢
          generalize w53.heap.size = g1 at HC1 ⊢
          refine norm_ (a' := ?_) ?_ ?_
          rotate_left
          · show Act.put _ (some 33) _ = _
            simp only [Act.put, List.setIfInBounds_toArray, List.set_cons_zero, List.set_cons_succ, i64_w, i32_w]
            rfl
          refine one_ (i := 22) (N := some 36) #[true, true, true, true, true, true, true, true, true, true, true, true, true, true, true, true, true, true, true, true, true, true, true, true, true, false, false, false, false] rfl rfl (by kernel_rfl) (by decide) (fun K hK => ?_)
          refine goes_ Try.func18 (by kernel_rfl) rfl #[.slice (some ⟨g1, 0, none⟩) 1 1, .agg #[.int .i64 a0_0, .string a0_1, .int .i64 a0_2, .int .i64 a0_3, .bool a0_4, .complex .f64 (fl a0_5) (fl a0_6), .string a0_7, .bool a0_8]] (by rfl) rfl rfl (by (try simp only [List.map_toArray, List.map_cons, List.map_nil]); first | done | rfl) ?_
          refine (HPP.out (some ⟨g1, 0, none⟩) w54 HC1.out).mono ?_
          rintro ev w55 ⟨A2, c2, rfl, hl2, hc2, hb⟩
          refine ⟨_, rfl, ?_⟩
          replace HC1 := Aside0.mk (Kd.C_below HC1.out hb)
          replace HC3 := Aside0.mk (Kd.C_below HC3.out hb)
          have HC2 := Aside0.mk hc2
          clear hc2
          replace BX := Aside0.mk (blk_below BX.out hb)
          replace HB := Aside0.mk (below_step HB.out hb)
          clear hb
          refine hK.out _ _ (ta_cells BX.out) (fun hHeld => ?_)
          clear hK K hHeld
          refine norm_ (a' := ?_) ?_ ?_
          rotate_left
          · show Act.put _ (some 36) _ = _
            simp only [Act.put, List.setIfInBounds_toArray, List.set_cons_zero, List.set_cons_succ, i64_w, i32_w]
            rfl
          exact hcont (g1, A2, c2, g3) _ ⟨BX.out, HB.out, hl2, HC2.out, HC3.out⟩

end Go.Proofs.Ytkmhanpamdgnjaa.P
