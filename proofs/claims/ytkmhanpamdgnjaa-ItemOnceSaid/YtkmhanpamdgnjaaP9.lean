-- Written by a program of this session (wip/pp.py over the kit's printer, with our own texts put in).
import Derived.Test.YtkmhanpamdgnjaaP0
import Derived.Test.YtkmhanpamdgnjaaP2
import Derived.Test.YtkmhanpamdgnjaaP3
import Derived.Test.YtkmhanpamdgnjaaP4
namespace Go.Proofs.Ytkmhanpamdgnjaa.P
open Go.RowKit Go.Proofs.YtkmhanpamdgnjaaW.PrintWords Go.Proofs.YtkmhanpamdgnjaaW.PrintLast Go.Proofs.YtkmhanpamdgnjaaW.PrintMore
attribute [local go_sem] max2_int min2_int max_two min_two max_three min_three max_four min_four   -- for this text's walks alone
set_option linter.unusedVariables false
set_option linter.unusedSimpArgs false

/-! ### cenotaphlaw07_ItemOnce: function 5 -/
attribute [local go_sem] run_store_complex
def cenotaphlaw07_ItemOnce.f (k : Nat) (a0_0 : Int) (a0_1 : ByteArray) (a0_2 : Int) (a0_3 : Int) (a0_4 : Bool) (a0_5 : Int) (a0_6 : Int) (a0_7 : ByteArray) (a0_8 : Bool) (a1_0 : Int) (a1_1 : ByteArray) (a1_2 : Int) (a1_3 : Int) (a1_4 : Bool) (a1_5 : Int) (a1_6 : Int) (a1_7 : ByteArray) (a1_8 : Bool) : Option Bool := (fixI k a0_0 a0_1 a0_2 a0_3 a0_4 a0_5 a0_6 a0_7 a0_8).bind fun X => (fixI k a1_0 a1_1 a1_2 a1_3 a1_4 a1_5 a1_6 a1_7 a1_8).bind fun Y => (itPut k [] X).bind fun p => (itPut k [] Y).bind fun q =>
  if X.ok ∧ Y.ok then (if ((strOfNums p).toList == (strOfNums q).toList) = X.eq Y then some true else none) else none
set_option maxHeartbeats 8000000 in
set_option maxRecDepth 100000 in
theorem cenotaphlaw07_ItemOnce.calls (k : Nat) (a0_0 : Int) (a0_1 : ByteArray) (a0_2 : Int) (a0_3 : Int) (a0_4 : Bool) (a0_5 : Int) (a0_6 : Int) (a0_7 : ByteArray) (a0_8 : Bool) (a1_0 : Int) (a1_1 : ByteArray) (a1_2 : Int) (a1_3 : Int) (a1_4 : Bool) (a1_5 : Int) (a1_6 : Int) (a1_7 : ByteArray) (a1_8 : Bool) (r : Bool) (w : World) (h : cenotaphlaw07_ItemOnce.f k a0_0 a0_1 a0_2 a0_3 a0_4 a0_5 a0_6 a0_7 a0_8 a1_0 a1_1 a1_2 a1_3 a1_4 a1_5 a1_6 a1_7 a1_8 = some r) :
    Calls Try.prog 5 #[.agg #[.int .i64 a0_0, .string a0_1, .int .i64 a0_2, .int .i64 a0_3, .bool a0_4, .int .i64 a0_5, .int .i64 a0_6, .string a0_7, .bool a0_8], .agg #[.int .i64 a1_0, .string a1_1, .int .i64 a1_2, .int .i64 a1_3, .bool a1_4, .int .i64 a1_5, .int .i64 a1_6, .string a1_7, .bool a1_8]] w fun e w' => e = .returned (.bool r) ∧ Below w.heap.size w w' := by
  obtain ⟨X, hX, h⟩ := Option.bind_eq_some_iff.mp h
  obtain ⟨Y, hY, h⟩ := Option.bind_eq_some_iff.mp h
  obtain ⟨p, hp, h⟩ := Option.bind_eq_some_iff.mp h
  obtain ⟨q, hq, h⟩ := Option.bind_eq_some_iff.mp h
  by_cases hok : X.ok ∧ Y.ok
  rotate_left
  · rw [if_neg hok] at h; cases h
  rw [if_pos hok] at h
  by_cases hse : ((strOfNums p).toList == (strOfNums q).toList) = X.eq Y
  rotate_left
  · rw [if_neg hse] at h; cases h
  rw [if_pos hse] at h
  obtain rfl := Option.some.inj h
  have HX := Aside0.mk (fun (W : World) => fixI.calls k a0_0 a0_1 a0_2 a0_3 a0_4 a0_5 a0_6 a0_7 a0_8 X W hX)
  have HY := Aside0.mk (fun (W : World) => fixI.calls k a1_0 a1_1 a1_2 a1_3 a1_4 a1_5 a1_6 a1_7 a1_8 Y W hY)
  have HP := Aside0.mk (fun (W : World) => it_put k none 0 [] X p W (Kd.C_nil _ _) (Nat.le_refl _) hok.1.1 hok.1.2 hp)
  have HQ := Aside0.mk (fun (W : World) => it_put k none 0 [] Y q W (Kd.C_nil _ _) (Nat.le_refl _) hok.2.1 hok.2.2 hq)
  have HEI := Aside0.mk (fun (W : World) => eq_it X Y W hok.1 hok.2)
  have HER := Aside0.mk (fun (W : World) => eq_ref X Y W)
  have HTX := Aside0.mk (fun (W : World) => it_to X.k X.i X.q X.s X.d X.x X.y X.t X.h W)
  have HTY := Aside0.mk (fun (W : World) => it_to Y.k Y.i Y.q Y.s Y.d Y.x Y.y Y.t Y.h W)
  have HSE := Aside0.mk hse
  clear h hX hY hp hq hok hse
  have hu := Try.underlying46
  have hu2 := Try.underlying40
  have BX := Aside0.mk (blk_below (blk_new w (.cells #[.int .i64 a0_0, .string a0_1, .int .i64 a0_2, .int .i64 a0_3, .bool a0_4, .int .i64 a0_5, .int .i64 a0_6, .string a0_7, .bool a0_8] 46)) (below_alloc (Below.refl _ _) (.cells #[.int .i64 a1_0, .string a1_1, .int .i64 a1_2, .int .i64 a1_3, .bool a1_4, .int .i64 a1_5, .int .i64 a1_6, .string a1_7, .bool a1_8] 46)))
  have BY := Aside0.mk (blk_new (w.alloc (.cells #[.int .i64 a0_0, .string a0_1, .int .i64 a0_2, .int .i64 a0_3, .bool a0_4, .int .i64 a0_5, .int .i64 a0_6, .string a0_7, .bool a0_8] 46)) (.cells #[.int .i64 a1_0, .string a1_1, .int .i64 a1_2, .int .i64 a1_3, .bool a1_4, .int .i64 a1_5, .int .i64 a1_6, .string a1_7, .bool a1_8] 46))
  have HB := Aside0.mk (below_new (w := w) (.cells #[.int .i64 a0_0, .string a0_1, .int .i64 a0_2, .int .i64 a0_3, .bool a0_4, .int .i64 a0_5, .int .i64 a0_6, .string a0_7, .bool a0_8] 46) (.cells #[.int .i64 a1_0, .string a1_1, .int .i64 a1_2, .int .i64 a1_3, .bool a1_4, .int .i64 a1_5, .int .i64 a1_6, .string a1_7, .bool a1_8] 46))
  have e : (w.alloc (.cells #[.int .i64 a0_0, .string a0_1, .int .i64 a0_2, .int .i64 a0_3, .bool a0_4, .int .i64 a0_5, .int .i64 a0_6, .string a0_7, .bool a0_8] 46)).heap.size = w.heap.size + 1 := Array.size_push _
  rw [e] at BY
  clear e
  go_enter Try.func5, Try.ntmps5
  go_upto_region 1 with fail
  generalize (w.alloc _).alloc _ = w1 at BX BY HB ⊢
  refine start_ (n := 6) (S := fun w' => w'.cell? ⟨w.heap.size, 0, none⟩ = some (.int .i64 a0_0) ∧ w'.cell? ⟨w.heap.size, 1, none⟩ = some (.string a0_1) ∧ w'.cell? ⟨w.heap.size, 2, none⟩ = some (.int .i64 a0_2) ∧ w'.cell? ⟨w.heap.size, 3, none⟩ = some (.int .i64 a0_3) ∧ w'.cell? ⟨w.heap.size, 4, none⟩ = some (.bool a0_4) ∧ w'.cell? ⟨w.heap.size, 5, none⟩ = some (.int .i64 a0_5) ∧ w'.cell? ⟨w.heap.size, 6, none⟩ = some (.int .i64 a0_6) ∧ w'.cell? ⟨w.heap.size, 7, none⟩ = some (.string a0_7) ∧ w'.cell? ⟨w.heap.size, 8, none⟩ = some (.bool a0_8) ∧ w'.cell? ⟨w.heap.size + 1, 0, none⟩ = some (.int .i64 a1_0) ∧ w'.cell? ⟨w.heap.size + 1, 1, none⟩ = some (.string a1_1) ∧ w'.cell? ⟨w.heap.size + 1, 2, none⟩ = some (.int .i64 a1_2) ∧ w'.cell? ⟨w.heap.size + 1, 3, none⟩ = some (.int .i64 a1_3) ∧ w'.cell? ⟨w.heap.size + 1, 4, none⟩ = some (.bool a1_4) ∧ w'.cell? ⟨w.heap.size + 1, 5, none⟩ = some (.int .i64 a1_5) ∧ w'.cell? ⟨w.heap.size + 1, 6, none⟩ = some (.int .i64 a1_6) ∧ w'.cell? ⟨w.heap.size + 1, 7, none⟩ = some (.string a1_7) ∧ w'.cell? ⟨w.heap.size + 1, 8, none⟩ = some (.bool a1_8)) (ds := [4, 5]) #[false, false, false, false, false, false] (by kernel_rfl) rfl rfl (and9 (ta_cells (blk_drew BX.out)) (ta_cells (blk_drew BY.out))) (fun hHeld => ?_)
  replace BX := Aside0.mk (blk_drew BX.out)
  replace BY := Aside0.mk (blk_drew BY.out)
  replace HB := Aside0.mk (below_drew1 HB.out)
  generalize w1.drew = w2 at BX BY HB hHeld ⊢
  refine take_ (i := 0) (N := some 5) (v := ?_) (a' := ?_) #[true, false, false, false, false, false] rfl rfl (by kernel_rfl) (fun _ _ _ h => h) (Or.inl ⟨by rfl, ?_⟩) hHeld ?_ ?_
  rotate_left
  · rintro w' ⟨s0, s1, s2, s3, s4, s5, s6, s7, s8, s9, s10, s11, s12, s13, s14, s15, s16, s17⟩
    go_simp
    with_reducible rfl
  rotate_left
  · simp only [Act.put, List.setIfInBounds_toArray, List.set_cons_zero, List.set_cons_succ, i64_w, i32_w]
    rfl
  refine take_ (i := 2) (N := some 7) (v := ?_) (a' := ?_) #[true, false, true, false, false, false] rfl rfl (by kernel_rfl) (fun _ _ _ h => h) (Or.inl ⟨by rfl, ?_⟩) hHeld ?_ ?_
  rotate_left
  · rintro w' ⟨s0, s1, s2, s3, s4, s5, s6, s7, s8, s9, s10, s11, s12, s13, s14, s15, s16, s17⟩
    go_simp
    with_reducible rfl
  rotate_left
  · simp only [Act.put, List.setIfInBounds_toArray, List.set_cons_zero, List.set_cons_succ, i64_w, i32_w]
    rfl
  refine one_ (i := 1) (N := some 6) #[true, true, true, false, false, false] rfl rfl (by kernel_rfl) (by decide) (fun K hK => ?_)
  refine goes_ Try.func20 (by kernel_rfl) rfl #[.agg #[.int .i64 a0_0, .string a0_1, .int .i64 a0_2, .int .i64 a0_3, .bool a0_4, .int .i64 a0_5, .int .i64 a0_6, .string a0_7, .bool a0_8]] (by rfl) rfl rfl (by (try simp only [List.map_toArray, List.map_cons, List.map_nil]); first | done | rfl) ?_
  refine (HX.out w2).mono ?_
  rintro ev w3 ⟨rfl, hb⟩
  refine ⟨_, rfl, ?_⟩
  replace BX := Aside0.mk (blk_below BX.out hb)
  replace BY := Aside0.mk (blk_below BY.out hb)
  replace HB := Aside0.mk (below_step HB.out hb)
  clear hb
  refine hK.out _ _ (and9 (ta_cells BX.out) (ta_cells BY.out)) (fun hHeld => ?_)
  clear hK K
  refine norm_ (a' := ?_) ?_ ?_
  rotate_left
  · show Act.put _ (some 6) _ = _
    simp only [Act.put, List.setIfInBounds_toArray, List.set_cons_zero, List.set_cons_succ, i64_w, i32_w]
    rfl
  refine one_ (i := 3) (N := some 8) #[true, true, true, true, false, false] rfl rfl (by kernel_rfl) (by decide) (fun K hK => ?_)
  refine goes_ Try.func20 (by kernel_rfl) rfl #[.agg #[.int .i64 a1_0, .string a1_1, .int .i64 a1_2, .int .i64 a1_3, .bool a1_4, .int .i64 a1_5, .int .i64 a1_6, .string a1_7, .bool a1_8]] (by rfl) rfl rfl (by (try simp only [List.map_toArray, List.map_cons, List.map_nil]); first | done | rfl) ?_
  refine (HY.out w3).mono ?_
  rintro ev w4 ⟨rfl, hb⟩
  refine ⟨_, rfl, ?_⟩
  replace BX := Aside0.mk (blk_below BX.out hb)
  replace BY := Aside0.mk (blk_below BY.out hb)
  replace HB := Aside0.mk (below_step HB.out hb)
  clear hb
  refine hK.out _ _ (and9 (ta_cells BX.out) (ta_cells BY.out)) (fun hHeld => ?_)
  clear hK K
  refine norm_ (a' := ?_) ?_ ?_
  rotate_left
  · show Act.put _ (some 8) _ = _
    simp only [Act.put, List.setIfInBounds_toArray, List.set_cons_zero, List.set_cons_succ, i64_w, i32_w]
    rfl
  clear hHeld HX HY
  refine last_ (i := 4) (N := none) #[true, true, true, true, true, false] rfl rfl (by kernel_rfl) (by decide) (fun K hK => ?_)
  obtain ⟨⟨c0, c1, c2, c3, c4, c5, c6, c7, c8⟩, z0, z1, z2, z3, z4, z5, z6, z7, z8⟩ := tf_cells BX.out
  refine skip_ (w1 := ?_) (by rfl) rfl ?_ ?_
  rotate_left
  · go_simp
    rfl
  refine hK.out _ _ ?_
  clear hK K
  have hne : w.heap.size + 1 ≠ w.heap.size := by omega
  replace BY := Aside0.mk (show ((((((((((w4.setCell ⟨w.heap.size, 0, none⟩ (.int .i64 X.k)).setCell ⟨w.heap.size, 1, none⟩ (.string X.i)).setCell ⟨w.heap.size, 2, none⟩ (.int .i64 X.q)).setCell ⟨w.heap.size, 3, none⟩ (.int .i64 X.s)).setCell ⟨w.heap.size, 4, none⟩ (.bool X.d)).setCell ⟨w.heap.size, 5, none⟩ (.int .i64 X.x)).setCell ⟨w.heap.size, 6, none⟩ (.int .i64 X.y)).setCell ⟨w.heap.size, 7, none⟩ (.string X.t)).setCell ⟨w.heap.size, 8, none⟩ (.bool X.h))).heap[w.heap.size + 1]? = _ from blk_far9 BY.out hne (.int .i64 X.k) (.string X.i) (.int .i64 X.q) (.int .i64 X.s) (.bool X.d) (.int .i64 X.x) (.int .i64 X.y) (.string X.t) (.bool X.h))
  replace BX := Aside0.mk (show ((((((((((w4.setCell ⟨w.heap.size, 0, none⟩ (.int .i64 X.k)).setCell ⟨w.heap.size, 1, none⟩ (.string X.i)).setCell ⟨w.heap.size, 2, none⟩ (.int .i64 X.q)).setCell ⟨w.heap.size, 3, none⟩ (.int .i64 X.s)).setCell ⟨w.heap.size, 4, none⟩ (.bool X.d)).setCell ⟨w.heap.size, 5, none⟩ (.int .i64 X.x)).setCell ⟨w.heap.size, 6, none⟩ (.int .i64 X.y)).setCell ⟨w.heap.size, 7, none⟩ (.string X.t)).setCell ⟨w.heap.size, 8, none⟩ (.bool X.h))).heap[w.heap.size]? = _ from blk_put9 BX.out (.int .i64 X.k) (.string X.i) (.int .i64 X.q) (.int .i64 X.s) (.bool X.d) (.int .i64 X.x) (.int .i64 X.y) (.string X.t) (.bool X.h))
  replace HB := Aside0.mk (show Below w.heap.size w (((((((((w4.setCell ⟨w.heap.size, 0, none⟩ (.int .i64 X.k)).setCell ⟨w.heap.size, 1, none⟩ (.string X.i)).setCell ⟨w.heap.size, 2, none⟩ (.int .i64 X.q)).setCell ⟨w.heap.size, 3, none⟩ (.int .i64 X.s)).setCell ⟨w.heap.size, 4, none⟩ (.bool X.d)).setCell ⟨w.heap.size, 5, none⟩ (.int .i64 X.x)).setCell ⟨w.heap.size, 6, none⟩ (.int .i64 X.y)).setCell ⟨w.heap.size, 7, none⟩ (.string X.t)).setCell ⟨w.heap.size, 8, none⟩ (.bool X.h)) from below_put9 HB.out (Nat.le_refl _) (.int .i64 X.k) (.string X.i) (.int .i64 X.q) (.int .i64 X.s) (.bool X.d) (.int .i64 X.x) (.int .i64 X.y) (.string X.t) (.bool X.h))
  clear c0 c1 c2 c3 c4 c5 c6 c7 c8 z0 z1 z2 z3 z4 z5 z6 z7 z8 hne
  generalize (((((((((w4.setCell ⟨w.heap.size, 0, none⟩ (.int .i64 X.k)).setCell ⟨w.heap.size, 1, none⟩ (.string X.i)).setCell ⟨w.heap.size, 2, none⟩ (.int .i64 X.q)).setCell ⟨w.heap.size, 3, none⟩ (.int .i64 X.s)).setCell ⟨w.heap.size, 4, none⟩ (.bool X.d)).setCell ⟨w.heap.size, 5, none⟩ (.int .i64 X.x)).setCell ⟨w.heap.size, 6, none⟩ (.int .i64 X.y)).setCell ⟨w.heap.size, 7, none⟩ (.string X.t)).setCell ⟨w.heap.size, 8, none⟩ (.bool X.h)) = w5 at BX BY HB ⊢
  refine last_ (i := 5) (N := none) #[true, true, true, true, true, true] rfl rfl (by kernel_rfl) (by decide) (fun K hK => ?_)
  obtain ⟨⟨c0, c1, c2, c3, c4, c5, c6, c7, c8⟩, z0, z1, z2, z3, z4, z5, z6, z7, z8⟩ := tf_cells BY.out
  refine skip_ (w1 := ?_) (by rfl) rfl ?_ ?_
  rotate_left
  · go_simp
    rfl
  refine hK.out _ _ ?_
  clear hK K
  have hne : w.heap.size ≠ w.heap.size + 1 := by omega
  replace BX := Aside0.mk (show ((((((((((w5.setCell ⟨(w.heap.size + 1), 0, none⟩ (.int .i64 Y.k)).setCell ⟨(w.heap.size + 1), 1, none⟩ (.string Y.i)).setCell ⟨(w.heap.size + 1), 2, none⟩ (.int .i64 Y.q)).setCell ⟨(w.heap.size + 1), 3, none⟩ (.int .i64 Y.s)).setCell ⟨(w.heap.size + 1), 4, none⟩ (.bool Y.d)).setCell ⟨(w.heap.size + 1), 5, none⟩ (.int .i64 Y.x)).setCell ⟨(w.heap.size + 1), 6, none⟩ (.int .i64 Y.y)).setCell ⟨(w.heap.size + 1), 7, none⟩ (.string Y.t)).setCell ⟨(w.heap.size + 1), 8, none⟩ (.bool Y.h))).heap[w.heap.size]? = _ from blk_far9 BX.out hne (.int .i64 Y.k) (.string Y.i) (.int .i64 Y.q) (.int .i64 Y.s) (.bool Y.d) (.int .i64 Y.x) (.int .i64 Y.y) (.string Y.t) (.bool Y.h))
  replace BY := Aside0.mk (show ((((((((((w5.setCell ⟨(w.heap.size + 1), 0, none⟩ (.int .i64 Y.k)).setCell ⟨(w.heap.size + 1), 1, none⟩ (.string Y.i)).setCell ⟨(w.heap.size + 1), 2, none⟩ (.int .i64 Y.q)).setCell ⟨(w.heap.size + 1), 3, none⟩ (.int .i64 Y.s)).setCell ⟨(w.heap.size + 1), 4, none⟩ (.bool Y.d)).setCell ⟨(w.heap.size + 1), 5, none⟩ (.int .i64 Y.x)).setCell ⟨(w.heap.size + 1), 6, none⟩ (.int .i64 Y.y)).setCell ⟨(w.heap.size + 1), 7, none⟩ (.string Y.t)).setCell ⟨(w.heap.size + 1), 8, none⟩ (.bool Y.h))).heap[w.heap.size + 1]? = _ from blk_put9 BY.out (.int .i64 Y.k) (.string Y.i) (.int .i64 Y.q) (.int .i64 Y.s) (.bool Y.d) (.int .i64 Y.x) (.int .i64 Y.y) (.string Y.t) (.bool Y.h))
  replace HB := Aside0.mk (show Below w.heap.size w (((((((((w5.setCell ⟨(w.heap.size + 1), 0, none⟩ (.int .i64 Y.k)).setCell ⟨(w.heap.size + 1), 1, none⟩ (.string Y.i)).setCell ⟨(w.heap.size + 1), 2, none⟩ (.int .i64 Y.q)).setCell ⟨(w.heap.size + 1), 3, none⟩ (.int .i64 Y.s)).setCell ⟨(w.heap.size + 1), 4, none⟩ (.bool Y.d)).setCell ⟨(w.heap.size + 1), 5, none⟩ (.int .i64 Y.x)).setCell ⟨(w.heap.size + 1), 6, none⟩ (.int .i64 Y.y)).setCell ⟨(w.heap.size + 1), 7, none⟩ (.string Y.t)).setCell ⟨(w.heap.size + 1), 8, none⟩ (.bool Y.h)) from below_put9 HB.out (Nat.le_succ _) (.int .i64 Y.k) (.string Y.i) (.int .i64 Y.q) (.int .i64 Y.s) (.bool Y.d) (.int .i64 Y.x) (.int .i64 Y.y) (.string Y.t) (.bool Y.h))
  clear c0 c1 c2 c3 c4 c5 c6 c7 c8 z0 z1 z2 z3 z4 z5 z6 z7 z8 hne
  generalize (((((((((w5.setCell ⟨(w.heap.size + 1), 0, none⟩ (.int .i64 Y.k)).setCell ⟨(w.heap.size + 1), 1, none⟩ (.string Y.i)).setCell ⟨(w.heap.size + 1), 2, none⟩ (.int .i64 Y.q)).setCell ⟨(w.heap.size + 1), 3, none⟩ (.int .i64 Y.s)).setCell ⟨(w.heap.size + 1), 4, none⟩ (.bool Y.d)).setCell ⟨(w.heap.size + 1), 5, none⟩ (.int .i64 Y.x)).setCell ⟨(w.heap.size + 1), 6, none⟩ (.int .i64 Y.y)).setCell ⟨(w.heap.size + 1), 7, none⟩ (.string Y.t)).setCell ⟨(w.heap.size + 1), 8, none⟩ (.bool Y.h)) = w6 at BX BY HB ⊢
  refine done_ (by kernel_rfl) ?_
  obtain ⟨E, hE⟩ : ∃ E, X.eq Y = E := ⟨_, rfl⟩
  rw [hE] at HEI HER HSE
  clear hE
  have her := HER.out
  have hei := HEI.out
  clear HER HEI
  go_upto_region 2 with fail
  refine start_ (n := 26) (S := fun w' => w'.cell? ⟨w.heap.size, 0, none⟩ = some (.int .i64 X.k) ∧ w'.cell? ⟨w.heap.size, 1, none⟩ = some (.string X.i) ∧ w'.cell? ⟨w.heap.size, 2, none⟩ = some (.int .i64 X.q) ∧ w'.cell? ⟨w.heap.size, 3, none⟩ = some (.int .i64 X.s) ∧ w'.cell? ⟨w.heap.size, 4, none⟩ = some (.bool X.d) ∧ w'.cell? ⟨w.heap.size, 5, none⟩ = some (.int .i64 X.x) ∧ w'.cell? ⟨w.heap.size, 6, none⟩ = some (.int .i64 X.y) ∧ w'.cell? ⟨w.heap.size, 7, none⟩ = some (.string X.t) ∧ w'.cell? ⟨w.heap.size, 8, none⟩ = some (.bool X.h) ∧ w'.cell? ⟨w.heap.size + 1, 0, none⟩ = some (.int .i64 Y.k) ∧ w'.cell? ⟨w.heap.size + 1, 1, none⟩ = some (.string Y.i) ∧ w'.cell? ⟨w.heap.size + 1, 2, none⟩ = some (.int .i64 Y.q) ∧ w'.cell? ⟨w.heap.size + 1, 3, none⟩ = some (.int .i64 Y.s) ∧ w'.cell? ⟨w.heap.size + 1, 4, none⟩ = some (.bool Y.d) ∧ w'.cell? ⟨w.heap.size + 1, 5, none⟩ = some (.int .i64 Y.x) ∧ w'.cell? ⟨w.heap.size + 1, 6, none⟩ = some (.int .i64 Y.y) ∧ w'.cell? ⟨w.heap.size + 1, 7, none⟩ = some (.string Y.t) ∧ w'.cell? ⟨w.heap.size + 1, 8, none⟩ = some (.bool Y.h)) (ds := []) #[false, false, false, false, false, false, false, false, false, false, false, false, false, false, false, false, false, false, false, false, false, false, false, false, false, false] (by kernel_rfl) rfl rfl (and9 (ta_cells (blk_drew BX.out)) (ta_cells (blk_drew BY.out))) (fun hHeld => ?_)
  replace BX := Aside0.mk (blk_drew BX.out)
  replace BY := Aside0.mk (blk_drew BY.out)
  replace HB := Aside0.mk (below_drew1 HB.out)
  generalize w6.drew = w7 at BX BY HB hHeld ⊢
  refine one_ (i := 0) (N := some 9) #[true, false, false, false, false, false, false, false, false, false, false, false, false, false, false, false, false, false, false, false, false, false, false, false, false, false] rfl rfl (by kernel_rfl) (by decide) (fun K hK => ?_)
  refine goes_ Try.func11 (by kernel_rfl) rfl #[] (by rfl) rfl rfl (by (try simp only [List.map_toArray, List.map_cons, List.map_nil]); first | done | rfl) ?_
  refine (cenotaphlaw07_told.calls true w7 rfl).mono ?_
  rintro ev w8 ⟨rfl, hb⟩
  refine ⟨_, rfl, ?_⟩
  replace BX := Aside0.mk (blk_below BX.out hb)
  replace BY := Aside0.mk (blk_below BY.out hb)
  replace HB := Aside0.mk (below_step HB.out hb)
  clear hb
  refine hK.out _ _ (and9 (ta_cells BX.out) (ta_cells BY.out)) (fun hHeld => ?_)
  clear hK K
  refine norm_ (a' := ?_) ?_ ?_
  rotate_left
  · show Act.put _ (some 9) _ = _
    simp only [Act.put, List.setIfInBounds_toArray, List.set_cons_zero, List.set_cons_succ, i64_w, i32_w]
    rfl
  refine pure_ (i := 1) (N := some 10) (v := ?_) (a' := ?_) #[true, true, false, false, false, false, false, false, false, false, false, false, false, false, false, false, false, false, false, false, false, false, false, false, false, false] rfl rfl (by kernel_rfl) (fun _ _ _ h => h) (Or.inl ⟨by rfl, ?_⟩) ?_ ?_
  rotate_left
  · intro w'
    go_simp
    with_reducible rfl
  rotate_left
  · simp only [Act.put, List.setIfInBounds_toArray, List.set_cons_zero, List.set_cons_succ, i64_w, i32_w]
    rfl
  refine take_ (i := 2) (N := some 11) (v := ?_) (a' := ?_) #[true, true, true, false, false, false, false, false, false, false, false, false, false, false, false, false, false, false, false, false, false, false, false, false, false, false] rfl rfl (by kernel_rfl) (fun _ _ _ h => h) (Or.inl ⟨by rfl, ?_⟩) hHeld ?_ ?_
  rotate_left
  · rintro w' ⟨s0, s1, s2, s3, s4, s5, s6, s7, s8, s9, s10, s11, s12, s13, s14, s15, s16, s17⟩
    go_simp
    with_reducible rfl
  rotate_left
  · simp only [Act.put, List.setIfInBounds_toArray, List.set_cons_zero, List.set_cons_succ, i64_w, i32_w]
    rfl
  refine take_ (i := 5) (N := some 14) (v := ?_) (a' := ?_) #[true, true, true, false, false, true, false, false, false, false, false, false, false, false, false, false, false, false, false, false, false, false, false, false, false, false] rfl rfl (by kernel_rfl) (fun _ _ _ h => h) (Or.inl ⟨by rfl, ?_⟩) hHeld ?_ ?_
  rotate_left
  · rintro w' ⟨s0, s1, s2, s3, s4, s5, s6, s7, s8, s9, s10, s11, s12, s13, s14, s15, s16, s17⟩
    go_simp
    with_reducible rfl
  rotate_left
  · simp only [Act.put, List.setIfInBounds_toArray, List.set_cons_zero, List.set_cons_succ, i64_w, i32_w]
    rfl
  refine take_ (i := 9) (N := some 18) (v := ?_) (a' := ?_) #[true, true, true, false, false, true, false, false, false, true, false, false, false, false, false, false, false, false, false, false, false, false, false, false, false, false] rfl rfl (by kernel_rfl) (fun _ _ _ h => h) (Or.inl ⟨by rfl, ?_⟩) hHeld ?_ ?_
  rotate_left
  · rintro w' ⟨s0, s1, s2, s3, s4, s5, s6, s7, s8, s9, s10, s11, s12, s13, s14, s15, s16, s17⟩
    go_simp
    with_reducible rfl
  rotate_left
  · simp only [Act.put, List.setIfInBounds_toArray, List.set_cons_zero, List.set_cons_succ, i64_w, i32_w]
    rfl
  refine take_ (i := 10) (N := some 19) (v := ?_) (a' := ?_) #[true, true, true, false, false, true, false, false, false, true, true, false, false, false, false, false, false, false, false, false, false, false, false, false, false, false] rfl rfl (by kernel_rfl) (fun _ _ _ h => h) (Or.inl ⟨by rfl, ?_⟩) hHeld ?_ ?_
  rotate_left
  · rintro w' ⟨s0, s1, s2, s3, s4, s5, s6, s7, s8, s9, s10, s11, s12, s13, s14, s15, s16, s17⟩
    go_simp
    with_reducible rfl
  rotate_left
  · simp only [Act.put, List.setIfInBounds_toArray, List.set_cons_zero, List.set_cons_succ, i64_w, i32_w]
    rfl
  refine pure_ (i := 11) (N := some 20) (v := ?_) (a' := ?_) #[true, true, true, false, false, true, false, false, false, true, true, true, false, false, false, false, false, false, false, false, false, false, false, false, false, false] rfl rfl (by kernel_rfl) (fun _ _ _ h => h) (Or.inl ⟨by rfl, ?_⟩) ?_ ?_
  rotate_left
  · intro w'
    go_simp
    with_reducible rfl
  rotate_left
  · simp only [Act.put, List.setIfInBounds_toArray, List.set_cons_zero, List.set_cons_succ, i64_w, i32_w]
    rfl
  refine one_ (i := 3) (N := some 12) #[true, true, true, true, false, true, false, false, false, true, true, true, false, false, false, false, false, false, false, false, false, false, false, false, false, false] rfl rfl (by kernel_rfl) (by decide) (fun K hK => ?_)
  refine goes_ Try.func21 (by kernel_rfl) rfl #[.agg #[.int .i64 X.k, .string X.i, .int .i64 X.q, .int .i64 X.s, .bool X.d, .int .i64 X.x, .int .i64 X.y, .string X.t, .bool X.h]] (by rfl) rfl rfl (by (try simp only [List.map_toArray, List.map_cons, List.map_nil]); first | done | rfl) ?_
  refine (HTX.out w8).mono ?_
  rintro ev w9 ⟨rfl, hb⟩
  refine ⟨_, rfl, ?_⟩
  replace BX := Aside0.mk (blk_below BX.out hb)
  replace BY := Aside0.mk (blk_below BY.out hb)
  replace HB := Aside0.mk (below_step HB.out hb)
  clear hb
  refine hK.out _ _ (and9 (ta_cells BX.out) (ta_cells BY.out)) (fun hHeld => ?_)
  clear hK K
  refine norm_ (a' := ?_) ?_ ?_
  rotate_left
  · show Act.put _ (some 12) _ = _
    simp only [Act.put, List.setIfInBounds_toArray, List.set_cons_zero, List.set_cons_succ, i64_w, i32_w]
    rfl
  refine one_ (i := 4) (N := some 13) #[true, true, true, true, true, true, false, false, false, true, true, true, false, false, false, false, false, false, false, false, false, false, false, false, false, false] rfl rfl (by kernel_rfl) (by decide) (fun K hK => ?_)
  refine goes_ Try.func18 (by kernel_rfl) rfl #[.slice none 0 0, .agg X.v] (by rfl) rfl rfl (by (try simp only [List.map_toArray, List.map_cons, List.map_nil]); first | done | rfl) ?_
  refine (HP.out w9).mono ?_
  rintro ev w10 ⟨A1, c1, rfl, hl1, hc1, hb⟩
  refine ⟨_, rfl, ?_⟩
  have HC1 := Aside0.mk hc1
  clear hc1
  replace BX := Aside0.mk (blk_below BX.out hb)
  replace BY := Aside0.mk (blk_below BY.out hb)
  replace HB := Aside0.mk (below_step HB.out hb)
  clear hb
  refine hK.out _ _ (and9 (ta_cells BX.out) (ta_cells BY.out)) (fun hHeld => ?_)
  clear hK K
  refine norm_ (a' := ?_) ?_ ?_
  rotate_left
  · show Act.put _ (some 13) _ = _
    simp only [Act.put, List.setIfInBounds_toArray, List.set_cons_zero, List.set_cons_succ, i64_w, i32_w]
    rfl
  refine one_ (i := 6) (N := some 15) #[true, true, true, true, true, true, true, false, false, true, true, true, false, false, false, false, false, false, false, false, false, false, false, false, false, false] rfl rfl (by kernel_rfl) (by decide) (fun K hK => ?_)
  refine goes_ Try.func21 (by kernel_rfl) rfl #[.agg #[.int .i64 Y.k, .string Y.i, .int .i64 Y.q, .int .i64 Y.s, .bool Y.d, .int .i64 Y.x, .int .i64 Y.y, .string Y.t, .bool Y.h]] (by rfl) rfl rfl (by (try simp only [List.map_toArray, List.map_cons, List.map_nil]); first | done | rfl) ?_
  refine (HTY.out w10).mono ?_
  rintro ev w11 ⟨rfl, hb⟩
  refine ⟨_, rfl, ?_⟩
  replace HC1 := Aside0.mk (Kd.C_below HC1.out hb)
  replace BX := Aside0.mk (blk_below BX.out hb)
  replace BY := Aside0.mk (blk_below BY.out hb)
  replace HB := Aside0.mk (below_step HB.out hb)
  clear hb
  refine hK.out _ _ (and9 (ta_cells BX.out) (ta_cells BY.out)) (fun hHeld => ?_)
  clear hK K
  refine norm_ (a' := ?_) ?_ ?_
  rotate_left
  · show Act.put _ (some 15) _ = _
    simp only [Act.put, List.setIfInBounds_toArray, List.set_cons_zero, List.set_cons_succ, i64_w, i32_w]
    rfl
  refine one_ (i := 7) (N := some 16) #[true, true, true, true, true, true, true, true, false, true, true, true, false, false, false, false, false, false, false, false, false, false, false, false, false, false] rfl rfl (by kernel_rfl) (by decide) (fun K hK => ?_)
  refine goes_ Try.func18 (by kernel_rfl) rfl #[.slice none 0 0, .agg Y.v] (by rfl) rfl rfl (by (try simp only [List.map_toArray, List.map_cons, List.map_nil]); first | done | rfl) ?_
  refine (HQ.out w11).mono ?_
  rintro ev w12 ⟨A2, c2, rfl, hl2, hc2, hb⟩
  refine ⟨_, rfl, ?_⟩
  have HC2 := Aside0.mk hc2
  clear hc2
  replace HC1 := Aside0.mk (Kd.C_below HC1.out hb)
  replace BX := Aside0.mk (blk_below BX.out hb)
  replace BY := Aside0.mk (blk_below BY.out hb)
  replace HB := Aside0.mk (below_step HB.out hb)
  clear hb
  refine hK.out _ _ (and9 (ta_cells BX.out) (ta_cells BY.out)) (fun hHeld => ?_)
  clear hK K
  refine norm_ (a' := ?_) ?_ ?_
  rotate_left
  · show Act.put _ (some 16) _ = _
    simp only [Act.put, List.setIfInBounds_toArray, List.set_cons_zero, List.set_cons_succ, i64_w, i32_w]
    rfl
  refine one_ (i := 8) (N := some 17) #[true, true, true, true, true, true, true, true, true, true, true, true, false, false, false, false, false, false, false, false, false, false, false, false, false, false] rfl rfl (by kernel_rfl) (by decide) (fun K hK => ?_)
  refine goes_ Try.func19 (by kernel_rfl) rfl #[.slice A1 p.length c1, .slice A2 q.length c2] (by rfl) rfl rfl (by (try simp only [List.map_toArray, List.map_cons, List.map_nil]); first | done | rfl) ?_
  refine (cenotaphref06_Same.calls A1 c1 p A2 c2 q _ w12 HC1.out hl1 HC2.out hl2 rfl).mono ?_
  rintro ev w13 ⟨rfl, hb⟩
  replace hb := hb.below
  refine ⟨_, rfl, ?_⟩
  replace BX := Aside0.mk (blk_below BX.out hb)
  replace BY := Aside0.mk (blk_below BY.out hb)
  replace HB := Aside0.mk (below_step HB.out hb)
  clear hb
  refine hK.out _ _ (and9 (ta_cells BX.out) (ta_cells BY.out)) (fun hHeld => ?_)
  clear hK K
  refine norm_ (a' := ?_) ?_ ?_
  rotate_left
  · show Act.put _ (some 17) _ = _
    simp only [Act.put, List.setIfInBounds_toArray, List.set_cons_zero, List.set_cons_succ, i64_w, i32_w]
    rfl
  clear HC1 HC2 hl1 hl2
  generalize ((strOfNums p).toList == (strOfNums q).toList) = SE at HSE ⊢
  obtain rfl := HSE.out
  have hee : (SE == SE) = true := beq_self_eq_true SE
  refine pure_ (i := 12) (N := some 21) (v := ?_) (a' := ?_) #[true, true, true, true, true, true, true, true, true, true, true, true, true, false, false, false, false, false, false, false, false, false, false, false, false, false] rfl rfl (by kernel_rfl) (fun _ _ _ h => h) (Or.inl ⟨by rfl, ?_⟩) ?_ ?_
  rotate_left
  · intro w'
    go_simp
    with_reducible rfl
  rotate_left
  · simp only [Act.put, List.setIfInBounds_toArray, List.set_cons_zero, List.set_cons_succ, i64_w, i32_w]
    rfl
  refine pure_ (i := 13) (N := some 22) (v := ?_) (a' := ?_) #[true, true, true, true, true, true, true, true, true, true, true, true, true, true, false, false, false, false, false, false, false, false, false, false, false, false] rfl rfl (by kernel_rfl) (fun _ _ _ h => h) (Or.inl ⟨by rfl, ?_⟩) ?_ ?_
  rotate_left
  · intro w'
    go_simp
    with_reducible rfl
  rotate_left
  · simp only [Act.put, List.setIfInBounds_toArray, List.set_cons_zero, List.set_cons_succ, i64_w, i32_w]
    rfl
  refine pure_ (i := 14) (N := some 23) (v := ?_) (a' := ?_) #[true, true, true, true, true, true, true, true, true, true, true, true, true, true, true, false, false, false, false, false, false, false, false, false, false, false] rfl rfl (by kernel_rfl) (fun _ _ _ h => h) (Or.inl ⟨by rfl, ?_⟩) ?_ ?_
  rotate_left
  · intro w'
    go_simp
    with_reducible rfl
  rotate_left
  · simp only [Act.put, List.setIfInBounds_toArray, List.set_cons_zero, List.set_cons_succ, i64_w, i32_w]
    rfl
  refine take_ (i := 15) (N := some 24) (v := ?_) (a' := ?_) #[true, true, true, true, true, true, true, true, true, true, true, true, true, true, true, true, false, false, false, false, false, false, false, false, false, false] rfl rfl (by kernel_rfl) (fun _ _ _ h => h) (Or.inl ⟨by rfl, ?_⟩) hHeld ?_ ?_
  rotate_left
  · rintro w' ⟨s0, s1, s2, s3, s4, s5, s6, s7, s8, s9, s10, s11, s12, s13, s14, s15, s16, s17⟩
    go_simp
    with_reducible rfl
  rotate_left
  · simp only [Act.put, List.setIfInBounds_toArray, List.set_cons_zero, List.set_cons_succ, i64_w, i32_w]
    rfl
  refine take_ (i := 17) (N := some 26) (v := ?_) (a' := ?_) #[true, true, true, true, true, true, true, true, true, true, true, true, true, true, true, true, false, true, false, false, false, false, false, false, false, false] rfl rfl (by kernel_rfl) (fun _ _ _ h => h) (Or.inl ⟨by rfl, ?_⟩) hHeld ?_ ?_
  rotate_left
  · rintro w' ⟨s0, s1, s2, s3, s4, s5, s6, s7, s8, s9, s10, s11, s12, s13, s14, s15, s16, s17⟩
    go_simp
    with_reducible rfl
  rotate_left
  · simp only [Act.put, List.setIfInBounds_toArray, List.set_cons_zero, List.set_cons_succ, i64_w, i32_w]
    rfl
  refine take_ (i := 20) (N := some 29) (v := ?_) (a' := ?_) #[true, true, true, true, true, true, true, true, true, true, true, true, true, true, true, true, false, true, false, false, true, false, false, false, false, false] rfl rfl (by kernel_rfl) (fun _ _ _ h => h) (Or.inl ⟨by rfl, ?_⟩) hHeld ?_ ?_
  rotate_left
  · rintro w' ⟨s0, s1, s2, s3, s4, s5, s6, s7, s8, s9, s10, s11, s12, s13, s14, s15, s16, s17⟩
    go_simp
    with_reducible rfl
  rotate_left
  · simp only [Act.put, List.setIfInBounds_toArray, List.set_cons_zero, List.set_cons_succ, i64_w, i32_w]
    rfl
  refine take_ (i := 21) (N := some 30) (v := ?_) (a' := ?_) #[true, true, true, true, true, true, true, true, true, true, true, true, true, true, true, true, false, true, false, false, true, true, false, false, false, false] rfl rfl (by kernel_rfl) (fun _ _ _ h => h) (Or.inl ⟨by rfl, ?_⟩) hHeld ?_ ?_
  rotate_left
  · rintro w' ⟨s0, s1, s2, s3, s4, s5, s6, s7, s8, s9, s10, s11, s12, s13, s14, s15, s16, s17⟩
    go_simp
    with_reducible rfl
  rotate_left
  · simp only [Act.put, List.setIfInBounds_toArray, List.set_cons_zero, List.set_cons_succ, i64_w, i32_w]
    rfl
  refine pure_ (i := 22) (N := some 31) (v := ?_) (a' := ?_) #[true, true, true, true, true, true, true, true, true, true, true, true, true, true, true, true, false, true, false, false, true, true, true, false, false, false] rfl rfl (by kernel_rfl) (fun _ _ _ h => h) (Or.inl ⟨by rfl, ?_⟩) ?_ ?_
  rotate_left
  · intro w'
    go_simp
    with_reducible rfl
  rotate_left
  · simp only [Act.put, List.setIfInBounds_toArray, List.set_cons_zero, List.set_cons_succ, i64_w, i32_w]
    rfl
  refine one_ (i := 16) (N := some 25) #[true, true, true, true, true, true, true, true, true, true, true, true, true, true, true, true, true, true, false, false, true, true, true, false, false, false] rfl rfl (by kernel_rfl) (by decide) (fun K hK => ?_)
  refine goes_ Try.func21 (by kernel_rfl) rfl #[.agg #[.int .i64 X.k, .string X.i, .int .i64 X.q, .int .i64 X.s, .bool X.d, .int .i64 X.x, .int .i64 X.y, .string X.t, .bool X.h]] (by rfl) rfl rfl (by (try simp only [List.map_toArray, List.map_cons, List.map_nil]); first | done | rfl) ?_
  refine (HTX.out w13).mono ?_
  rintro ev w14 ⟨rfl, hb⟩
  refine ⟨_, rfl, ?_⟩
  replace BX := Aside0.mk (blk_below BX.out hb)
  replace BY := Aside0.mk (blk_below BY.out hb)
  replace HB := Aside0.mk (below_step HB.out hb)
  clear hb
  refine hK.out _ _ (and9 (ta_cells BX.out) (ta_cells BY.out)) (fun hHeld => ?_)
  clear hK K
  refine norm_ (a' := ?_) ?_ ?_
  rotate_left
  · show Act.put _ (some 25) _ = _
    simp only [Act.put, List.setIfInBounds_toArray, List.set_cons_zero, List.set_cons_succ, i64_w, i32_w]
    rfl
  refine one_ (i := 18) (N := some 27) #[true, true, true, true, true, true, true, true, true, true, true, true, true, true, true, true, true, true, true, false, true, true, true, false, false, false] rfl rfl (by kernel_rfl) (by decide) (fun K hK => ?_)
  refine goes_ Try.func21 (by kernel_rfl) rfl #[.agg #[.int .i64 Y.k, .string Y.i, .int .i64 Y.q, .int .i64 Y.s, .bool Y.d, .int .i64 Y.x, .int .i64 Y.y, .string Y.t, .bool Y.h]] (by rfl) rfl rfl (by (try simp only [List.map_toArray, List.map_cons, List.map_nil]); first | done | rfl) ?_
  refine (HTY.out w14).mono ?_
  rintro ev w15 ⟨rfl, hb⟩
  refine ⟨_, rfl, ?_⟩
  replace BX := Aside0.mk (blk_below BX.out hb)
  replace BY := Aside0.mk (blk_below BY.out hb)
  replace HB := Aside0.mk (below_step HB.out hb)
  clear hb
  refine hK.out _ _ (and9 (ta_cells BX.out) (ta_cells BY.out)) (fun hHeld => ?_)
  clear hK K
  refine norm_ (a' := ?_) ?_ ?_
  rotate_left
  · show Act.put _ (some 27) _ = _
    simp only [Act.put, List.setIfInBounds_toArray, List.set_cons_zero, List.set_cons_succ, i64_w, i32_w]
    rfl
  refine pure_ (i := 19) (N := some 28) (v := ?_) (a' := ?_) #[true, true, true, true, true, true, true, true, true, true, true, true, true, true, true, true, true, true, true, true, true, true, true, false, false, false] rfl rfl (by kernel_rfl) (fun _ _ _ h => h) (Or.inl ⟨by rfl, ?_⟩) ?_ ?_
  rotate_left
  · intro w'
    go_simp
    with_reducible rfl
  rotate_left
  · simp only [Act.put, List.setIfInBounds_toArray, List.set_cons_zero, List.set_cons_succ, i64_w, i32_w]
    rfl
  refine pure_ (i := 23) (N := some 32) (v := ?_) (a' := ?_) #[true, true, true, true, true, true, true, true, true, true, true, true, true, true, true, true, true, true, true, true, true, true, true, true, false, false] rfl rfl (by kernel_rfl) (fun _ _ _ h => h) (Or.inl ⟨by rfl, ?_⟩) ?_ ?_
  rotate_left
  · intro w'
    go_simp
    with_reducible rfl
  rotate_left
  · simp only [Act.put, List.setIfInBounds_toArray, List.set_cons_zero, List.set_cons_succ, i64_w, i32_w]
    rfl
  refine pure_ (i := 24) (N := some 33) (v := ?_) (a' := ?_) #[true, true, true, true, true, true, true, true, true, true, true, true, true, true, true, true, true, true, true, true, true, true, true, true, true, false] rfl rfl (by kernel_rfl) (fun _ _ _ h => h) (Or.inl ⟨by rfl, ?_⟩) ?_ ?_
  rotate_left
  · intro w'
    go_simp
    with_reducible rfl
  rotate_left
  · simp only [Act.put, List.setIfInBounds_toArray, List.set_cons_zero, List.set_cons_succ, i64_w, i32_w]
    rfl
  refine pure_ (i := 25) (N := some 4) (v := ?_) (a' := ?_) #[true, true, true, true, true, true, true, true, true, true, true, true, true, true, true, true, true, true, true, true, true, true, true, true, true, true] rfl rfl (by kernel_rfl) (fun _ _ _ h => h) (Or.inl ⟨by rfl, ?_⟩) ?_ ?_
  rotate_left
  · intro w'
    go_simp
    with_reducible rfl
  rotate_left
  · simp only [Act.put, List.setIfInBounds_toArray, List.set_cons_zero, List.set_cons_succ, i64_w, i32_w]
    rfl
  refine done_ (by kernel_rfl) ?_
  go_wp2_with fail
  go_ret
  exact ⟨rfl, HB.out⟩

end Go.Proofs.Ytkmhanpamdgnjaa.P
