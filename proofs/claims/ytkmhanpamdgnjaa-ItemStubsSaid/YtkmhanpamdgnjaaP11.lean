-- Written by a program of this session (wip/pp.py over the kit's printer, with our own texts put in).
import Derived.Test.YtkmhanpamdgnjaaP0
import Derived.Test.YtkmhanpamdgnjaaP3
import Derived.Test.YtkmhanpamdgnjaaP4
namespace Go.Proofs.Ytkmhanpamdgnjaa.P
open Go.RowKit Go.Proofs.YtkmhanpamdgnjaaW.PrintWords Go.Proofs.YtkmhanpamdgnjaaW.PrintLast Go.Proofs.YtkmhanpamdgnjaaW.PrintMore
attribute [local go_sem] max2_int min2_int max_two min_two max_three min_three max_four min_four   -- for this text's walks alone
set_option linter.unusedVariables false
set_option linter.unusedSimpArgs false

/-! ### cenotaphlaw07_ItemStubs: function 7 -/
attribute [local go_sem] run_store_complex
abbrev It.stub (X : It) : It := ⟨X.k, X.i, X.q, X.s, X.d, X.x, X.y, ⟨#[]⟩, false⟩
def cenotaphlaw07_ItemStubs.f (k : Nat) (a0_0 : Int) (a0_1 : ByteArray) (a0_2 : Int) (a0_3 : Int) (a0_4 : Bool) (a0_5 : Int) (a0_6 : Int) (a0_7 : ByteArray) (a0_8 : Bool) : Option Bool := (fixI k a0_0 a0_1 a0_2 a0_3 a0_4 a0_5 a0_6 a0_7 a0_8).bind fun X => (X.stub.right).bind fun rt => (itPut k [] X.stub).bind fun p => (itPut k [] X).bind fun q => if X.ok ∧ rt = true ∧ p.length ≤ q.length then some true else none
set_option maxHeartbeats 8000000 in
set_option maxRecDepth 100000 in
theorem cenotaphlaw07_ItemStubs.calls (k : Nat) (a0_0 : Int) (a0_1 : ByteArray) (a0_2 : Int) (a0_3 : Int) (a0_4 : Bool) (a0_5 : Int) (a0_6 : Int) (a0_7 : ByteArray) (a0_8 : Bool) (r : Bool) (w : World) (h : cenotaphlaw07_ItemStubs.f k a0_0 a0_1 a0_2 a0_3 a0_4 a0_5 a0_6 a0_7 a0_8 = some r) :
    Calls Try.prog 7 #[.agg #[.int .i64 a0_0, .string a0_1, .int .i64 a0_2, .int .i64 a0_3, .bool a0_4, .int .i64 a0_5, .int .i64 a0_6, .string a0_7, .bool a0_8]] w fun e w' => e = .returned (.bool r) ∧ Below w.heap.size w w' := by
  obtain ⟨X, hX, h⟩ := Option.bind_eq_some_iff.mp h
  obtain ⟨rt, hrt, h⟩ := Option.bind_eq_some_iff.mp h
  obtain ⟨p, hp, h⟩ := Option.bind_eq_some_iff.mp h
  obtain ⟨q, hq, h⟩ := Option.bind_eq_some_iff.mp h
  by_cases hok : X.ok ∧ rt = true ∧ p.length ≤ q.length
  rotate_left
  · rw [if_neg hok] at h; cases h
  rw [if_pos hok] at h
  obtain rfl := Option.some.inj h
  obtain ⟨hx, rfl, hle⟩ := hok
  have HX := Aside0.mk (fun (W : World) => fixI.calls k a0_0 a0_1 a0_2 a0_3 a0_4 a0_5 a0_6 a0_7 a0_8 X W hX)
  have HP := Aside0.mk (fun (W : World) => it_put k none 0 [] X.stub p W (Kd.C_nil _ _) (Nat.le_refl _) hx.1 hx.2 hp)
  have HQ := Aside0.mk (fun (W : World) => it_put k none 0 [] X q W (Kd.C_nil _ _) (Nat.le_refl _) hx.1 hx.2 hq)
  have HR := Aside0.mk (fun (W : World) => it_right X.k X.i X.q X.s X.d X.x X.y ⟨#[]⟩ false true W hx.1 hx.2 hrt)
  have hes : X.stub.eq X.stub = true := (It.eq_iff _ _).mpr rfl
  have HES := Aside0.mk (fun (W : World) => eq_it X.stub X.stub W hx hx)
  rw [hes] at HES
  have HTX := Aside0.mk (fun (W : World) => it_to X.k X.i X.q X.s X.d X.x X.y X.t X.h W)
  have HS1 := Aside0.mk (fun (W : World) => it_stub X.k X.i X.q X.s X.d X.x X.y X.t X.h W)
  have HS2 := Aside0.mk (fun (W : World) => it_stub X.k X.i X.q X.s X.d X.x X.y ⟨#[]⟩ false W)
  have hle1 := decide_eq_true (show (p.length : Int) ≤ (q.length : Int) by omega)
  have hle2 := eq_true (show (p.length : Int) ≤ (q.length : Int) by omega)
  have HLE := Aside0.mk (And.intro hle1 hle2)
  clear h hX hp hq hrt hx hes hle hle1 hle2
  have hu := Try.underlying46
  have hu2 := Try.underlying40
  have BX := Aside0.mk (blk_new w (.cells #[.int .i64 a0_0, .string a0_1, .int .i64 a0_2, .int .i64 a0_3, .bool a0_4, .int .i64 a0_5, .int .i64 a0_6, .string a0_7, .bool a0_8] 46))
  have HB := Aside0.mk (below_alloc (Below.refl w.heap.size w) (.cells #[.int .i64 a0_0, .string a0_1, .int .i64 a0_2, .int .i64 a0_3, .bool a0_4, .int .i64 a0_5, .int .i64 a0_6, .string a0_7, .bool a0_8] 46))
  go_enter Try.func7, Try.ntmps7
  go_wp2_with fail
  refine (HX.out _).mono ?_
  rintro e w1 ⟨rfl, hb⟩
  replace BX := Aside0.mk (blk_below BX.out hb)
  replace HB := Aside0.mk (below_step HB.out hb)
  clear hb HX
  obtain ⟨⟨c0, c1, c2, c3, c4, c5, c6, c7, c8⟩, z0, z1, z2, z3, z4, z5, z6, z7, z8⟩ := tf_cells BX.out
  go_upto_region 2 with fail
  replace BX := Aside0.mk (show ((((((((((w1.setCell ⟨w.heap.size, 0, none⟩ (.int .i64 X.k)).setCell ⟨w.heap.size, 1, none⟩ (.string X.i)).setCell ⟨w.heap.size, 2, none⟩ (.int .i64 X.q)).setCell ⟨w.heap.size, 3, none⟩ (.int .i64 X.s)).setCell ⟨w.heap.size, 4, none⟩ (.bool X.d)).setCell ⟨w.heap.size, 5, none⟩ (.int .i64 X.x)).setCell ⟨w.heap.size, 6, none⟩ (.int .i64 X.y)).setCell ⟨w.heap.size, 7, none⟩ (.string X.t)).setCell ⟨w.heap.size, 8, none⟩ (.bool X.h))).heap[w.heap.size]? = _ from blk_put9 BX.out (.int .i64 X.k) (.string X.i) (.int .i64 X.q) (.int .i64 X.s) (.bool X.d) (.int .i64 X.x) (.int .i64 X.y) (.string X.t) (.bool X.h))
  replace HB := Aside0.mk (show Below w.heap.size w (((((((((w1.setCell ⟨w.heap.size, 0, none⟩ (.int .i64 X.k)).setCell ⟨w.heap.size, 1, none⟩ (.string X.i)).setCell ⟨w.heap.size, 2, none⟩ (.int .i64 X.q)).setCell ⟨w.heap.size, 3, none⟩ (.int .i64 X.s)).setCell ⟨w.heap.size, 4, none⟩ (.bool X.d)).setCell ⟨w.heap.size, 5, none⟩ (.int .i64 X.x)).setCell ⟨w.heap.size, 6, none⟩ (.int .i64 X.y)).setCell ⟨w.heap.size, 7, none⟩ (.string X.t)).setCell ⟨w.heap.size, 8, none⟩ (.bool X.h)) from below_put9 HB.out (Nat.le_refl _) (.int .i64 X.k) (.string X.i) (.int .i64 X.q) (.int .i64 X.s) (.bool X.d) (.int .i64 X.x) (.int .i64 X.y) (.string X.t) (.bool X.h))
  clear c0 c1 c2 c3 c4 c5 c6 c7 c8 z0 z1 z2 z3 z4 z5 z6 z7 z8
  generalize (((((((((w1.setCell ⟨w.heap.size, 0, none⟩ (.int .i64 X.k)).setCell ⟨w.heap.size, 1, none⟩ (.string X.i)).setCell ⟨w.heap.size, 2, none⟩ (.int .i64 X.q)).setCell ⟨w.heap.size, 3, none⟩ (.int .i64 X.s)).setCell ⟨w.heap.size, 4, none⟩ (.bool X.d)).setCell ⟨w.heap.size, 5, none⟩ (.int .i64 X.x)).setCell ⟨w.heap.size, 6, none⟩ (.int .i64 X.y)).setCell ⟨w.heap.size, 7, none⟩ (.string X.t)).setCell ⟨w.heap.size, 8, none⟩ (.bool X.h)) = w2 at BX HB ⊢
  obtain ⟨c0, c1, c2, c3, c4, c5, c6, c7, c8⟩ := ta_cells BX.out
  go_wp2_with fail
  refine (HTX.out _).mono ?_
  rintro e w3 ⟨rfl, hb⟩
  replace BX := Aside0.mk (blk_below BX.out hb)
  replace HB := Aside0.mk (below_step HB.out hb)
  clear hb c0 c1 c2 c3 c4 c5 c6 c7 c8
  go_wp2_with fail
  refine (HS1.out _).mono ?_
  rintro e w4 ⟨rfl, hb⟩
  replace BX := Aside0.mk (blk_below BX.out hb)
  replace HB := Aside0.mk (below_step HB.out hb)
  clear hb HS1
  go_upto_region 3 with fail
  have BS := Aside0.mk (blk_new w4 (.cells #[.int .i64 X.k, .string X.i, .int .i64 X.q, .int .i64 X.s, .bool X.d, .complex .f64 (fl X.x) (fl X.y), .string ⟨#[]⟩, .bool false] 40))
  replace BX := Aside0.mk (blk_below BX.out (below_alloc (Below.refl _ _) (.cells #[.int .i64 X.k, .string X.i, .int .i64 X.q, .int .i64 X.s, .bool X.d, .complex .f64 (fl X.x) (fl X.y), .string ⟨#[]⟩, .bool false] 40)))
  replace HB := Aside0.mk (below_alloc HB.out (.cells #[.int .i64 X.k, .string X.i, .int .i64 X.q, .int .i64 X.s, .bool X.d, .complex .f64 (fl X.x) (fl X.y), .string ⟨#[]⟩, .bool false] 40))
  generalize w4.alloc _ = w5 at BX BS HB ⊢
  generalize w4.heap.size = gs at BS ⊢
  obtain ⟨c0, c1, c2, c3, c4, c5, c6, c7, c8⟩ := ta_cells BX.out
  go_wp2_with fail
  refine (HTX.out _).mono ?_
  rintro e w6 ⟨rfl, hb⟩
  replace BX := Aside0.mk (blk_below BX.out hb)
  replace BS := Aside0.mk (blk_below BS.out hb)
  replace HB := Aside0.mk (below_step HB.out hb)
  clear hb c0 c1 c2 c3 c4 c5 c6 c7 c8
  go_upto_region 5 with fail
  have BY := Aside0.mk (blk_new w6 (.cells #[.int .i64 X.k, .string X.i, .int .i64 X.q, .int .i64 X.s, .bool X.d, .complex .f64 (fl X.x) (fl X.y), .string ⟨#[]⟩, .bool false] 40))
  replace BX := Aside0.mk (blk_below BX.out (below_alloc (Below.refl _ _) (.cells #[.int .i64 X.k, .string X.i, .int .i64 X.q, .int .i64 X.s, .bool X.d, .complex .f64 (fl X.x) (fl X.y), .string ⟨#[]⟩, .bool false] 40)))
  replace BS := Aside0.mk (blk_below BS.out (below_alloc (Below.refl _ _) (.cells #[.int .i64 X.k, .string X.i, .int .i64 X.q, .int .i64 X.s, .bool X.d, .complex .f64 (fl X.x) (fl X.y), .string ⟨#[]⟩, .bool false] 40)))
  replace HB := Aside0.mk (below_alloc HB.out (.cells #[.int .i64 X.k, .string X.i, .int .i64 X.q, .int .i64 X.s, .bool X.d, .complex .f64 (fl X.x) (fl X.y), .string ⟨#[]⟩, .bool false] 40))
  generalize w6.alloc _ = w7 at BX BS BY HB ⊢
  generalize w6.heap.size = gy at BY ⊢
  have hes := HES.out
  obtain ⟨hle1, hle2⟩ := HLE.out
  clear HES HLE
  refine start_ (n := 27) (S := fun w' => w'.cell? ⟨w.heap.size, 0, none⟩ = some (.int .i64 X.k) ∧ w'.cell? ⟨w.heap.size, 1, none⟩ = some (.string X.i) ∧ w'.cell? ⟨w.heap.size, 2, none⟩ = some (.int .i64 X.q) ∧ w'.cell? ⟨w.heap.size, 3, none⟩ = some (.int .i64 X.s) ∧ w'.cell? ⟨w.heap.size, 4, none⟩ = some (.bool X.d) ∧ w'.cell? ⟨w.heap.size, 5, none⟩ = some (.int .i64 X.x) ∧ w'.cell? ⟨w.heap.size, 6, none⟩ = some (.int .i64 X.y) ∧ w'.cell? ⟨w.heap.size, 7, none⟩ = some (.string X.t) ∧ w'.cell? ⟨w.heap.size, 8, none⟩ = some (.bool X.h) ∧ w'.cell? ⟨gs, 0, none⟩ = some (.int .i64 X.k) ∧ w'.cell? ⟨gs, 1, none⟩ = some (.string X.i) ∧ w'.cell? ⟨gs, 2, none⟩ = some (.int .i64 X.q) ∧ w'.cell? ⟨gs, 3, none⟩ = some (.int .i64 X.s) ∧ w'.cell? ⟨gs, 4, none⟩ = some (.bool X.d) ∧ w'.cell? ⟨gs, 5, none⟩ = some (.complex .f64 (fl X.x) (fl X.y)) ∧ w'.cell? ⟨gs, 6, none⟩ = some (.string ⟨#[]⟩) ∧ w'.cell? ⟨gs, 7, none⟩ = some (.bool false) ∧ w'.cell? ⟨gy, 0, none⟩ = some (.int .i64 X.k) ∧ w'.cell? ⟨gy, 1, none⟩ = some (.string X.i) ∧ w'.cell? ⟨gy, 2, none⟩ = some (.int .i64 X.q) ∧ w'.cell? ⟨gy, 3, none⟩ = some (.int .i64 X.s) ∧ w'.cell? ⟨gy, 4, none⟩ = some (.bool X.d) ∧ w'.cell? ⟨gy, 5, none⟩ = some (.complex .f64 (fl X.x) (fl X.y)) ∧ w'.cell? ⟨gy, 6, none⟩ = some (.string ⟨#[]⟩) ∧ w'.cell? ⟨gy, 7, none⟩ = some (.bool false)) (ds := []) #[false, false, false, false, false, false, false, false, false, false, false, false, false, false, false, false, false, false, false, false, false, false, false, false, false, false, false] (by kernel_rfl) rfl rfl (and9 (ta_cells (blk_drew BX.out)) (and8 (it_cells (blk_drew BS.out)) (it_cells (blk_drew BY.out)))) (fun hHeld => ?_)
  replace BX := Aside0.mk (blk_drew BX.out)
  replace BS := Aside0.mk (blk_drew BS.out)
  replace BY := Aside0.mk (blk_drew BY.out)
  replace HB := Aside0.mk (below_drew1 HB.out)
  generalize w7.drew = w8 at BX BS BY HB hHeld ⊢
  refine one_ (i := 0) (N := some 14) #[true, false, false, false, false, false, false, false, false, false, false, false, false, false, false, false, false, false, false, false, false, false, false, false, false, false, false] rfl rfl (by kernel_rfl) (by decide) (fun K hK => ?_)
  refine goes_ Try.func11 (by kernel_rfl) rfl #[] (by rfl) rfl rfl (by (try simp only [List.map_toArray, List.map_cons, List.map_nil]); first | done | rfl) ?_
  refine (cenotaphlaw07_told.calls true w8 rfl).mono ?_
  rintro ev w9 ⟨rfl, hb⟩
  refine ⟨_, rfl, ?_⟩
  replace BX := Aside0.mk (blk_below BX.out hb)
  replace BS := Aside0.mk (blk_below BS.out hb)
  replace BY := Aside0.mk (blk_below BY.out hb)
  replace HB := Aside0.mk (below_step HB.out hb)
  clear hb
  refine hK.out _ _ (and9 (ta_cells BX.out) (and8 (it_cells BS.out) (it_cells BY.out))) (fun hHeld => ?_)
  clear hK K
  refine norm_ (a' := ?_) ?_ ?_
  rotate_left
  · show Act.put _ (some 14) _ = _
    simp only [Act.put, List.setIfInBounds_toArray, List.set_cons_zero, List.set_cons_succ, i64_w, i32_w]
    rfl
  refine pure_ (i := 1) (N := some 15) (v := ?_) (a' := ?_) #[true, true, false, false, false, false, false, false, false, false, false, false, false, false, false, false, false, false, false, false, false, false, false, false, false, false, false] rfl rfl (by kernel_rfl) (fun _ _ _ h => h) (Or.inl ⟨by rfl, ?_⟩) ?_ ?_
  rotate_left
  · intro w'
    go_simp
    with_reducible rfl
  rotate_left
  · simp only [Act.put, List.setIfInBounds_toArray, List.set_cons_zero, List.set_cons_succ, i64_w, i32_w]
    rfl
  refine take_ (i := 2) (N := some 16) (v := ?_) (a' := ?_) #[true, true, true, false, false, false, false, false, false, false, false, false, false, false, false, false, false, false, false, false, false, false, false, false, false, false, false] rfl rfl (by kernel_rfl) (fun _ _ _ h => h) (Or.inl ⟨by rfl, ?_⟩) hHeld ?_ ?_
  rotate_left
  · rintro w' ⟨s0, s1, s2, s3, s4, s5, s6, s7, s8, s9, s10, s11, s12, s13, s14, s15, s16, s17, s18, s19, s20, s21, s22, s23, s24⟩
    go_simp
    with_reducible rfl
  rotate_left
  · simp only [Act.put, List.setIfInBounds_toArray, List.set_cons_zero, List.set_cons_succ, i64_w, i32_w]
    rfl
  refine one_ (i := 3) (N := some 17) #[true, true, true, true, false, false, false, false, false, false, false, false, false, false, false, false, false, false, false, false, false, false, false, false, false, false, false] rfl rfl (by kernel_rfl) (by decide) (fun K hK => ?_)
  refine goes_ Try.func23 (by kernel_rfl) rfl #[.agg #[.int .i64 X.k, .string X.i, .int .i64 X.q, .int .i64 X.s, .bool X.d, .complex .f64 (fl X.x) (fl X.y), .string ⟨#[]⟩, .bool false]] (by rfl) rfl rfl (by (try simp only [List.map_toArray, List.map_cons, List.map_nil]); first | done | rfl) ?_
  refine (HR.out w9).mono ?_
  rintro ev w10 ⟨rfl, hb⟩
  refine ⟨_, rfl, ?_⟩
  replace BX := Aside0.mk (blk_below BX.out hb)
  replace BS := Aside0.mk (blk_below BS.out hb)
  replace BY := Aside0.mk (blk_below BY.out hb)
  replace HB := Aside0.mk (below_step HB.out hb)
  clear hb
  refine hK.out _ _ (and9 (ta_cells BX.out) (and8 (it_cells BS.out) (it_cells BY.out))) (fun hHeld => ?_)
  clear hK K
  refine norm_ (a' := ?_) ?_ ?_
  rotate_left
  · show Act.put _ (some 17) _ = _
    simp only [Act.put, List.setIfInBounds_toArray, List.set_cons_zero, List.set_cons_succ, i64_w, i32_w]
    rfl
  refine pure_ (i := 4) (N := some 18) (v := ?_) (a' := ?_) #[true, true, true, true, true, false, false, false, false, false, false, false, false, false, false, false, false, false, false, false, false, false, false, false, false, false, false] rfl rfl (by kernel_rfl) (fun _ _ _ h => h) (Or.inl ⟨by rfl, ?_⟩) ?_ ?_
  rotate_left
  · intro w'
    go_simp
    with_reducible rfl
  rotate_left
  · simp only [Act.put, List.setIfInBounds_toArray, List.set_cons_zero, List.set_cons_succ, i64_w, i32_w]
    rfl
  refine pure_ (i := 5) (N := some 19) (v := ?_) (a' := ?_) #[true, true, true, true, true, true, false, false, false, false, false, false, false, false, false, false, false, false, false, false, false, false, false, false, false, false, false] rfl rfl (by kernel_rfl) (fun _ _ _ h => h) (Or.inl ⟨by rfl, ?_⟩) ?_ ?_
  rotate_left
  · intro w'
    go_simp
    with_reducible rfl
  rotate_left
  · simp only [Act.put, List.setIfInBounds_toArray, List.set_cons_zero, List.set_cons_succ, i64_w, i32_w]
    rfl
  refine take_ (i := 6) (N := some 20) (v := ?_) (a' := ?_) #[true, true, true, true, true, true, true, false, false, false, false, false, false, false, false, false, false, false, false, false, false, false, false, false, false, false, false] rfl rfl (by kernel_rfl) (fun _ _ _ h => h) (Or.inl ⟨by rfl, ?_⟩) hHeld ?_ ?_
  rotate_left
  · rintro w' ⟨s0, s1, s2, s3, s4, s5, s6, s7, s8, s9, s10, s11, s12, s13, s14, s15, s16, s17, s18, s19, s20, s21, s22, s23, s24⟩
    go_simp
    with_reducible rfl
  rotate_left
  · simp only [Act.put, List.setIfInBounds_toArray, List.set_cons_zero, List.set_cons_succ, i64_w, i32_w]
    rfl
  refine take_ (i := 7) (N := some 21) (v := ?_) (a' := ?_) #[true, true, true, true, true, true, true, true, false, false, false, false, false, false, false, false, false, false, false, false, false, false, false, false, false, false, false] rfl rfl (by kernel_rfl) (fun _ _ _ h => h) (Or.inl ⟨by rfl, ?_⟩) hHeld ?_ ?_
  rotate_left
  · rintro w' ⟨s0, s1, s2, s3, s4, s5, s6, s7, s8, s9, s10, s11, s12, s13, s14, s15, s16, s17, s18, s19, s20, s21, s22, s23, s24⟩
    go_simp
    with_reducible rfl
  rotate_left
  · simp only [Act.put, List.setIfInBounds_toArray, List.set_cons_zero, List.set_cons_succ, i64_w, i32_w]
    rfl
  refine pure_ (i := 8) (N := some 22) (v := ?_) (a' := ?_) #[true, true, true, true, true, true, true, true, true, false, false, false, false, false, false, false, false, false, false, false, false, false, false, false, false, false, false] rfl rfl (by kernel_rfl) (fun _ _ _ h => h) (Or.inl ⟨by rfl, ?_⟩) ?_ ?_
  rotate_left
  · intro w'
    go_simp
    with_reducible rfl
  rotate_left
  · simp only [Act.put, List.setIfInBounds_toArray, List.set_cons_zero, List.set_cons_succ, i64_w, i32_w]
    rfl
  refine pure_ (i := 9) (N := some 23) (v := ?_) (a' := ?_) #[true, true, true, true, true, true, true, true, true, true, false, false, false, false, false, false, false, false, false, false, false, false, false, false, false, false, false] rfl rfl (by kernel_rfl) (fun _ _ _ h => h) (Or.inl ⟨by rfl, ?_⟩) ?_ ?_
  rotate_left
  · intro w'
    go_simp
    with_reducible rfl
  rotate_left
  · simp only [Act.put, List.setIfInBounds_toArray, List.set_cons_zero, List.set_cons_succ, i64_w, i32_w]
    rfl
  refine pure_ (i := 10) (N := some 24) (v := ?_) (a' := ?_) #[true, true, true, true, true, true, true, true, true, true, true, false, false, false, false, false, false, false, false, false, false, false, false, false, false, false, false] rfl rfl (by kernel_rfl) (fun _ _ _ h => h) (Or.inl ⟨by rfl, ?_⟩) ?_ ?_
  rotate_left
  · intro w'
    go_simp
    with_reducible rfl
  rotate_left
  · simp only [Act.put, List.setIfInBounds_toArray, List.set_cons_zero, List.set_cons_succ, i64_w, i32_w]
    rfl
  refine take_ (i := 11) (N := some 25) (v := ?_) (a' := ?_) #[true, true, true, true, true, true, true, true, true, true, true, true, false, false, false, false, false, false, false, false, false, false, false, false, false, false, false] rfl rfl (by kernel_rfl) (fun _ _ _ h => h) (Or.inl ⟨by rfl, ?_⟩) hHeld ?_ ?_
  rotate_left
  · rintro w' ⟨s0, s1, s2, s3, s4, s5, s6, s7, s8, s9, s10, s11, s12, s13, s14, s15, s16, s17, s18, s19, s20, s21, s22, s23, s24⟩
    go_simp
    with_reducible rfl
  rotate_left
  · simp only [Act.put, List.setIfInBounds_toArray, List.set_cons_zero, List.set_cons_succ, i64_w, i32_w]
    rfl
  refine take_ (i := 13) (N := some 27) (v := ?_) (a' := ?_) #[true, true, true, true, true, true, true, true, true, true, true, true, false, true, false, false, false, false, false, false, false, false, false, false, false, false, false] rfl rfl (by kernel_rfl) (fun _ _ _ h => h) (Or.inl ⟨by rfl, ?_⟩) hHeld ?_ ?_
  rotate_left
  · rintro w' ⟨s0, s1, s2, s3, s4, s5, s6, s7, s8, s9, s10, s11, s12, s13, s14, s15, s16, s17, s18, s19, s20, s21, s22, s23, s24⟩
    go_simp
    with_reducible rfl
  rotate_left
  · simp only [Act.put, List.setIfInBounds_toArray, List.set_cons_zero, List.set_cons_succ, i64_w, i32_w]
    rfl
  refine one_ (i := 12) (N := some 26) #[true, true, true, true, true, true, true, true, true, true, true, true, true, true, false, false, false, false, false, false, false, false, false, false, false, false, false] rfl rfl (by kernel_rfl) (by decide) (fun K hK => ?_)
  refine goes_ Try.func25 (by kernel_rfl) rfl #[.agg #[.int .i64 X.k, .string X.i, .int .i64 X.q, .int .i64 X.s, .bool X.d, .complex .f64 (fl X.x) (fl X.y), .string ⟨#[]⟩, .bool false]] (by rfl) rfl rfl (by (try simp only [List.map_toArray, List.map_cons, List.map_nil]); first | done | rfl) ?_
  refine (HS2.out w10).mono ?_
  rintro ev w11 ⟨rfl, hb⟩
  refine ⟨_, rfl, ?_⟩
  replace BX := Aside0.mk (blk_below BX.out hb)
  replace BS := Aside0.mk (blk_below BS.out hb)
  replace BY := Aside0.mk (blk_below BY.out hb)
  replace HB := Aside0.mk (below_step HB.out hb)
  clear hb
  refine hK.out _ _ (and9 (ta_cells BX.out) (and8 (it_cells BS.out) (it_cells BY.out))) (fun hHeld => ?_)
  clear hK K
  refine norm_ (a' := ?_) ?_ ?_
  rotate_left
  · show Act.put _ (some 26) _ = _
    simp only [Act.put, List.setIfInBounds_toArray, List.set_cons_zero, List.set_cons_succ, i64_w, i32_w]
    rfl
  refine pure_ (i := 14) (N := some 28) (v := ?_) (a' := ?_) #[true, true, true, true, true, true, true, true, true, true, true, true, true, true, true, false, false, false, false, false, false, false, false, false, false, false, false] rfl rfl (by kernel_rfl) (fun _ _ _ h => h) (Or.inl ⟨by rfl, ?_⟩) ?_ ?_
  rotate_left
  · intro w'
    go_simp
    with_reducible rfl
  rotate_left
  · simp only [Act.put, List.setIfInBounds_toArray, List.set_cons_zero, List.set_cons_succ, i64_w, i32_w]
    rfl
  refine pure_ (i := 15) (N := some 29) (v := ?_) (a' := ?_) #[true, true, true, true, true, true, true, true, true, true, true, true, true, true, true, true, false, false, false, false, false, false, false, false, false, false, false] rfl rfl (by kernel_rfl) (fun _ _ _ h => h) (Or.inl ⟨by rfl, ?_⟩) ?_ ?_
  rotate_left
  · intro w'
    go_simp
    with_reducible rfl
  rotate_left
  · simp only [Act.put, List.setIfInBounds_toArray, List.set_cons_zero, List.set_cons_succ, i64_w, i32_w]
    rfl
  refine pure_ (i := 16) (N := some 30) (v := ?_) (a' := ?_) #[true, true, true, true, true, true, true, true, true, true, true, true, true, true, true, true, true, false, false, false, false, false, false, false, false, false, false] rfl rfl (by kernel_rfl) (fun _ _ _ h => h) (Or.inl ⟨by rfl, ?_⟩) ?_ ?_
  rotate_left
  · intro w'
    go_simp
    with_reducible rfl
  rotate_left
  · simp only [Act.put, List.setIfInBounds_toArray, List.set_cons_zero, List.set_cons_succ, i64_w, i32_w]
    rfl
  refine take_ (i := 17) (N := some 31) (v := ?_) (a' := ?_) #[true, true, true, true, true, true, true, true, true, true, true, true, true, true, true, true, true, true, false, false, false, false, false, false, false, false, false] rfl rfl (by kernel_rfl) (fun _ _ _ h => h) (Or.inl ⟨by rfl, ?_⟩) hHeld ?_ ?_
  rotate_left
  · rintro w' ⟨s0, s1, s2, s3, s4, s5, s6, s7, s8, s9, s10, s11, s12, s13, s14, s15, s16, s17, s18, s19, s20, s21, s22, s23, s24⟩
    go_simp
    with_reducible rfl
  rotate_left
  · simp only [Act.put, List.setIfInBounds_toArray, List.set_cons_zero, List.set_cons_succ, i64_w, i32_w]
    rfl
  refine take_ (i := 20) (N := some 34) (v := ?_) (a' := ?_) #[true, true, true, true, true, true, true, true, true, true, true, true, true, true, true, true, true, true, false, false, true, false, false, false, false, false, false] rfl rfl (by kernel_rfl) (fun _ _ _ h => h) (Or.inl ⟨by rfl, ?_⟩) hHeld ?_ ?_
  rotate_left
  · rintro w' ⟨s0, s1, s2, s3, s4, s5, s6, s7, s8, s9, s10, s11, s12, s13, s14, s15, s16, s17, s18, s19, s20, s21, s22, s23, s24⟩
    go_simp
    with_reducible rfl
  rotate_left
  · simp only [Act.put, List.setIfInBounds_toArray, List.set_cons_zero, List.set_cons_succ, i64_w, i32_w]
    rfl
  refine one_ (i := 18) (N := some 32) #[true, true, true, true, true, true, true, true, true, true, true, true, true, true, true, true, true, true, true, false, true, false, false, false, false, false, false] rfl rfl (by kernel_rfl) (by decide) (fun K hK => ?_)
  refine goes_ Try.func18 (by kernel_rfl) rfl #[.slice none 0 0, .agg #[.int .i64 X.k, .string X.i, .int .i64 X.q, .int .i64 X.s, .bool X.d, .complex .f64 (fl X.x) (fl X.y), .string ⟨#[]⟩, .bool false]] (by rfl) rfl rfl (by (try simp only [List.map_toArray, List.map_cons, List.map_nil]); first | done | rfl) ?_
  refine (HP.out w11).mono ?_
  rintro ev w12 ⟨A1, c1, rfl, hl1, hc1, hb⟩
  refine ⟨_, rfl, ?_⟩
  clear hl1 hc1
  replace BX := Aside0.mk (blk_below BX.out hb)
  replace BS := Aside0.mk (blk_below BS.out hb)
  replace BY := Aside0.mk (blk_below BY.out hb)
  replace HB := Aside0.mk (below_step HB.out hb)
  clear hb
  refine hK.out _ _ (and9 (ta_cells BX.out) (and8 (it_cells BS.out) (it_cells BY.out))) (fun hHeld => ?_)
  clear hK K
  refine norm_ (a' := ?_) ?_ ?_
  rotate_left
  · show Act.put _ (some 32) _ = _
    simp only [Act.put, List.setIfInBounds_toArray, List.set_cons_zero, List.set_cons_succ, i64_w, i32_w]
    rfl
  refine pure_ (i := 19) (N := some 33) (v := ?_) (a' := ?_) #[true, true, true, true, true, true, true, true, true, true, true, true, true, true, true, true, true, true, true, true, true, false, false, false, false, false, false] rfl rfl (by kernel_rfl) (fun _ _ _ h => h) (Or.inl ⟨by rfl, ?_⟩) ?_ ?_
  rotate_left
  · intro w'
    go_simp
    with_reducible rfl
  rotate_left
  · simp only [Act.put, List.setIfInBounds_toArray, List.set_cons_zero, List.set_cons_succ, i64_w, i32_w]
    rfl
  refine one_ (i := 21) (N := some 35) #[true, true, true, true, true, true, true, true, true, true, true, true, true, true, true, true, true, true, true, true, true, true, false, false, false, false, false] rfl rfl (by kernel_rfl) (by decide) (fun K hK => ?_)
  refine goes_ Try.func21 (by kernel_rfl) rfl #[.agg #[.int .i64 X.k, .string X.i, .int .i64 X.q, .int .i64 X.s, .bool X.d, .int .i64 X.x, .int .i64 X.y, .string X.t, .bool X.h]] (by rfl) rfl rfl (by (try simp only [List.map_toArray, List.map_cons, List.map_nil]); first | done | rfl) ?_
  refine (HTX.out w12).mono ?_
  rintro ev w13 ⟨rfl, hb⟩
  refine ⟨_, rfl, ?_⟩
  replace BX := Aside0.mk (blk_below BX.out hb)
  replace BS := Aside0.mk (blk_below BS.out hb)
  replace BY := Aside0.mk (blk_below BY.out hb)
  replace HB := Aside0.mk (below_step HB.out hb)
  clear hb
  refine hK.out _ _ (and9 (ta_cells BX.out) (and8 (it_cells BS.out) (it_cells BY.out))) (fun hHeld => ?_)
  clear hK K
  refine norm_ (a' := ?_) ?_ ?_
  rotate_left
  · show Act.put _ (some 35) _ = _
    simp only [Act.put, List.setIfInBounds_toArray, List.set_cons_zero, List.set_cons_succ, i64_w, i32_w]
    rfl
  refine one_ (i := 22) (N := some 36) #[true, true, true, true, true, true, true, true, true, true, true, true, true, true, true, true, true, true, true, true, true, true, true, false, false, false, false] rfl rfl (by kernel_rfl) (by decide) (fun K hK => ?_)
  refine goes_ Try.func18 (by kernel_rfl) rfl #[.slice none 0 0, .agg #[.int .i64 X.k, .string X.i, .int .i64 X.q, .int .i64 X.s, .bool X.d, .complex .f64 (fl X.x) (fl X.y), .string X.t, .bool X.h]] (by rfl) rfl rfl (by (try simp only [List.map_toArray, List.map_cons, List.map_nil]); first | done | rfl) ?_
  refine (HQ.out w13).mono ?_
  rintro ev w14 ⟨A2, c2, rfl, hl2, hc2, hb⟩
  refine ⟨_, rfl, ?_⟩
  clear hl2 hc2
  replace BX := Aside0.mk (blk_below BX.out hb)
  replace BS := Aside0.mk (blk_below BS.out hb)
  replace BY := Aside0.mk (blk_below BY.out hb)
  replace HB := Aside0.mk (below_step HB.out hb)
  clear hb
  refine hK.out _ _ (and9 (ta_cells BX.out) (and8 (it_cells BS.out) (it_cells BY.out))) (fun hHeld => ?_)
  clear hK K
  refine norm_ (a' := ?_) ?_ ?_
  rotate_left
  · show Act.put _ (some 36) _ = _
    simp only [Act.put, List.setIfInBounds_toArray, List.set_cons_zero, List.set_cons_succ, i64_w, i32_w]
    rfl
  refine pure_ (i := 23) (N := some 37) (v := ?_) (a' := ?_) #[true, true, true, true, true, true, true, true, true, true, true, true, true, true, true, true, true, true, true, true, true, true, true, true, false, false, false] rfl rfl (by kernel_rfl) (fun _ _ _ h => h) (Or.inl ⟨by rfl, ?_⟩) ?_ ?_
  rotate_left
  · intro w'
    go_simp
    with_reducible rfl
  rotate_left
  · simp only [Act.put, List.setIfInBounds_toArray, List.set_cons_zero, List.set_cons_succ, i64_w, i32_w]
    rfl
  refine pure_ (i := 24) (N := some 38) (v := ?_) (a' := ?_) #[true, true, true, true, true, true, true, true, true, true, true, true, true, true, true, true, true, true, true, true, true, true, true, true, true, false, false] rfl rfl (by kernel_rfl) (fun _ _ _ h => h) (Or.inl ⟨by rfl, ?_⟩) ?_ ?_
  rotate_left
  · intro w'
    go_simp
    with_reducible rfl
  rotate_left
  · simp only [Act.put, List.setIfInBounds_toArray, List.set_cons_zero, List.set_cons_succ, i64_w, i32_w]
    rfl
  refine pure_ (i := 25) (N := some 39) (v := ?_) (a' := ?_) #[true, true, true, true, true, true, true, true, true, true, true, true, true, true, true, true, true, true, true, true, true, true, true, true, true, true, false] rfl rfl (by kernel_rfl) (fun _ _ _ h => h) (Or.inl ⟨by rfl, ?_⟩) ?_ ?_
  rotate_left
  · intro w'
    go_simp
    with_reducible rfl
  rotate_left
  · simp only [Act.put, List.setIfInBounds_toArray, List.set_cons_zero, List.set_cons_succ, i64_w, i32_w]
    rfl
  refine pure_ (i := 26) (N := some 2) (v := ?_) (a' := ?_) #[true, true, true, true, true, true, true, true, true, true, true, true, true, true, true, true, true, true, true, true, true, true, true, true, true, true, true] rfl rfl (by kernel_rfl) (fun _ _ _ h => h) (Or.inl ⟨by rfl, ?_⟩) ?_ ?_
  rotate_left
  · intro w'
    go_simp
    with_reducible rfl
  rotate_left
  · simp only [Act.put, List.setIfInBounds_toArray, List.set_cons_zero, List.set_cons_succ, i64_w, i32_w]
    rfl
  refine done_ (by kernel_rfl) ?_
  go_wp2_with fail
  go_ret
  exact ⟨rfl, HB.out⟩

end Go.Proofs.Ytkmhanpamdgnjaa.P
