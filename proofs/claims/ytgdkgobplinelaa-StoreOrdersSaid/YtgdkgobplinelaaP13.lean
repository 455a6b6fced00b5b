-- Written by a program of this session (wip/pp.py over the kit's printer, with our own texts put in).
import Derived.Test.YtgdkgobplinelaaP0
namespace Go.Proofs.Ytgdkgobplinelaa.P
open Go.RowKit Go.Proofs.YtgdkgobplinelaaW.PrintWords Go.Proofs.YtgdkgobplinelaaW.PrintLast Go.Proofs.YtgdkgobplinelaaW.PrintMore
attribute [local go_sem] run_store_complex max2_int min2_int max_two min_two max_three min_three max_four min_four   -- for this text's walks alone
set_option linter.unusedVariables false
set_option linter.unusedSimpArgs false

/-! ### cenotaphlaw05_Place: function 43 -/
set_option maxHeartbeats 800000 in
set_option maxRecDepth 100000 in
theorem it_place (x y : Int) (w : World) (hx : x.natAbs < 2 ^ 53) (hy : y.natAbs < 2 ^ 53) : Calls Try.prog 43 #[.complex .f64 (fl x) (fl y)] w fun e w' => e = .returned (.agg #[.int .i64 x, .int .i64 y]) ∧ Below w.heap.size w w' := by
 have f1 := fun (W : World) => run_convert_float_int (P := Try.prog) W 105 3 .f64 .i64 (fl x) x rfl Try.underlying3 (fl_int x hx)
 have f2 := fun (W : World) => run_convert_float_int (P := Try.prog) W 105 3 .f64 .i64 (fl y) y rfl Try.underlying3 (fl_int y hy)
 have hu := Try.underlying26
 go_enter Try.func43, Try.ntmps43
 go_wp2_with fail
 exact bodyPost_ret (results_cell_row rfl _ _ w.heap.size 26 #[.int .i64 x, .int .i64 y] (0, 0) _ rfl (blk_new _ _) hu rfl rfl) rfl ⟨rfl, below_alloc (Below.refl _ _) _⟩
/-! ### cenotaphlaw07_From: function 20 -/
attribute [local go_sem] run_store_complex
set_option maxHeartbeats 8000000 in
set_option maxRecDepth 100000 in
theorem it_from (k : Int) (i : ByteArray) (q s : Int) (d : Bool) (x y : Int) (t : ByteArray) (h : Bool) (w : World) (hx : x.natAbs < 2 ^ 53) (hy : y.natAbs < 2 ^ 53) : Calls Try.prog 20 #[.agg (itC k i q s d x y t h)] w fun e w' => e = .returned (.agg (rfC k i q s d x y t h)) ∧ Below w.heap.size w w' := by
 have HP := Aside0.mk (fun (W : World) => it_place x y W hx hy)
 clear hx hy
 have hu := Try.underlying41
 have hu2 := Try.underlying28
 have HB1 := Aside0.mk (below_alloc (Below.refl (w.alloc (.cells (itC k i q s d x y t h) 41)).heap.size (w.alloc (.cells (itC k i q s d x y t h) 41))) (.cells #[.int .i64 0, .string ⟨#[]⟩, .int .i64 0, .int .i64 0, .bool false, .int .i64 0, .int .i64 0, .string ⟨#[]⟩, .bool false] 28))
 have BX := Aside0.mk (blk_below (blk_new w (.cells (itC k i q s d x y t h) 41)) HB1.out)
 have BR := Aside0.mk (blk_new (w.alloc (.cells (itC k i q s d x y t h) 41)) (.cells #[.int .i64 0, .string ⟨#[]⟩, .int .i64 0, .int .i64 0, .bool false, .int .i64 0, .int .i64 0, .string ⟨#[]⟩, .bool false] 28))
 have HB := Aside0.mk (below_new (w := w) (.cells (itC k i q s d x y t h) 41) (.cells #[.int .i64 0, .string ⟨#[]⟩, .int .i64 0, .int .i64 0, .bool false, .int .i64 0, .int .i64 0, .string ⟨#[]⟩, .bool false] 28))
 have e : (w.alloc (.cells (itC k i q s d x y t h) 41)).heap.size = w.heap.size + 1 := Array.size_push _
 rw [e] at BR
 clear e HB1
 go_enter Try.func20, Try.ntmps20
 go_upto_region 1 with fail
 generalize (w.alloc _).alloc _ = w1 at BX BR HB ⊢
 refine start_ (n := 23) (S := fun w' => w'.cell? ⟨w.heap.size, 0, none⟩ = some (.int .i64 k) ∧ w'.cell? ⟨w.heap.size, 1, none⟩ = some (.string i) ∧ w'.cell? ⟨w.heap.size, 2, none⟩ = some (.int .i64 q) ∧ w'.cell? ⟨w.heap.size, 3, none⟩ = some (.int .i64 s) ∧ w'.cell? ⟨w.heap.size, 4, none⟩ = some (.bool d) ∧ w'.cell? ⟨w.heap.size, 5, none⟩ = some (.complex .f64 (fl x) (fl y)) ∧ w'.cell? ⟨w.heap.size, 6, none⟩ = some (.string t) ∧ w'.cell? ⟨w.heap.size, 7, none⟩ = some (.bool h)) (ds := [22]) #[false, false, false, false, false, false, false, false, false, false, false, false, false, false, false, false, false, false, false, false, false, false, false] (by kernel_rfl) rfl rfl (it_cells (blk_drew BX.out)) (fun hHeld => ?_)
 replace BX := Aside0.mk (blk_drew BX.out)
 replace BR := Aside0.mk (blk_drew BR.out)
 replace HB := Aside0.mk (below_drew1 HB.out)
 generalize w1.drew = w2 at BX BR HB hHeld ⊢
 refine p_ 0 3 (mk_ 23 0x1) ?_
 refine t_ 1 4 (mk_ 23 0x3) hHeld ?_
 refine p_ 2 5 (mk_ 23 0x7) ?_
 refine p_ 3 6 (mk_ 23 0xf) ?_
 refine t_ 4 7 (mk_ 23 0x1f) hHeld ?_
 refine p_ 5 8 (mk_ 23 0x3f) ?_
 refine p_ 6 9 (mk_ 23 0x7f) ?_
 refine t_ 7 10 (mk_ 23 0xff) hHeld ?_
 refine p_ 8 11 (mk_ 23 0x1ff) ?_
 refine p_ 9 12 (mk_ 23 0x3ff) ?_
 refine t_ 10 13 (mk_ 23 0x7ff) hHeld ?_
 refine p_ 11 14 (mk_ 23 0xfff) ?_
 refine p_ 12 15 (mk_ 23 0x1fff) ?_
 refine t_ 13 16 (mk_ 23 0x3fff) hHeld ?_
 refine p_ 14 17 (mk_ 23 0x7fff) ?_
 refine t_ 15 18 (mk_ 23 0xffff) hHeld ?_
 refine p_ 17 20 (mk_ 23 0x2ffff) ?_
 refine t_ 18 21 (mk_ 23 0x6ffff) hHeld ?_
 refine p_ 19 22 (mk_ 23 0xeffff) ?_
 refine t_ 20 23 (mk_ 23 0x1effff) hHeld ?_
 refine one_ (i := 16) (N := some 19) #[true, true, true, true, true, true, true, true, true, true, true, true, true, true, true, true, true, true, true, true, true, false, false] rfl rfl (by kernel_rfl) (by decide) (fun K hK => ?_)
 refine goes_ Try.func43 (by kernel_rfl) rfl #[.complex .f64 (fl x) (fl y)] (by rfl) rfl rfl (by (try simp only [List.map_toArray, List.map_cons, List.map_nil]); first | done | rfl) ?_
 refine (HP.out w2).mono ?_
 rintro ev w3 ⟨rfl, hb⟩
 refine ⟨_, rfl, ?_⟩
 replace BX := Aside0.mk (blk_below BX.out hb)
 replace BR := Aside0.mk (blk_below BR.out hb)
 replace HB := Aside0.mk (below_step HB.out hb)
 clear hb HP
 refine hK.out _ _ (it_cells BX.out) (fun hHeld => ?_)
 clear hK K
 refine norm_ (a' := ?_) ?_ ?_
 rotate_left
 ·show Act.put _ (some 19) _ = _
  simp only [Act.put, List.setIfInBounds_toArray, List.set_cons_zero, List.set_cons_succ, i64_w, i32_w]
  rfl
 refine p_ 21 24 (mk_ 23 0x3fffff) ?_
 refine last_ (i := 22) (N := none) #[true, true, true, true, true, true, true, true, true, true, true, true, true, true, true, true, true, true, true, true, true, true, true] rfl rfl (by kernel_rfl) (by decide) (fun K hK => ?_)
 obtain ⟨⟨c0, c1, c2, c3, c4, c5, c6, c7, c8⟩, z0, z1, z2, z3, z4, z5, z6, z7, z8⟩ := tf_cells BR.out
 refine skip_ (w1 := ?_) (by rfl) rfl ?_ ?_
 rotate_left
 ·go_simp
  rfl
 refine hK.out _ _ ?_
 clear hK K
 refine done_ (by kernel_rfl) ?_
 go_wp2_with fail
 exact bodyPost_ret (results_cell_row rfl _ _ (w.heap.size + 1) 28 (rfC k i q s d x y t h) (0, 0) _ rfl (blk_put9 BR.out _ _ _ _ _ _ _ _ _) hu2 rfl (by kernel_rfl)) rfl ⟨rfl, below_put9 HB.out (Nat.le_succ _) _ _ _ _ _ _ _ _ _⟩
def cenotaphlaw07_From.f (a0_0 : Int) (a0_1 : ByteArray) (a0_2 : Int) (a0_3 : Int) (a0_4 : Bool) (a0_5 : Cx) (a0_6 : ByteArray) (a0_7 : Bool) : Option (Int × ByteArray × Int × Int × Bool × Int × Int × ByteArray × Bool) := (cxInt a0_5).bind fun p => some (a0_0, a0_1, a0_2, a0_3, a0_4, p.1, p.2, a0_6, a0_7)
theorem cenotaphlaw07_From.calls (a0_0 : Int) (a0_1 : ByteArray) (a0_2 : Int) (a0_3 : Int) (a0_4 : Bool) (a0_5 : Cx) (a0_6 : ByteArray) (a0_7 : Bool) (r1 : Int) (r2 : ByteArray) (r3 : Int) (r4 : Int) (r5 : Bool) (r6 : Int) (r7 : Int) (r8 : ByteArray) (r9 : Bool) (w : World) (h : cenotaphlaw07_From.f a0_0 a0_1 a0_2 a0_3 a0_4 a0_5 a0_6 a0_7 = some (r1, r2, r3, r4, r5, r6, r7, r8, r9)) :
  Calls Try.prog 20 #[.agg #[.int .i64 a0_0, .string a0_1, .int .i64 a0_2, .int .i64 a0_3, .bool a0_4, .complex .f64 a0_5.re a0_5.im, .string a0_6, .bool a0_7]] w fun e w' => e = .returned (.agg #[.int .i64 r1, .string r2, .int .i64 r3, .int .i64 r4, .bool r5, .int .i64 r6, .int .i64 r7, .string r8, .bool r9]) ∧ Below w.heap.size w w' := by
 unfold cenotaphlaw07_From.f at h
 obtain ⟨⟨x, y⟩, hc, hh⟩ := Option.bind_eq_some_iff.mp h
 clear h
 obtain ⟨e, h1, h2⟩ := cxInt_some hc
 subst e
 cases hh
 exact it_from a0_0 a0_1 a0_2 a0_3 a0_4 x y a0_6 a0_7 w h1 h2

end Go.Proofs.Ytgdkgobplinelaa.P
