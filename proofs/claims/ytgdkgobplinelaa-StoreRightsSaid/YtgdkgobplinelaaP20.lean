-- Written by a program of this session (wip/pp.py over the kit's printer, with our own texts put in).
import Derived.Test.YtgdkgobplinelaaP0
import Derived.Test.YtgdkgobplinelaaP8
import Derived.Test.YtgdkgobplinelaaP9
import Derived.Test.YtgdkgobplinelaaP12
import Derived.Test.YtgdkgobplinelaaP14
import Derived.Test.YtgdkgobplinelaaP19
namespace Go.Proofs.Ytgdkgobplinelaa.P
open Go.RowKit Go.Proofs.YtgdkgobplinelaaW.PrintWords Go.Proofs.YtgdkgobplinelaaW.PrintLast Go.Proofs.YtgdkgobplinelaaW.PrintMore
attribute [local go_sem] run_store_complex max2_int min2_int max_two min_two max_three min_three max_four min_four   -- for this text's walks alone
set_option linter.unusedVariables false
set_option linter.unusedSimpArgs false

/-! ### cenotaphlaw08_StoreRights: function 6 -/
theorem zq6_0 {p_ : Prop} (h_ : p_ := by repeat (first | (with_reducible first | exact HB.out | apply below_alloc | apply pw_below_drewN | apply below_drew1) | exact HB.out)) : p_ := h_
theorem zq6_1 {p_ : Prop} (h_ : p_ := by first | (with_reducible assumption) | assumption) : p_ := h_
def cenotaphlaw08_StoreRights.l0 : Nat → List (S28) → List (S28) → Int → Option (Bool)
 | 0, _, _, _ => none
 | k + 1, x0, x1, x5 => if x5 < (x0.length : Int) then (if 0 ≤ x5 then (if ((rd_T28 x0 x5).f3.f0) > 1099511627776 then ((cenotaphlaw08_told.f k).bind fun t563 => (some t563)) else (if ((rd_T28 x0 x5).f3.f0) < (-1099511627776) then ((cenotaphlaw08_told.f k).bind fun t565 => (some t565)) else (if ((rd_T28 x0 x5).f3.f1) > 1099511627776 then ((cenotaphlaw08_told.f k).bind fun t567 => (some t567)) else (if ((rd_T28 x0 x5).f3.f1) < (-1099511627776) then ((cenotaphlaw08_told.f k).bind fun t569 => (some t569)) else (cenotaphlaw08_StoreRights.l0 k x0 x1 (wrap64 (x5 + 1))))))) else (none)) else ((cenotaphref08_Fix.f k x1).bind fun t570 => ((cenotaphlaw08_told.f k).bind fun t573 => (if t573 = true then ((cenotaphlaw08_To.f k x0).bind fun t574 => ((store_Right.f k t574).bind fun t577 => ((cenotaphref08_Right.f k x0).bind fun t578 => (if (t577 == t578) = true then ((cenotaphlaw08_To.f k t570).bind fun t579 => ((store_Right.f k t579).bind fun t582 => (if t582 = true then ((cenotaphlaw08_To.f k t570).bind fun t583 => ((cenotaphref08_Fix.f k x0).bind fun t586 => ((cenotaphlaw08_To.f k t586).bind fun t589 => ((store_Same.f k t583 t589).bind fun t592 => ((cenotaphref08_Fix.f k x0).bind fun t593 => ((cenotaphref08_Same.f k t570 t593).bind fun t596 => (some (t592 == t596)))))))) else (none)))) else (none))))) else (none))))
def cenotaphlaw08_StoreRights.f (k : Nat) (l0 : List (S28)) (l1 : List (S28)) : Option (Bool) := if 0 ≤ (mn (l0.length : Int) 20) then (if (mn (l0.length : Int) 20) ≤ (l0.length : Int) then (if 0 ≤ (mn (l1.length : Int) 20) then (if (mn (l1.length : Int) 20) ≤ (l1.length : Int) then (cenotaphlaw08_StoreRights.l0 k (l0.take ((mn (l0.length : Int) 20) : Int).toNat) (l1.take ((mn (l1.length : Int) 20) : Int).toNat) 0) else (none)) else (none)) else (none)) else (none)
theorem cenotaphlaw08_StoreRights.mono_l : ∀ k, (∀ y0 y1 y2, LeO (cenotaphlaw08_StoreRights.l0 k y0 y1 y2) (cenotaphlaw08_StoreRights.l0 (k + 1) y0 y1 y2))
 | 0 => fun _ _ _ r h => by simp [cenotaphlaw08_StoreRights.l0] at h
 | k + 1 => by
  have ih0 := cenotaphlaw08_StoreRights.mono_l k
  ·intro y0 y1 y2
   unfold cenotaphlaw08_StoreRights.l0
   repeat' first
   | (with_reducible exact ih0 _ _ _)
   | (with_reducible exact cenotaphlaw08_To.mono _ _)
   | (with_reducible exact cenotaphlaw08_told.mono _)
   | (with_reducible exact cenotaphref08_Fix.mono _ _)
   | (with_reducible exact cenotaphref08_Right.mono _ _)
   | (with_reducible exact cenotaphref08_Same.mono _ _ _)
   | (with_reducible exact store_Right.mono _ _)
   | (with_reducible exact store_Same.mono _ _ _)
   | (with_reducible exact LeO.refl _)
   | (with_reducible exact LeO.none _)
   | (with_reducible refine LeO.ite ?_ ?_)
   | (with_reducible refine LeO.bind ?_ (fun _ => ?_))
   | exact ih0 _ _ _
   | exact cenotaphlaw08_To.mono _ _
   | exact cenotaphlaw08_told.mono _
   | exact cenotaphref08_Fix.mono _ _
   | exact cenotaphref08_Right.mono _ _
   | exact cenotaphref08_Same.mono _ _ _
   | exact store_Right.mono _ _
   | exact store_Same.mono _ _ _
   | exact LeO.none _
   | refine LeO.ite ?_ ?_
   | refine LeO.bind ?_ (fun _ => ?_)
theorem cenotaphlaw08_StoreRights.mono : ∀ a0 a1 k, LeO (cenotaphlaw08_StoreRights.f k a0 a1) (cenotaphlaw08_StoreRights.f (k + 1) a0 a1) := by
 intro a0 a1 k
 have ih0 := cenotaphlaw08_StoreRights.mono_l k
 unfold cenotaphlaw08_StoreRights.f
 repeat' first
   | (with_reducible exact ih0 _ _ _)
   | (with_reducible exact cenotaphlaw08_To.mono _ _)
   | (with_reducible exact cenotaphlaw08_told.mono _)
   | (with_reducible exact cenotaphref08_Fix.mono _ _)
   | (with_reducible exact cenotaphref08_Right.mono _ _)
   | (with_reducible exact cenotaphref08_Same.mono _ _ _)
   | (with_reducible exact store_Right.mono _ _)
   | (with_reducible exact store_Same.mono _ _ _)
   | (with_reducible exact LeO.refl _)
   | (with_reducible exact LeO.none _)
   | (with_reducible refine LeO.ite ?_ ?_)
   | (with_reducible refine LeO.bind ?_ (fun _ => ?_))
   | exact ih0 _ _ _
   | exact cenotaphlaw08_To.mono _ _
   | exact cenotaphlaw08_told.mono _
   | exact cenotaphref08_Fix.mono _ _
   | exact cenotaphref08_Right.mono _ _
   | exact cenotaphref08_Same.mono _ _ _
   | exact store_Right.mono _ _
   | exact store_Same.mono _ _ _
   | exact LeO.none _
   | refine LeO.ite ?_ ?_
   | refine LeO.bind ?_ (fun _ => ?_)
set_option maxHeartbeats 8000000 in
set_option maxRecDepth 100000 in
theorem cenotaphlaw08_StoreRights.calls (k : Nat) (A0 : Option Addr) (c0 : Nat) (l0 : List (S28)) (A1 : Option Addr) (c1 : Nat) (l1 : List (S28)) (r : Bool) (w : World) (hr0 : Kd.C k28 w A0 l0.length l0) (hc0 : l0.length ≤ c0) (hr1 : Kd.C k28 w A1 l1.length l1) (hc1 : l1.length ≤ c1) (h : cenotaphlaw08_StoreRights.f k l0 l1 = some r) :
  Calls Try.prog 6 #[.slice A0 l0.length c0, .slice A1 l1.length c1] w fun e w' => e = .returned (.bool r) ∧ Below w.heap.size w w' := by
 have HR0 := Aside0.mk hr0
 have HC0 := Aside0.mk hc0
 clear hr0 hc0
 have HR1 := Aside0.mk hr1
 have HC1 := Aside0.mk hc1
 clear hr1 hc1
 have HB := Aside0.mk (Below.refl w.heap.size w)
 have H := h
 unfold cenotaphlaw08_StoreRights.f at H
 clear h
 obtain ⟨ji3, hji3⟩ : ∃ j_ : Int, (mn (l0.length : Int) 20) = j_ := ⟨_, rfl⟩
 replace H : (if 0 ≤ (ji3) then (if (ji3) ≤ (l0.length : Int) then (if 0 ≤ (mn (l1.length : Int) 20) then (if (mn (l1.length : Int) 20) ≤ (l1.length : Int) then (cenotaphlaw08_StoreRights.l0 k (l0.take ((ji3) : Int).toNat) (l1.take ((mn (l1.length : Int) 20) : Int).toNat) 0) else (none)) else (none)) else (none)) else (none)) = some r := by first | (rw [hji3] at H; exact H) | (simp only [hji3] at H ⊢; exact H)
 (try (have hji3h : ji3 ≤ 20 := by (rw [← hji3]; unfold mn; (repeat' split) <;> omega)))
 (try (have hji3g : ji3 ≤ 64 := by omega))
 (try (have hji3l : 0 ≤ ji3 := by (rw [← hji3]; unfold mn; (repeat' split) <;> omega)))
 (try (have hji3m : 0 ≤ ji3 := by omega))
 have hji3_ : (if 20 < (l0.length : Int) then 20 else (l0.length : Int)) = ji3 := hji3
 by_cases c4 : 0 ≤ (ji3)
 ·rw [if_pos c4] at H
  have c4b0 := eq_true c4
  have c4b1 : decide (0 ≤ (ji3)) = true := decide_eq_true c4
  clear c4
  by_cases c5 : (ji3) ≤ (l0.length : Int)
  ·rw [if_pos c5] at H
   have c5b0 := eq_true c5
   have c5b1 : decide ((ji3) ≤ (l0.length : Int)) = true := decide_eq_true c5
   clear c5
   obtain ⟨y554, hy554⟩ : ∃ y_ : List (S28), y_ = (l0.take ((ji3) : Int).toNat) := ⟨_, rfl⟩
   replace H : (if 0 ≤ (mn (l1.length : Int) 20) then (if (mn (l1.length : Int) 20) ≤ (l1.length : Int) then (cenotaphlaw08_StoreRights.l0 k y554 (l1.take ((mn (l1.length : Int) 20) : Int).toNat) 0) else (none)) else (none)) = some r := by first | (rw [hy554]; with_reducible exact H) | (have H2_ := (Option.bind_some _ _).symm.trans H; rw [hy554]; with_reducible exact H2_) | (have H2_ := (Option.bind_some _ _).symm.trans H; with_reducible exact H2_) | with_reducible exact H | (rw [hy554]; exact H) | exact H
   have Ny554 := Aside0.mk hy554
   clear hy554
   obtain ⟨ji6, hji6⟩ : ∃ j_ : Int, (mn (l1.length : Int) 20) = j_ := ⟨_, rfl⟩
   replace H : (if 0 ≤ (ji6) then (if (ji6) ≤ (l1.length : Int) then (cenotaphlaw08_StoreRights.l0 k y554 (l1.take ((ji6) : Int).toNat) 0) else (none)) else (none)) = some r := by first | (rw [hji6] at H; exact H) | (simp only [hji6] at H ⊢; exact H)
   (try (have hji6h : ji6 ≤ 20 := by (rw [← hji6]; unfold mn; (repeat' split) <;> omega)))
   (try (have hji6g : ji6 ≤ 64 := by omega))
   (try (have hji6l : 0 ≤ ji6 := by (rw [← hji6]; unfold mn; (repeat' split) <;> omega)))
   (try (have hji6m : 0 ≤ ji6 := by omega))
   have hji6_ : (if 20 < (l1.length : Int) then 20 else (l1.length : Int)) = ji6 := hji6
   by_cases c7 : 0 ≤ (ji6)
   ·rw [if_pos c7] at H
    have c7b0 := eq_true c7
    have c7b1 : decide (0 ≤ (ji6)) = true := decide_eq_true c7
    clear c7
    by_cases c8 : (ji6) ≤ (l1.length : Int)
    ·rw [if_pos c8] at H
     have c8b0 := eq_true c8
     have c8b1 : decide ((ji6) ≤ (l1.length : Int)) = true := decide_eq_true c8
     clear c8
     obtain ⟨y558, hy558⟩ : ∃ y_ : List (S28), y_ = (l1.take ((ji6) : Int).toNat) := ⟨_, rfl⟩
     replace H : (cenotaphlaw08_StoreRights.l0 k y554 y558 0) = some r := by first | (rw [hy558]; with_reducible exact H) | (have H2_ := (Option.bind_some _ _).symm.trans H; rw [hy558]; with_reducible exact H2_) | (have H2_ := (Option.bind_some _ _).symm.trans H; with_reducible exact H2_) | with_reducible exact H | (rw [hy558]; exact H) | exact H
     have Ny558 := Aside0.mk hy558
     clear hy558
     have H' := Aside0.mk H
     clear H
     have q9 : ((ji3) : Int) ≤ ((l0.length : Int) : Int) := of_decide_eq_true zq6_1
     obtain ⟨i09, hi09, _, hsz9, _⟩ := info_parts info28
     have hroom9 : l0.length ≤ c0 := HC0.out
     have hC9 : Kd.C k28 _ A0 l0.length l0 := HR0.out
     have hcut9 := cut_to (P := Try.prog) 22 28 .i64 Try.underlying22 hi09 A0 l0.length c0 (ji3) (of_decide_eq_true zq6_1) q9 hroom9
     have hr9 := Kd.C_take (m := ((ji3) : Int).toNat) hC9 (by omega)
     have hy9 : y554.length = ((ji3) : Int).toNat := (by rw [Ny554.out, List.length_take]; omega)
     rw [← Ny554.out] at hr9
     rw [← hy9] at hcut9
     have HR557 := Aside0.mk hr9
     have HC557 := Aside0.mk (show y554.length ≤ c0 from by omega)
     clear hr9 hC9 hroom9 hi09 hsz9
     have KY9 := Aside0.mk hy9
     clear hy9
     replace q9 := eq_true q9
     have q10 : ((ji6) : Int) ≤ ((l1.length : Int) : Int) := of_decide_eq_true zq6_1
     obtain ⟨i010, hi010, _, hsz10, _⟩ := info_parts info28
     have hroom10 : l1.length ≤ c1 := HC1.out
     have hC10 : Kd.C k28 _ A1 l1.length l1 := HR1.out
     have hcut10 := cut_to (P := Try.prog) 22 28 .i64 Try.underlying22 hi010 A1 l1.length c1 (ji6) (of_decide_eq_true zq6_1) q10 hroom10
     have hr10 := Kd.C_take (m := ((ji6) : Int).toNat) hC10 (by omega)
     have hy10 : y558.length = ((ji6) : Int).toNat := (by rw [Ny558.out, List.length_take]; omega)
     rw [← Ny558.out] at hr10
     rw [← hy10] at hcut10
     have HR561 := Aside0.mk hr10
     have HC561 := Aside0.mk (show y558.length ≤ c1 from by omega)
     clear hr10 hC10 hroom10 hi010 hsz10
     have KY10 := Aside0.mk hy10
     clear hy10
     replace q10 := eq_true q10
     go_enter Try.func6, Try.ntmps6
     go_wp2
     repeat (go_quiet (fail); try go_wp2)
     go_loopg [5] k (fun kq v5 w' => ∃ (x5_1 : Int), v5 = .int .i64 x5_1 ∧ Aside0 (cenotaphlaw08_StoreRights.l0 kq y554 y558 x5_1 = some r) ∧ Aside0 (kq ≤ k) ∧ Aside0 (Below w.heap.size w w'))
     case atStart => exact ⟨(0), (by first | rfl | (simp; done) | (simp [*]; done)), H', ⟨Nat.le_refl _⟩, ⟨by repeat (first | (with_reducible first | exact HB.out | apply below_alloc | apply pw_below_drewN | apply below_drew1) | exact HB.out)⟩⟩
     case round =>
      clear H'
      try clear c1
      try clear q1
      try clear p2
      try clear c4
      try clear c4b0
      try clear c4b1
      try clear c5
      try clear c5b0
      try clear c5b1
      try clear c6
      try clear c7
      try clear c7b0
      try clear c7b1
      try clear c8
      try clear c8b0
      try clear c8b1
      try clear q9
      try clear q10
      try clear q10
      try clear q9
      obtain ⟨x5_1, rfl, HA, HK1, HB⟩ := hrel
      cases gk with
      | zero => exact absurd HA.out (by simp [cenotaphlaw08_StoreRights.l0])
      | succ k1 =>
       have H := HA.out
       clear HA
       simp only [cenotaphlaw08_StoreRights.l0] at H
       by_cases c11 : x5_1 < (y554.length : Int)
       ·rw [if_pos c11] at H
        have c11b0 : decide (x5_1 < (y554.length : Int)) = true := decide_eq_true c11
        clear c11
        by_cases c12 : 0 ≤ x5_1
        ·rw [if_pos c12] at H
         have c12b0 : decide (0 ≤ x5_1) = true := decide_eq_true c12
         clear c12
         by_cases c13 : ((rd_T28 y554 x5_1).f3.f0) > 1099511627776
         ·rw [if_pos c13] at H
          have c13b0 : decide (1099511627776 < ((rd_T28 y554 x5_1).f3.f0)) = true := decide_eq_true c13
          clear c13
          replace H := Option.bind_eq_some_iff.mp H
          obtain ⟨t563, A140, H⟩ := H
          have A14 := Aside0.mk A140
          clear A140
          obtain rfl := Option.some.inj H
          have p562 : 0 ≤ (x5_1 : Int) := of_decide_eq_true zq6_1
          have q562 : x5_1 < (y554.length : Int) := of_decide_eq_true zq6_1
          obtain ⟨ad562, e562, hx562_0, hx562_1, hx562_2, hx562_3, hx562_4, hx562_5, hx562_6, hx562_7, hx562_8⟩ := at_T28 HR557.out x5_1 p562 q562
          cases e562
          replace hx562_0 := (HB.out.cell (World.block_lt_of_cell? w _ hx562_0)).trans hx562_0
          replace hx562_1 := (HB.out.cell (World.block_lt_of_cell? w _ hx562_1)).trans hx562_1
          replace hx562_2 := (HB.out.cell (World.block_lt_of_cell? w _ hx562_2)).trans hx562_2
          replace hx562_3 := (HB.out.cell (World.block_lt_of_cell? w _ hx562_3)).trans hx562_3
          replace hx562_4 := (HB.out.cell (World.block_lt_of_cell? w _ hx562_4)).trans hx562_4
          replace hx562_5 := (HB.out.cell (World.block_lt_of_cell? w _ hx562_5)).trans hx562_5
          replace hx562_6 := (HB.out.cell (World.block_lt_of_cell? w _ hx562_6)).trans hx562_6
          replace hx562_7 := (HB.out.cell (World.block_lt_of_cell? w _ hx562_7)).trans hx562_7
          replace hx562_8 := (HB.out.cell (World.block_lt_of_cell? w _ hx562_8)).trans hx562_8
          replace p562 := eq_true p562
          replace q562 := eq_true q562
          go_wp2_with (first | (go_at_call 16; (with_reducible refine (cenotaphlaw08_told.calls k1  t563 _ A14.out).mono ?_); rintro e w15 ⟨rfl, hb⟩; replace HB := Aside0.mk (below_step zq6_0 hb); (try clear hb); (try clear hb2); (try clear hk); (try clear hi)))
          repeat (go_quiet (first | (go_at_call 16; (with_reducible refine (cenotaphlaw08_told.calls k1  t563 _ A14.out).mono ?_); rintro e w15 ⟨rfl, hb⟩; replace HB := Aside0.mk (below_step zq6_0 hb); (try clear hb); (try clear hb2); (try clear hk); (try clear hi))); try go_wp2_with (first | (go_at_call 16; (with_reducible refine (cenotaphlaw08_told.calls k1  t563 _ A14.out).mono ?_); rintro e w15 ⟨rfl, hb⟩; replace HB := Aside0.mk (below_step zq6_0 hb); (try clear hb); (try clear hb2); (try clear hk); (try clear hi))))
          go_ret
          exact ⟨by first | rfl | (simp [errW_none, errW_some] <;> rfl) | (simp only [← hji3, ← hji6]; first | rfl | (simp [errW_none, errW_some] <;> rfl)) | (simp [*, errW_none, errW_some] <;> rfl), by repeat (first | (with_reducible first | exact HB.out | apply below_alloc | apply pw_below_drewN | apply below_drew1) | exact HB.out)⟩
         ·rw [if_neg c13] at H
          have c13b0 : decide (1099511627776 < ((rd_T28 y554 x5_1).f3.f0)) = false := decide_eq_false c13
          clear c13
          by_cases c16 : ((rd_T28 y554 x5_1).f3.f0) < (-1099511627776)
          ·rw [if_pos c16] at H
           have c16b0 : decide (((rd_T28 y554 x5_1).f3.f0) < (-1099511627776)) = true := decide_eq_true c16
           clear c16
           replace H := Option.bind_eq_some_iff.mp H
           obtain ⟨t565, A170, H⟩ := H
           have A17 := Aside0.mk A170
           clear A170
           obtain rfl := Option.some.inj H
           have p562 : 0 ≤ (x5_1 : Int) := of_decide_eq_true zq6_1
           have q562 : x5_1 < (y554.length : Int) := of_decide_eq_true zq6_1
           obtain ⟨ad562, e562, hx562_0, hx562_1, hx562_2, hx562_3, hx562_4, hx562_5, hx562_6, hx562_7, hx562_8⟩ := at_T28 HR557.out x5_1 p562 q562
           cases e562
           replace hx562_0 := (HB.out.cell (World.block_lt_of_cell? w _ hx562_0)).trans hx562_0
           replace hx562_1 := (HB.out.cell (World.block_lt_of_cell? w _ hx562_1)).trans hx562_1
           replace hx562_2 := (HB.out.cell (World.block_lt_of_cell? w _ hx562_2)).trans hx562_2
           replace hx562_3 := (HB.out.cell (World.block_lt_of_cell? w _ hx562_3)).trans hx562_3
           replace hx562_4 := (HB.out.cell (World.block_lt_of_cell? w _ hx562_4)).trans hx562_4
           replace hx562_5 := (HB.out.cell (World.block_lt_of_cell? w _ hx562_5)).trans hx562_5
           replace hx562_6 := (HB.out.cell (World.block_lt_of_cell? w _ hx562_6)).trans hx562_6
           replace hx562_7 := (HB.out.cell (World.block_lt_of_cell? w _ hx562_7)).trans hx562_7
           replace hx562_8 := (HB.out.cell (World.block_lt_of_cell? w _ hx562_8)).trans hx562_8
           replace p562 := eq_true p562
           replace q562 := eq_true q562
           have p564 : 0 ≤ (x5_1 : Int) := of_decide_eq_true zq6_1
           have q564 : x5_1 < (y554.length : Int) := of_decide_eq_true zq6_1
           obtain ⟨ad564, e564, hx564_0, hx564_1, hx564_2, hx564_3, hx564_4, hx564_5, hx564_6, hx564_7, hx564_8⟩ := at_T28 HR557.out x5_1 p564 q564
           obtain rfl : ad562 = ad564 := (by injection e564)
           replace hx564_0 := (HB.out.cell (World.block_lt_of_cell? w _ hx564_0)).trans hx564_0
           replace hx564_1 := (HB.out.cell (World.block_lt_of_cell? w _ hx564_1)).trans hx564_1
           replace hx564_2 := (HB.out.cell (World.block_lt_of_cell? w _ hx564_2)).trans hx564_2
           replace hx564_3 := (HB.out.cell (World.block_lt_of_cell? w _ hx564_3)).trans hx564_3
           replace hx564_4 := (HB.out.cell (World.block_lt_of_cell? w _ hx564_4)).trans hx564_4
           replace hx564_5 := (HB.out.cell (World.block_lt_of_cell? w _ hx564_5)).trans hx564_5
           replace hx564_6 := (HB.out.cell (World.block_lt_of_cell? w _ hx564_6)).trans hx564_6
           replace hx564_7 := (HB.out.cell (World.block_lt_of_cell? w _ hx564_7)).trans hx564_7
           replace hx564_8 := (HB.out.cell (World.block_lt_of_cell? w _ hx564_8)).trans hx564_8
           replace p564 := eq_true p564
           replace q564 := eq_true q564
           go_wp2_with (first | (go_at_call 16; (with_reducible refine (cenotaphlaw08_told.calls k1  t565 _ A17.out).mono ?_); rintro e w18 ⟨rfl, hb⟩; replace HB := Aside0.mk (below_step zq6_0 hb); (try clear hb); (try clear hb2); (try clear hk); (try clear hi)))
           repeat (go_quiet (first | (go_at_call 16; (with_reducible refine (cenotaphlaw08_told.calls k1  t565 _ A17.out).mono ?_); rintro e w18 ⟨rfl, hb⟩; replace HB := Aside0.mk (below_step zq6_0 hb); (try clear hb); (try clear hb2); (try clear hk); (try clear hi))); try go_wp2_with (first | (go_at_call 16; (with_reducible refine (cenotaphlaw08_told.calls k1  t565 _ A17.out).mono ?_); rintro e w18 ⟨rfl, hb⟩; replace HB := Aside0.mk (below_step zq6_0 hb); (try clear hb); (try clear hb2); (try clear hk); (try clear hi))))
           go_ret
           exact ⟨by first | rfl | (simp [errW_none, errW_some] <;> rfl) | (simp only [← hji3, ← hji6]; first | rfl | (simp [errW_none, errW_some] <;> rfl)) | (simp [*, errW_none, errW_some] <;> rfl), by repeat (first | (with_reducible first | exact HB.out | apply below_alloc | apply pw_below_drewN | apply below_drew1) | exact HB.out)⟩
          ·rw [if_neg c16] at H
           have c16b0 : decide (((rd_T28 y554 x5_1).f3.f0) < (-1099511627776)) = false := decide_eq_false c16
           clear c16
           by_cases c19 : ((rd_T28 y554 x5_1).f3.f1) > 1099511627776
           ·rw [if_pos c19] at H
            have c19b0 : decide (1099511627776 < ((rd_T28 y554 x5_1).f3.f1)) = true := decide_eq_true c19
            clear c19
            replace H := Option.bind_eq_some_iff.mp H
            obtain ⟨t567, A200, H⟩ := H
            have A20 := Aside0.mk A200
            clear A200
            obtain rfl := Option.some.inj H
            have p562 : 0 ≤ (x5_1 : Int) := of_decide_eq_true zq6_1
            have q562 : x5_1 < (y554.length : Int) := of_decide_eq_true zq6_1
            obtain ⟨ad562, e562, hx562_0, hx562_1, hx562_2, hx562_3, hx562_4, hx562_5, hx562_6, hx562_7, hx562_8⟩ := at_T28 HR557.out x5_1 p562 q562
            cases e562
            replace hx562_0 := (HB.out.cell (World.block_lt_of_cell? w _ hx562_0)).trans hx562_0
            replace hx562_1 := (HB.out.cell (World.block_lt_of_cell? w _ hx562_1)).trans hx562_1
            replace hx562_2 := (HB.out.cell (World.block_lt_of_cell? w _ hx562_2)).trans hx562_2
            replace hx562_3 := (HB.out.cell (World.block_lt_of_cell? w _ hx562_3)).trans hx562_3
            replace hx562_4 := (HB.out.cell (World.block_lt_of_cell? w _ hx562_4)).trans hx562_4
            replace hx562_5 := (HB.out.cell (World.block_lt_of_cell? w _ hx562_5)).trans hx562_5
            replace hx562_6 := (HB.out.cell (World.block_lt_of_cell? w _ hx562_6)).trans hx562_6
            replace hx562_7 := (HB.out.cell (World.block_lt_of_cell? w _ hx562_7)).trans hx562_7
            replace hx562_8 := (HB.out.cell (World.block_lt_of_cell? w _ hx562_8)).trans hx562_8
            replace p562 := eq_true p562
            replace q562 := eq_true q562
            have p564 : 0 ≤ (x5_1 : Int) := of_decide_eq_true zq6_1
            have q564 : x5_1 < (y554.length : Int) := of_decide_eq_true zq6_1
            obtain ⟨ad564, e564, hx564_0, hx564_1, hx564_2, hx564_3, hx564_4, hx564_5, hx564_6, hx564_7, hx564_8⟩ := at_T28 HR557.out x5_1 p564 q564
            obtain rfl : ad562 = ad564 := (by injection e564)
            replace hx564_0 := (HB.out.cell (World.block_lt_of_cell? w _ hx564_0)).trans hx564_0
            replace hx564_1 := (HB.out.cell (World.block_lt_of_cell? w _ hx564_1)).trans hx564_1
            replace hx564_2 := (HB.out.cell (World.block_lt_of_cell? w _ hx564_2)).trans hx564_2
            replace hx564_3 := (HB.out.cell (World.block_lt_of_cell? w _ hx564_3)).trans hx564_3
            replace hx564_4 := (HB.out.cell (World.block_lt_of_cell? w _ hx564_4)).trans hx564_4
            replace hx564_5 := (HB.out.cell (World.block_lt_of_cell? w _ hx564_5)).trans hx564_5
            replace hx564_6 := (HB.out.cell (World.block_lt_of_cell? w _ hx564_6)).trans hx564_6
            replace hx564_7 := (HB.out.cell (World.block_lt_of_cell? w _ hx564_7)).trans hx564_7
            replace hx564_8 := (HB.out.cell (World.block_lt_of_cell? w _ hx564_8)).trans hx564_8
            replace p564 := eq_true p564
            replace q564 := eq_true q564
            have p566 : 0 ≤ (x5_1 : Int) := of_decide_eq_true zq6_1
            have q566 : x5_1 < (y554.length : Int) := of_decide_eq_true zq6_1
            obtain ⟨ad566, e566, hx566_0, hx566_1, hx566_2, hx566_3, hx566_4, hx566_5, hx566_6, hx566_7, hx566_8⟩ := at_T28 HR557.out x5_1 p566 q566
            obtain rfl : ad562 = ad566 := (by injection e566)
            replace hx566_0 := (HB.out.cell (World.block_lt_of_cell? w _ hx566_0)).trans hx566_0
            replace hx566_1 := (HB.out.cell (World.block_lt_of_cell? w _ hx566_1)).trans hx566_1
            replace hx566_2 := (HB.out.cell (World.block_lt_of_cell? w _ hx566_2)).trans hx566_2
            replace hx566_3 := (HB.out.cell (World.block_lt_of_cell? w _ hx566_3)).trans hx566_3
            replace hx566_4 := (HB.out.cell (World.block_lt_of_cell? w _ hx566_4)).trans hx566_4
            replace hx566_5 := (HB.out.cell (World.block_lt_of_cell? w _ hx566_5)).trans hx566_5
            replace hx566_6 := (HB.out.cell (World.block_lt_of_cell? w _ hx566_6)).trans hx566_6
            replace hx566_7 := (HB.out.cell (World.block_lt_of_cell? w _ hx566_7)).trans hx566_7
            replace hx566_8 := (HB.out.cell (World.block_lt_of_cell? w _ hx566_8)).trans hx566_8
            replace p566 := eq_true p566
            replace q566 := eq_true q566
            go_wp2_with (first | (go_at_call 16; (with_reducible refine (cenotaphlaw08_told.calls k1  t567 _ A20.out).mono ?_); rintro e w21 ⟨rfl, hb⟩; replace HB := Aside0.mk (below_step zq6_0 hb); (try clear hb); (try clear hb2); (try clear hk); (try clear hi)))
            repeat (go_quiet (first | (go_at_call 16; (with_reducible refine (cenotaphlaw08_told.calls k1  t567 _ A20.out).mono ?_); rintro e w21 ⟨rfl, hb⟩; replace HB := Aside0.mk (below_step zq6_0 hb); (try clear hb); (try clear hb2); (try clear hk); (try clear hi))); try go_wp2_with (first | (go_at_call 16; (with_reducible refine (cenotaphlaw08_told.calls k1  t567 _ A20.out).mono ?_); rintro e w21 ⟨rfl, hb⟩; replace HB := Aside0.mk (below_step zq6_0 hb); (try clear hb); (try clear hb2); (try clear hk); (try clear hi))))
            go_ret
            exact ⟨by first | rfl | (simp [errW_none, errW_some] <;> rfl) | (simp only [← hji3, ← hji6]; first | rfl | (simp [errW_none, errW_some] <;> rfl)) | (simp [*, errW_none, errW_some] <;> rfl), by repeat (first | (with_reducible first | exact HB.out | apply below_alloc | apply pw_below_drewN | apply below_drew1) | exact HB.out)⟩
           ·rw [if_neg c19] at H
            have c19b0 : decide (1099511627776 < ((rd_T28 y554 x5_1).f3.f1)) = false := decide_eq_false c19
            clear c19
            by_cases c22 : ((rd_T28 y554 x5_1).f3.f1) < (-1099511627776)
            ·rw [if_pos c22] at H
             have c22b0 : decide (((rd_T28 y554 x5_1).f3.f1) < (-1099511627776)) = true := decide_eq_true c22
             clear c22
             replace H := Option.bind_eq_some_iff.mp H
             obtain ⟨t569, A230, H⟩ := H
             have A23 := Aside0.mk A230
             clear A230
             obtain rfl := Option.some.inj H
             have p562 : 0 ≤ (x5_1 : Int) := of_decide_eq_true zq6_1
             have q562 : x5_1 < (y554.length : Int) := of_decide_eq_true zq6_1
             obtain ⟨ad562, e562, hx562_0, hx562_1, hx562_2, hx562_3, hx562_4, hx562_5, hx562_6, hx562_7, hx562_8⟩ := at_T28 HR557.out x5_1 p562 q562
             cases e562
             replace hx562_0 := (HB.out.cell (World.block_lt_of_cell? w _ hx562_0)).trans hx562_0
             replace hx562_1 := (HB.out.cell (World.block_lt_of_cell? w _ hx562_1)).trans hx562_1
             replace hx562_2 := (HB.out.cell (World.block_lt_of_cell? w _ hx562_2)).trans hx562_2
             replace hx562_3 := (HB.out.cell (World.block_lt_of_cell? w _ hx562_3)).trans hx562_3
             replace hx562_4 := (HB.out.cell (World.block_lt_of_cell? w _ hx562_4)).trans hx562_4
             replace hx562_5 := (HB.out.cell (World.block_lt_of_cell? w _ hx562_5)).trans hx562_5
             replace hx562_6 := (HB.out.cell (World.block_lt_of_cell? w _ hx562_6)).trans hx562_6
             replace hx562_7 := (HB.out.cell (World.block_lt_of_cell? w _ hx562_7)).trans hx562_7
             replace hx562_8 := (HB.out.cell (World.block_lt_of_cell? w _ hx562_8)).trans hx562_8
             replace p562 := eq_true p562
             replace q562 := eq_true q562
             have p564 : 0 ≤ (x5_1 : Int) := of_decide_eq_true zq6_1
             have q564 : x5_1 < (y554.length : Int) := of_decide_eq_true zq6_1
             obtain ⟨ad564, e564, hx564_0, hx564_1, hx564_2, hx564_3, hx564_4, hx564_5, hx564_6, hx564_7, hx564_8⟩ := at_T28 HR557.out x5_1 p564 q564
             obtain rfl : ad562 = ad564 := (by injection e564)
             replace hx564_0 := (HB.out.cell (World.block_lt_of_cell? w _ hx564_0)).trans hx564_0
             replace hx564_1 := (HB.out.cell (World.block_lt_of_cell? w _ hx564_1)).trans hx564_1
             replace hx564_2 := (HB.out.cell (World.block_lt_of_cell? w _ hx564_2)).trans hx564_2
             replace hx564_3 := (HB.out.cell (World.block_lt_of_cell? w _ hx564_3)).trans hx564_3
             replace hx564_4 := (HB.out.cell (World.block_lt_of_cell? w _ hx564_4)).trans hx564_4
             replace hx564_5 := (HB.out.cell (World.block_lt_of_cell? w _ hx564_5)).trans hx564_5
             replace hx564_6 := (HB.out.cell (World.block_lt_of_cell? w _ hx564_6)).trans hx564_6
             replace hx564_7 := (HB.out.cell (World.block_lt_of_cell? w _ hx564_7)).trans hx564_7
             replace hx564_8 := (HB.out.cell (World.block_lt_of_cell? w _ hx564_8)).trans hx564_8
             replace p564 := eq_true p564
             replace q564 := eq_true q564
             have p566 : 0 ≤ (x5_1 : Int) := of_decide_eq_true zq6_1
             have q566 : x5_1 < (y554.length : Int) := of_decide_eq_true zq6_1
             obtain ⟨ad566, e566, hx566_0, hx566_1, hx566_2, hx566_3, hx566_4, hx566_5, hx566_6, hx566_7, hx566_8⟩ := at_T28 HR557.out x5_1 p566 q566
             obtain rfl : ad562 = ad566 := (by injection e566)
             replace hx566_0 := (HB.out.cell (World.block_lt_of_cell? w _ hx566_0)).trans hx566_0
             replace hx566_1 := (HB.out.cell (World.block_lt_of_cell? w _ hx566_1)).trans hx566_1
             replace hx566_2 := (HB.out.cell (World.block_lt_of_cell? w _ hx566_2)).trans hx566_2
             replace hx566_3 := (HB.out.cell (World.block_lt_of_cell? w _ hx566_3)).trans hx566_3
             replace hx566_4 := (HB.out.cell (World.block_lt_of_cell? w _ hx566_4)).trans hx566_4
             replace hx566_5 := (HB.out.cell (World.block_lt_of_cell? w _ hx566_5)).trans hx566_5
             replace hx566_6 := (HB.out.cell (World.block_lt_of_cell? w _ hx566_6)).trans hx566_6
             replace hx566_7 := (HB.out.cell (World.block_lt_of_cell? w _ hx566_7)).trans hx566_7
             replace hx566_8 := (HB.out.cell (World.block_lt_of_cell? w _ hx566_8)).trans hx566_8
             replace p566 := eq_true p566
             replace q566 := eq_true q566
             have p568 : 0 ≤ (x5_1 : Int) := of_decide_eq_true zq6_1
             have q568 : x5_1 < (y554.length : Int) := of_decide_eq_true zq6_1
             obtain ⟨ad568, e568, hx568_0, hx568_1, hx568_2, hx568_3, hx568_4, hx568_5, hx568_6, hx568_7, hx568_8⟩ := at_T28 HR557.out x5_1 p568 q568
             obtain rfl : ad562 = ad568 := (by injection e568)
             replace hx568_0 := (HB.out.cell (World.block_lt_of_cell? w _ hx568_0)).trans hx568_0
             replace hx568_1 := (HB.out.cell (World.block_lt_of_cell? w _ hx568_1)).trans hx568_1
             replace hx568_2 := (HB.out.cell (World.block_lt_of_cell? w _ hx568_2)).trans hx568_2
             replace hx568_3 := (HB.out.cell (World.block_lt_of_cell? w _ hx568_3)).trans hx568_3
             replace hx568_4 := (HB.out.cell (World.block_lt_of_cell? w _ hx568_4)).trans hx568_4
             replace hx568_5 := (HB.out.cell (World.block_lt_of_cell? w _ hx568_5)).trans hx568_5
             replace hx568_6 := (HB.out.cell (World.block_lt_of_cell? w _ hx568_6)).trans hx568_6
             replace hx568_7 := (HB.out.cell (World.block_lt_of_cell? w _ hx568_7)).trans hx568_7
             replace hx568_8 := (HB.out.cell (World.block_lt_of_cell? w _ hx568_8)).trans hx568_8
             replace p568 := eq_true p568
             replace q568 := eq_true q568
             go_wp2_with (first | (go_at_call 16; (with_reducible refine (cenotaphlaw08_told.calls k1  t569 _ A23.out).mono ?_); rintro e w24 ⟨rfl, hb⟩; replace HB := Aside0.mk (below_step zq6_0 hb); (try clear hb); (try clear hb2); (try clear hk); (try clear hi)))
             repeat (go_quiet (first | (go_at_call 16; (with_reducible refine (cenotaphlaw08_told.calls k1  t569 _ A23.out).mono ?_); rintro e w24 ⟨rfl, hb⟩; replace HB := Aside0.mk (below_step zq6_0 hb); (try clear hb); (try clear hb2); (try clear hk); (try clear hi))); try go_wp2_with (first | (go_at_call 16; (with_reducible refine (cenotaphlaw08_told.calls k1  t569 _ A23.out).mono ?_); rintro e w24 ⟨rfl, hb⟩; replace HB := Aside0.mk (below_step zq6_0 hb); (try clear hb); (try clear hb2); (try clear hk); (try clear hi))))
             go_ret
             exact ⟨by first | rfl | (simp [errW_none, errW_some] <;> rfl) | (simp only [← hji3, ← hji6]; first | rfl | (simp [errW_none, errW_some] <;> rfl)) | (simp [*, errW_none, errW_some] <;> rfl), by repeat (first | (with_reducible first | exact HB.out | apply below_alloc | apply pw_below_drewN | apply below_drew1) | exact HB.out)⟩
            ·rw [if_neg c22] at H
             have c22b0 : decide (((rd_T28 y554 x5_1).f3.f1) < (-1099511627776)) = false := decide_eq_false c22
             clear c22
             have H' := Aside0.mk H
             clear H
             have p562 : 0 ≤ (x5_1 : Int) := of_decide_eq_true zq6_1
             have q562 : x5_1 < (y554.length : Int) := of_decide_eq_true zq6_1
             obtain ⟨ad562, e562, hx562_0, hx562_1, hx562_2, hx562_3, hx562_4, hx562_5, hx562_6, hx562_7, hx562_8⟩ := at_T28 HR557.out x5_1 p562 q562
             cases e562
             replace hx562_0 := (HB.out.cell (World.block_lt_of_cell? w _ hx562_0)).trans hx562_0
             replace hx562_1 := (HB.out.cell (World.block_lt_of_cell? w _ hx562_1)).trans hx562_1
             replace hx562_2 := (HB.out.cell (World.block_lt_of_cell? w _ hx562_2)).trans hx562_2
             replace hx562_3 := (HB.out.cell (World.block_lt_of_cell? w _ hx562_3)).trans hx562_3
             replace hx562_4 := (HB.out.cell (World.block_lt_of_cell? w _ hx562_4)).trans hx562_4
             replace hx562_5 := (HB.out.cell (World.block_lt_of_cell? w _ hx562_5)).trans hx562_5
             replace hx562_6 := (HB.out.cell (World.block_lt_of_cell? w _ hx562_6)).trans hx562_6
             replace hx562_7 := (HB.out.cell (World.block_lt_of_cell? w _ hx562_7)).trans hx562_7
             replace hx562_8 := (HB.out.cell (World.block_lt_of_cell? w _ hx562_8)).trans hx562_8
             replace p562 := eq_true p562
             replace q562 := eq_true q562
             have p564 : 0 ≤ (x5_1 : Int) := of_decide_eq_true zq6_1
             have q564 : x5_1 < (y554.length : Int) := of_decide_eq_true zq6_1
             obtain ⟨ad564, e564, hx564_0, hx564_1, hx564_2, hx564_3, hx564_4, hx564_5, hx564_6, hx564_7, hx564_8⟩ := at_T28 HR557.out x5_1 p564 q564
             obtain rfl : ad562 = ad564 := (by injection e564)
             replace hx564_0 := (HB.out.cell (World.block_lt_of_cell? w _ hx564_0)).trans hx564_0
             replace hx564_1 := (HB.out.cell (World.block_lt_of_cell? w _ hx564_1)).trans hx564_1
             replace hx564_2 := (HB.out.cell (World.block_lt_of_cell? w _ hx564_2)).trans hx564_2
             replace hx564_3 := (HB.out.cell (World.block_lt_of_cell? w _ hx564_3)).trans hx564_3
             replace hx564_4 := (HB.out.cell (World.block_lt_of_cell? w _ hx564_4)).trans hx564_4
             replace hx564_5 := (HB.out.cell (World.block_lt_of_cell? w _ hx564_5)).trans hx564_5
             replace hx564_6 := (HB.out.cell (World.block_lt_of_cell? w _ hx564_6)).trans hx564_6
             replace hx564_7 := (HB.out.cell (World.block_lt_of_cell? w _ hx564_7)).trans hx564_7
             replace hx564_8 := (HB.out.cell (World.block_lt_of_cell? w _ hx564_8)).trans hx564_8
             replace p564 := eq_true p564
             replace q564 := eq_true q564
             have p566 : 0 ≤ (x5_1 : Int) := of_decide_eq_true zq6_1
             have q566 : x5_1 < (y554.length : Int) := of_decide_eq_true zq6_1
             obtain ⟨ad566, e566, hx566_0, hx566_1, hx566_2, hx566_3, hx566_4, hx566_5, hx566_6, hx566_7, hx566_8⟩ := at_T28 HR557.out x5_1 p566 q566
             obtain rfl : ad562 = ad566 := (by injection e566)
             replace hx566_0 := (HB.out.cell (World.block_lt_of_cell? w _ hx566_0)).trans hx566_0
             replace hx566_1 := (HB.out.cell (World.block_lt_of_cell? w _ hx566_1)).trans hx566_1
             replace hx566_2 := (HB.out.cell (World.block_lt_of_cell? w _ hx566_2)).trans hx566_2
             replace hx566_3 := (HB.out.cell (World.block_lt_of_cell? w _ hx566_3)).trans hx566_3
             replace hx566_4 := (HB.out.cell (World.block_lt_of_cell? w _ hx566_4)).trans hx566_4
             replace hx566_5 := (HB.out.cell (World.block_lt_of_cell? w _ hx566_5)).trans hx566_5
             replace hx566_6 := (HB.out.cell (World.block_lt_of_cell? w _ hx566_6)).trans hx566_6
             replace hx566_7 := (HB.out.cell (World.block_lt_of_cell? w _ hx566_7)).trans hx566_7
             replace hx566_8 := (HB.out.cell (World.block_lt_of_cell? w _ hx566_8)).trans hx566_8
             replace p566 := eq_true p566
             replace q566 := eq_true q566
             have p568 : 0 ≤ (x5_1 : Int) := of_decide_eq_true zq6_1
             have q568 : x5_1 < (y554.length : Int) := of_decide_eq_true zq6_1
             obtain ⟨ad568, e568, hx568_0, hx568_1, hx568_2, hx568_3, hx568_4, hx568_5, hx568_6, hx568_7, hx568_8⟩ := at_T28 HR557.out x5_1 p568 q568
             obtain rfl : ad562 = ad568 := (by injection e568)
             replace hx568_0 := (HB.out.cell (World.block_lt_of_cell? w _ hx568_0)).trans hx568_0
             replace hx568_1 := (HB.out.cell (World.block_lt_of_cell? w _ hx568_1)).trans hx568_1
             replace hx568_2 := (HB.out.cell (World.block_lt_of_cell? w _ hx568_2)).trans hx568_2
             replace hx568_3 := (HB.out.cell (World.block_lt_of_cell? w _ hx568_3)).trans hx568_3
             replace hx568_4 := (HB.out.cell (World.block_lt_of_cell? w _ hx568_4)).trans hx568_4
             replace hx568_5 := (HB.out.cell (World.block_lt_of_cell? w _ hx568_5)).trans hx568_5
             replace hx568_6 := (HB.out.cell (World.block_lt_of_cell? w _ hx568_6)).trans hx568_6
             replace hx568_7 := (HB.out.cell (World.block_lt_of_cell? w _ hx568_7)).trans hx568_7
             replace hx568_8 := (HB.out.cell (World.block_lt_of_cell? w _ hx568_8)).trans hx568_8
             replace p568 := eq_true p568
             replace q568 := eq_true q568
             go_wp2
             repeat (go_quiet (fail); try go_wp2)
             go_roundg k1
             case measure => have := HK1.out; omega
             case rel => exact ⟨(wrap64 (x5_1 + 1)), (by first | rfl | (simp; done) | (simp [*]; done)), H', ⟨by have := HK1.out; omega⟩, ⟨by repeat (first | (with_reducible first | exact HB.out | apply below_alloc | apply pw_below_drewN | apply below_drew1) | exact HB.out)⟩⟩
        ·rw [if_neg c12] at H
         exact absurd H (by simp)
       ·rw [if_neg c11] at H
        have c11b0 : decide (x5_1 < (y554.length : Int)) = false := decide_eq_false c11
        clear c11
        replace H := Option.bind_eq_some_iff.mp H
        obtain ⟨t570, A250, H⟩ := H
        have A25 := Aside0.mk A250
        clear A250
        replace H := Option.bind_eq_some_iff.mp H
        obtain ⟨t573, A260, H⟩ := H
        have A26 := Aside0.mk A260
        clear A260
        by_cases c27 : t573 = true
        ·subst c27
         have H1 : ((cenotaphlaw08_To.f k1 y554).bind fun t574 => ((store_Right.f k1 t574).bind fun t577 => ((cenotaphref08_Right.f k1 y554).bind fun t578 => (if (t577 == t578) = true then ((cenotaphlaw08_To.f k1 t570).bind fun t579 => ((store_Right.f k1 t579).bind fun t582 => (if t582 = true then ((cenotaphlaw08_To.f k1 t570).bind fun t583 => ((cenotaphref08_Fix.f k1 y554).bind fun t586 => ((cenotaphlaw08_To.f k1 t586).bind fun t589 => ((store_Same.f k1 t583 t589).bind fun t592 => ((cenotaphref08_Fix.f k1 y554).bind fun t593 => ((cenotaphref08_Same.f k1 t570 t593).bind fun t596 => (some (t592 == t596)))))))) else (none)))) else (none))))) = some r := by rw [if_pos rfl] at H; exact H
         clear H
         have H := H1
         clear H1
         replace H := Option.bind_eq_some_iff.mp H
         obtain ⟨t574, A280, H⟩ := H
         have A28 := Aside0.mk A280
         clear A280
         replace H := Option.bind_eq_some_iff.mp H
         obtain ⟨t577, A290, H⟩ := H
         have A29 := Aside0.mk A290
         clear A290
         replace H := Option.bind_eq_some_iff.mp H
         obtain ⟨t578, A300, H⟩ := H
         have A30 := Aside0.mk A300
         clear A300
         by_cases c31 : (t577 == t578) = true
         ·rw [if_pos c31] at H
          have c31b0 : (t577 == t578) = true := c31
          (try (have c31b1 : decide (t577 = t578) = true := by simpa using c31))
          (try (have c31b2 : (t577 == t578) = true := by simpa using c31))
          clear c31
          replace H := Option.bind_eq_some_iff.mp H
          obtain ⟨t579, A320, H⟩ := H
          have A32 := Aside0.mk A320
          clear A320
          replace H := Option.bind_eq_some_iff.mp H
          obtain ⟨t582, A330, H⟩ := H
          have A33 := Aside0.mk A330
          clear A330
          by_cases c34 : t582 = true
          ·subst c34
           have H1 : ((cenotaphlaw08_To.f k1 t570).bind fun t583 => ((cenotaphref08_Fix.f k1 y554).bind fun t586 => ((cenotaphlaw08_To.f k1 t586).bind fun t589 => ((store_Same.f k1 t583 t589).bind fun t592 => ((cenotaphref08_Fix.f k1 y554).bind fun t593 => ((cenotaphref08_Same.f k1 t570 t593).bind fun t596 => (some (t592 == t596)))))))) = some r := by rw [if_pos rfl] at H; exact H
           clear H
           have H := H1
           clear H1
           replace H := Option.bind_eq_some_iff.mp H
           obtain ⟨t583, A350, H⟩ := H
           have A35 := Aside0.mk A350
           clear A350
           replace H := Option.bind_eq_some_iff.mp H
           obtain ⟨t586, A360, H⟩ := H
           have A36 := Aside0.mk A360
           clear A360
           replace H := Option.bind_eq_some_iff.mp H
           obtain ⟨t589, A370, H⟩ := H
           have A37 := Aside0.mk A370
           clear A370
           replace H := Option.bind_eq_some_iff.mp H
           obtain ⟨t592, A380, H⟩ := H
           have A38 := Aside0.mk A380
           clear A380
           replace H := Option.bind_eq_some_iff.mp H
           obtain ⟨t593, A390, H⟩ := H
           have A39 := Aside0.mk A390
           clear A390
           replace H := Option.bind_eq_some_iff.mp H
           obtain ⟨t596, A400, H⟩ := H
           have A40 := Aside0.mk A400
           clear A400
           obtain rfl := Option.some.inj H
           have Hy554 := Aside0.mk (And.intro HC557.out (Kd.C_below HR557.out HB.out))
           have Hy558 := Aside0.mk (And.intro HC561.out (Kd.C_below HR561.out HB.out))
           obtain rfl := beq_iff_eq.mp c31b0
           have hee_ : (t577 == t577) = true := beq_self_eq_true _
           go_wp2_with fail
           refine (cenotaphref08_Fix.calls k1 A1 c1 y558 t570 _ Hy558.out.2 Hy558.out.1 A25.out).mono ?_
           rintro e_ w1_ ⟨v_, rfl, ho_, hq_⟩
           replace Hy554 := Aside0.mk (And.intro Hy554.out.1 (Kd.C_below Hy554.out.2 hq_))
           replace Hy558 := Aside0.mk (And.intro Hy558.out.1 (Kd.C_below Hy558.out.2 hq_))
           replace HB := Aside0.mk (below_step HB.out hq_)
           replace ho_ : Kd.V k28 28 w1_ 0 (fun _ => True) v_ t570 := Kd.V_mono (Kd.R_V ho_) (fun _ _ => trivial)
           obtain ⟨A_t570, c_t570, rfl⟩ := Kd.V_slice ho_
           have Ht570 := Aside0.mk ho_
           clear ho_
           clear hq_
           go_wp2_with fail
           refine (cenotaphlaw08_told.calls k1  true _  A26.out).mono ?_
           rintro e_ w2_ ⟨rfl, hq_⟩
           replace Hy554 := Aside0.mk (And.intro Hy554.out.1 (Kd.C_below Hy554.out.2 hq_))
           replace Hy558 := Aside0.mk (And.intro Hy558.out.1 (Kd.C_below Hy558.out.2 hq_))
           replace Ht570 := Aside0.mk (Kd.V_below Ht570.out hq_)
           replace HB := Aside0.mk (below_step HB.out hq_)
           clear hq_
           go_wp2_with fail
           refine (cenotaphlaw08_To.calls k1 A0 c0 y554 t574 _ Hy554.out.2 Hy554.out.1 A28.out).mono ?_
           rintro e_ w3_ ⟨v_, rfl, ho_, hq_⟩
           replace Hy554 := Aside0.mk (And.intro Hy554.out.1 (Kd.C_below Hy554.out.2 hq_))
           replace Hy558 := Aside0.mk (And.intro Hy558.out.1 (Kd.C_below Hy558.out.2 hq_))
           replace Ht570 := Aside0.mk (Kd.V_below Ht570.out hq_)
           replace HB := Aside0.mk (below_step HB.out hq_)
           replace ho_ : Kd.V k41 41 w3_ 0 (fun _ => True) v_ t574 := Kd.V_mono (Kd.R_V ho_) (fun _ _ => trivial)
           obtain ⟨A_t574, c_t574, rfl⟩ := Kd.V_slice ho_
           have Ht574 := Aside0.mk ho_
           clear ho_
           clear hq_
           go_wp2_with fail
           refine (store_Right.calls k1 A_t574 c_t574 t574 t577 _ (Kd.V_reads' Ht574.out).2.2 (Kd.V_reads' Ht574.out).2.1 A29.out).mono ?_
           rintro e_ w4_ ⟨rfl, hq_⟩
           replace Hy554 := Aside0.mk (And.intro Hy554.out.1 (Kd.C_below Hy554.out.2 hq_))
           replace Hy558 := Aside0.mk (And.intro Hy558.out.1 (Kd.C_below Hy558.out.2 hq_))
           replace Ht570 := Aside0.mk (Kd.V_below Ht570.out hq_)
           replace Ht574 := Aside0.mk (Kd.V_below Ht574.out hq_)
           replace HB := Aside0.mk (below_step HB.out hq_)
           clear hq_
           go_wp2_with fail
           refine (cenotaphref08_Right.calls k1 A0 c0 y554 t577 _ Hy554.out.2 Hy554.out.1 A30.out).mono ?_
           rintro e_ w5_ ⟨rfl, hq_⟩
           replace Hy554 := Aside0.mk (And.intro Hy554.out.1 (Kd.C_below Hy554.out.2 hq_))
           replace Hy558 := Aside0.mk (And.intro Hy558.out.1 (Kd.C_below Hy558.out.2 hq_))
           replace Ht570 := Aside0.mk (Kd.V_below Ht570.out hq_)
           replace Ht574 := Aside0.mk (Kd.V_below Ht574.out hq_)
           replace HB := Aside0.mk (below_step HB.out hq_)
           clear hq_
           go_wp2_with fail
           refine (cenotaphlaw08_To.calls k1 A_t570 c_t570 t570 t579 _ (Kd.V_reads' Ht570.out).2.2 (Kd.V_reads' Ht570.out).2.1 A32.out).mono ?_
           rintro e_ w6_ ⟨v_, rfl, ho_, hq_⟩
           replace Hy554 := Aside0.mk (And.intro Hy554.out.1 (Kd.C_below Hy554.out.2 hq_))
           replace Hy558 := Aside0.mk (And.intro Hy558.out.1 (Kd.C_below Hy558.out.2 hq_))
           replace Ht570 := Aside0.mk (Kd.V_below Ht570.out hq_)
           replace Ht574 := Aside0.mk (Kd.V_below Ht574.out hq_)
           replace HB := Aside0.mk (below_step HB.out hq_)
           replace ho_ : Kd.V k41 41 w6_ 0 (fun _ => True) v_ t579 := Kd.V_mono (Kd.R_V ho_) (fun _ _ => trivial)
           obtain ⟨A_t579, c_t579, rfl⟩ := Kd.V_slice ho_
           have Ht579 := Aside0.mk ho_
           clear ho_
           clear hq_
           go_wp2_with fail
           refine (store_Right.calls k1 A_t579 c_t579 t579 true _ (Kd.V_reads' Ht579.out).2.2 (Kd.V_reads' Ht579.out).2.1 A33.out).mono ?_
           rintro e_ w7_ ⟨rfl, hq_⟩
           replace Hy554 := Aside0.mk (And.intro Hy554.out.1 (Kd.C_below Hy554.out.2 hq_))
           replace Hy558 := Aside0.mk (And.intro Hy558.out.1 (Kd.C_below Hy558.out.2 hq_))
           replace Ht570 := Aside0.mk (Kd.V_below Ht570.out hq_)
           replace Ht574 := Aside0.mk (Kd.V_below Ht574.out hq_)
           replace Ht579 := Aside0.mk (Kd.V_below Ht579.out hq_)
           replace HB := Aside0.mk (below_step HB.out hq_)
           clear hq_
           go_wp2_with fail
           refine (cenotaphlaw08_To.calls k1 A_t570 c_t570 t570 t583 _ (Kd.V_reads' Ht570.out).2.2 (Kd.V_reads' Ht570.out).2.1 A35.out).mono ?_
           rintro e_ w8_ ⟨v_, rfl, ho_, hq_⟩
           replace Hy554 := Aside0.mk (And.intro Hy554.out.1 (Kd.C_below Hy554.out.2 hq_))
           replace Hy558 := Aside0.mk (And.intro Hy558.out.1 (Kd.C_below Hy558.out.2 hq_))
           replace Ht570 := Aside0.mk (Kd.V_below Ht570.out hq_)
           replace Ht574 := Aside0.mk (Kd.V_below Ht574.out hq_)
           replace Ht579 := Aside0.mk (Kd.V_below Ht579.out hq_)
           replace HB := Aside0.mk (below_step HB.out hq_)
           replace ho_ : Kd.V k41 41 w8_ 0 (fun _ => True) v_ t583 := Kd.V_mono (Kd.R_V ho_) (fun _ _ => trivial)
           obtain ⟨A_t583, c_t583, rfl⟩ := Kd.V_slice ho_
           have Ht583 := Aside0.mk ho_
           clear ho_
           clear hq_
           go_wp2_with fail
           refine (cenotaphref08_Fix.calls k1 A0 c0 y554 t586 _ Hy554.out.2 Hy554.out.1 A36.out).mono ?_
           rintro e_ w9_ ⟨v_, rfl, ho_, hq_⟩
           replace Hy554 := Aside0.mk (And.intro Hy554.out.1 (Kd.C_below Hy554.out.2 hq_))
           replace Hy558 := Aside0.mk (And.intro Hy558.out.1 (Kd.C_below Hy558.out.2 hq_))
           replace Ht570 := Aside0.mk (Kd.V_below Ht570.out hq_)
           replace Ht574 := Aside0.mk (Kd.V_below Ht574.out hq_)
           replace Ht579 := Aside0.mk (Kd.V_below Ht579.out hq_)
           replace Ht583 := Aside0.mk (Kd.V_below Ht583.out hq_)
           replace HB := Aside0.mk (below_step HB.out hq_)
           replace ho_ : Kd.V k28 28 w9_ 0 (fun _ => True) v_ t586 := Kd.V_mono (Kd.R_V ho_) (fun _ _ => trivial)
           obtain ⟨A_t586, c_t586, rfl⟩ := Kd.V_slice ho_
           have Ht586 := Aside0.mk ho_
           clear ho_
           clear hq_
           go_wp2_with fail
           refine (cenotaphlaw08_To.calls k1 A_t586 c_t586 t586 t589 _ (Kd.V_reads' Ht586.out).2.2 (Kd.V_reads' Ht586.out).2.1 A37.out).mono ?_
           rintro e_ w10_ ⟨v_, rfl, ho_, hq_⟩
           replace Hy554 := Aside0.mk (And.intro Hy554.out.1 (Kd.C_below Hy554.out.2 hq_))
           replace Hy558 := Aside0.mk (And.intro Hy558.out.1 (Kd.C_below Hy558.out.2 hq_))
           replace Ht570 := Aside0.mk (Kd.V_below Ht570.out hq_)
           replace Ht574 := Aside0.mk (Kd.V_below Ht574.out hq_)
           replace Ht579 := Aside0.mk (Kd.V_below Ht579.out hq_)
           replace Ht583 := Aside0.mk (Kd.V_below Ht583.out hq_)
           replace Ht586 := Aside0.mk (Kd.V_below Ht586.out hq_)
           replace HB := Aside0.mk (below_step HB.out hq_)
           replace ho_ : Kd.V k41 41 w10_ 0 (fun _ => True) v_ t589 := Kd.V_mono (Kd.R_V ho_) (fun _ _ => trivial)
           obtain ⟨A_t589, c_t589, rfl⟩ := Kd.V_slice ho_
           have Ht589 := Aside0.mk ho_
           clear ho_
           clear hq_
           go_wp2_with fail
           refine (store_Same.calls k1 A_t583 c_t583 t583 A_t589 c_t589 t589 t592 _ (Kd.V_reads' Ht583.out).2.2 (Kd.V_reads' Ht583.out).2.1 (Kd.V_reads' Ht589.out).2.2 (Kd.V_reads' Ht589.out).2.1 A38.out).mono ?_
           rintro e_ w11_ ⟨rfl, hq_⟩
           replace hq_ := hq_.below
           replace Hy554 := Aside0.mk (And.intro Hy554.out.1 (Kd.C_below Hy554.out.2 hq_))
           replace Hy558 := Aside0.mk (And.intro Hy558.out.1 (Kd.C_below Hy558.out.2 hq_))
           replace Ht570 := Aside0.mk (Kd.V_below Ht570.out hq_)
           replace Ht574 := Aside0.mk (Kd.V_below Ht574.out hq_)
           replace Ht579 := Aside0.mk (Kd.V_below Ht579.out hq_)
           replace Ht583 := Aside0.mk (Kd.V_below Ht583.out hq_)
           replace Ht586 := Aside0.mk (Kd.V_below Ht586.out hq_)
           replace Ht589 := Aside0.mk (Kd.V_below Ht589.out hq_)
           replace HB := Aside0.mk (below_step HB.out hq_)
           clear hq_
           go_wp2_with fail
           refine (cenotaphref08_Fix.calls k1 A0 c0 y554 t593 _ Hy554.out.2 Hy554.out.1 A39.out).mono ?_
           rintro e_ w12_ ⟨v_, rfl, ho_, hq_⟩
           replace Hy554 := Aside0.mk (And.intro Hy554.out.1 (Kd.C_below Hy554.out.2 hq_))
           replace Hy558 := Aside0.mk (And.intro Hy558.out.1 (Kd.C_below Hy558.out.2 hq_))
           replace Ht570 := Aside0.mk (Kd.V_below Ht570.out hq_)
           replace Ht574 := Aside0.mk (Kd.V_below Ht574.out hq_)
           replace Ht579 := Aside0.mk (Kd.V_below Ht579.out hq_)
           replace Ht583 := Aside0.mk (Kd.V_below Ht583.out hq_)
           replace Ht586 := Aside0.mk (Kd.V_below Ht586.out hq_)
           replace Ht589 := Aside0.mk (Kd.V_below Ht589.out hq_)
           replace HB := Aside0.mk (below_step HB.out hq_)
           replace ho_ : Kd.V k28 28 w12_ 0 (fun _ => True) v_ t593 := Kd.V_mono (Kd.R_V ho_) (fun _ _ => trivial)
           obtain ⟨A_t593, c_t593, rfl⟩ := Kd.V_slice ho_
           have Ht593 := Aside0.mk ho_
           clear ho_
           clear hq_
           go_wp2_with fail
           refine (cenotaphref08_Same.calls k1 A_t570 c_t570 t570 A_t593 c_t593 t593 t596 _ (Kd.V_reads' Ht570.out).2.2 (Kd.V_reads' Ht570.out).2.1 (Kd.V_reads' Ht593.out).2.2 (Kd.V_reads' Ht593.out).2.1 A40.out).mono ?_
           rintro e_ w13_ ⟨rfl, hq_⟩
           replace hq_ := hq_.below
           replace Hy554 := Aside0.mk (And.intro Hy554.out.1 (Kd.C_below Hy554.out.2 hq_))
           replace Hy558 := Aside0.mk (And.intro Hy558.out.1 (Kd.C_below Hy558.out.2 hq_))
           replace Ht570 := Aside0.mk (Kd.V_below Ht570.out hq_)
           replace Ht574 := Aside0.mk (Kd.V_below Ht574.out hq_)
           replace Ht579 := Aside0.mk (Kd.V_below Ht579.out hq_)
           replace Ht583 := Aside0.mk (Kd.V_below Ht583.out hq_)
           replace Ht586 := Aside0.mk (Kd.V_below Ht586.out hq_)
           replace Ht589 := Aside0.mk (Kd.V_below Ht589.out hq_)
           replace Ht593 := Aside0.mk (Kd.V_below Ht593.out hq_)
           replace HB := Aside0.mk (below_step HB.out hq_)
           clear hq_
           go_wp2_with fail
           go_ret
           exact ⟨rfl, HB.out⟩
          ·replace c34 := Bool.eq_false_iff.mpr c34
           subst c34
           have H1 : (none) = some r := by rw [if_neg (show ¬ (false = true) by decide)] at H; exact H
           clear H
           have H := H1
           clear H1
           exact absurd H (by simp)
         ·rw [if_neg c31] at H
          exact absurd H (by simp)
        ·replace c27 := Bool.eq_false_iff.mpr c27
         subst c27
         have H1 : (none) = some r := by rw [if_neg (show ¬ (false = true) by decide)] at H; exact H
         clear H
         have H := H1
         clear H1
         exact absurd H (by simp)
    ·rw [if_neg c8] at H
     exact absurd H (by simp)
   ·rw [if_neg c7] at H
    exact absurd H (by simp)
  ·rw [if_neg c5] at H
   exact absurd H (by simp)
 ·rw [if_neg c4] at H
  exact absurd H (by simp)

end Go.Proofs.Ytgdkgobplinelaa.P
