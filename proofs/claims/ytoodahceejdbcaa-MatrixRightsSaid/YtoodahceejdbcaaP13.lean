-- Written by a program of this session (wip/pp.py over the kit's printer, with our own texts put in).
import Derived.Test.YtoodahceejdbcaaP0
import Derived.Test.YtoodahceejdbcaaP4
import Derived.Test.YtoodahceejdbcaaP5
import Derived.Test.YtoodahceejdbcaaP12
namespace Go.Proofs.Ytoodahceejdbcaa.P
open Go.RowKit Go.Proofs.YtoodahceejdbcaaW.PrintWords Go.Proofs.YtoodahceejdbcaaW.PrintLast Go.Proofs.YtoodahceejdbcaaW.PrintMore
attribute [local go_sem] max2_int min2_int max_two min_two max_three min_three max_four min_four   -- for this text's walks alone
set_option linter.unusedVariables false
set_option linter.unusedSimpArgs false

/-! ### cenotaphlaw10_MatrixRights: function 3 -/
theorem zq3_0 {p_ : Prop} (h_ : p_ := by repeat (first | (with_reducible first | exact HB.out | apply below_alloc | apply pw_below_drewN | apply below_drew1) | exact HB.out)) : p_ := h_
theorem zq3_1 {p_ : Prop} (h_ : p_ := by first | (with_reducible assumption) | assumption) : p_ := h_
def cenotaphlaw10_MatrixRights.l0 : Nat → List (S25) → Int → Option (Bool)
 | 0, _, _ => none
 | k + 1, x0, x3 => if x3 < (x0.length : Int) then (if 0 ≤ x3 then (if (((rd_T25 x0 x3).f1).length : Int) > 60 then ((cenotaphlaw10_told.f k).bind fun t201 => (some t201)) else (cenotaphlaw10_MatrixRights.l0 k x0 (wrap64 (x3 + 1)))) else (none)) else ((cenotaphlaw10_told.f k).bind fun t202 => (if t202 = true then ((cenotaphlaw10_To.f k x0).bind fun t203 => ((matrix_Right.f k t203).bind fun t206 => ((cenotaphref10_Right.f k x0).bind fun t207 => (some (t206 == t207))))) else (none)))
def cenotaphlaw10_MatrixRights.f (k : Nat) (l0 : List (S25)) : Option (Bool) := if 0 ≤ (mn (l0.length : Int) 20) then (if (mn (l0.length : Int) 20) ≤ (l0.length : Int) then (cenotaphlaw10_MatrixRights.l0 k (l0.take ((mn (l0.length : Int) 20) : Int).toNat) 0) else (none)) else (none)
theorem cenotaphlaw10_MatrixRights.mono_l : ∀ k, (∀ y0 y1, LeO (cenotaphlaw10_MatrixRights.l0 k y0 y1) (cenotaphlaw10_MatrixRights.l0 (k + 1) y0 y1))
 | 0 => fun _ _ r h => by simp [cenotaphlaw10_MatrixRights.l0] at h
 | k + 1 => by
  have ih0 := cenotaphlaw10_MatrixRights.mono_l k
  ·intro y0 y1
   unfold cenotaphlaw10_MatrixRights.l0
   repeat' first
   | (with_reducible exact ih0 _ _)
   | (with_reducible exact cenotaphlaw10_To.mono _ _)
   | (with_reducible exact cenotaphlaw10_told.mono _)
   | (with_reducible exact cenotaphref10_Right.mono _ _)
   | (with_reducible exact matrix_Right.mono _ _)
   | (with_reducible exact LeO.refl _)
   | (with_reducible exact LeO.none _)
   | (with_reducible refine LeO.ite ?_ ?_)
   | (with_reducible refine LeO.bind ?_ (fun _ => ?_))
   | exact ih0 _ _
   | exact cenotaphlaw10_To.mono _ _
   | exact cenotaphlaw10_told.mono _
   | exact cenotaphref10_Right.mono _ _
   | exact matrix_Right.mono _ _
   | exact LeO.none _
   | refine LeO.ite ?_ ?_
   | refine LeO.bind ?_ (fun _ => ?_)
theorem cenotaphlaw10_MatrixRights.mono : ∀ a0 k, LeO (cenotaphlaw10_MatrixRights.f k a0) (cenotaphlaw10_MatrixRights.f (k + 1) a0) := by
 intro a0 k
 have ih0 := cenotaphlaw10_MatrixRights.mono_l k
 unfold cenotaphlaw10_MatrixRights.f
 repeat' first
   | (with_reducible exact ih0 _ _)
   | (with_reducible exact cenotaphlaw10_To.mono _ _)
   | (with_reducible exact cenotaphlaw10_told.mono _)
   | (with_reducible exact cenotaphref10_Right.mono _ _)
   | (with_reducible exact matrix_Right.mono _ _)
   | (with_reducible exact LeO.refl _)
   | (with_reducible exact LeO.none _)
   | (with_reducible refine LeO.ite ?_ ?_)
   | (with_reducible refine LeO.bind ?_ (fun _ => ?_))
   | exact ih0 _ _
   | exact cenotaphlaw10_To.mono _ _
   | exact cenotaphlaw10_told.mono _
   | exact cenotaphref10_Right.mono _ _
   | exact matrix_Right.mono _ _
   | exact LeO.none _
   | refine LeO.ite ?_ ?_
   | refine LeO.bind ?_ (fun _ => ?_)
set_option maxHeartbeats 8000000 in
set_option maxRecDepth 100000 in
theorem cenotaphlaw10_MatrixRights.calls (k : Nat) (A0 : Option Addr) (c0 : Nat) (l0 : List (S25)) (r : Bool) (w : World) (hr0 : Kd.C k25 w A0 l0.length l0) (hc0 : l0.length ≤ c0) (h : cenotaphlaw10_MatrixRights.f k l0 = some r) :
  Calls Try.prog 3 #[.slice A0 l0.length c0] w fun e w' => e = .returned (.bool r) ∧ Below w.heap.size w w' := by
 have HR0 := Aside0.mk hr0
 have HC0 := Aside0.mk hc0
 clear hr0 hc0
 have HB := Aside0.mk (Below.refl w.heap.size w)
 have H : (if 0 ≤ (mn (l0.length : Int) 20) then (if (mn (l0.length : Int) 20) ≤ (l0.length : Int) then (cenotaphlaw10_MatrixRights.l0 k (l0.take ((mn (l0.length : Int) 20) : Int).toNat) 0) else (none)) else (none)) = some r := h
 clear h
 obtain ⟨ji2, hji2⟩ : ∃ j_ : Int, (mn (l0.length : Int) 20) = j_ := ⟨_, rfl⟩
 replace H : (if 0 ≤ (ji2) then (if (ji2) ≤ (l0.length : Int) then (cenotaphlaw10_MatrixRights.l0 k (l0.take ((ji2) : Int).toNat) 0) else (none)) else (none)) = some r := by first | (rw [hji2] at H; exact H) | (simp only [hji2] at H ⊢; exact H)
 (try (have hji2h : ji2 ≤ 20 := by (rw [← hji2]; unfold mn; (repeat' split) <;> omega)))
 (try (have hji2g : ji2 ≤ 64 := by omega))
 (try (have hji2l : 0 ≤ ji2 := by (rw [← hji2]; unfold mn; (repeat' split) <;> omega)))
 (try (have hji2m : 0 ≤ ji2 := by omega))
 have hji2_ : (if 20 < (l0.length : Int) then 20 else (l0.length : Int)) = ji2 := hji2
 by_cases c3 : 0 ≤ (ji2)
 ·rw [if_pos c3] at H
  have c3b0 := eq_true c3
  have c3b1 : decide (0 ≤ (ji2)) = true := decide_eq_true c3
  clear c3
  by_cases c4 : (ji2) ≤ (l0.length : Int)
  ·rw [if_pos c4] at H
   have c4b0 := eq_true c4
   have c4b1 : decide ((ji2) ≤ (l0.length : Int)) = true := decide_eq_true c4
   clear c4
   obtain ⟨y196, hy196⟩ : ∃ y_ : List (S25), y_ = (l0.take ((ji2) : Int).toNat) := ⟨_, rfl⟩
   replace H : (cenotaphlaw10_MatrixRights.l0 k y196 0) = some r := by first | (rw [hy196]; with_reducible exact H) | (have H2_ := (Option.bind_some _ _).symm.trans H; rw [hy196]; with_reducible exact H2_) | (have H2_ := (Option.bind_some _ _).symm.trans H; with_reducible exact H2_) | with_reducible exact H | (rw [hy196]; exact H) | exact H
   have Ny196 := Aside0.mk hy196
   clear hy196
   have H' := Aside0.mk H
   clear H
   have q5 : ((ji2) : Int) ≤ ((l0.length : Int) : Int) := of_decide_eq_true zq3_1
   obtain ⟨i05, hi05, _, hsz5, _⟩ := info_parts info25
   have hroom5 : l0.length ≤ c0 := HC0.out
   have hC5 : Kd.C k25 _ A0 l0.length l0 := HR0.out
   have hcut5 := cut_to (P := Try.prog) 22 25 .i64 Try.underlying22 hi05 A0 l0.length c0 (ji2) (of_decide_eq_true zq3_1) q5 hroom5
   have hr5 := Kd.C_take (m := ((ji2) : Int).toNat) hC5 (by omega)
   have hy5 : y196.length = ((ji2) : Int).toNat := (by rw [Ny196.out, List.length_take]; omega)
   rw [← Ny196.out] at hr5
   rw [← hy5] at hcut5
   have HR199 := Aside0.mk hr5
   have HC199 := Aside0.mk (show y196.length ≤ c0 from by omega)
   clear hr5 hC5 hroom5 hi05 hsz5
   have KY5 := Aside0.mk hy5
   clear hy5
   replace q5 := eq_true q5
   go_enter Try.func3, Try.ntmps3
   go_wp2
   go_loopg [3] k (fun kq v3 w' => ∃ (x3_1 : Int), v3 = .int .i64 x3_1 ∧ Aside0 (cenotaphlaw10_MatrixRights.l0 kq y196 x3_1 = some r) ∧ Aside0 (kq ≤ k) ∧ Aside0 (Below w.heap.size w w'))
   case atStart => exact ⟨(0), (by first | rfl | (simp; done) | (simp [*]; done)), H', ⟨Nat.le_refl _⟩, ⟨by repeat (first | (with_reducible first | exact HB.out | apply below_alloc | apply pw_below_drewN | apply below_drew1) | exact HB.out)⟩⟩
   case round =>
    clear H'
    try clear p2
    try clear c3
    try clear c3b0
    try clear c3b1
    try clear c4
    try clear c4b0
    try clear c4b1
    try clear q5
    try clear q5
    obtain ⟨x3_1, rfl, HA, HK1, HB⟩ := hrel
    cases gk with
    | zero => exact absurd HA.out (by simp [cenotaphlaw10_MatrixRights.l0])
    | succ k1 =>
     have H := HA.out
     clear HA
     simp only [cenotaphlaw10_MatrixRights.l0] at H
     by_cases c6 : x3_1 < (y196.length : Int)
     ·rw [if_pos c6] at H
      have c6b0 : decide (x3_1 < (y196.length : Int)) = true := decide_eq_true c6
      clear c6
      by_cases c7 : 0 ≤ x3_1
      ·rw [if_pos c7] at H
       have c7b0 : decide (0 ≤ x3_1) = true := decide_eq_true c7
       clear c7
       by_cases c8 : (((rd_T25 y196 x3_1).f1).length : Int) > 60
       ·rw [if_pos c8] at H
        have c8b0 : decide (60 < (((rd_T25 y196 x3_1).f1).length : Int)) = true := decide_eq_true c8
        have c8b1 : decide (60 < ((rd_T25 y196 x3_1).f1).length) = true := decide_eq_true (by omega)
        clear c8
        replace H := Option.bind_eq_some_iff.mp H
        obtain ⟨t201, A90, H⟩ := H
        replace H : (some t201) = some r := H
        have A9 := Aside0.mk A90
        clear A90
        obtain rfl := Option.some.inj H
        have p200 : 0 ≤ (x3_1 : Int) := of_decide_eq_true zq3_1
        have q200 : x3_1 < (y196.length : Int) := of_decide_eq_true zq3_1
        obtain ⟨ad200, A200_1, c200_1, e200, hx200_0, hx200_1, hl200_1, hi200_1⟩ := at_T25 HR199.out x3_1 p200 q200
        cases e200
        replace hx200_0 := (HB.out.cell (World.block_lt_of_cell? w _ hx200_0)).trans hx200_0
        replace hx200_1 := (HB.out.cell (World.block_lt_of_cell? w _ hx200_1)).trans hx200_1
        have HR200_1 := Aside0.mk hi200_1
        have HC200_1 := Aside0.mk hl200_1
        clear hi200_1 hl200_1
        replace p200 := eq_true p200
        replace q200 := eq_true q200
        go_wp2_with (first | ((with_reducible refine gate_callee (f := 8) rfl ?_); refine goesL_ (some 22) rfl rfl Try.func8 (by kernel_rfl) rfl #[] rfl (by (try simp only [List.map_toArray, List.map_cons, List.map_nil]); first | done | rfl | (simp only [List.length_drop, List.length_take]; rfl)) ?_; (with_reducible refine (cenotaphlaw10_told.calls k1  t201 _ A9.out).mono ?_); rintro e w10 ⟨rfl, hb⟩; refine ⟨_, rfl, ?_⟩; have n0_ := Aside0.mk (below_step zq3_0 hb); clear HB; have HB := n0_; clear n0_; (try clear hb); (try clear hb2); (try clear hk); (try clear hi)))
        go_ret
        exact ⟨by first | rfl | (simp [errW_none, errW_some] <;> rfl) | (simp only [← hji2]; first | rfl | (simp [errW_none, errW_some] <;> rfl)) | (simp [*, errW_none, errW_some] <;> rfl), by repeat (first | (with_reducible first | exact HB.out | apply below_alloc | apply pw_below_drewN | apply below_drew1) | exact HB.out)⟩
       ·rw [if_neg c8] at H
        have c8b0 : decide (60 < (((rd_T25 y196 x3_1).f1).length : Int)) = false := decide_eq_false c8
        have c8b1 : decide (60 < ((rd_T25 y196 x3_1).f1).length) = false := decide_eq_false (by omega)
        clear c8
        have H' := Aside0.mk H
        clear H
        have p200 : 0 ≤ (x3_1 : Int) := of_decide_eq_true zq3_1
        have q200 : x3_1 < (y196.length : Int) := of_decide_eq_true zq3_1
        obtain ⟨ad200, A200_1, c200_1, e200, hx200_0, hx200_1, hl200_1, hi200_1⟩ := at_T25 HR199.out x3_1 p200 q200
        cases e200
        replace hx200_0 := (HB.out.cell (World.block_lt_of_cell? w _ hx200_0)).trans hx200_0
        replace hx200_1 := (HB.out.cell (World.block_lt_of_cell? w _ hx200_1)).trans hx200_1
        have HR200_1 := Aside0.mk hi200_1
        have HC200_1 := Aside0.mk hl200_1
        clear hi200_1 hl200_1
        replace p200 := eq_true p200
        replace q200 := eq_true q200
        go_wp2
        go_roundg k1
        case measure => have := HK1.out; omega
        case rel => exact ⟨(wrap64 (x3_1 + 1)), (by first | rfl | (simp; done) | (simp [*]; done)), H', ⟨by have := HK1.out; omega⟩, ⟨by repeat (first | (with_reducible first | exact HB.out | apply below_alloc | apply pw_below_drewN | apply below_drew1) | exact HB.out)⟩⟩
      ·rw [if_neg c7] at H
       exact absurd H (by simp)
     ·rw [if_neg c6] at H
      have c6b0 : decide (x3_1 < (y196.length : Int)) = false := decide_eq_false c6
      clear c6
      replace H := Option.bind_eq_some_iff.mp H
      obtain ⟨t202, A110, H⟩ := H
      replace H : (if t202 = true then ((cenotaphlaw10_To.f k1 y196).bind fun t203 => ((matrix_Right.f k1 t203).bind fun t206 => ((cenotaphref10_Right.f k1 y196).bind fun t207 => (some (t206 == t207))))) else (none)) = some r := H
      have A11 := Aside0.mk A110
      clear A110
      by_cases c12 : t202 = true
      ·subst c12
       have H1 : ((cenotaphlaw10_To.f k1 y196).bind fun t203 => ((matrix_Right.f k1 t203).bind fun t206 => ((cenotaphref10_Right.f k1 y196).bind fun t207 => (some (t206 == t207))))) = some r := by rw [if_pos rfl] at H; exact H
       clear H
       have H := H1
       clear H1
       replace H := Option.bind_eq_some_iff.mp H
       obtain ⟨t203, A130, H⟩ := H
       replace H : ((matrix_Right.f k1 t203).bind fun t206 => ((cenotaphref10_Right.f k1 y196).bind fun t207 => (some (t206 == t207)))) = some r := H
       have A13 := Aside0.mk A130
       clear A130
       replace H := Option.bind_eq_some_iff.mp H
       obtain ⟨t206, A140, H⟩ := H
       replace H : ((cenotaphref10_Right.f k1 y196).bind fun t207 => (some (t206 == t207))) = some r := H
       have A14 := Aside0.mk A140
       clear A140
       replace H := Option.bind_eq_some_iff.mp H
       obtain ⟨t207, A150, H⟩ := H
       replace H : (some (t206 == t207)) = some r := H
       have A15 := Aside0.mk A150
       clear A150
       obtain rfl := Option.some.inj H
       go_wp2_with (first | ((with_reducible refine gate_callee (f := 8) rfl ?_); refine goesL_ (some 23) rfl rfl Try.func8 (by kernel_rfl) rfl #[] rfl (by (try simp only [List.map_toArray, List.map_cons, List.map_nil]); first | done | rfl | (simp only [List.length_drop, List.length_take]; rfl)) ?_; (with_reducible refine (cenotaphlaw10_told.calls k1  true _ A11.out).mono ?_); rintro e w16 ⟨rfl, hb⟩; refine ⟨_, rfl, ?_⟩; have n0_ := Aside0.mk (below_step zq3_0 hb); clear HB; have HB := n0_; clear n0_; (try clear hb); (try clear hb2); (try clear hk); (try clear hi)) | (go_at_call 10; (with_reducible refine (cenotaphlaw10_To.calls k1 _ _ y196 t203 _ ?side1 ?side2 A13.out).mono ?_); (case side1 => repeat (first | exact (Kd.C_below HR199.out HB.out) | (with_reducible refine Kd.C_alloc ?_ _) | (with_reducible refine Kd.C_drewN ?_ _) | (with_reducible refine Kd.C_drew ?_))); (case side2 => exact HC199.out); rintro e w17 ⟨v204, rfl, ho0, hb⟩; have n0_ := Aside0.mk (Kd.S_lower ho0 (below_size zq3_0)); have n1_ := Aside0.mk (below_step zq3_0 hb); clear HB; have HO205 := n0_; have HB := n1_; clear n0_ n1_; (try clear hb); (try clear hb2); (try clear hk); (try clear hi); (try clear ho0); obtain ⟨Ao18, co18, eo18⟩ := Kd.S_slice HO205.out; subst eo18) | (go_at_call 9; (with_reducible refine (matrix_Right.calls k1 _ _ t203 t206 _ ?side1 ?side2 A14.out).mono ?_); (case side1 => repeat (first | exact (Kd.S_reads' HO205.out).2.2 | (with_reducible refine Kd.C_alloc ?_ _) | (with_reducible refine Kd.C_drewN ?_ _) | (with_reducible refine Kd.C_drew ?_))); (case side2 => exact (Kd.S_reads' HO205.out).2.1); rintro e w19 ⟨rfl, hb⟩; have n0_ := Aside0.mk (Kd.S_below (by (with_reducible repeat (first | apply Kd.S_alloc | apply Kd.S_drewN | apply Kd.S_drew)); exact HO205.out) hb); have n1_ := Aside0.mk (below_step zq3_0 hb); clear HO205; clear HB; have HO205 := n0_; have HB := n1_; clear n0_ n1_; (try clear hb); (try clear hb2); (try clear hk); (try clear hi)) | (go_at_call 11; (with_reducible refine (cenotaphref10_Right.calls k1 _ _ y196 t207 _ ?side1 ?side2 A15.out).mono ?_); (case side1 => repeat (first | exact (Kd.C_below HR199.out HB.out) | (with_reducible refine Kd.C_alloc ?_ _) | (with_reducible refine Kd.C_drewN ?_ _) | (with_reducible refine Kd.C_drew ?_))); (case side2 => exact HC199.out); rintro e w20 ⟨rfl, hb⟩; have n0_ := Aside0.mk (Kd.S_below (by (with_reducible repeat (first | apply Kd.S_alloc | apply Kd.S_drewN | apply Kd.S_drew)); exact HO205.out) hb); have n1_ := Aside0.mk (below_step zq3_0 hb); clear HO205; clear HB; have HO205 := n0_; have HB := n1_; clear n0_ n1_; (try clear hb); (try clear hb2); (try clear hk); (try clear hi)))
       go_ret
       exact ⟨by first | rfl | (simp [errW_none, errW_some] <;> rfl) | (simp only [← hji2]; first | rfl | (simp [errW_none, errW_some] <;> rfl)) | (simp [*, errW_none, errW_some] <;> rfl), by repeat (first | (with_reducible first | exact HB.out | apply below_alloc | apply pw_below_drewN | apply below_drew1) | exact HB.out)⟩
      ·replace c12 := Bool.eq_false_iff.mpr c12
       subst c12
       have H1 : (none) = some r := by rw [if_neg (show ¬ (false = true) by decide)] at H; exact H
       clear H
       have H := H1
       clear H1
       exact absurd H (by simp)
  ·rw [if_neg c4] at H
   exact absurd H (by simp)
 ·rw [if_neg c3] at H
  exact absurd H (by simp)

end Go.Proofs.Ytoodahceejdbcaa.P
