-- Written by a program of this session (wip/pp.py over the kit's printer, with our own texts put in).
import Derived.Test.YtoodahceejdbcaaP0
import Derived.Test.YtoodahceejdbcaaP2
namespace Go.Proofs.Ytoodahceejdbcaa.P
open Go.RowKit Go.Proofs.YtoodahceejdbcaaW.PrintWords Go.Proofs.YtoodahceejdbcaaW.PrintLast Go.Proofs.YtoodahceejdbcaaW.PrintMore
attribute [local go_sem] max2_int min2_int max_two min_two max_three min_three max_four min_four   -- for this text's walks alone
set_option linter.unusedVariables false
set_option linter.unusedSimpArgs false

attribute [local go_sem high] eqA76
/-! ### cenotaphref03_Same: function 16 -/
def cenotaphref03_Same.l0 : Nat → List (S76) → List (S76) → Int → Option (Bool)
  | 0, _, _, _ => none
  | k + 1, x0, x1, x5 => if x5 < (x0.length : Int) then (if 0 ≤ x5 then (if x5 < (x1.length : Int) then (if (!((((rd_T76 x0 x5).f0).toList) == (((rd_T76 x1 x5).f0).toList)) || (!(((rd_T76 x0 x5).f1) == ((rd_T76 x1 x5).f1)))) = true then (some false) else (cenotaphref03_Same.l0 k x0 x1 (wrap64 (x5 + 1)))) else (none)) else (none)) else (some true)
def cenotaphref03_Same.f (k : Nat) (l0 : List (S76)) (l1 : List (S76)) : Option (Bool) := if (l0.length : Int) = (l1.length : Int) then (cenotaphref03_Same.l0 k l0 l1 0) else (some false)
theorem cenotaphref03_Same.mono_l : ∀ k, (∀ y0 y1 y2, LeO (cenotaphref03_Same.l0 k y0 y1 y2) (cenotaphref03_Same.l0 (k + 1) y0 y1 y2))
  | 0 => fun _ _ _ r h => by simp [cenotaphref03_Same.l0] at h
  | k + 1 => by
    have ih0 := cenotaphref03_Same.mono_l k
    · intro y0 y1 y2
      unfold cenotaphref03_Same.l0
      repeat' first
      | (with_reducible exact ih0 _ _ _)
      | (with_reducible exact LeO.refl _)
      | (with_reducible exact LeO.none _)
      | (with_reducible refine LeO.ite ?_ ?_)
      | (with_reducible refine LeO.bind ?_ (fun _ => ?_))
      | exact ih0 _ _ _
      | exact LeO.none _
      | refine LeO.ite ?_ ?_
      | refine LeO.bind ?_ (fun _ => ?_)
theorem cenotaphref03_Same.mono : ∀ a0 a1 k, LeO (cenotaphref03_Same.f k a0 a1) (cenotaphref03_Same.f (k + 1) a0 a1) := by
  intro a0 a1 k
  have ih0 := cenotaphref03_Same.mono_l k
  unfold cenotaphref03_Same.f
  repeat' first
      | (with_reducible exact ih0 _ _ _)
      | (with_reducible exact LeO.refl _)
      | (with_reducible exact LeO.none _)
      | (with_reducible refine LeO.ite ?_ ?_)
      | (with_reducible refine LeO.bind ?_ (fun _ => ?_))
      | exact ih0 _ _ _
      | exact LeO.none _
      | refine LeO.ite ?_ ?_
      | refine LeO.bind ?_ (fun _ => ?_)
set_option maxHeartbeats 8000000 in
set_option maxRecDepth 100000 in
theorem cenotaphref03_Same.calls (k : Nat) (A0 : Option Addr) (c0 : Nat) (l0 : List (S76)) (A1 : Option Addr) (c1 : Nat) (l1 : List (S76)) (r : Bool) (w : World) (hr0 : Kd.C k76 w A0 l0.length l0) (hc0 : l0.length ≤ c0) (hr1 : Kd.C k76 w A1 l1.length l1) (hc1 : l1.length ≤ c1) (h : cenotaphref03_Same.f k l0 l1 = some r) :
    Calls Try.prog 16 #[.slice A0 l0.length c0, .slice A1 l1.length c1] w fun e w' => e = .returned (.bool r) ∧ Drawn0 w w' := by
  have hu76 := Try.underlying76
  have HR0 := Aside0.mk hr0
  have HC0 := Aside0.mk hc0
  clear hr0 hc0
  have HR1 := Aside0.mk hr1
  have HC1 := Aside0.mk hc1
  clear hr1 hc1
  have H : (if (l0.length : Int) = (l1.length : Int) then (cenotaphref03_Same.l0 k l0 l1 0) else (some false)) = some r := h
  clear h
  by_cases c3 : (l0.length : Int) = (l1.length : Int)
  · rw [if_pos c3] at H
    have c3b0 : ((l0.length : Int) == (l1.length : Int)) = true := beq_iff_eq.mpr c3
    have c3b1 : ((l0.length : Int) != (l1.length : Int)) = false := bne_eq_false_iff_eq.mpr c3
    have c3b2 : (l0.length == l1.length) = true := by first | simpa using c3 | (simp at c3 ⊢; omega)
    clear c3
    have H' := Aside0.mk H
    clear H
    go_enter Try.func16, Try.ntmps16
    go_wp2
    repeat (go_quiet (fail); try go_wp2)
    go_loopg [5] k (fun kq v5 w' => ∃ (x5_1 : Int), v5 = .int .i64 x5_1 ∧ Aside0 (cenotaphref03_Same.l0 kq l0 l1 x5_1 = some r) ∧ Aside0 (kq ≤ k) ∧ Drawn0 w w')
    case atStart => exact ⟨(0), (by first | rfl | (simp; done) | (simp [*]; done)), H', ⟨Nat.le_refl _⟩, by repeat (first | exact Drawn0.refl _ | apply Drawn0.step)⟩
    case round =>
      clear H'
      try clear c1
      try clear p2
      try clear c3
      try clear c3b0
      try clear c3b1
      try clear c3b2
      obtain ⟨x5_1, rfl, HA, HK1, ⟨m1, rfl⟩⟩ := hrel
      cases gk with
      | zero => exact absurd HA.out (by simp [cenotaphref03_Same.l0])
      | succ k1 =>
        have H := HA.out
        clear HA
        simp only [cenotaphref03_Same.l0] at H
        by_cases c4 : x5_1 < (l0.length : Int)
        · rw [if_pos c4] at H
          have c4b0 : decide (x5_1 < (l0.length : Int)) = true := decide_eq_true c4
          clear c4
          by_cases c5 : 0 ≤ x5_1
          · rw [if_pos c5] at H
            have c5b0 : decide (0 ≤ x5_1) = true := decide_eq_true c5
            clear c5
            by_cases c6 : x5_1 < (l1.length : Int)
            · rw [if_pos c6] at H
              have c6b0 : decide (x5_1 < (l1.length : Int)) = true := decide_eq_true c6
              clear c6
              by_cases c7 : (!((((rd_T76 l0 x5_1).f0).toList) == (((rd_T76 l1 x5_1).f0).toList)) || (!(((rd_T76 l0 x5_1).f1) == ((rd_T76 l1 x5_1).f1)))) = true
              · rw [if_pos c7] at H
                have c7b0 : (!((((rd_T76 l0 x5_1).f0).toList) == (((rd_T76 l1 x5_1).f0).toList)) || (!(((rd_T76 l0 x5_1).f1) == ((rd_T76 l1 x5_1).f1)))) = true := c7
                clear c7
                obtain rfl := Option.some.inj H
                have p290 : 0 ≤ (x5_1 : Int) := of_decide_eq_true (by first | (with_reducible assumption) | assumption)
                have q290 : x5_1 < (l0.length : Int) := of_decide_eq_true (by first | (with_reducible assumption) | assumption)
                obtain ⟨ad290, e290, hx290_0, hx290_1⟩ := at_T76 HR0.out x5_1 p290 q290
                cases e290
                replace p290 := eq_true p290
                replace q290 := eq_true q290
                have p291 : 0 ≤ (x5_1 : Int) := of_decide_eq_true (by first | (with_reducible assumption) | assumption)
                have q291 : x5_1 < (l1.length : Int) := of_decide_eq_true (by first | (with_reducible assumption) | assumption)
                obtain ⟨ad291, e291, hx291_0, hx291_1⟩ := at_T76 HR1.out x5_1 p291 q291
                cases e291
                replace p291 := eq_true p291
                replace q291 := eq_true q291
                go_wp2
                repeat (go_quiet (fail); try go_wp2)
                go_ret
                exact ⟨by first | rfl | (simp; done) | (simp [*]; done), by repeat (first | exact Drawn0.refl _ | apply Drawn0.step)⟩
              · rw [if_neg c7] at H
                have c7b0 : (!((((rd_T76 l0 x5_1).f0).toList) == (((rd_T76 l1 x5_1).f0).toList)) || (!(((rd_T76 l0 x5_1).f1) == ((rd_T76 l1 x5_1).f1)))) = false := by simpa using c7
                clear c7
                have H' := Aside0.mk H
                clear H
                have p290 : 0 ≤ (x5_1 : Int) := of_decide_eq_true (by first | (with_reducible assumption) | assumption)
                have q290 : x5_1 < (l0.length : Int) := of_decide_eq_true (by first | (with_reducible assumption) | assumption)
                obtain ⟨ad290, e290, hx290_0, hx290_1⟩ := at_T76 HR0.out x5_1 p290 q290
                cases e290
                replace p290 := eq_true p290
                replace q290 := eq_true q290
                have p291 : 0 ≤ (x5_1 : Int) := of_decide_eq_true (by first | (with_reducible assumption) | assumption)
                have q291 : x5_1 < (l1.length : Int) := of_decide_eq_true (by first | (with_reducible assumption) | assumption)
                obtain ⟨ad291, e291, hx291_0, hx291_1⟩ := at_T76 HR1.out x5_1 p291 q291
                cases e291
                replace p291 := eq_true p291
                replace q291 := eq_true q291
                go_wp2
                repeat (go_quiet (fail); try go_wp2)
                go_roundg k1
                case measure => have := HK1.out; omega
                case rel => exact ⟨(wrap64 (x5_1 + 1)), (by first | rfl | (simp; done) | (simp [*]; done)), H', ⟨by have := HK1.out; omega⟩, by repeat (first | exact Drawn0.refl _ | apply Drawn0.step)⟩
            · rw [if_neg c6] at H
              exact absurd H (by simp)
          · rw [if_neg c5] at H
            exact absurd H (by simp)
        · rw [if_neg c4] at H
          have c4b0 : decide (x5_1 < (l0.length : Int)) = false := decide_eq_false c4
          clear c4
          obtain rfl := Option.some.inj H
          go_wp2
          repeat (go_quiet (fail); try go_wp2)
          go_ret
          exact ⟨by first | rfl | (simp; done) | (simp [*]; done), by repeat (first | exact Drawn0.refl _ | apply Drawn0.step)⟩
  · rw [if_neg c3] at H
    have c3b0 : ((l0.length : Int) == (l1.length : Int)) = false := beq_eq_false_iff_ne.mpr c3
    have c3b1 : ((l0.length : Int) != (l1.length : Int)) = true := bne_iff_ne.mpr c3
    have c3b2 : (l0.length == l1.length) = false := by first | simpa using c3 | (simp at c3 ⊢; omega)
    obtain rfl := Option.some.inj H
    go_enter Try.func16, Try.ntmps16
    go_wp2
    repeat (go_quiet (fail); try go_wp2)
    go_ret
    exact ⟨by first | rfl | (simp; done) | (simp [*]; done), by repeat (first | exact Drawn0.refl _ | apply Drawn0.step)⟩

/-! ### cenotaphlaw03_From: function 17 -/
def cenotaphlaw03_From.l0 : Nat → List (S67) → List (S76) → Int → Option ((List (S76)))
  | 0, _, _, _ => none
  | k + 1, x0, x3, x4 => if x4 < (x0.length : Int) then (if 0 ≤ x4 then (if x3.length < 5864062014805 then (cenotaphlaw03_From.l0 k x0 (x3 ++ [(⟨(rd_T67 x0 x4).f0, (rd_T67 x0 x4).f1⟩ : S76)]) (wrap64 (x4 + 1))) else (none)) else (none)) else (some x3)
def cenotaphlaw03_From.f (k : Nat) (l0 : List (S67)) : Option ((List (S76))) := cenotaphlaw03_From.l0 k l0 ([] : List (S76)) 0
theorem cenotaphlaw03_From.mono_l : ∀ k, (∀ y0 y1 y2, LeO (cenotaphlaw03_From.l0 k y0 y1 y2) (cenotaphlaw03_From.l0 (k + 1) y0 y1 y2))
  | 0 => fun _ _ _ r h => by simp [cenotaphlaw03_From.l0] at h
  | k + 1 => by
    have ih0 := cenotaphlaw03_From.mono_l k
    · intro y0 y1 y2
      unfold cenotaphlaw03_From.l0
      repeat' first
      | (with_reducible exact ih0 _ _ _)
      | (with_reducible exact LeO.refl _)
      | (with_reducible exact LeO.none _)
      | (with_reducible refine LeO.ite ?_ ?_)
      | (with_reducible refine LeO.bind ?_ (fun _ => ?_))
      | exact ih0 _ _ _
      | exact LeO.none _
      | refine LeO.ite ?_ ?_
      | refine LeO.bind ?_ (fun _ => ?_)
theorem cenotaphlaw03_From.mono : ∀ a0 k, LeO (cenotaphlaw03_From.f k a0) (cenotaphlaw03_From.f (k + 1) a0) := by
  intro a0 k
  have ih0 := cenotaphlaw03_From.mono_l k
  unfold cenotaphlaw03_From.f
  repeat' first
      | (with_reducible exact ih0 _ _ _)
      | (with_reducible exact LeO.refl _)
      | (with_reducible exact LeO.none _)
      | (with_reducible refine LeO.ite ?_ ?_)
      | (with_reducible refine LeO.bind ?_ (fun _ => ?_))
      | exact ih0 _ _ _
      | exact LeO.none _
      | refine LeO.ite ?_ ?_
      | refine LeO.bind ?_ (fun _ => ?_)
def cenotaphlaw03_From.T5 : Bool × List (List Nat × List Nat) := (true, [([], []), ([], []), ([], []), ([1, 2], [1, 2]), ([3], [3]), ([4], [4]), ([], []), ([], []), ([6, 7], [6, 7]), ([8], [8]), ([9], [9]), ([5, 10], [5, 10]), ([11], [11]), ([0, 12], [0, 12]), ([13, 13, 0, 1, 2, 3, 4, 5, 6, 7, 8, 9, 10, 11, 12, 13], [0, 13])])
def cenotaphlaw03_From.B5 : List Nat := [0, 0, 0, 6, 14, 30, 0, 0, 192, 448, 960, 2046, 4094, 8191, 16383]
theorem cenotaphlaw03_From.tab5 : rtab .any (opsOf Try.f17 5) = cenotaphlaw03_From.T5 := by kernel_rfl
theorem cenotaphlaw03_From.bits5 : waitsOk cenotaphlaw03_From.T5.2 cenotaphlaw03_From.B5 = true := by kernel_rfl
set_option maxHeartbeats 8000000 in
set_option maxRecDepth 100000 in
theorem cenotaphlaw03_From.calls (k : Nat) (A0 : Option Addr) (c0 : Nat) (l0 : List (S67)) (r : List (S76)) (w : World) (hr0 : Kd.C k67 w A0 l0.length l0) (hc0 : l0.length ≤ c0) (h : cenotaphlaw03_From.f k l0 = some r) :
    Calls Try.prog 17 #[.slice A0 l0.length c0] w fun e w' => ∃ v0_ : Value, e = .returned (v0_) ∧ Kd.R k76 76 w' w.heap.size (fun _ => True) v0_ r ∧ Below w.heap.size w w' := by
  have hu76 := Try.underlying76
  have HR0 := Aside0.mk hr0
  have HC0 := Aside0.mk hc0
  clear hr0 hc0
  have HB := Aside0.mk (Below.refl w.heap.size w)
  have H : (cenotaphlaw03_From.l0 k l0 ([] : List (S76)) 0) = some r := h
  clear h
  have H' := Aside0.mk H
  clear H
  go_enter Try.func17, Try.ntmps17
  go_wp2
  go_loopg [3, 4] k (fun kq v3 v4 w' => ∃ (x3_1 : List (S76)) (x4_1 : Int), v4 = .int .i64 x4_1 ∧ Aside0 (cenotaphlaw03_From.l0 kq l0 x3_1 x4_1 = some r) ∧ Aside0 (kq ≤ k) ∧ Aside0 (Kd.R k76 76 w' w.heap.size (fun _ => True) v3 x3_1) ∧ Aside0 (Below w.heap.size w w'))
  case atStart => exact ⟨(([] : List (S76))), (0), (by first | rfl | (simp; done) | (simp [*]; done)), H', ⟨Nat.le_refl _⟩, ⟨by first | exact Kd.R_nil _ _ _ _ _ | exact Kd.N_nil _ _ _ _ _ | exact Kd.V_nil _ _ _ _ _ | exact Kd.Q_nil _ _ _ _ _ | exact Kd.S_nil _ _ _ _ _⟩, ⟨by repeat (first | (with_reducible first | exact HB.out | apply below_alloc | apply pw_below_drewN | apply below_drew1) | exact HB.out)⟩⟩
  case round =>
    clear H'
    try clear c1
    obtain ⟨x3_1, x4_1, rfl, HA, HK1, HO_3, HB⟩ := hrel
    cases gk with
    | zero => exact absurd HA.out (by simp [cenotaphlaw03_From.l0])
    | succ k1 =>
      have H := HA.out
      clear HA
      simp only [cenotaphlaw03_From.l0] at H
      by_cases c2 : x4_1 < (l0.length : Int)
      · rw [if_pos c2] at H
        have c2b0 : decide (x4_1 < (l0.length : Int)) = true := decide_eq_true c2
        clear c2
        by_cases c3 : 0 ≤ x4_1
        · rw [if_pos c3] at H
          have c3b0 : decide (0 ≤ x4_1) = true := decide_eq_true c3
          clear c3
          by_cases c4 : x3_1.length < 5864062014805
          · rw [if_pos c4] at H
            have LMc4 := Aside0.mk c4
            clear c4
            obtain ⟨y294, hy294⟩ : ∃ y_ : List (S76), y_ = (x3_1 ++ [(⟨(rd_T67 l0 x4_1).f0, (rd_T67 l0 x4_1).f1⟩ : S76)]) := ⟨_, rfl⟩
            replace H : (cenotaphlaw03_From.l0 k1 l0 y294 (wrap64 (x4_1 + 1))) = some r := by first | (rw [hy294]; with_reducible exact H) | (have H2_ := (Option.bind_some _ _).symm.trans H; rw [hy294]; with_reducible exact H2_) | (have H2_ := (Option.bind_some _ _).symm.trans H; with_reducible exact H2_) | with_reducible exact H | (rw [hy294]; exact H) | exact H
            have Ny294 := Aside0.mk hy294
            clear hy294
            have H' := Aside0.mk H
            clear H
            try go_wp2
            have n0_ := Aside0.mk (Kd.R_drew HO_3.out)
            have n1_ := Aside0.mk (below_drew1 HB.out)
            clear HO_3
            clear HB
            have HO_3 := n0_
            have HB := n1_
            clear n0_ n1_
            have p292 : 0 ≤ (x4_1 : Int) := of_decide_eq_true (by first | (with_reducible assumption) | assumption)
            have q292 : x4_1 < (l0.length : Int) := of_decide_eq_true (by first | (with_reducible assumption) | assumption)
            obtain ⟨ad292, e292, hx292_0, hx292_1⟩ := at_T67 HR0.out x4_1 p292 q292
            have hw292_1 := hx292_1
            have hw292_0 := hx292_0
            cases e292
            replace hx292_0 := (HB.out.cell (World.block_lt_of_cell? w _ hx292_0)).trans hx292_0
            replace hx292_1 := (HB.out.cell (World.block_lt_of_cell? w _ hx292_1)).trans hx292_1
            replace p292 := eq_true p292
            replace q292 := eq_true q292
            have p293 : 0 ≤ (x4_1 : Int) := of_decide_eq_true (by first | (with_reducible assumption) | assumption)
            have q293 : x4_1 < (l0.length : Int) := of_decide_eq_true (by first | (with_reducible assumption) | assumption)
            obtain ⟨ad293, e293, hx293_0, hx293_1⟩ := at_T67 HR0.out x4_1 p293 q293
            have hw293_1 := hx293_1
            have hw293_0 := hx293_0
            obtain rfl : ad292 = ad293 := (by injection e293)
            replace hx293_0 := (HB.out.cell (World.block_lt_of_cell? w _ hx293_0)).trans hx293_0
            replace hx293_1 := (HB.out.cell (World.block_lt_of_cell? w _ hx293_1)).trans hx293_1
            replace p293 := eq_true p293
            replace q293 := eq_true q293
            refine start_ (n := 15) (S := fun w' => w'.cell? (ad292.add ((x4_1).toNat * 2)) = some (.string ((rd_T67 l0 x4_1).f0)) ∧ w'.cell? ⟨(ad292.add ((x4_1).toNat * 2)).block, (ad292.add ((x4_1).toNat * 2)).off + 1, none⟩ = some (.int .i64 ((rd_T67 l0 x4_1).f1)) ∧ w'.cell? (ad292.add ((x4_1).toNat * 2)) = some (.string ((rd_T67 l0 x4_1).f0)) ∧ w'.cell? ⟨(ad292.add ((x4_1).toNat * 2)).block, (ad292.add ((x4_1).toNat * 2)).off + 1, none⟩ = some (.int .i64 ((rd_T67 l0 x4_1).f1))) (ds := []) #[false, false, false, false, false, false, false, false, false, false, false, false, false, false, false] (by kernel_rfl) rfl rfl ⟨((HB.out.cell (World.block_lt_of_cell? w _ hw292_0)).trans hw292_0), ((HB.out.cell (World.block_lt_of_cell? w _ hw292_1)).trans hw292_1), ((HB.out.cell (World.block_lt_of_cell? w _ hw293_0)).trans hw293_0), ((HB.out.cell (World.block_lt_of_cell? w _ hw293_1)).trans hw293_1)⟩ (fun hHeld => ?_); refine with_tabW cenotaphlaw03_From.tab5 cenotaphlaw03_From.bits5 (fun HT_ HW_ => ?_)
            generalize wr.drew = w5 at HO_3 HB hx292_0 hx292_1 hx293_0 hx293_1 hHeld ⊢
            refine p_ 0 11 (mk_ 15 0x1) ?_
            refine p_ 1 12 (mk_ 15 0x3) ?_
            refine p_ 2 13 (mk_ 15 0x7) ?_
            refine p_ 3 14 (mk_ 15 0xf) ?_
            refine p_ 4 15 (mk_ 15 0x1f) ?_
            refine p_ 6 17 (mk_ 15 0x5f) ?_
            refine p_ 7 18 (mk_ 15 0xdf) ?_
            refine p_ 8 19 (mk_ 15 0x1df) ?_
            refine p_ 9 20 (mk_ 15 0x3df) ?_
            refine t_ 5 16 (mk_ 15 0x3ff) hHeld ?_
            refine t_ 10 21 (mk_ 15 0x7ff) hHeld ?_
            refine p_ 11 22 (mk_ 15 0xfff) ?_
            refine one_ (i := 12) (N := some 23) #[true, true, true, true, true, true, true, true, true, true, true, true, true, false, false] rfl rfl (one_of HT_.out (by kernel_rfl)) (by decide) (fun K hK => ?_)
            refine value_ (w1 := ?_) (v := ?_) (by rfl) rfl ?_ ?_
            rotate_left 2
            · go_simp
              constructor
              · rfl
              · rfl
            refine hK.out _ _ ⟨(World.cell?_alloc_lt _ _ _ (World.block_lt_of_cell? _ _ (((HB.out.cell (World.block_lt_of_cell? w _ hw292_0)).trans hw292_0)))).trans (((HB.out.cell (World.block_lt_of_cell? w _ hw292_0)).trans hw292_0)), (World.cell?_alloc_lt _ _ _ (World.block_lt_of_cell? _ _ (((HB.out.cell (World.block_lt_of_cell? w _ hw292_1)).trans hw292_1)))).trans (((HB.out.cell (World.block_lt_of_cell? w _ hw292_1)).trans hw292_1)), (World.cell?_alloc_lt _ _ _ (World.block_lt_of_cell? _ _ (((HB.out.cell (World.block_lt_of_cell? w _ hw293_0)).trans hw293_0)))).trans (((HB.out.cell (World.block_lt_of_cell? w _ hw293_0)).trans hw293_0)), (World.cell?_alloc_lt _ _ _ (World.block_lt_of_cell? _ _ (((HB.out.cell (World.block_lt_of_cell? w _ hw293_1)).trans hw293_1)))).trans (((HB.out.cell (World.block_lt_of_cell? w _ hw293_1)).trans hw293_1))⟩ (fun hHeld => ?_)
            clear hK K
            refine norm_ (a' := ?_) ?_ ?_
            rotate_left
            · show Act.put _ (some 23) _ = _
              simp only [Act.put, List.setIfInBounds_toArray, List.set_cons_zero, List.set_cons_succ, i64_w, i32_w]
              rfl
            refine one_ (i := 13) (N := some 24) #[true, true, true, true, true, true, true, true, true, true, true, true, true, true, false] rfl rfl (one_of HT_.out (by kernel_rfl)) (by decide) (fun K hK => ?_)
            refine Kd.R_append_step k76 (w0 := w) w.heap.size (by rfl) (.tmp 11) (.tmp 23) 23 76 (.agg #[(.string ⟨#[]⟩), (.int .i64 0)]) 24 rfl Try.underlying23 info76 rfl (by decide) (by omega) u3 x3_1 (⟨(rd_T67 l0 x4_1).f0, (rd_T67 l0 x4_1).f1⟩ : S76) [.string ((rd_T67 l0 x4_1).f0), .int .i64 ((rd_T67 l0 x4_1).f1)] (fun _ => True) (fun _ => False) rfl rfl ?aP (fun _ hk => hk.elim) ?aF ?aO ?aB ?aS ?aL ?_
            (case aP => exact k76_mkM _ _ _ (⟨(rd_T67 l0 x4_1).f0, (rd_T67 l0 x4_1).f1⟩ : S76))
            (case aB => exact (by repeat (first | (with_reducible first | exact HB.out | apply below_alloc | apply pw_below_drewN | apply below_drew1) | exact HB.out)))
            (case aF => exact (fun _ _ => trivial))
            (case aO => exact (by (with_reducible repeat (first | apply Kd.R_alloc | apply Kd.R_drewN | apply Kd.R_drew)); exact HO_3.out))
            (case aS => exact (below_size (by repeat (first | (with_reducible first | exact HB.out | apply below_alloc | apply pw_below_drewN | apply below_drew1) | exact HB.out))))
            (case aL => have := LMc4.out; omega)
            intro v295 w6 ho hb hg hat
            rw [← Ny294.out] at ho
            have n0_ := Aside0.mk (hb)
            have n1_ := Aside0.mk (ho)
            clear HB
            clear HO_3
            have HB := n0_
            have HO296 := n1_
            clear n0_ n1_
            clear ho hb hg hat
            refine hK.out _ _ ⟨((HB.out.cell (World.block_lt_of_cell? w _ hw292_0)).trans hw292_0), ((HB.out.cell (World.block_lt_of_cell? w _ hw292_1)).trans hw292_1), ((HB.out.cell (World.block_lt_of_cell? w _ hw293_0)).trans hw293_0), ((HB.out.cell (World.block_lt_of_cell? w _ hw293_1)).trans hw293_1)⟩ (fun hHeld => ?_)
            clear hK K
            refine norm_ (a' := ?_) ?_ ?_
            rotate_left
            · show Act.put _ (some 24) _ = _
              simp only [Act.put, List.setIfInBounds_toArray, List.set_cons_zero, List.set_cons_succ, i64_w, i32_w]
              rfl
            refine p_ 14 3 (mk_ 15 0x7fff) ?_
            refine done_ (done_of HT_.out (by kernel_rfl)) ?_
            try go_wp2
            go_roundg k1
            case measure => have := HK1.out; omega
            case rel => exact ⟨(y294), (wrap64 (x4_1 + 1)), (by first | rfl | (simp; done) | (simp [*]; done)), H', ⟨by have := HK1.out; omega⟩, ⟨by (with_reducible repeat (first | apply Kd.R_alloc | apply Kd.R_drewN | apply Kd.R_drew)); exact HO296.out⟩, ⟨by repeat (first | (with_reducible first | exact HB.out | apply below_alloc | apply pw_below_drewN | apply below_drew1) | exact HB.out)⟩⟩
          · rw [if_neg c4] at H
            exact absurd H (by simp)
        · rw [if_neg c3] at H
          exact absurd H (by simp)
      · rw [if_neg c2] at H
        have c2b0 : decide (x4_1 < (l0.length : Int)) = false := decide_eq_false c2
        clear c2
        obtain rfl := Option.some.inj H
        go_wp2
        go_ret
        exact ⟨_, by first | rfl | (simp [errW_none, errW_some] <;> rfl) | (simp [*, errW_none, errW_some] <;> rfl), by (with_reducible repeat (first | apply Kd.R_alloc | apply Kd.R_drewN | apply Kd.R_drew)); exact HO_3.out, by repeat (first | (with_reducible first | exact HB.out | apply below_alloc | apply pw_below_drewN | apply below_drew1) | exact HB.out)⟩

end Go.Proofs.Ytoodahceejdbcaa.P
