-- Written by a program of this session (wip/pp.py over the kit's printer, with our own texts put in).
import Derived.Test.YtoodahceejdbcaaP0
import Derived.Test.YtoodahceejdbcaaP8
namespace Go.Proofs.Ytoodahceejdbcaa.P
open Go.RowKit Go.Proofs.YtoodahceejdbcaaW.PrintWords Go.Proofs.YtoodahceejdbcaaW.PrintLast Go.Proofs.YtoodahceejdbcaaW.PrintMore
attribute [local go_sem] max2_int min2_int max_two min_two max_three min_three max_four min_four   -- for this text's walks alone
set_option linter.unusedVariables false
set_option linter.unusedSimpArgs false

/-! ### cenotaphref10_Same: function 29 -/
theorem zq29_0 {p_ : Prop} (h_ : p_ := by first | (with_reducible assumption) | assumption) : p_ := h_
def cenotaphref10_Same.l0 : Nat → List (S25) → List (S25) → Int → Option (Bool)
 | 0, _, _, _ => none
 | k + 1, x0, x1, x5 => if x5 < (x0.length : Int) then (if 0 ≤ x5 then (if x5 < (x1.length : Int) then (if ((rd_T25 x0 x5).f0).toList = ((rd_T25 x1 x5).f0).toList then ((cenotaphref03_Same.f k ((rd_T25 x0 x5).f1) ((rd_T25 x1 x5).f1)).bind fun t417 => (if t417 = true then (cenotaphref10_Same.l0 k x0 x1 (wrap64 (x5 + 1))) else (some false))) else (some false)) else (none)) else (none)) else (some true)
def cenotaphref10_Same.f (k : Nat) (l0 : List (S25)) (l1 : List (S25)) : Option (Bool) := if (l0.length : Int) = (l1.length : Int) then (cenotaphref10_Same.l0 k l0 l1 0) else (some false)
theorem cenotaphref10_Same.mono_l : ∀ k, (∀ y0 y1 y2, LeO (cenotaphref10_Same.l0 k y0 y1 y2) (cenotaphref10_Same.l0 (k + 1) y0 y1 y2))
 | 0 => fun _ _ _ r h => by simp [cenotaphref10_Same.l0] at h
 | k + 1 => by
  have ih0 := cenotaphref10_Same.mono_l k
  ·intro y0 y1 y2
   unfold cenotaphref10_Same.l0
   repeat' first
   | (with_reducible exact ih0 _ _ _)
   | (with_reducible exact cenotaphref03_Same.mono _ _ _)
   | (with_reducible exact LeO.refl _)
   | (with_reducible exact LeO.none _)
   | (with_reducible refine LeO.ite ?_ ?_)
   | (with_reducible refine LeO.bind ?_ (fun _ => ?_))
   | exact ih0 _ _ _
   | exact cenotaphref03_Same.mono _ _ _
   | exact LeO.none _
   | refine LeO.ite ?_ ?_
   | refine LeO.bind ?_ (fun _ => ?_)
theorem cenotaphref10_Same.mono : ∀ a0 a1 k, LeO (cenotaphref10_Same.f k a0 a1) (cenotaphref10_Same.f (k + 1) a0 a1) := by
 intro a0 a1 k
 have ih0 := cenotaphref10_Same.mono_l k
 unfold cenotaphref10_Same.f
 repeat' first
   | (with_reducible exact ih0 _ _ _)
   | (with_reducible exact cenotaphref03_Same.mono _ _ _)
   | (with_reducible exact LeO.refl _)
   | (with_reducible exact LeO.none _)
   | (with_reducible refine LeO.ite ?_ ?_)
   | (with_reducible refine LeO.bind ?_ (fun _ => ?_))
   | exact ih0 _ _ _
   | exact cenotaphref03_Same.mono _ _ _
   | exact LeO.none _
   | refine LeO.ite ?_ ?_
   | refine LeO.bind ?_ (fun _ => ?_)
set_option maxHeartbeats 8000000 in
set_option maxRecDepth 100000 in
theorem cenotaphref10_Same.calls (k : Nat) (A0 : Option Addr) (c0 : Nat) (l0 : List (S25)) (A1 : Option Addr) (c1 : Nat) (l1 : List (S25)) (r : Bool) (w : World) (hr0 : Kd.C k25 w A0 l0.length l0) (hc0 : l0.length ≤ c0) (hr1 : Kd.C k25 w A1 l1.length l1) (hc1 : l1.length ≤ c1) (h : cenotaphref10_Same.f k l0 l1 = some r) :
  Calls Try.prog 29 #[.slice A0 l0.length c0, .slice A1 l1.length c1] w fun e w' => e = .returned (.bool r) ∧ Drawn0 w w' := by
 have HR0 := Aside0.mk hr0
 have HC0 := Aside0.mk hc0
 clear hr0 hc0
 have HR1 := Aside0.mk hr1
 have HC1 := Aside0.mk hc1
 clear hr1 hc1
 have H : (if (l0.length : Int) = (l1.length : Int) then (cenotaphref10_Same.l0 k l0 l1 0) else (some false)) = some r := h
 clear h
 by_cases c3 : (l0.length : Int) = (l1.length : Int)
 ·rw [if_pos c3] at H
  have c3b0 : ((l0.length : Int) == (l1.length : Int)) = true := beq_iff_eq.mpr c3
  have c3b1 : ((l0.length : Int) != (l1.length : Int)) = false := bne_eq_false_iff_eq.mpr c3
  have c3b2 : (l0.length == l1.length) = true := by first | simpa using c3 | (simp at c3 ⊢; omega)
  clear c3
  have H' := Aside0.mk H
  clear H
  go_enter Try.func29, Try.ntmps29
  go_wp2
  repeat (go_quiet (fail); try go_wp2)
  go_loopg [5] k (fun kq v5 w' => ∃ (x5_1 : Int), v5 = .int .i64 x5_1 ∧ Aside0 (cenotaphref10_Same.l0 kq l0 l1 x5_1 = some r) ∧ Aside0 (kq ≤ k) ∧ Drawn0 w w')
  case atStart => exact ⟨(0), (by first | rfl | (simp; done) | (simp [*]; done)), H', ⟨Nat.le_refl _⟩, by repeat (first | exact Drawn0.refl _ | apply Drawn0.step)⟩
  case round =>
   clear H'
   try clear c1
   try clear c2
   try clear p2
   try clear c3
   try clear c3b0
   try clear c3b1
   try clear c3b2
   obtain ⟨x5_1, rfl, HA, HK1, ⟨m1, rfl⟩⟩ := hrel
   cases gk with
   | zero => exact absurd HA.out (by simp [cenotaphref10_Same.l0])
   | succ k1 =>
    have H := HA.out
    clear HA
    simp only [cenotaphref10_Same.l0] at H
    by_cases c4 : x5_1 < (l0.length : Int)
    ·rw [if_pos c4] at H
     have c4b0 : decide (x5_1 < (l0.length : Int)) = true := decide_eq_true c4
     clear c4
     by_cases c5 : 0 ≤ x5_1
     ·rw [if_pos c5] at H
      have c5b0 : decide (0 ≤ x5_1) = true := decide_eq_true c5
      clear c5
      by_cases c6 : x5_1 < (l1.length : Int)
      ·rw [if_pos c6] at H
       have c6b0 : decide (x5_1 < (l1.length : Int)) = true := decide_eq_true c6
       clear c6
       by_cases c7 : ((rd_T25 l0 x5_1).f0).toList = ((rd_T25 l1 x5_1).f0).toList
       ·rw [if_pos c7] at H
        have c7b0 : (((rd_T25 l0 x5_1).f0).toList == ((rd_T25 l1 x5_1).f0).toList) = true := beq_iff_eq.mpr c7
        have c7b1 : (((rd_T25 l0 x5_1).f0).toList != ((rd_T25 l1 x5_1).f0).toList) = false := bne_eq_false_iff_eq.mpr c7
        clear c7
        replace H := Option.bind_eq_some_iff.mp H
        obtain ⟨t417, A80, H⟩ := H
        have A8 := Aside0.mk A80
        clear A80
        by_cases c9 : t417 = true
        ·subst c9
         have H1 : (cenotaphref10_Same.l0 k1 l0 l1 (wrap64 (x5_1 + 1))) = some r := by rw [if_pos rfl] at H; exact H
         clear H
         have H := H1
         clear H1
         have H' := Aside0.mk H
         clear H
         have p413 : 0 ≤ (x5_1 : Int) := of_decide_eq_true zq29_0
         have q413 : x5_1 < (l0.length : Int) := of_decide_eq_true zq29_0
         obtain ⟨ad413, A413_1, c413_1, e413, hx413_0, hx413_1, hl413_1, hi413_1⟩ := at_T25 HR0.out x5_1 p413 q413
         cases e413
         have HR413_1 := Aside0.mk hi413_1
         have HC413_1 := Aside0.mk hl413_1
         clear hi413_1 hl413_1
         replace p413 := eq_true p413
         replace q413 := eq_true q413
         have p414 : 0 ≤ (x5_1 : Int) := of_decide_eq_true zq29_0
         have q414 : x5_1 < (l1.length : Int) := of_decide_eq_true zq29_0
         obtain ⟨ad414, A414_1, c414_1, e414, hx414_0, hx414_1, hl414_1, hi414_1⟩ := at_T25 HR1.out x5_1 p414 q414
         cases e414
         have HR414_1 := Aside0.mk hi414_1
         have HC414_1 := Aside0.mk hl414_1
         clear hi414_1 hl414_1
         replace p414 := eq_true p414
         replace q414 := eq_true q414
         have p415 : 0 ≤ (x5_1 : Int) := of_decide_eq_true zq29_0
         have q415 : x5_1 < (l0.length : Int) := of_decide_eq_true zq29_0
         obtain ⟨ad415, A415_1, c415_1, e415, hx415_0, hx415_1, hl415_1, hi415_1⟩ := at_T25 HR0.out x5_1 p415 q415
         obtain rfl : ad413 = ad415 := (by injection e415)
         have HR415_1 := Aside0.mk hi415_1
         have HC415_1 := Aside0.mk hl415_1
         clear hi415_1 hl415_1
         replace p415 := eq_true p415
         replace q415 := eq_true q415
         have ea_ := Option.some.inj (hx413_1.symm.trans hx415_1)
         injection ea_ with ea_ en_ ec_
         subst ea_
         subst ec_
         clear en_
         have p416 : 0 ≤ (x5_1 : Int) := of_decide_eq_true zq29_0
         have q416 : x5_1 < (l1.length : Int) := of_decide_eq_true zq29_0
         obtain ⟨ad416, A416_1, c416_1, e416, hx416_0, hx416_1, hl416_1, hi416_1⟩ := at_T25 HR1.out x5_1 p416 q416
         obtain rfl : ad414 = ad416 := (by injection e416)
         have HR416_1 := Aside0.mk hi416_1
         have HC416_1 := Aside0.mk hl416_1
         clear hi416_1 hl416_1
         replace p416 := eq_true p416
         replace q416 := eq_true q416
         have ea_ := Option.some.inj (hx414_1.symm.trans hx416_1)
         injection ea_ with ea_ en_ ec_
         subst ea_
         subst ec_
         clear en_
         go_wp2_with (first | (go_at_call 16; (with_reducible refine (cenotaphref03_Same.calls k1 _ _ ((rd_T25 l0 x5_1).f1) _ _ ((rd_T25 l1 x5_1).f1) true _ ?side1 ?side2 ?side3 ?side4 A8.out).mono ?_); (case side1 => repeat (first | exact HR415_1.out | (with_reducible refine Kd.C_alloc ?_ _) | (with_reducible refine Kd.C_drewN ?_ _) | (with_reducible refine Kd.C_drew ?_))); (case side2 => exact HC415_1.out); (case side3 => repeat (first | exact HR416_1.out | (with_reducible refine Kd.C_alloc ?_ _) | (with_reducible refine Kd.C_drewN ?_ _) | (with_reducible refine Kd.C_drew ?_))); (case side4 => exact HC416_1.out); rintro e w' ⟨rfl, ⟨nd, rfl⟩⟩; (try first | exact ⟨rfl, _, World.drewN_drewN _ _ _⟩ | exact ⟨rfl, _, Eq.trans (World.drewN_drewN _ _ _) (congrArg (World.drewN _) (Nat.add_assoc _ _ _))⟩)))
         repeat (go_quiet (first | (go_at_call 16; (with_reducible refine (cenotaphref03_Same.calls k1 _ _ ((rd_T25 l0 x5_1).f1) _ _ ((rd_T25 l1 x5_1).f1) true _ ?side1 ?side2 ?side3 ?side4 A8.out).mono ?_); (case side1 => repeat (first | exact HR415_1.out | (with_reducible refine Kd.C_alloc ?_ _) | (with_reducible refine Kd.C_drewN ?_ _) | (with_reducible refine Kd.C_drew ?_))); (case side2 => exact HC415_1.out); (case side3 => repeat (first | exact HR416_1.out | (with_reducible refine Kd.C_alloc ?_ _) | (with_reducible refine Kd.C_drewN ?_ _) | (with_reducible refine Kd.C_drew ?_))); (case side4 => exact HC416_1.out); rintro e w' ⟨rfl, ⟨nd, rfl⟩⟩; (try first | exact ⟨rfl, _, World.drewN_drewN _ _ _⟩ | exact ⟨rfl, _, Eq.trans (World.drewN_drewN _ _ _) (congrArg (World.drewN _) (Nat.add_assoc _ _ _))⟩))); try go_wp2_with (first | (go_at_call 16; (with_reducible refine (cenotaphref03_Same.calls k1 _ _ ((rd_T25 l0 x5_1).f1) _ _ ((rd_T25 l1 x5_1).f1) true _ ?side1 ?side2 ?side3 ?side4 A8.out).mono ?_); (case side1 => repeat (first | exact HR415_1.out | (with_reducible refine Kd.C_alloc ?_ _) | (with_reducible refine Kd.C_drewN ?_ _) | (with_reducible refine Kd.C_drew ?_))); (case side2 => exact HC415_1.out); (case side3 => repeat (first | exact HR416_1.out | (with_reducible refine Kd.C_alloc ?_ _) | (with_reducible refine Kd.C_drewN ?_ _) | (with_reducible refine Kd.C_drew ?_))); (case side4 => exact HC416_1.out); rintro e w' ⟨rfl, ⟨nd, rfl⟩⟩; (try first | exact ⟨rfl, _, World.drewN_drewN _ _ _⟩ | exact ⟨rfl, _, Eq.trans (World.drewN_drewN _ _ _) (congrArg (World.drewN _) (Nat.add_assoc _ _ _))⟩))))
         go_roundg k1
         case measure => have := HK1.out; omega
         case rel => exact ⟨(wrap64 (x5_1 + 1)), (by first | rfl | (simp; done) | (simp [*]; done)), H', ⟨by have := HK1.out; omega⟩, by repeat (first | exact Drawn0.refl _ | apply Drawn0.step)⟩
        ·replace c9 := Bool.eq_false_iff.mpr c9
         subst c9
         have H1 : (some false) = some r := by rw [if_neg (show ¬ (false = true) by decide)] at H; exact H
         clear H
         have H := H1
         clear H1
         obtain rfl := Option.some.inj H
         have p413 : 0 ≤ (x5_1 : Int) := of_decide_eq_true zq29_0
         have q413 : x5_1 < (l0.length : Int) := of_decide_eq_true zq29_0
         obtain ⟨ad413, A413_1, c413_1, e413, hx413_0, hx413_1, hl413_1, hi413_1⟩ := at_T25 HR0.out x5_1 p413 q413
         cases e413
         have HR413_1 := Aside0.mk hi413_1
         have HC413_1 := Aside0.mk hl413_1
         clear hi413_1 hl413_1
         replace p413 := eq_true p413
         replace q413 := eq_true q413
         have p414 : 0 ≤ (x5_1 : Int) := of_decide_eq_true zq29_0
         have q414 : x5_1 < (l1.length : Int) := of_decide_eq_true zq29_0
         obtain ⟨ad414, A414_1, c414_1, e414, hx414_0, hx414_1, hl414_1, hi414_1⟩ := at_T25 HR1.out x5_1 p414 q414
         cases e414
         have HR414_1 := Aside0.mk hi414_1
         have HC414_1 := Aside0.mk hl414_1
         clear hi414_1 hl414_1
         replace p414 := eq_true p414
         replace q414 := eq_true q414
         have p415 : 0 ≤ (x5_1 : Int) := of_decide_eq_true zq29_0
         have q415 : x5_1 < (l0.length : Int) := of_decide_eq_true zq29_0
         obtain ⟨ad415, A415_1, c415_1, e415, hx415_0, hx415_1, hl415_1, hi415_1⟩ := at_T25 HR0.out x5_1 p415 q415
         obtain rfl : ad413 = ad415 := (by injection e415)
         have HR415_1 := Aside0.mk hi415_1
         have HC415_1 := Aside0.mk hl415_1
         clear hi415_1 hl415_1
         replace p415 := eq_true p415
         replace q415 := eq_true q415
         have ea_ := Option.some.inj (hx413_1.symm.trans hx415_1)
         injection ea_ with ea_ en_ ec_
         subst ea_
         subst ec_
         clear en_
         have p416 : 0 ≤ (x5_1 : Int) := of_decide_eq_true zq29_0
         have q416 : x5_1 < (l1.length : Int) := of_decide_eq_true zq29_0
         obtain ⟨ad416, A416_1, c416_1, e416, hx416_0, hx416_1, hl416_1, hi416_1⟩ := at_T25 HR1.out x5_1 p416 q416
         obtain rfl : ad414 = ad416 := (by injection e416)
         have HR416_1 := Aside0.mk hi416_1
         have HC416_1 := Aside0.mk hl416_1
         clear hi416_1 hl416_1
         replace p416 := eq_true p416
         replace q416 := eq_true q416
         have ea_ := Option.some.inj (hx414_1.symm.trans hx416_1)
         injection ea_ with ea_ en_ ec_
         subst ea_
         subst ec_
         clear en_
         go_wp2_with (first | (go_at_call 16; (with_reducible refine (cenotaphref03_Same.calls k1 _ _ ((rd_T25 l0 x5_1).f1) _ _ ((rd_T25 l1 x5_1).f1) false _ ?side1 ?side2 ?side3 ?side4 A8.out).mono ?_); (case side1 => repeat (first | exact HR415_1.out | (with_reducible refine Kd.C_alloc ?_ _) | (with_reducible refine Kd.C_drewN ?_ _) | (with_reducible refine Kd.C_drew ?_))); (case side2 => exact HC415_1.out); (case side3 => repeat (first | exact HR416_1.out | (with_reducible refine Kd.C_alloc ?_ _) | (with_reducible refine Kd.C_drewN ?_ _) | (with_reducible refine Kd.C_drew ?_))); (case side4 => exact HC416_1.out); rintro e w' ⟨rfl, ⟨nd, rfl⟩⟩; (try first | exact ⟨rfl, _, World.drewN_drewN _ _ _⟩ | exact ⟨rfl, _, Eq.trans (World.drewN_drewN _ _ _) (congrArg (World.drewN _) (Nat.add_assoc _ _ _))⟩)))
         repeat (go_quiet (first | (go_at_call 16; (with_reducible refine (cenotaphref03_Same.calls k1 _ _ ((rd_T25 l0 x5_1).f1) _ _ ((rd_T25 l1 x5_1).f1) false _ ?side1 ?side2 ?side3 ?side4 A8.out).mono ?_); (case side1 => repeat (first | exact HR415_1.out | (with_reducible refine Kd.C_alloc ?_ _) | (with_reducible refine Kd.C_drewN ?_ _) | (with_reducible refine Kd.C_drew ?_))); (case side2 => exact HC415_1.out); (case side3 => repeat (first | exact HR416_1.out | (with_reducible refine Kd.C_alloc ?_ _) | (with_reducible refine Kd.C_drewN ?_ _) | (with_reducible refine Kd.C_drew ?_))); (case side4 => exact HC416_1.out); rintro e w' ⟨rfl, ⟨nd, rfl⟩⟩; (try first | exact ⟨rfl, _, World.drewN_drewN _ _ _⟩ | exact ⟨rfl, _, Eq.trans (World.drewN_drewN _ _ _) (congrArg (World.drewN _) (Nat.add_assoc _ _ _))⟩))); try go_wp2_with (first | (go_at_call 16; (with_reducible refine (cenotaphref03_Same.calls k1 _ _ ((rd_T25 l0 x5_1).f1) _ _ ((rd_T25 l1 x5_1).f1) false _ ?side1 ?side2 ?side3 ?side4 A8.out).mono ?_); (case side1 => repeat (first | exact HR415_1.out | (with_reducible refine Kd.C_alloc ?_ _) | (with_reducible refine Kd.C_drewN ?_ _) | (with_reducible refine Kd.C_drew ?_))); (case side2 => exact HC415_1.out); (case side3 => repeat (first | exact HR416_1.out | (with_reducible refine Kd.C_alloc ?_ _) | (with_reducible refine Kd.C_drewN ?_ _) | (with_reducible refine Kd.C_drew ?_))); (case side4 => exact HC416_1.out); rintro e w' ⟨rfl, ⟨nd, rfl⟩⟩; (try first | exact ⟨rfl, _, World.drewN_drewN _ _ _⟩ | exact ⟨rfl, _, Eq.trans (World.drewN_drewN _ _ _) (congrArg (World.drewN _) (Nat.add_assoc _ _ _))⟩))))
         go_ret
         exact ⟨by first | rfl | (simp; done) | (simp [*]; done), by repeat (first | exact Drawn0.refl _ | apply Drawn0.step)⟩
       ·rw [if_neg c7] at H
        have c7b0 : (((rd_T25 l0 x5_1).f0).toList == ((rd_T25 l1 x5_1).f0).toList) = false := beq_eq_false_iff_ne.mpr c7
        have c7b1 : (((rd_T25 l0 x5_1).f0).toList != ((rd_T25 l1 x5_1).f0).toList) = true := bne_iff_ne.mpr c7
        obtain rfl := Option.some.inj H
        have p413 : 0 ≤ (x5_1 : Int) := of_decide_eq_true zq29_0
        have q413 : x5_1 < (l0.length : Int) := of_decide_eq_true zq29_0
        obtain ⟨ad413, A413_1, c413_1, e413, hx413_0, hx413_1, hl413_1, hi413_1⟩ := at_T25 HR0.out x5_1 p413 q413
        cases e413
        have HR413_1 := Aside0.mk hi413_1
        have HC413_1 := Aside0.mk hl413_1
        clear hi413_1 hl413_1
        replace p413 := eq_true p413
        replace q413 := eq_true q413
        have p414 : 0 ≤ (x5_1 : Int) := of_decide_eq_true zq29_0
        have q414 : x5_1 < (l1.length : Int) := of_decide_eq_true zq29_0
        obtain ⟨ad414, A414_1, c414_1, e414, hx414_0, hx414_1, hl414_1, hi414_1⟩ := at_T25 HR1.out x5_1 p414 q414
        cases e414
        have HR414_1 := Aside0.mk hi414_1
        have HC414_1 := Aside0.mk hl414_1
        clear hi414_1 hl414_1
        replace p414 := eq_true p414
        replace q414 := eq_true q414
        go_wp2
        repeat (go_quiet (fail); try go_wp2)
        go_ret
        exact ⟨by first | rfl | (simp; done) | (simp [*]; done), by repeat (first | exact Drawn0.refl _ | apply Drawn0.step)⟩
      ·rw [if_neg c6] at H
       exact absurd H (by simp)
     ·rw [if_neg c5] at H
      exact absurd H (by simp)
    ·rw [if_neg c4] at H
     have c4b0 : decide (x5_1 < (l0.length : Int)) = false := decide_eq_false c4
     clear c4
     obtain rfl := Option.some.inj H
     go_wp2
     repeat (go_quiet (fail); try go_wp2)
     go_ret
     exact ⟨by first | rfl | (simp; done) | (simp [*]; done), by repeat (first | exact Drawn0.refl _ | apply Drawn0.step)⟩
 ·rw [if_neg c3] at H
  have c3b0 : ((l0.length : Int) == (l1.length : Int)) = false := beq_eq_false_iff_ne.mpr c3
  have c3b1 : ((l0.length : Int) != (l1.length : Int)) = true := bne_iff_ne.mpr c3
  have c3b2 : (l0.length == l1.length) = false := by first | simpa using c3 | (simp at c3 ⊢; omega)
  obtain rfl := Option.some.inj H
  go_enter Try.func29, Try.ntmps29
  go_wp2
  repeat (go_quiet (fail); try go_wp2)
  go_ret
  exact ⟨by first | rfl | (simp; done) | (simp [*]; done), by repeat (first | exact Drawn0.refl _ | apply Drawn0.step)⟩

/-! ### cenotaphlaw10_From: function 30 -/
theorem zq30_0 {p_ : Prop} (h_ : p_ := by repeat (first | (with_reducible first | exact HB.out | apply below_alloc | apply pw_below_drewN | apply below_drew1) | exact HB.out)) : p_ := h_
theorem zq30_1 {p_ : Prop} (h_ : p_ := by first | (with_reducible assumption) | assumption) : p_ := h_
def cenotaphlaw10_From.l0 : Nat → List (S50) → List (S25) → Int → Option ((List (S25)))
 | 0, _, _, _ => none
 | k + 1, x0, x3, x4 => if x4 < (x0.length : Int) then (if 0 ≤ x4 then ((cenotaphlaw03_From.f k ((rd_T50 x0 x4).f1)).bind fun t420 => (if x3.length < 3518437208883 then (cenotaphlaw10_From.l0 k x0 (x3 ++ [(⟨(rd_T50 x0 x4).f0, t420⟩ : S25)]) (wrap64 (x4 + 1))) else (none))) else (none)) else (some x3)
def cenotaphlaw10_From.f (k : Nat) (l0 : List (S50)) : Option ((List (S25))) := cenotaphlaw10_From.l0 k l0 ([] : List (S25)) 0
theorem cenotaphlaw10_From.mono_l : ∀ k, (∀ y0 y1 y2, LeO (cenotaphlaw10_From.l0 k y0 y1 y2) (cenotaphlaw10_From.l0 (k + 1) y0 y1 y2))
 | 0 => fun _ _ _ r h => by simp [cenotaphlaw10_From.l0] at h
 | k + 1 => by
  have ih0 := cenotaphlaw10_From.mono_l k
  ·intro y0 y1 y2
   unfold cenotaphlaw10_From.l0
   repeat' first
   | (with_reducible exact ih0 _ _ _)
   | (with_reducible exact cenotaphlaw03_From.mono _ _)
   | (with_reducible exact LeO.refl _)
   | (with_reducible exact LeO.none _)
   | (with_reducible refine LeO.ite ?_ ?_)
   | (with_reducible refine LeO.bind ?_ (fun _ => ?_))
   | exact ih0 _ _ _
   | exact cenotaphlaw03_From.mono _ _
   | exact LeO.none _
   | refine LeO.ite ?_ ?_
   | refine LeO.bind ?_ (fun _ => ?_)
theorem cenotaphlaw10_From.mono : ∀ a0 k, LeO (cenotaphlaw10_From.f k a0) (cenotaphlaw10_From.f (k + 1) a0) := by
 intro a0 k
 have ih0 := cenotaphlaw10_From.mono_l k
 unfold cenotaphlaw10_From.f
 repeat' first
   | (with_reducible exact ih0 _ _ _)
   | (with_reducible exact cenotaphlaw03_From.mono _ _)
   | (with_reducible exact LeO.refl _)
   | (with_reducible exact LeO.none _)
   | (with_reducible refine LeO.ite ?_ ?_)
   | (with_reducible refine LeO.bind ?_ (fun _ => ?_))
   | exact ih0 _ _ _
   | exact cenotaphlaw03_From.mono _ _
   | exact LeO.none _
   | refine LeO.ite ?_ ?_
   | refine LeO.bind ?_ (fun _ => ?_)
def cenotaphlaw10_From.T5 : Bool × List (List Nat × List Nat) := (true, [([], []), ([], []), ([], []), ([1, 2], [1, 2]), ([3], [3]), ([4], [4]), ([], []), ([], []), ([6, 7], [6, 7]), ([8], [8]), ([9], [9]), ([10], [10]), ([5, 11], [5, 11]), ([12], [12]), ([0, 13, 11], [0, 13]), ([14, 14, 0, 1, 2, 3, 4, 5, 6, 7, 8, 9, 10, 11, 12, 13, 14], [0, 14])])
def cenotaphlaw10_From.B5 : List Nat := [0, 0, 0, 6, 14, 30, 0, 0, 192, 448, 960, 1984, 4094, 8190, 16383, 32767]
theorem cenotaphlaw10_From.tab5 : rtab .any (opsOf Try.f30 5) = cenotaphlaw10_From.T5 := by kernel_rfl
theorem cenotaphlaw10_From.bits5 : waitsOk cenotaphlaw10_From.T5.2 cenotaphlaw10_From.B5 = true := by kernel_rfl
set_option maxHeartbeats 8000000 in
set_option maxRecDepth 100000 in
theorem cenotaphlaw10_From.calls (k : Nat) (A0 : Option Addr) (c0 : Nat) (l0 : List (S50)) (r : List (S25)) (w : World) (hr0 : Kd.C k50 w A0 l0.length l0) (hc0 : l0.length ≤ c0) (h : cenotaphlaw10_From.f k l0 = some r) :
  Calls Try.prog 30 #[.slice A0 l0.length c0] w fun e w' => ∃ v0_ : Value, e = .returned (v0_) ∧ Kd.S k25 25 w' w.heap.size (fun _ => True) v0_ r ∧ Below w.heap.size w w' := by
 have hu25 := Try.underlying25
 have HR0 := Aside0.mk hr0
 have HC0 := Aside0.mk hc0
 clear hr0 hc0
 have HB := Aside0.mk (Below.refl w.heap.size w)
 have H : (cenotaphlaw10_From.l0 k l0 ([] : List (S25)) 0) = some r := h
 clear h
 have H' := Aside0.mk H
 clear H
 go_enter Try.func30, Try.ntmps30
 go_wp2
 go_loopg [3, 4] k (fun kq v3 v4 w' => ∃ (x3_1 : List (S25)) (x4_1 : Int), v4 = .int .i64 x4_1 ∧ Aside0 (cenotaphlaw10_From.l0 kq l0 x3_1 x4_1 = some r) ∧ Aside0 (kq ≤ k) ∧ Aside0 (Kd.S k25 25 w' w.heap.size (fun _ => True) v3 x3_1) ∧ Aside0 (Below w.heap.size w w'))
 case atStart => exact ⟨(([] : List (S25))), (0), (by first | rfl | (simp; done) | (simp [*]; done)), H', ⟨Nat.le_refl _⟩, ⟨by first | exact Kd.S_nil _ _ _ _ _ | exact Kd.N_nil _ _ _ _ _ | exact Kd.V_nil _ _ _ _ _ | exact Kd.Q_nil _ _ _ _ _ | exact Kd.R_nil _ _ _ _ _⟩, ⟨by repeat (first | (with_reducible first | exact HB.out | apply below_alloc | apply pw_below_drewN | apply below_drew1) | exact HB.out)⟩⟩
 case round =>
  clear H'
  obtain ⟨x3_1, x4_1, rfl, HA, HK1, HO_3, HB⟩ := hrel
  cases gk with
  | zero => exact absurd HA.out (by simp [cenotaphlaw10_From.l0])
  | succ k1 =>
   have H := HA.out
   clear HA
   simp only [cenotaphlaw10_From.l0] at H
   by_cases c2 : x4_1 < (l0.length : Int)
   ·rw [if_pos c2] at H
    have c2b0 : decide (x4_1 < (l0.length : Int)) = true := decide_eq_true c2
    clear c2
    by_cases c3 : 0 ≤ x4_1
    ·rw [if_pos c3] at H
     have c3b0 : decide (0 ≤ x4_1) = true := decide_eq_true c3
     clear c3
     replace H := Option.bind_eq_some_iff.mp H
     obtain ⟨t420, A40, H⟩ := H
     have A4 := Aside0.mk A40
     clear A40
     by_cases c5 : x3_1.length < 3518437208883
     ·rw [if_pos c5] at H
      have LMc5 := Aside0.mk c5
      clear c5
      obtain ⟨y423, hy423⟩ : ∃ y_ : List (S25), y_ = (x3_1 ++ [(⟨(rd_T50 l0 x4_1).f0, t420⟩ : S25)]) := ⟨_, rfl⟩
      replace H : (cenotaphlaw10_From.l0 k1 l0 y423 (wrap64 (x4_1 + 1))) = some r := by first | (rw [hy423]; with_reducible exact H) | (have H2_ := (Option.bind_some _ _).symm.trans H; rw [hy423]; with_reducible exact H2_) | (have H2_ := (Option.bind_some _ _).symm.trans H; with_reducible exact H2_) | with_reducible exact H | (rw [hy423]; exact H) | exact H
      have Ny423 := Aside0.mk hy423
      clear hy423
      have H' := Aside0.mk H
      clear H
      try go_wp2
      replace HO_3 := Aside0.mk (Kd.S_drew HO_3.out)
      replace HB := Aside0.mk (below_drew1 HB.out)
      have p418 : 0 ≤ (x4_1 : Int) := of_decide_eq_true zq30_1
      have q418 : x4_1 < (l0.length : Int) := of_decide_eq_true zq30_1
      obtain ⟨ad418, A418_1, c418_1, e418, hx418_0, hx418_1, hl418_1, hi418_1⟩ := at_T50 HR0.out x4_1 p418 q418
      have hw418_1 := hx418_1
      have hw418_0 := hx418_0
      cases e418
      replace hx418_0 := (HB.out.cell (World.block_lt_of_cell? w _ hx418_0)).trans hx418_0
      replace hx418_1 := (HB.out.cell (World.block_lt_of_cell? w _ hx418_1)).trans hx418_1
      have HR418_1 := Aside0.mk hi418_1
      have HC418_1 := Aside0.mk hl418_1
      clear hi418_1 hl418_1
      replace p418 := eq_true p418
      replace q418 := eq_true q418
      have p419 : 0 ≤ (x4_1 : Int) := of_decide_eq_true zq30_1
      have q419 : x4_1 < (l0.length : Int) := of_decide_eq_true zq30_1
      obtain ⟨ad419, A419_1, c419_1, e419, hx419_0, hx419_1, hl419_1, hi419_1⟩ := at_T50 HR0.out x4_1 p419 q419
      have hw419_1 := hx419_1
      have hw419_0 := hx419_0
      obtain rfl : ad418 = ad419 := (by injection e419)
      replace hx419_0 := (HB.out.cell (World.block_lt_of_cell? w _ hx419_0)).trans hx419_0
      replace hx419_1 := (HB.out.cell (World.block_lt_of_cell? w _ hx419_1)).trans hx419_1
      have HR419_1 := Aside0.mk hi419_1
      have HC419_1 := Aside0.mk hl419_1
      clear hi419_1 hl419_1
      replace p419 := eq_true p419
      replace q419 := eq_true q419
      have ea_ := Option.some.inj (hx418_1.symm.trans hx419_1)
      injection ea_ with ea_ en_ ec_
      subst ea_
      subst ec_
      clear en_
      refine start_ (n := 16) (S := fun w' => w'.cell? (ad418.add ((x4_1).toNat * 2)) = some (.string ((rd_T50 l0 x4_1).f0)) ∧ w'.cell? ⟨(ad418.add ((x4_1).toNat * 2)).block, (ad418.add ((x4_1).toNat * 2)).off + 1, none⟩ = some (.slice A418_1 ((rd_T50 l0 x4_1).f1).length c418_1) ∧ w'.cell? (ad418.add ((x4_1).toNat * 2)) = some (.string ((rd_T50 l0 x4_1).f0)) ∧ w'.cell? ⟨(ad418.add ((x4_1).toNat * 2)).block, (ad418.add ((x4_1).toNat * 2)).off + 1, none⟩ = some (.slice A418_1 ((rd_T50 l0 x4_1).f1).length c418_1)) (ds := []) #[false, false, false, false, false, false, false, false, false, false, false, false, false, false, false, false] (by kernel_rfl) rfl rfl ⟨((HB.out.cell (World.block_lt_of_cell? w _ hw418_0)).trans hw418_0), ((HB.out.cell (World.block_lt_of_cell? w _ hw418_1)).trans hw418_1), ((HB.out.cell (World.block_lt_of_cell? w _ hw419_0)).trans hw419_0), ((HB.out.cell (World.block_lt_of_cell? w _ hw419_1)).trans hw419_1)⟩ (fun hHeld => ?_); refine with_tabW cenotaphlaw10_From.tab5 cenotaphlaw10_From.bits5 (fun HT_ HW_ => ?_)
      generalize wr.drew = w6 at HO_3 HB HR418_1 HR419_1 hx418_0 hx418_1 hx419_0 hx419_1 hHeld ⊢
      refine p_ 0 11 (mk_ 16 0x1) ?_
      refine p_ 1 12 (mk_ 16 0x3) ?_
      refine p_ 2 13 (mk_ 16 0x7) ?_
      refine p_ 3 14 (mk_ 16 0xf) ?_
      refine p_ 4 15 (mk_ 16 0x1f) ?_
      refine p_ 6 17 (mk_ 16 0x5f) ?_
      refine p_ 7 18 (mk_ 16 0xdf) ?_
      refine p_ 8 19 (mk_ 16 0x1df) ?_
      refine p_ 9 20 (mk_ 16 0x3df) ?_
      refine t_ 5 16 (mk_ 16 0x3ff) hHeld ?_
      refine t_ 10 21 (mk_ 16 0x7ff) hHeld ?_
      refine one_ (i := 11) (N := some 22) #[true, true, true, true, true, true, true, true, true, true, true, true, false, false, false, false] rfl rfl (one_of HT_.out (by kernel_rfl)) (by decide) (fun K hK => ?_)
      refine goes_ Try.func17 (by kernel_rfl) rfl #[.slice A418_1 ((rd_T50 l0 x4_1).f1).length c418_1] (by rfl) rfl rfl (by (try simp only [List.map_toArray, List.map_cons, List.map_nil]); first | done | rfl | (simp only [List.length_drop, List.length_take]; rfl)) ?_
      with_reducible refine (cenotaphlaw03_From.calls k1 _ _ ((rd_T50 l0 x4_1).f1) t420 _ ?side1 ?side2 A4.out).mono ?_
      (case side1 => repeat (first | exact (Kd.C_below HR419_1.out HB.out) | (with_reducible refine Kd.C_alloc ?_ _) | (with_reducible refine Kd.C_drewN ?_ _) | (with_reducible refine Kd.C_drew ?_)))
      (case side2 => exact HC419_1.out)
      rintro e w7 ⟨v421, rfl, ho0, hb⟩
      refine ⟨_, rfl, ?_⟩
      replace HO_3 := Aside0.mk (Kd.S_elder' (by (with_reducible repeat (first | apply Kd.S_alloc | apply Kd.S_drewN | apply Kd.S_drew)); exact HO_3.out) (Kd.R_base ho0) hb)
      have HO422 := Aside0.mk (Kd.R_lower ho0 (below_size zq30_0))
      replace HB := Aside0.mk (below_step zq30_0 hb)
      (try clear hb)
      (try clear hb2)
      (try clear hk)
      (try clear hi)
      (try clear ho0)
      obtain ⟨Ao8, co8, eo8⟩ := Kd.R_slice HO422.out
      (first | subst eo8 | (injection eo8 with f1_ f2_ f3_; have f4_ := f1_.symm; have f5_ := f3_.symm; clear f1_ f2_ f3_; subst f4_; subst f5_))
      refine hK.out _ _ ⟨((HB.out.cell (World.block_lt_of_cell? w _ hw418_0)).trans hw418_0), ((HB.out.cell (World.block_lt_of_cell? w _ hw418_1)).trans hw418_1), ((HB.out.cell (World.block_lt_of_cell? w _ hw419_0)).trans hw419_0), ((HB.out.cell (World.block_lt_of_cell? w _ hw419_1)).trans hw419_1)⟩ (fun hHeld => ?_)
      clear hK K
      refine norm_ (a' := ?_) ?_ ?_
      rotate_left
      ·show Act.put _ (some 22) _ = _
       simp only [Act.put, List.setIfInBounds_toArray, List.set_cons_zero, List.set_cons_succ, i64_w, i32_w]
       rfl
      refine p_ 12 23 (mk_ 16 0x1fff) ?_
      refine one_ (i := 13) (N := some 24) #[true, true, true, true, true, true, true, true, true, true, true, true, true, true, false, false] rfl rfl (one_of HT_.out (by kernel_rfl)) (by decide) (fun K hK => ?_)
      refine value_ (w1 := ?_) (v := ?_) (by rfl) rfl ?_ ?_
      rotate_left 2
      ·go_simp
       constructor
       ·rfl
       ·rfl
      refine hK.out _ _ ⟨(World.cell?_alloc_lt _ _ _ (World.block_lt_of_cell? _ _ (((HB.out.cell (World.block_lt_of_cell? w _ hw418_0)).trans hw418_0)))).trans (((HB.out.cell (World.block_lt_of_cell? w _ hw418_0)).trans hw418_0)), (World.cell?_alloc_lt _ _ _ (World.block_lt_of_cell? _ _ (((HB.out.cell (World.block_lt_of_cell? w _ hw418_1)).trans hw418_1)))).trans (((HB.out.cell (World.block_lt_of_cell? w _ hw418_1)).trans hw418_1)), (World.cell?_alloc_lt _ _ _ (World.block_lt_of_cell? _ _ (((HB.out.cell (World.block_lt_of_cell? w _ hw419_0)).trans hw419_0)))).trans (((HB.out.cell (World.block_lt_of_cell? w _ hw419_0)).trans hw419_0)), (World.cell?_alloc_lt _ _ _ (World.block_lt_of_cell? _ _ (((HB.out.cell (World.block_lt_of_cell? w _ hw419_1)).trans hw419_1)))).trans (((HB.out.cell (World.block_lt_of_cell? w _ hw419_1)).trans hw419_1))⟩ (fun hHeld => ?_)
      clear hK K
      refine norm_ (a' := ?_) ?_ ?_
      rotate_left
      ·show Act.put _ (some 24) _ = _
       simp only [Act.put, List.setIfInBounds_toArray, List.set_cons_zero, List.set_cons_succ, i64_w, i32_w]
       rfl
      refine one_ (i := 14) (N := some 25) #[true, true, true, true, true, true, true, true, true, true, true, true, true, true, true, false] rfl rfl (one_of HT_.out (by kernel_rfl)) (by decide) (fun K hK => ?_)
      refine Kd.S_append_step k25 (w0 := w) w.heap.size (by rfl) (.tmp 11) (.tmp 24) 22 25 (.agg #[(.string ⟨#[]⟩), (.slice none 0 0)]) 40 rfl Try.underlying22 info25 rfl (by decide) (by omega) u3 x3_1 (⟨(rd_T50 l0 x4_1).f0, t420⟩ : S25) [.string ((rd_T50 l0 x4_1).f0), .slice Ao8 t420.length co8] (fun _ => True) (fun k_ => some k_ = (.slice Ao8 t420.length co8 : Value).ownBlock) rfl rfl ?aP (fun k_ hk_ => ((Kd.R_mono (ok' := fun k_ => ((fun _ => True)) k_ ∧ some k_ ≠ (u3 : Value).ownBlock) (Kd.R_apart' (HO422.out) (Kd.S_typed HO_3.out) (by decide)) (fun k_ hk => ⟨trivial, hk.2⟩))).1 k_ hk_.symm) ?aF ?aO ?aB ?aS ?aL ?_
      (case aP => exact k25_mkM _ _ _ (⟨(rd_T50 l0 x4_1).f0, t420⟩ : S25) (Kd.R_mono (Kd.R_tight rfl (Kd.R_mono (ok' := fun k_ => ((fun _ => True)) k_ ∧ some k_ ≠ (u3 : Value).ownBlock) (Kd.R_apart' (HO422.out) (Kd.S_typed HO_3.out) (by decide)) (fun k_ hk => ⟨trivial, hk.2⟩))) (fun _ h_ => h_)))
      (case aB => exact zq30_0)
      (case aF => exact (fun _ _ => trivial))
      (case aO => exact (by (with_reducible repeat (first | apply Kd.S_alloc | apply Kd.S_drewN | apply Kd.S_drew)); exact Kd.S_mono HO_3.out (fun k_ hk => ⟨trivial, fun e_ => hk.2 e_⟩)))
      (case aS => exact (below_size zq30_0))
      (case aL => have := LMc5.out; omega)
      intro v424 w9 ho hb hg hat
      rw [← Ny423.out] at ho
      replace HB := Aside0.mk (hb)
      have HO425 := Aside0.mk (ho)
      clear HO_3 HO422
      clear ho hb hg hat
      refine hK.out _ _ ⟨((HB.out.cell (World.block_lt_of_cell? w _ hw418_0)).trans hw418_0), ((HB.out.cell (World.block_lt_of_cell? w _ hw418_1)).trans hw418_1), ((HB.out.cell (World.block_lt_of_cell? w _ hw419_0)).trans hw419_0), ((HB.out.cell (World.block_lt_of_cell? w _ hw419_1)).trans hw419_1)⟩ (fun hHeld => ?_)
      clear hK K
      refine norm_ (a' := ?_) ?_ ?_
      rotate_left
      ·show Act.put _ (some 25) _ = _
       simp only [Act.put, List.setIfInBounds_toArray, List.set_cons_zero, List.set_cons_succ, i64_w, i32_w]
       rfl
      refine p_ 15 3 (mk_ 16 0xffff) ?_
      refine done_ (done_of HT_.out (by kernel_rfl)) ?_
      try go_wp2
      go_roundg k1
      case measure => have := HK1.out; omega
      case rel => exact ⟨(y423), (wrap64 (x4_1 + 1)), (by first | rfl | (simp; done) | (simp [*]; done)), H', ⟨by have := HK1.out; omega⟩, ⟨by (with_reducible repeat (first | apply Kd.S_alloc | apply Kd.S_drewN | apply Kd.S_drew)); exact HO425.out⟩, ⟨by repeat (first | (with_reducible first | exact HB.out | apply below_alloc | apply pw_below_drewN | apply below_drew1) | exact HB.out)⟩⟩
     ·rw [if_neg c5] at H
      exact absurd H (by simp)
    ·rw [if_neg c3] at H
     exact absurd H (by simp)
   ·rw [if_neg c2] at H
    have c2b0 : decide (x4_1 < (l0.length : Int)) = false := decide_eq_false c2
    clear c2
    obtain rfl := Option.some.inj H
    go_wp2
    go_ret
    exact ⟨_, by first | rfl | (simp [errW_none, errW_some] <;> rfl) | (simp [*, errW_none, errW_some] <;> rfl), by (with_reducible repeat (first | apply Kd.S_alloc | apply Kd.S_drewN | apply Kd.S_drew)); exact HO_3.out, by repeat (first | (with_reducible first | exact HB.out | apply below_alloc | apply pw_below_drewN | apply below_drew1) | exact HB.out)⟩

end Go.Proofs.Ytoodahceejdbcaa.P
