-- Written by a program of this session (wip/pp.py over the kit's printer, with our own texts put in).
import Derived.Test.YtloeealbggobjaaP0
import Derived.Test.YtloeealbggobjaaP2
import Derived.Test.YtloeealbggobjaaP3
import Derived.Test.YtloeealbggobjaaP5
import Derived.Test.YtloeealbggobjaaP7
import Derived.Test.YtloeealbggobjaaP8
namespace Go.Proofs.Ytloeealbggobjaa.P
open Go.RowKit Go.Proofs.YtloeealbggobjaaW.PrintWords Go.Proofs.YtloeealbggobjaaW.PrintLast Go.Proofs.YtloeealbggobjaaW.PrintMore
attribute [local go_sem] max2_int min2_int max_two min_two max_three min_three max_four min_four   -- for this text's walks alone
set_option linter.unusedVariables false
set_option linter.unusedSimpArgs false

attribute [local go_sem high] eqA59
/-! ### vec_At_42: function 42 -/
def vec_At_42.l0 : Nat → List (S59) → List (S59) → Int → Int → Option (Bool)
  | 0, _, _, _, _ => none
  | k + 1, x0, x1, x12, x13 => if x13 < x12 then (if 0 ≤ x13 then (if x13 < (x0.length : Int) then (if x13 < (x1.length : Int) then (if (!((((rd_T59 x0 x13).f0).toList) == (((rd_T59 x1 x13).f0).toList)) || (!(((rd_T59 x0 x13).f1) == ((rd_T59 x1 x13).f1)))) = true then (some false) else (vec_At_42.l0 k x0 x1 x12 (wrap64 (x13 + 1)))) else (none)) else (none)) else (none)) else (some true)
def vec_At_42.f (k : Nat) (l0 : List (S59)) (l1 : List (S59)) : Option (Bool) := if (l0.length : Int) = (l1.length : Int) then (vec_At_42.l0 k l0 l1 (l0.length : Int) 0) else (some false)
theorem vec_At_42.mono_l : ∀ k, (∀ y0 y1 y2 y3, LeO (vec_At_42.l0 k y0 y1 y2 y3) (vec_At_42.l0 (k + 1) y0 y1 y2 y3))
  | 0 => fun _ _ _ _ r h => by simp [vec_At_42.l0] at h
  | k + 1 => by
    have ih0 := vec_At_42.mono_l k
    · intro y0 y1 y2 y3
      unfold vec_At_42.l0
      repeat' first
      | (with_reducible exact ih0 _ _ _ _)
      | (with_reducible exact LeO.refl _)
      | (with_reducible exact LeO.none _)
      | (with_reducible refine LeO.ite ?_ ?_)
      | (with_reducible refine LeO.bind ?_ (fun _ => ?_))
      | exact ih0 _ _ _ _
      | exact LeO.none _
      | refine LeO.ite ?_ ?_
      | refine LeO.bind ?_ (fun _ => ?_)
theorem vec_At_42.mono : ∀ a0 a1 k, LeO (vec_At_42.f k a0 a1) (vec_At_42.f (k + 1) a0 a1) := by
  intro a0 a1 k
  have ih0 := vec_At_42.mono_l k
  unfold vec_At_42.f
  repeat' first
      | (with_reducible exact ih0 _ _ _ _)
      | (with_reducible exact LeO.refl _)
      | (with_reducible exact LeO.none _)
      | (with_reducible refine LeO.ite ?_ ?_)
      | (with_reducible refine LeO.bind ?_ (fun _ => ?_))
      | exact ih0 _ _ _ _
      | exact LeO.none _
      | refine LeO.ite ?_ ?_
      | refine LeO.bind ?_ (fun _ => ?_)
set_option maxHeartbeats 8000000 in
set_option maxRecDepth 100000 in
theorem vec_At_42.calls (k : Nat) (A0 : Option Addr) (c0 : Nat) (l0 : List (S59)) (A1 : Option Addr) (c1 : Nat) (l1 : List (S59)) (r : Bool) (w : World) (hr0 : Kd.C k59 w A0 l0.length l0) (hc0 : l0.length ≤ c0) (hr1 : Kd.C k59 w A1 l1.length l1) (hc1 : l1.length ≤ c1) (h : vec_At_42.f k l0 l1 = some r) :
    Calls Try.prog 42 #[.slice A0 l0.length c0, .slice A1 l1.length c1] w fun e w' => e = .returned (.bool r) ∧ Drawn0 w w' := by
  have hu59 := Try.underlying59
  have HR0 := Aside0.mk hr0
  have HC0 := Aside0.mk hc0
  clear hr0 hc0
  have HR1 := Aside0.mk hr1
  have HC1 := Aside0.mk hc1
  clear hr1 hc1
  have H : (if (l0.length : Int) = (l1.length : Int) then (vec_At_42.l0 k l0 l1 (l0.length : Int) 0) else (some false)) = some r := h
  clear h
  by_cases c3 : (l0.length : Int) = (l1.length : Int)
  · rw [if_pos c3] at H
    have c3b0 : ((l0.length : Int) == (l1.length : Int)) = true := beq_iff_eq.mpr c3
    have c3b1 : ((l0.length : Int) != (l1.length : Int)) = false := bne_eq_false_iff_eq.mpr c3
    have c3b2 : (l0.length == l1.length) = true := by first | simpa using c3 | (simp at c3 ⊢; omega)
    clear c3
    have H' := Aside0.mk H
    clear H
    go_enter Try.func42, Try.ntmps42
    go_wp2
    repeat (go_quiet (fail); try go_wp2)
    go_loopg [13] k (fun kq v13 w' => ∃ (x13_1 : Int), v13 = .int .i64 x13_1 ∧ Aside0 (vec_At_42.l0 kq l0 l1 (l0.length : Int) x13_1 = some r) ∧ Aside0 (kq ≤ k) ∧ Drawn0 w w')
    case atStart => exact ⟨(0), (by first | rfl | (simp; done) | (simp [*]; done)), H', ⟨Nat.le_refl _⟩, by repeat (first | exact Drawn0.refl _ | apply Drawn0.step)⟩
    case round =>
      clear H'
      try clear c1
      try clear p2
      try clear c3
      try clear c3b0
      try clear c3b1
      try clear c3b2
      obtain ⟨x13_1, rfl, HA, HK1, ⟨m1, rfl⟩⟩ := hrel
      cases gk with
      | zero => exact absurd HA.out (by simp [vec_At_42.l0])
      | succ k1 =>
        have H := HA.out
        clear HA
        simp only [vec_At_42.l0] at H
        by_cases c4 : x13_1 < (l0.length : Int)
        · rw [if_pos c4] at H
          have c4b0 : decide (x13_1 < (l0.length : Int)) = true := decide_eq_true c4
          clear c4
          by_cases c5 : 0 ≤ x13_1
          · rw [if_pos c5] at H
            have c5b0 : decide (0 ≤ x13_1) = true := decide_eq_true c5
            clear c5
            by_cases c6 : x13_1 < (l0.length : Int)
            · rw [if_pos c6] at H
              have c6b0 : decide (x13_1 < (l0.length : Int)) = true := decide_eq_true c6
              clear c6
              by_cases c7 : x13_1 < (l1.length : Int)
              · rw [if_pos c7] at H
                have c7b0 : decide (x13_1 < (l1.length : Int)) = true := decide_eq_true c7
                clear c7
                by_cases c8 : (!((((rd_T59 l0 x13_1).f0).toList) == (((rd_T59 l1 x13_1).f0).toList)) || (!(((rd_T59 l0 x13_1).f1) == ((rd_T59 l1 x13_1).f1)))) = true
                · rw [if_pos c8] at H
                  have c8b0 : (!((((rd_T59 l0 x13_1).f0).toList) == (((rd_T59 l1 x13_1).f0).toList)) || (!(((rd_T59 l0 x13_1).f1) == ((rd_T59 l1 x13_1).f1)))) = true := c8
                  clear c8
                  obtain rfl := Option.some.inj H
                  have p353 : 0 ≤ (x13_1 : Int) := of_decide_eq_true (by first | (with_reducible assumption) | assumption)
                  have q353 : x13_1 < (l0.length : Int) := of_decide_eq_true (by first | (with_reducible assumption) | assumption)
                  obtain ⟨ad353, e353, hx353_0, hx353_1⟩ := at_T59 HR0.out x13_1 p353 q353
                  cases e353
                  replace p353 := eq_true p353
                  replace q353 := eq_true q353
                  have p354 : 0 ≤ (x13_1 : Int) := of_decide_eq_true (by first | (with_reducible assumption) | assumption)
                  have q354 : x13_1 < (l1.length : Int) := of_decide_eq_true (by first | (with_reducible assumption) | assumption)
                  obtain ⟨ad354, e354, hx354_0, hx354_1⟩ := at_T59 HR1.out x13_1 p354 q354
                  cases e354
                  replace p354 := eq_true p354
                  replace q354 := eq_true q354
                  go_wp2
                  repeat (go_quiet (fail); try go_wp2)
                  go_ret
                  exact ⟨by first | rfl | (simp; done) | (simp [*]; done), by repeat (first | exact Drawn0.refl _ | apply Drawn0.step)⟩
                · rw [if_neg c8] at H
                  have c8b0 : (!((((rd_T59 l0 x13_1).f0).toList) == (((rd_T59 l1 x13_1).f0).toList)) || (!(((rd_T59 l0 x13_1).f1) == ((rd_T59 l1 x13_1).f1)))) = false := by simpa using c8
                  clear c8
                  have H' := Aside0.mk H
                  clear H
                  have p353 : 0 ≤ (x13_1 : Int) := of_decide_eq_true (by first | (with_reducible assumption) | assumption)
                  have q353 : x13_1 < (l0.length : Int) := of_decide_eq_true (by first | (with_reducible assumption) | assumption)
                  obtain ⟨ad353, e353, hx353_0, hx353_1⟩ := at_T59 HR0.out x13_1 p353 q353
                  cases e353
                  replace p353 := eq_true p353
                  replace q353 := eq_true q353
                  have p354 : 0 ≤ (x13_1 : Int) := of_decide_eq_true (by first | (with_reducible assumption) | assumption)
                  have q354 : x13_1 < (l1.length : Int) := of_decide_eq_true (by first | (with_reducible assumption) | assumption)
                  obtain ⟨ad354, e354, hx354_0, hx354_1⟩ := at_T59 HR1.out x13_1 p354 q354
                  cases e354
                  replace p354 := eq_true p354
                  replace q354 := eq_true q354
                  go_wp2
                  repeat (go_quiet (fail); try go_wp2)
                  go_roundg k1
                  case measure => have := HK1.out; omega
                  case rel => exact ⟨(wrap64 (x13_1 + 1)), (by first | rfl | (simp; done) | (simp [*]; done)), H', ⟨by have := HK1.out; omega⟩, by repeat (first | exact Drawn0.refl _ | apply Drawn0.step)⟩
              · rw [if_neg c7] at H
                exact absurd H (by simp)
            · rw [if_neg c6] at H
              exact absurd H (by simp)
          · rw [if_neg c5] at H
            exact absurd H (by simp)
        · rw [if_neg c4] at H
          have c4b0 : decide (x13_1 < (l0.length : Int)) = false := decide_eq_false c4
          clear c4
          obtain rfl := Option.some.inj H
          go_wp2
          repeat (go_quiet (fail); try go_wp2)
          go_ret
          exact ⟨by first | rfl | (simp; done) | (simp [*]; done), by repeat (first | exact Drawn0.refl _ | apply Drawn0.step)⟩
  · rw [if_neg c3] at H
    have c3b0 : ((l0.length : Int) == (l1.length : Int)) = false := beq_eq_false_iff_ne.mpr c3
    have c3b1 : ((l0.length : Int) != (l1.length : Int)) = true := bne_iff_ne.mpr c3
    have c3b2 : (l0.length == l1.length) = false := by first | simpa using c3 | (simp at c3 ⊢; omega)
    obtain rfl := Option.some.inj H
    go_enter Try.func42, Try.ntmps42
    go_wp2
    repeat (go_quiet (fail); try go_wp2)
    go_ret
    exact ⟨by first | rfl | (simp; done) | (simp [*]; done), by repeat (first | exact Drawn0.refl _ | apply Drawn0.step)⟩

/-! ### vec_Same: function 28 -/
def vec_Same.f (k : Nat) (l0 : List (S59)) (l1 : List (S59)) : Option (Bool) := (vec_At_42.f k l0 l1).bind fun t355 => (some t355)
theorem vec_Same.mono : ∀ a0 a1 k, LeO (vec_Same.f k a0 a1) (vec_Same.f (k + 1) a0 a1) := by
  intro a0 a1 k
  unfold vec_Same.f
  repeat' first
      | (with_reducible exact vec_At_42.mono _ _ _)
      | (with_reducible exact LeO.refl _)
      | (with_reducible exact LeO.none _)
      | (with_reducible refine LeO.ite ?_ ?_)
      | (with_reducible refine LeO.bind ?_ (fun _ => ?_))
      | exact vec_At_42.mono _ _ _
      | exact LeO.none _
      | refine LeO.ite ?_ ?_
      | refine LeO.bind ?_ (fun _ => ?_)
set_option maxHeartbeats 8000000 in
set_option maxRecDepth 100000 in
theorem vec_Same.calls (k : Nat) (A0 : Option Addr) (c0 : Nat) (l0 : List (S59)) (A1 : Option Addr) (c1 : Nat) (l1 : List (S59)) (r : Bool) (w : World) (hr0 : Kd.C k59 w A0 l0.length l0) (hc0 : l0.length ≤ c0) (hr1 : Kd.C k59 w A1 l1.length l1) (hc1 : l1.length ≤ c1) (h : vec_Same.f k l0 l1 = some r) :
    Calls Try.prog 28 #[.slice A0 l0.length c0, .slice A1 l1.length c1] w fun e w' => e = .returned (.bool r) ∧ Drawn0 w w' := by
  have HR0 := Aside0.mk hr0
  have HC0 := Aside0.mk hc0
  clear hr0 hc0
  have HR1 := Aside0.mk hr1
  have HC1 := Aside0.mk hc1
  clear hr1 hc1
  have H : ((vec_At_42.f k l0 l1).bind fun t355 => (some t355)) = some r := h
  clear h
  replace H := Option.bind_eq_some_iff.mp H
  obtain ⟨t355, A30, H⟩ := H
  replace H : (some t355) = some r := H
  have A3 := Aside0.mk A30
  clear A30
  obtain rfl := Option.some.inj H
  go_enter Try.func28, Try.ntmps28
  go_wp2_with (first | ((with_reducible refine gate_callee (f := 42) rfl ?_); refine goesL_ (some 7) rfl rfl Try.func42 (by kernel_rfl) rfl #[.slice A0 l0.length c0, .slice A1 l1.length c1] rfl (by (try simp only [List.map_toArray, List.map_cons, List.map_nil]); first | done | rfl | (simp only [List.length_drop, List.length_take]; rfl)) ?_; (with_reducible refine (vec_At_42.calls k _ _ l0 _ _ l1 t355 _ ?side1 ?side2 ?side3 ?side4 A3.out).mono ?_); (case side1 => repeat (first | exact HR0.out | (with_reducible refine Kd.C_alloc ?_ _) | (with_reducible refine Kd.C_drewN ?_ _) | (with_reducible refine Kd.C_drew ?_))); (case side2 => exact HC0.out); (case side3 => repeat (first | exact HR1.out | (with_reducible refine Kd.C_alloc ?_ _) | (with_reducible refine Kd.C_drewN ?_ _) | (with_reducible refine Kd.C_drew ?_))); (case side4 => exact HC1.out); rintro e w' ⟨rfl, ⟨nd, rfl⟩⟩; refine ⟨_, rfl, ?_⟩))
  go_ret
  exact ⟨by first | rfl | (simp; done) | (simp [*]; done), by repeat (first | exact Drawn0.refl _ | apply Drawn0.step)⟩

/-! ### cenotaphlaw09_CertMerges: function 5 -/
theorem zq5x_0 {p_ : Prop} (h_ : p_ := by (try simp only [List.map_toArray, List.map_cons, List.map_nil]); first | done | rfl | (simp only [List.length_drop, List.length_take]; rfl)) : p_ := h_
theorem zq5x_1 {p_ : Prop} (h_ : p_ := by repeat (first | (with_reducible first | exact HB.out | apply below_alloc | apply pw_below_drewN | apply below_drew1) | exact HB.out)) : p_ := h_
theorem zq5x_2 {p_ : Prop} (h_ : p_ := by (with_reducible repeat (first | apply Kd.R_alloc | apply Kd.R_drewN | apply Kd.R_drew)); exact HO358.out) : p_ := h_
theorem zq5x_3 {p_ : Prop} (h_ : p_ := by (with_reducible repeat (first | apply Kd.R_alloc | apply Kd.R_drewN | apply Kd.R_drew)); exact HO361.out) : p_ := h_
theorem zq5x_4 {p_ : Prop} (h_ : p_ := by (with_reducible repeat (first | apply Kd.R_alloc | apply Kd.R_drewN | apply Kd.R_drew)); exact HO364.out) : p_ := h_
theorem zq5x_5 {p_ : Prop} (h_ : p_ := by (with_reducible repeat (first | apply Kd.R_alloc | apply Kd.R_drewN | apply Kd.R_drew)); exact HO367.out) : p_ := h_
theorem zq5x_6 {p_ : Prop} (h_ : p_ := by (with_reducible repeat (first | apply Kd.R_alloc | apply Kd.R_drewN | apply Kd.R_drew)); exact HO370.out) : p_ := h_
theorem zq5x_7 {p_ : Prop} (h_ : p_ := by (with_reducible repeat (first | apply Kd.R_alloc | apply Kd.R_drewN | apply Kd.R_drew)); exact HO373.out) : p_ := h_
theorem zq5x_8 {p_ : Prop} (h_ : p_ := by (with_reducible repeat (first | apply Kd.R_alloc | apply Kd.R_drewN | apply Kd.R_drew)); exact HO376.out) : p_ := h_
theorem zq5x_9 {p_ : Prop} (h_ : p_ := by (with_reducible repeat (first | apply Kd.R_alloc | apply Kd.R_drewN | apply Kd.R_drew)); exact HO380.out) : p_ := h_
theorem zq5x_10 {p_ : Prop} (h_ : p_ := by (with_reducible repeat (first | apply Kd.R_alloc | apply Kd.R_drewN | apply Kd.R_drew)); exact HO383.out) : p_ := h_
theorem zq5x_11 {p_ : Prop} (h_ : p_ := by (with_reducible repeat (first | apply Kd.R_alloc | apply Kd.R_drewN | apply Kd.R_drew)); exact HO387.out) : p_ := h_
theorem zq5x_12 {p_ : Prop} (h_ : p_ := by (with_reducible repeat (first | apply Kd.R_alloc | apply Kd.R_drewN | apply Kd.R_drew)); exact HO391.out) : p_ := h_
theorem zq5x_13 {p_ : Prop} (h_ : p_ := by (with_reducible repeat (first | apply Kd.R_alloc | apply Kd.R_drewN | apply Kd.R_drew)); exact HO395.out) : p_ := h_
def cenotaphlaw09_CertMerges.f (k : Nat) (l0 : List (S56)) (l1 : List (S56)) (l2 : List (S56)) : Option (Bool) := (cenotaphref03_Fix.f k l0).bind fun t356 => ((cenotaphref03_Fix.f k l1).bind fun t359 => ((cenotaphref03_Fix.f k l2).bind fun t362 => ((cenotaphlaw03_To.f k t356).bind fun t365 => ((cenotaphlaw03_To.f k t359).bind fun t368 => ((cenotaphlaw03_To.f k t362).bind fun t371 => ((cert_Merge.f k t365 t368).bind fun t374 => ((cenotaphlaw09_told.f).bind fun t377 => (if t377 = true then ((cenotaphlaw03_From.f k t374).bind fun t378 => ((cenotaphref03_Join.f k t356 t359).bind fun t381 => ((cenotaphref03_Same.f k t378 t381).bind fun t384 => (if t384 = true then ((cert_Merge.f k t368 t365).bind fun t385 => ((vec_Same.f k t374 t385).bind fun t388 => (if t388 = true then ((cert_Merge.f k t374 t368).bind fun t389 => ((vec_Same.f k t374 t389).bind fun t392 => (if t392 = true then ((cert_Merge.f k t374 t371).bind fun t393 => ((cert_Merge.f k t368 t371).bind fun t396 => ((cert_Merge.f k t365 t396).bind fun t399 => ((vec_Same.f k t393 t399).bind fun t402 => (some t402))))) else (none)))) else (none)))) else (none))))) else (none)))))))))
theorem cenotaphlaw09_CertMerges.mono : ∀ a0 a1 a2 k, LeO (cenotaphlaw09_CertMerges.f k a0 a1 a2) (cenotaphlaw09_CertMerges.f (k + 1) a0 a1 a2) := by
 intro a0 a1 a2 k
 unfold cenotaphlaw09_CertMerges.f
 repeat' first
   | (with_reducible exact cenotaphlaw03_From.mono _ _)
   | (with_reducible exact cenotaphlaw03_To.mono _ _)
   | (with_reducible exact cenotaphref03_Fix.mono _ _)
   | (with_reducible exact cenotaphref03_Join.mono _ _ _)
   | (with_reducible exact cenotaphref03_Same.mono _ _ _)
   | (with_reducible exact cert_Merge.mono _ _ _)
   | (with_reducible exact vec_Same.mono _ _ _)
   | (with_reducible exact LeO.refl _)
   | (with_reducible exact LeO.none _)
   | (with_reducible refine LeO.ite ?_ ?_)
   | (with_reducible refine LeO.bind ?_ (fun _ => ?_))
   | exact cenotaphlaw03_From.mono _ _
   | exact cenotaphlaw03_To.mono _ _
   | exact cenotaphref03_Fix.mono _ _
   | exact cenotaphref03_Join.mono _ _ _
   | exact cenotaphref03_Same.mono _ _ _
   | exact cert_Merge.mono _ _ _
   | exact vec_Same.mono _ _ _
   | exact LeO.none _
   | refine LeO.ite ?_ ?_
   | refine LeO.bind ?_ (fun _ => ?_)
set_option maxHeartbeats 8000000 in
set_option maxRecDepth 100000 in
theorem cenotaphlaw09_CertMerges.calls (k : Nat) (A0 : Option Addr) (c0 : Nat) (l0 : List (S56)) (A1 : Option Addr) (c1 : Nat) (l1 : List (S56)) (A2 : Option Addr) (c2 : Nat) (l2 : List (S56)) (r : Bool) (w : World) (hr0 : Kd.C k56 w A0 l0.length l0) (hc0 : l0.length ≤ c0) (hr1 : Kd.C k56 w A1 l1.length l1) (hc1 : l1.length ≤ c1) (hr2 : Kd.C k56 w A2 l2.length l2) (hc2 : l2.length ≤ c2) (h : cenotaphlaw09_CertMerges.f k l0 l1 l2 = some r) :
  Calls Try.prog 5 #[.slice A0 l0.length c0, .slice A1 l1.length c1, .slice A2 l2.length c2] w fun e w' => e = .returned (.bool r) ∧ Below w.heap.size w w' := by
 have HR0 := Aside0.mk hr0
 have HC0 := Aside0.mk hc0
 clear hr0 hc0
 have HR1 := Aside0.mk hr1
 have HC1 := Aside0.mk hc1
 clear hr1 hc1
 have HR2 := Aside0.mk hr2
 have HC2 := Aside0.mk hc2
 clear hr2 hc2
 have HB := Aside0.mk (Below.refl w.heap.size w)
 have H : ((cenotaphref03_Fix.f k l0).bind fun t356 => ((cenotaphref03_Fix.f k l1).bind fun t359 => ((cenotaphref03_Fix.f k l2).bind fun t362 => ((cenotaphlaw03_To.f k t356).bind fun t365 => ((cenotaphlaw03_To.f k t359).bind fun t368 => ((cenotaphlaw03_To.f k t362).bind fun t371 => ((cert_Merge.f k t365 t368).bind fun t374 => ((cenotaphlaw09_told.f).bind fun t377 => (if t377 = true then ((cenotaphlaw03_From.f k t374).bind fun t378 => ((cenotaphref03_Join.f k t356 t359).bind fun t381 => ((cenotaphref03_Same.f k t378 t381).bind fun t384 => (if t384 = true then ((cert_Merge.f k t368 t365).bind fun t385 => ((vec_Same.f k t374 t385).bind fun t388 => (if t388 = true then ((cert_Merge.f k t374 t368).bind fun t389 => ((vec_Same.f k t374 t389).bind fun t392 => (if t392 = true then ((cert_Merge.f k t374 t371).bind fun t393 => ((cert_Merge.f k t368 t371).bind fun t396 => ((cert_Merge.f k t365 t396).bind fun t399 => ((vec_Same.f k t393 t399).bind fun t402 => (some t402))))) else (none)))) else (none)))) else (none))))) else (none)))))))))) = some r := h
 clear h
 replace H := Option.bind_eq_some_iff.mp H
 obtain ⟨t356, A40, H⟩ := H
 replace H : ((cenotaphref03_Fix.f k l1).bind fun t359 => ((cenotaphref03_Fix.f k l2).bind fun t362 => ((cenotaphlaw03_To.f k t356).bind fun t365 => ((cenotaphlaw03_To.f k t359).bind fun t368 => ((cenotaphlaw03_To.f k t362).bind fun t371 => ((cert_Merge.f k t365 t368).bind fun t374 => ((cenotaphlaw09_told.f).bind fun t377 => (if t377 = true then ((cenotaphlaw03_From.f k t374).bind fun t378 => ((cenotaphref03_Join.f k t356 t359).bind fun t381 => ((cenotaphref03_Same.f k t378 t381).bind fun t384 => (if t384 = true then ((cert_Merge.f k t368 t365).bind fun t385 => ((vec_Same.f k t374 t385).bind fun t388 => (if t388 = true then ((cert_Merge.f k t374 t368).bind fun t389 => ((vec_Same.f k t374 t389).bind fun t392 => (if t392 = true then ((cert_Merge.f k t374 t371).bind fun t393 => ((cert_Merge.f k t368 t371).bind fun t396 => ((cert_Merge.f k t365 t396).bind fun t399 => ((vec_Same.f k t393 t399).bind fun t402 => (some t402))))) else (none)))) else (none)))) else (none))))) else (none))))))))) = some r := H
 have A4 := Aside0.mk A40
 clear A40
 replace H := Option.bind_eq_some_iff.mp H
 obtain ⟨t359, A50, H⟩ := H
 replace H : ((cenotaphref03_Fix.f k l2).bind fun t362 => ((cenotaphlaw03_To.f k t356).bind fun t365 => ((cenotaphlaw03_To.f k t359).bind fun t368 => ((cenotaphlaw03_To.f k t362).bind fun t371 => ((cert_Merge.f k t365 t368).bind fun t374 => ((cenotaphlaw09_told.f).bind fun t377 => (if t377 = true then ((cenotaphlaw03_From.f k t374).bind fun t378 => ((cenotaphref03_Join.f k t356 t359).bind fun t381 => ((cenotaphref03_Same.f k t378 t381).bind fun t384 => (if t384 = true then ((cert_Merge.f k t368 t365).bind fun t385 => ((vec_Same.f k t374 t385).bind fun t388 => (if t388 = true then ((cert_Merge.f k t374 t368).bind fun t389 => ((vec_Same.f k t374 t389).bind fun t392 => (if t392 = true then ((cert_Merge.f k t374 t371).bind fun t393 => ((cert_Merge.f k t368 t371).bind fun t396 => ((cert_Merge.f k t365 t396).bind fun t399 => ((vec_Same.f k t393 t399).bind fun t402 => (some t402))))) else (none)))) else (none)))) else (none))))) else (none)))))))) = some r := H
 have A5 := Aside0.mk A50
 clear A50
 replace H := Option.bind_eq_some_iff.mp H
 obtain ⟨t362, A60, H⟩ := H
 replace H : ((cenotaphlaw03_To.f k t356).bind fun t365 => ((cenotaphlaw03_To.f k t359).bind fun t368 => ((cenotaphlaw03_To.f k t362).bind fun t371 => ((cert_Merge.f k t365 t368).bind fun t374 => ((cenotaphlaw09_told.f).bind fun t377 => (if t377 = true then ((cenotaphlaw03_From.f k t374).bind fun t378 => ((cenotaphref03_Join.f k t356 t359).bind fun t381 => ((cenotaphref03_Same.f k t378 t381).bind fun t384 => (if t384 = true then ((cert_Merge.f k t368 t365).bind fun t385 => ((vec_Same.f k t374 t385).bind fun t388 => (if t388 = true then ((cert_Merge.f k t374 t368).bind fun t389 => ((vec_Same.f k t374 t389).bind fun t392 => (if t392 = true then ((cert_Merge.f k t374 t371).bind fun t393 => ((cert_Merge.f k t368 t371).bind fun t396 => ((cert_Merge.f k t365 t396).bind fun t399 => ((vec_Same.f k t393 t399).bind fun t402 => (some t402))))) else (none)))) else (none)))) else (none))))) else (none))))))) = some r := H
 have A6 := Aside0.mk A60
 clear A60
 replace H := Option.bind_eq_some_iff.mp H
 obtain ⟨t365, A70, H⟩ := H
 replace H : ((cenotaphlaw03_To.f k t359).bind fun t368 => ((cenotaphlaw03_To.f k t362).bind fun t371 => ((cert_Merge.f k t365 t368).bind fun t374 => ((cenotaphlaw09_told.f).bind fun t377 => (if t377 = true then ((cenotaphlaw03_From.f k t374).bind fun t378 => ((cenotaphref03_Join.f k t356 t359).bind fun t381 => ((cenotaphref03_Same.f k t378 t381).bind fun t384 => (if t384 = true then ((cert_Merge.f k t368 t365).bind fun t385 => ((vec_Same.f k t374 t385).bind fun t388 => (if t388 = true then ((cert_Merge.f k t374 t368).bind fun t389 => ((vec_Same.f k t374 t389).bind fun t392 => (if t392 = true then ((cert_Merge.f k t374 t371).bind fun t393 => ((cert_Merge.f k t368 t371).bind fun t396 => ((cert_Merge.f k t365 t396).bind fun t399 => ((vec_Same.f k t393 t399).bind fun t402 => (some t402))))) else (none)))) else (none)))) else (none))))) else (none)))))) = some r := H
 have A7 := Aside0.mk A70
 clear A70
 replace H := Option.bind_eq_some_iff.mp H
 obtain ⟨t368, A80, H⟩ := H
 replace H : ((cenotaphlaw03_To.f k t362).bind fun t371 => ((cert_Merge.f k t365 t368).bind fun t374 => ((cenotaphlaw09_told.f).bind fun t377 => (if t377 = true then ((cenotaphlaw03_From.f k t374).bind fun t378 => ((cenotaphref03_Join.f k t356 t359).bind fun t381 => ((cenotaphref03_Same.f k t378 t381).bind fun t384 => (if t384 = true then ((cert_Merge.f k t368 t365).bind fun t385 => ((vec_Same.f k t374 t385).bind fun t388 => (if t388 = true then ((cert_Merge.f k t374 t368).bind fun t389 => ((vec_Same.f k t374 t389).bind fun t392 => (if t392 = true then ((cert_Merge.f k t374 t371).bind fun t393 => ((cert_Merge.f k t368 t371).bind fun t396 => ((cert_Merge.f k t365 t396).bind fun t399 => ((vec_Same.f k t393 t399).bind fun t402 => (some t402))))) else (none)))) else (none)))) else (none))))) else (none))))) = some r := H
 have A8 := Aside0.mk A80
 clear A80
 replace H := Option.bind_eq_some_iff.mp H
 obtain ⟨t371, A90, H⟩ := H
 replace H : ((cert_Merge.f k t365 t368).bind fun t374 => ((cenotaphlaw09_told.f).bind fun t377 => (if t377 = true then ((cenotaphlaw03_From.f k t374).bind fun t378 => ((cenotaphref03_Join.f k t356 t359).bind fun t381 => ((cenotaphref03_Same.f k t378 t381).bind fun t384 => (if t384 = true then ((cert_Merge.f k t368 t365).bind fun t385 => ((vec_Same.f k t374 t385).bind fun t388 => (if t388 = true then ((cert_Merge.f k t374 t368).bind fun t389 => ((vec_Same.f k t374 t389).bind fun t392 => (if t392 = true then ((cert_Merge.f k t374 t371).bind fun t393 => ((cert_Merge.f k t368 t371).bind fun t396 => ((cert_Merge.f k t365 t396).bind fun t399 => ((vec_Same.f k t393 t399).bind fun t402 => (some t402))))) else (none)))) else (none)))) else (none))))) else (none)))) = some r := H
 have A9 := Aside0.mk A90
 clear A90
 replace H := Option.bind_eq_some_iff.mp H
 obtain ⟨t374, A100, H⟩ := H
 replace H : ((cenotaphlaw09_told.f).bind fun t377 => (if t377 = true then ((cenotaphlaw03_From.f k t374).bind fun t378 => ((cenotaphref03_Join.f k t356 t359).bind fun t381 => ((cenotaphref03_Same.f k t378 t381).bind fun t384 => (if t384 = true then ((cert_Merge.f k t368 t365).bind fun t385 => ((vec_Same.f k t374 t385).bind fun t388 => (if t388 = true then ((cert_Merge.f k t374 t368).bind fun t389 => ((vec_Same.f k t374 t389).bind fun t392 => (if t392 = true then ((cert_Merge.f k t374 t371).bind fun t393 => ((cert_Merge.f k t368 t371).bind fun t396 => ((cert_Merge.f k t365 t396).bind fun t399 => ((vec_Same.f k t393 t399).bind fun t402 => (some t402))))) else (none)))) else (none)))) else (none))))) else (none))) = some r := H
 have A10 := Aside0.mk A100
 clear A100
 replace H := Option.bind_eq_some_iff.mp H
 obtain ⟨t377, A110, H⟩ := H
 replace H : (if t377 = true then ((cenotaphlaw03_From.f k t374).bind fun t378 => ((cenotaphref03_Join.f k t356 t359).bind fun t381 => ((cenotaphref03_Same.f k t378 t381).bind fun t384 => (if t384 = true then ((cert_Merge.f k t368 t365).bind fun t385 => ((vec_Same.f k t374 t385).bind fun t388 => (if t388 = true then ((cert_Merge.f k t374 t368).bind fun t389 => ((vec_Same.f k t374 t389).bind fun t392 => (if t392 = true then ((cert_Merge.f k t374 t371).bind fun t393 => ((cert_Merge.f k t368 t371).bind fun t396 => ((cert_Merge.f k t365 t396).bind fun t399 => ((vec_Same.f k t393 t399).bind fun t402 => (some t402))))) else (none)))) else (none)))) else (none))))) else (none)) = some r := H
 have A11 := Aside0.mk A110
 clear A110
 by_cases c12 : t377 = true
 ·subst c12
  have H1 : ((cenotaphlaw03_From.f k t374).bind fun t378 => ((cenotaphref03_Join.f k t356 t359).bind fun t381 => ((cenotaphref03_Same.f k t378 t381).bind fun t384 => (if t384 = true then ((cert_Merge.f k t368 t365).bind fun t385 => ((vec_Same.f k t374 t385).bind fun t388 => (if t388 = true then ((cert_Merge.f k t374 t368).bind fun t389 => ((vec_Same.f k t374 t389).bind fun t392 => (if t392 = true then ((cert_Merge.f k t374 t371).bind fun t393 => ((cert_Merge.f k t368 t371).bind fun t396 => ((cert_Merge.f k t365 t396).bind fun t399 => ((vec_Same.f k t393 t399).bind fun t402 => (some t402))))) else (none)))) else (none)))) else (none))))) = some r := by rw [if_pos rfl] at H; exact H
  clear H
  have H := H1
  clear H1
  replace H := Option.bind_eq_some_iff.mp H
  obtain ⟨t378, A130, H⟩ := H
  replace H : ((cenotaphref03_Join.f k t356 t359).bind fun t381 => ((cenotaphref03_Same.f k t378 t381).bind fun t384 => (if t384 = true then ((cert_Merge.f k t368 t365).bind fun t385 => ((vec_Same.f k t374 t385).bind fun t388 => (if t388 = true then ((cert_Merge.f k t374 t368).bind fun t389 => ((vec_Same.f k t374 t389).bind fun t392 => (if t392 = true then ((cert_Merge.f k t374 t371).bind fun t393 => ((cert_Merge.f k t368 t371).bind fun t396 => ((cert_Merge.f k t365 t396).bind fun t399 => ((vec_Same.f k t393 t399).bind fun t402 => (some t402))))) else (none)))) else (none)))) else (none)))) = some r := H
  have A13 := Aside0.mk A130
  clear A130
  replace H := Option.bind_eq_some_iff.mp H
  obtain ⟨t381, A140, H⟩ := H
  replace H : ((cenotaphref03_Same.f k t378 t381).bind fun t384 => (if t384 = true then ((cert_Merge.f k t368 t365).bind fun t385 => ((vec_Same.f k t374 t385).bind fun t388 => (if t388 = true then ((cert_Merge.f k t374 t368).bind fun t389 => ((vec_Same.f k t374 t389).bind fun t392 => (if t392 = true then ((cert_Merge.f k t374 t371).bind fun t393 => ((cert_Merge.f k t368 t371).bind fun t396 => ((cert_Merge.f k t365 t396).bind fun t399 => ((vec_Same.f k t393 t399).bind fun t402 => (some t402))))) else (none)))) else (none)))) else (none))) = some r := H
  have A14 := Aside0.mk A140
  clear A140
  replace H := Option.bind_eq_some_iff.mp H
  obtain ⟨t384, A150, H⟩ := H
  replace H : (if t384 = true then ((cert_Merge.f k t368 t365).bind fun t385 => ((vec_Same.f k t374 t385).bind fun t388 => (if t388 = true then ((cert_Merge.f k t374 t368).bind fun t389 => ((vec_Same.f k t374 t389).bind fun t392 => (if t392 = true then ((cert_Merge.f k t374 t371).bind fun t393 => ((cert_Merge.f k t368 t371).bind fun t396 => ((cert_Merge.f k t365 t396).bind fun t399 => ((vec_Same.f k t393 t399).bind fun t402 => (some t402))))) else (none)))) else (none)))) else (none)) = some r := H
  have A15 := Aside0.mk A150
  clear A150
  by_cases c16 : t384 = true
  ·subst c16
   have H1 : ((cert_Merge.f k t368 t365).bind fun t385 => ((vec_Same.f k t374 t385).bind fun t388 => (if t388 = true then ((cert_Merge.f k t374 t368).bind fun t389 => ((vec_Same.f k t374 t389).bind fun t392 => (if t392 = true then ((cert_Merge.f k t374 t371).bind fun t393 => ((cert_Merge.f k t368 t371).bind fun t396 => ((cert_Merge.f k t365 t396).bind fun t399 => ((vec_Same.f k t393 t399).bind fun t402 => (some t402))))) else (none)))) else (none)))) = some r := by rw [if_pos rfl] at H; exact H
   clear H
   have H := H1
   clear H1
   replace H := Option.bind_eq_some_iff.mp H
   obtain ⟨t385, A170, H⟩ := H
   replace H : ((vec_Same.f k t374 t385).bind fun t388 => (if t388 = true then ((cert_Merge.f k t374 t368).bind fun t389 => ((vec_Same.f k t374 t389).bind fun t392 => (if t392 = true then ((cert_Merge.f k t374 t371).bind fun t393 => ((cert_Merge.f k t368 t371).bind fun t396 => ((cert_Merge.f k t365 t396).bind fun t399 => ((vec_Same.f k t393 t399).bind fun t402 => (some t402))))) else (none)))) else (none))) = some r := H
   have A17 := Aside0.mk A170
   clear A170
   replace H := Option.bind_eq_some_iff.mp H
   obtain ⟨t388, A180, H⟩ := H
   replace H : (if t388 = true then ((cert_Merge.f k t374 t368).bind fun t389 => ((vec_Same.f k t374 t389).bind fun t392 => (if t392 = true then ((cert_Merge.f k t374 t371).bind fun t393 => ((cert_Merge.f k t368 t371).bind fun t396 => ((cert_Merge.f k t365 t396).bind fun t399 => ((vec_Same.f k t393 t399).bind fun t402 => (some t402))))) else (none)))) else (none)) = some r := H
   have A18 := Aside0.mk A180
   clear A180
   by_cases c19 : t388 = true
   ·subst c19
    have H1 : ((cert_Merge.f k t374 t368).bind fun t389 => ((vec_Same.f k t374 t389).bind fun t392 => (if t392 = true then ((cert_Merge.f k t374 t371).bind fun t393 => ((cert_Merge.f k t368 t371).bind fun t396 => ((cert_Merge.f k t365 t396).bind fun t399 => ((vec_Same.f k t393 t399).bind fun t402 => (some t402))))) else (none)))) = some r := by rw [if_pos rfl] at H; exact H
    clear H
    have H := H1
    clear H1
    replace H := Option.bind_eq_some_iff.mp H
    obtain ⟨t389, A200, H⟩ := H
    replace H : ((vec_Same.f k t374 t389).bind fun t392 => (if t392 = true then ((cert_Merge.f k t374 t371).bind fun t393 => ((cert_Merge.f k t368 t371).bind fun t396 => ((cert_Merge.f k t365 t396).bind fun t399 => ((vec_Same.f k t393 t399).bind fun t402 => (some t402))))) else (none))) = some r := H
    have A20 := Aside0.mk A200
    clear A200
    replace H := Option.bind_eq_some_iff.mp H
    obtain ⟨t392, A210, H⟩ := H
    replace H : (if t392 = true then ((cert_Merge.f k t374 t371).bind fun t393 => ((cert_Merge.f k t368 t371).bind fun t396 => ((cert_Merge.f k t365 t396).bind fun t399 => ((vec_Same.f k t393 t399).bind fun t402 => (some t402))))) else (none)) = some r := H
    have A21 := Aside0.mk A210
    clear A210
    by_cases c22 : t392 = true
    ·subst c22
     have H1 : ((cert_Merge.f k t374 t371).bind fun t393 => ((cert_Merge.f k t368 t371).bind fun t396 => ((cert_Merge.f k t365 t396).bind fun t399 => ((vec_Same.f k t393 t399).bind fun t402 => (some t402))))) = some r := by rw [if_pos rfl] at H; exact H
     clear H
     have H := H1
     clear H1
     replace H := Option.bind_eq_some_iff.mp H
     obtain ⟨t393, A230, H⟩ := H
     replace H : ((cert_Merge.f k t368 t371).bind fun t396 => ((cert_Merge.f k t365 t396).bind fun t399 => ((vec_Same.f k t393 t399).bind fun t402 => (some t402)))) = some r := H
     have A23 := Aside0.mk A230
     clear A230
     replace H := Option.bind_eq_some_iff.mp H
     obtain ⟨t396, A240, H⟩ := H
     replace H : ((cert_Merge.f k t365 t396).bind fun t399 => ((vec_Same.f k t393 t399).bind fun t402 => (some t402))) = some r := H
     have A24 := Aside0.mk A240
     clear A240
     replace H := Option.bind_eq_some_iff.mp H
     obtain ⟨t399, A250, H⟩ := H
     replace H : ((vec_Same.f k t393 t399).bind fun t402 => (some t402)) = some r := H
     have A25 := Aside0.mk A250
     clear A250
     replace H := Option.bind_eq_some_iff.mp H
     obtain ⟨t402, A260, H⟩ := H
     replace H : (some t402) = some r := H
     have A26 := Aside0.mk A260
     clear A260
     obtain rfl := Option.some.inj H
     go_enter Try.func5, Try.ntmps5
     go_wp2_with (first | ((with_reducible refine gate_callee (f := 6) rfl ?_); refine goesL_ (some 12) rfl rfl Try.func6 (by kernel_rfl) rfl #[.slice A0 l0.length c0] rfl zq5x_0 ?_; (with_reducible refine (cenotaphref03_Fix.calls k _ _ l0 t356 _ ?side1 ?side2 A4.out).mono ?_); (case side1 => repeat (first | exact HR0.out | (with_reducible refine Kd.C_alloc ?_ _) | (with_reducible refine Kd.C_drewN ?_ _) | (with_reducible refine Kd.C_drew ?_))); (case side2 => exact HC0.out); rintro e w27 ⟨v357, rfl, ho0, hb⟩; refine ⟨_, rfl, ?_⟩; have n0_ := Aside0.mk (Kd.R_lower ho0 (below_size zq5x_1)); have n1_ := Aside0.mk (below_step zq5x_1 hb); clear HB; have HO358 := n0_; have HB := n1_; clear n0_ n1_; (try clear hb); (try clear hb2); (try clear hk); (try clear hi); (try clear ho0)) | ((with_reducible refine gate_callee (f := 6) rfl ?_); refine goesL_ (some 14) rfl rfl Try.func6 (by kernel_rfl) rfl #[.slice A1 l1.length c1] rfl zq5x_0 ?_; (with_reducible refine (cenotaphref03_Fix.calls k _ _ l1 t359 _ ?side1 ?side2 A5.out).mono ?_); (case side1 => repeat (first | exact (Kd.C_below HR1.out HB.out) | (with_reducible refine Kd.C_alloc ?_ _) | (with_reducible refine Kd.C_drewN ?_ _) | (with_reducible refine Kd.C_drew ?_))); (case side2 => exact HC1.out); rintro e w28 ⟨v360, rfl, ho0, hb⟩; refine ⟨_, rfl, ?_⟩; have n0_ := Aside0.mk (Kd.R_elder' zq5x_2 (Kd.R_base ho0) hb); have n1_ := Aside0.mk (Kd.R_lower (Kd.R_new' ho0 (Kd.R_lt zq5x_2)) (below_size zq5x_1)); have n2_ := Aside0.mk (below_step zq5x_1 hb); clear HO358; clear HB; have HO358 := n0_; have HO361 := n1_; have HB := n2_; clear n0_ n1_ n2_; (try clear hb); (try clear hb2); (try clear hk); (try clear hi); (try clear ho0)) | ((with_reducible refine gate_callee (f := 6) rfl ?_); refine goesL_ (some 16) rfl rfl Try.func6 (by kernel_rfl) rfl #[.slice A2 l2.length c2] rfl zq5x_0 ?_; (with_reducible refine (cenotaphref03_Fix.calls k _ _ l2 t362 _ ?side1 ?side2 A6.out).mono ?_); (case side1 => repeat (first | exact (Kd.C_below HR2.out HB.out) | (with_reducible refine Kd.C_alloc ?_ _) | (with_reducible refine Kd.C_drewN ?_ _) | (with_reducible refine Kd.C_drew ?_))); (case side2 => exact HC2.out); rintro e w29 ⟨v363, rfl, ho0, hb⟩; refine ⟨_, rfl, ?_⟩; have n0_ := Aside0.mk (Kd.R_elder' zq5x_2 (Kd.R_base ho0) hb); have n1_ := Aside0.mk (Kd.R_elder' zq5x_3 (Kd.R_base ho0) hb); have n2_ := Aside0.mk (Kd.R_lower (Kd.R_new' (Kd.R_new' ho0 (Kd.R_lt zq5x_2)) (Kd.R_lt zq5x_3)) (below_size zq5x_1)); have n3_ := Aside0.mk (below_step zq5x_1 hb); clear HO358; clear HO361; clear HB; have HO358 := n0_; have HO361 := n1_; have HO364 := n2_; have HB := n3_; clear n0_ n1_ n2_ n3_; (try clear hb); (try clear hb2); (try clear hk); (try clear hi); (try clear ho0); obtain ⟨Ao30, co30, eo30⟩ := Kd.R_slice HO358.out; subst eo30) | ((with_reducible refine gate_callee (f := 7) rfl ?_); refine goesL_ (some 18) rfl rfl Try.func7 (by kernel_rfl) rfl #[.slice Ao30 t356.length co30] rfl zq5x_0 ?_; (with_reducible refine (cenotaphlaw03_To.calls k _ _ t356 t365 _ ?side1 ?side2 A7.out).mono ?_); (case side1 => repeat (first | exact (Kd.R_reads' HO358.out).2.2 | (with_reducible refine Kd.C_alloc ?_ _) | (with_reducible refine Kd.C_drewN ?_ _) | (with_reducible refine Kd.C_drew ?_))); (case side2 => exact (Kd.R_reads' HO358.out).2.1); rintro e w31 ⟨v366, rfl, ho0, hb⟩; refine ⟨_, rfl, ?_⟩; have n0_ := Aside0.mk (Kd.R_below zq5x_2 hb); have n1_ := Aside0.mk (Kd.R_below zq5x_3 hb); have n2_ := Aside0.mk (Kd.R_below zq5x_4 hb); have n3_ := Aside0.mk (Kd.R_lower ho0 (below_size zq5x_1)); have n4_ := Aside0.mk (below_step zq5x_1 hb); clear HO358; clear HO361; clear HO364; clear HB; have HO358 := n0_; have HO361 := n1_; have HO364 := n2_; have HO367 := n3_; have HB := n4_; clear n0_ n1_ n2_ n3_ n4_; (try clear hb); (try clear hb2); (try clear hk); (try clear hi); (try clear ho0); obtain ⟨Ao32, co32, eo32⟩ := Kd.R_slice HO361.out; subst eo32) | ((with_reducible refine gate_callee (f := 7) rfl ?_); refine goesL_ (some 20) rfl rfl Try.func7 (by kernel_rfl) rfl #[.slice Ao32 t359.length co32] rfl zq5x_0 ?_; (with_reducible refine (cenotaphlaw03_To.calls k _ _ t359 t368 _ ?side1 ?side2 A8.out).mono ?_); (case side1 => repeat (first | exact (Kd.R_reads' HO361.out).2.2 | (with_reducible refine Kd.C_alloc ?_ _) | (with_reducible refine Kd.C_drewN ?_ _) | (with_reducible refine Kd.C_drew ?_))); (case side2 => exact (Kd.R_reads' HO361.out).2.1); rintro e w33 ⟨v369, rfl, ho0, hb⟩; refine ⟨_, rfl, ?_⟩; have n0_ := Aside0.mk (Kd.R_below zq5x_2 hb); have n1_ := Aside0.mk (Kd.R_below zq5x_3 hb); have n2_ := Aside0.mk (Kd.R_below zq5x_4 hb); have n3_ := Aside0.mk (Kd.R_elder' zq5x_5 (Kd.R_base ho0) hb); have n4_ := Aside0.mk (Kd.R_lower (Kd.R_new' ho0 (Kd.R_lt zq5x_5)) (below_size zq5x_1)); have n5_ := Aside0.mk (below_step zq5x_1 hb); clear HO358; clear HO361; clear HO364; clear HO367; clear HB; have HO358 := n0_; have HO361 := n1_; have HO364 := n2_; have HO367 := n3_; have HO370 := n4_; have HB := n5_; clear n0_ n1_ n2_ n3_ n4_ n5_; (try clear hb); (try clear hb2); (try clear hk); (try clear hi); (try clear ho0); obtain ⟨Ao34, co34, eo34⟩ := Kd.R_slice HO364.out; subst eo34) | ((with_reducible refine gate_callee (f := 7) rfl ?_); refine goesL_ (some 22) rfl rfl Try.func7 (by kernel_rfl) rfl #[.slice Ao34 t362.length co34] rfl zq5x_0 ?_; (with_reducible refine (cenotaphlaw03_To.calls k _ _ t362 t371 _ ?side1 ?side2 A9.out).mono ?_); (case side1 => repeat (first | exact (Kd.R_reads' HO364.out).2.2 | (with_reducible refine Kd.C_alloc ?_ _) | (with_reducible refine Kd.C_drewN ?_ _) | (with_reducible refine Kd.C_drew ?_))); (case side2 => exact (Kd.R_reads' HO364.out).2.1); rintro e w35 ⟨v372, rfl, ho0, hb⟩; refine ⟨_, rfl, ?_⟩; have n0_ := Aside0.mk (Kd.R_below zq5x_2 hb); have n1_ := Aside0.mk (Kd.R_below zq5x_3 hb); have n2_ := Aside0.mk (Kd.R_below zq5x_4 hb); have n3_ := Aside0.mk (Kd.R_elder' zq5x_5 (Kd.R_base ho0) hb); have n4_ := Aside0.mk (Kd.R_elder' zq5x_6 (Kd.R_base ho0) hb); have n5_ := Aside0.mk (Kd.R_lower (Kd.R_new' (Kd.R_new' ho0 (Kd.R_lt zq5x_5)) (Kd.R_lt zq5x_6)) (below_size zq5x_1)); have n6_ := Aside0.mk (below_step zq5x_1 hb); clear HO358; clear HO361; clear HO364; clear HO367; clear HO370; clear HB; have HO358 := n0_; have HO361 := n1_; have HO364 := n2_; have HO367 := n3_; have HO370 := n4_; have HO373 := n5_; have HB := n6_; clear n0_ n1_ n2_ n3_ n4_ n5_ n6_; (try clear hb); (try clear hb2); (try clear hk); (try clear hi); (try clear ho0); obtain ⟨Ao36, co36, eo36⟩ := Kd.R_slice HO367.out; subst eo36; obtain ⟨Ao37, co37, eo37⟩ := Kd.R_slice HO370.out; subst eo37) | ((with_reducible refine gate_callee (f := 23) rfl ?_); refine goesL_ (some 25) rfl rfl Try.func23 (by kernel_rfl) rfl #[.slice Ao36 t365.length co36, .slice Ao37 t368.length co37] rfl zq5x_0 ?_; (with_reducible refine (cert_Merge.calls k _ _ t365 _ _ t368 t374 _ ?side1 ?side2 ?side3 ?side4 A10.out).mono ?_); (case side1 => repeat (first | exact (Kd.R_reads' HO367.out).2.2 | (with_reducible refine Kd.C_alloc ?_ _) | (with_reducible refine Kd.C_drewN ?_ _) | (with_reducible refine Kd.C_drew ?_))); (case side2 => exact (Kd.R_reads' HO367.out).2.1); (case side3 => repeat (first | exact (Kd.R_reads' HO370.out).2.2 | (with_reducible refine Kd.C_alloc ?_ _) | (with_reducible refine Kd.C_drewN ?_ _) | (with_reducible refine Kd.C_drew ?_))); (case side4 => exact (Kd.R_reads' HO370.out).2.1); rintro e w38 ⟨v375, rfl, ho0, hb⟩; refine ⟨_, rfl, ?_⟩; have n0_ := Aside0.mk (Kd.R_below zq5x_2 hb); have n1_ := Aside0.mk (Kd.R_below zq5x_3 hb); have n2_ := Aside0.mk (Kd.R_below zq5x_4 hb); have n3_ := Aside0.mk (Kd.R_elder' zq5x_5 (Kd.R_base ho0) hb); have n4_ := Aside0.mk (Kd.R_elder' zq5x_6 (Kd.R_base ho0) hb); have n5_ := Aside0.mk (Kd.R_elder' zq5x_7 (Kd.R_base ho0) hb); have n6_ := Aside0.mk (Kd.R_lower (Kd.R_new' (Kd.R_new' (Kd.R_new' ho0 (Kd.R_lt zq5x_5)) (Kd.R_lt zq5x_6)) (Kd.R_lt zq5x_7)) (below_size zq5x_1)); have n7_ := Aside0.mk (below_step zq5x_1 hb); clear HO358; clear HO361; clear HO364; clear HO367; clear HO370; clear HO373; clear HB; have HO358 := n0_; have HO361 := n1_; have HO364 := n2_; have HO367 := n3_; have HO370 := n4_; have HO373 := n5_; have HO376 := n6_; have HB := n7_; clear n0_ n1_ n2_ n3_ n4_ n5_ n6_ n7_; (try clear hb); (try clear hb2); (try clear hk); (try clear hi); (try clear ho0)) | ((with_reducible refine gate_callee (f := 10) rfl ?_); refine goesL_ (some 26) rfl rfl Try.func10 (by kernel_rfl) rfl #[] rfl zq5x_0 ?_; (with_reducible refine (cenotaphlaw09_told.calls  true _ A11.out).mono ?_); rintro e w39 ⟨rfl, hb⟩; refine ⟨_, rfl, ?_⟩; have n0_ := Aside0.mk (Kd.R_below zq5x_2 hb); have n1_ := Aside0.mk (Kd.R_below zq5x_3 hb); have n2_ := Aside0.mk (Kd.R_below zq5x_4 hb); have n3_ := Aside0.mk (Kd.R_below zq5x_5 hb); have n4_ := Aside0.mk (Kd.R_below zq5x_6 hb); have n5_ := Aside0.mk (Kd.R_below zq5x_7 hb); have n6_ := Aside0.mk (Kd.R_below zq5x_8 hb); have n7_ := Aside0.mk (below_step zq5x_1 hb); clear HO358; clear HO361; clear HO364; clear HO367; clear HO370; clear HO373; clear HO376; clear HB; have HO358 := n0_; have HO361 := n1_; have HO364 := n2_; have HO367 := n3_; have HO370 := n4_; have HO373 := n5_; have HO376 := n6_; have HB := n7_; clear n0_ n1_ n2_ n3_ n4_ n5_ n6_ n7_; (try clear hb); (try clear hb2); (try clear hk); (try clear hi); obtain ⟨Ao40, co40, eo40⟩ := Kd.R_slice HO376.out; subst eo40) | (go_at_call 12; (with_reducible refine (cenotaphlaw03_From.calls k _ _ t374 t378 _ ?side1 ?side2 A13.out).mono ?_); (case side1 => repeat (first | exact (Kd.R_reads' HO376.out).2.2 | (with_reducible refine Kd.C_alloc ?_ _) | (with_reducible refine Kd.C_drewN ?_ _) | (with_reducible refine Kd.C_drew ?_))); (case side2 => exact (Kd.R_reads' HO376.out).2.1); rintro e w41 ⟨v379, rfl, ho0, hb⟩; have n0_ := Aside0.mk (Kd.R_elder' zq5x_2 (Kd.R_base ho0) hb); have n1_ := Aside0.mk (Kd.R_elder' zq5x_3 (Kd.R_base ho0) hb); have n2_ := Aside0.mk (Kd.R_elder' zq5x_4 (Kd.R_base ho0) hb); have n3_ := Aside0.mk (Kd.R_below zq5x_5 hb); have n4_ := Aside0.mk (Kd.R_below zq5x_6 hb); have n5_ := Aside0.mk (Kd.R_below zq5x_7 hb); have n6_ := Aside0.mk (Kd.R_below zq5x_8 hb); have n7_ := Aside0.mk (Kd.R_lower (Kd.R_new' (Kd.R_new' (Kd.R_new' ho0 (Kd.R_lt zq5x_2)) (Kd.R_lt zq5x_3)) (Kd.R_lt zq5x_4)) (below_size zq5x_1)); have n8_ := Aside0.mk (below_step zq5x_1 hb); clear HO358; clear HO361; clear HO364; clear HO367; clear HO370; clear HO373; clear HO376; clear HB; have HO358 := n0_; have HO361 := n1_; have HO364 := n2_; have HO367 := n3_; have HO370 := n4_; have HO373 := n5_; have HO376 := n6_; have HO380 := n7_; have HB := n8_; clear n0_ n1_ n2_ n3_ n4_ n5_ n6_ n7_ n8_; (try clear hb); (try clear hb2); (try clear hk); (try clear hi); (try clear ho0)) | (go_at_call 27; (with_reducible refine (cenotaphref03_Join.calls k _ _ t356 _ _ t359 t381 _ ?side1 ?side2 ?side3 ?side4 A14.out).mono ?_); (case side1 => repeat (first | exact (Kd.R_reads' HO358.out).2.2 | (with_reducible refine Kd.C_alloc ?_ _) | (with_reducible refine Kd.C_drewN ?_ _) | (with_reducible refine Kd.C_drew ?_))); (case side2 => exact (Kd.R_reads' HO358.out).2.1); (case side3 => repeat (first | exact (Kd.R_reads' HO361.out).2.2 | (with_reducible refine Kd.C_alloc ?_ _) | (with_reducible refine Kd.C_drewN ?_ _) | (with_reducible refine Kd.C_drew ?_))); (case side4 => exact (Kd.R_reads' HO361.out).2.1); rintro e w42 ⟨v382, rfl, ho0, hb⟩; have n0_ := Aside0.mk (Kd.R_elder' zq5x_2 (Kd.R_base ho0) hb); have n1_ := Aside0.mk (Kd.R_elder' zq5x_3 (Kd.R_base ho0) hb); have n2_ := Aside0.mk (Kd.R_elder' zq5x_4 (Kd.R_base ho0) hb); have n3_ := Aside0.mk (Kd.R_below zq5x_5 hb); have n4_ := Aside0.mk (Kd.R_below zq5x_6 hb); have n5_ := Aside0.mk (Kd.R_below zq5x_7 hb); have n6_ := Aside0.mk (Kd.R_below zq5x_8 hb); have n7_ := Aside0.mk (Kd.R_elder' zq5x_9 (Kd.R_base ho0) hb); have n8_ := Aside0.mk (Kd.R_lower (Kd.R_new' (Kd.R_new' (Kd.R_new' (Kd.R_new' ho0 (Kd.R_lt zq5x_2)) (Kd.R_lt zq5x_3)) (Kd.R_lt zq5x_4)) (Kd.R_lt zq5x_9)) (below_size zq5x_1)); have n9_ := Aside0.mk (below_step zq5x_1 hb); clear HO358; clear HO361; clear HO364; clear HO367; clear HO370; clear HO373; clear HO376; clear HO380; clear HB; have HO358 := n0_; have HO361 := n1_; have HO364 := n2_; have HO367 := n3_; have HO370 := n4_; have HO373 := n5_; have HO376 := n6_; have HO380 := n7_; have HO383 := n8_; have HB := n9_; clear n0_ n1_ n2_ n3_ n4_ n5_ n6_ n7_ n8_ n9_; (try clear hb); (try clear hb2); (try clear hk); (try clear hi); (try clear ho0); obtain ⟨Ao43, co43, eo43⟩ := Kd.R_slice HO380.out; subst eo43; obtain ⟨Ao44, co44, eo44⟩ := Kd.R_slice HO383.out; subst eo44) | (go_at_call 11; (with_reducible refine (cenotaphref03_Same.calls k _ _ t378 _ _ t381 true _ ?side1 ?side2 ?side3 ?side4 A15.out).mono ?_); (case side1 => repeat (first | exact (Kd.R_reads' HO380.out).2.2 | (with_reducible refine Kd.C_alloc ?_ _) | (with_reducible refine Kd.C_drewN ?_ _) | (with_reducible refine Kd.C_drew ?_))); (case side2 => exact (Kd.R_reads' HO380.out).2.1); (case side3 => repeat (first | exact (Kd.R_reads' HO383.out).2.2 | (with_reducible refine Kd.C_alloc ?_ _) | (with_reducible refine Kd.C_drewN ?_ _) | (with_reducible refine Kd.C_drew ?_))); (case side4 => exact (Kd.R_reads' HO383.out).2.1); rintro e w' ⟨rfl, ⟨nd, rfl⟩⟩) | (go_at_call 23; (with_reducible refine (cert_Merge.calls k _ _ t368 _ _ t365 t385 _ ?side1 ?side2 ?side3 ?side4 A17.out).mono ?_); (case side1 => repeat (first | exact (Kd.R_reads' HO370.out).2.2 | (with_reducible refine Kd.C_alloc ?_ _) | (with_reducible refine Kd.C_drewN ?_ _) | (with_reducible refine Kd.C_drew ?_))); (case side2 => exact (Kd.R_reads' HO370.out).2.1); (case side3 => repeat (first | exact (Kd.R_reads' HO367.out).2.2 | (with_reducible refine Kd.C_alloc ?_ _) | (with_reducible refine Kd.C_drewN ?_ _) | (with_reducible refine Kd.C_drew ?_))); (case side4 => exact (Kd.R_reads' HO367.out).2.1); rintro e w45 ⟨v386, rfl, ho0, hb⟩; have n0_ := Aside0.mk (Kd.R_below zq5x_2 hb); have n1_ := Aside0.mk (Kd.R_below zq5x_3 hb); have n2_ := Aside0.mk (Kd.R_below zq5x_4 hb); have n3_ := Aside0.mk (Kd.R_elder' zq5x_5 (Kd.R_base ho0) hb); have n4_ := Aside0.mk (Kd.R_elder' zq5x_6 (Kd.R_base ho0) hb); have n5_ := Aside0.mk (Kd.R_elder' zq5x_7 (Kd.R_base ho0) hb); have n6_ := Aside0.mk (Kd.R_elder' zq5x_8 (Kd.R_base ho0) hb); have n7_ := Aside0.mk (Kd.R_below zq5x_9 hb); have n8_ := Aside0.mk (Kd.R_below zq5x_10 hb); have n9_ := Aside0.mk (Kd.R_lower (Kd.R_new' (Kd.R_new' (Kd.R_new' (Kd.R_new' ho0 (Kd.R_lt zq5x_5)) (Kd.R_lt zq5x_6)) (Kd.R_lt zq5x_7)) (Kd.R_lt zq5x_8)) (below_size zq5x_1)); have n10_ := Aside0.mk (below_step zq5x_1 hb); clear HO358; clear HO361; clear HO364; clear HO367; clear HO370; clear HO373; clear HO376; clear HO380; clear HO383; clear HB; have HO358 := n0_; have HO361 := n1_; have HO364 := n2_; have HO367 := n3_; have HO370 := n4_; have HO373 := n5_; have HO376 := n6_; have HO380 := n7_; have HO383 := n8_; have HO387 := n9_; have HB := n10_; clear n0_ n1_ n2_ n3_ n4_ n5_ n6_ n7_ n8_ n9_ n10_; (try clear hb); (try clear hb2); (try clear hk); (try clear hi); (try clear ho0); obtain ⟨Ao46, co46, eo46⟩ := Kd.R_slice HO387.out; subst eo46) | (go_at_call 28; (with_reducible refine (vec_Same.calls k _ _ t374 _ _ t385 true _ ?side1 ?side2 ?side3 ?side4 A18.out).mono ?_); (case side1 => repeat (first | exact (Kd.R_reads' HO376.out).2.2 | (with_reducible refine Kd.C_alloc ?_ _) | (with_reducible refine Kd.C_drewN ?_ _) | (with_reducible refine Kd.C_drew ?_))); (case side2 => exact (Kd.R_reads' HO376.out).2.1); (case side3 => repeat (first | exact (Kd.R_reads' HO387.out).2.2 | (with_reducible refine Kd.C_alloc ?_ _) | (with_reducible refine Kd.C_drewN ?_ _) | (with_reducible refine Kd.C_drew ?_))); (case side4 => exact (Kd.R_reads' HO387.out).2.1); rintro e w' ⟨rfl, ⟨nd, rfl⟩⟩) | (go_at_call 23; (with_reducible refine (cert_Merge.calls k _ _ t374 _ _ t368 t389 _ ?side1 ?side2 ?side3 ?side4 A20.out).mono ?_); (case side1 => repeat (first | exact (Kd.R_reads' HO376.out).2.2 | (with_reducible refine Kd.C_alloc ?_ _) | (with_reducible refine Kd.C_drewN ?_ _) | (with_reducible refine Kd.C_drew ?_))); (case side2 => exact (Kd.R_reads' HO376.out).2.1); (case side3 => repeat (first | exact (Kd.R_reads' HO370.out).2.2 | (with_reducible refine Kd.C_alloc ?_ _) | (with_reducible refine Kd.C_drewN ?_ _) | (with_reducible refine Kd.C_drew ?_))); (case side4 => exact (Kd.R_reads' HO370.out).2.1); rintro e w47 ⟨v390, rfl, ho0, hb⟩; have n0_ := Aside0.mk (Kd.R_below zq5x_2 hb); have n1_ := Aside0.mk (Kd.R_below zq5x_3 hb); have n2_ := Aside0.mk (Kd.R_below zq5x_4 hb); have n3_ := Aside0.mk (Kd.R_elder' zq5x_5 (Kd.R_base ho0) hb); have n4_ := Aside0.mk (Kd.R_elder' zq5x_6 (Kd.R_base ho0) hb); have n5_ := Aside0.mk (Kd.R_elder' zq5x_7 (Kd.R_base ho0) hb); have n6_ := Aside0.mk (Kd.R_elder' zq5x_8 (Kd.R_base ho0) hb); have n7_ := Aside0.mk (Kd.R_below zq5x_9 hb); have n8_ := Aside0.mk (Kd.R_below zq5x_10 hb); have n9_ := Aside0.mk (Kd.R_elder' zq5x_11 (Kd.R_base ho0) hb); have n10_ := Aside0.mk (Kd.R_lower (Kd.R_new' (Kd.R_new' (Kd.R_new' (Kd.R_new' (Kd.R_new' ho0 (Kd.R_lt zq5x_5)) (Kd.R_lt zq5x_6)) (Kd.R_lt zq5x_7)) (Kd.R_lt zq5x_8)) (Kd.R_lt zq5x_11)) (below_size zq5x_1)); have n11_ := Aside0.mk (below_step zq5x_1 hb); clear HO358; clear HO361; clear HO364; clear HO367; clear HO370; clear HO373; clear HO376; clear HO380; clear HO383; clear HO387; clear HB; have HO358 := n0_; have HO361 := n1_; have HO364 := n2_; have HO367 := n3_; have HO370 := n4_; have HO373 := n5_; have HO376 := n6_; have HO380 := n7_; have HO383 := n8_; have HO387 := n9_; have HO391 := n10_; have HB := n11_; clear n0_ n1_ n2_ n3_ n4_ n5_ n6_ n7_ n8_ n9_ n10_ n11_; (try clear hb); (try clear hb2); (try clear hk); (try clear hi); (try clear ho0); obtain ⟨Ao48, co48, eo48⟩ := Kd.R_slice HO391.out; subst eo48) | (go_at_call 28; (with_reducible refine (vec_Same.calls k _ _ t374 _ _ t389 true _ ?side1 ?side2 ?side3 ?side4 A21.out).mono ?_); (case side1 => repeat (first | exact (Kd.R_reads' HO376.out).2.2 | (with_reducible refine Kd.C_alloc ?_ _) | (with_reducible refine Kd.C_drewN ?_ _) | (with_reducible refine Kd.C_drew ?_))); (case side2 => exact (Kd.R_reads' HO376.out).2.1); (case side3 => repeat (first | exact (Kd.R_reads' HO391.out).2.2 | (with_reducible refine Kd.C_alloc ?_ _) | (with_reducible refine Kd.C_drewN ?_ _) | (with_reducible refine Kd.C_drew ?_))); (case side4 => exact (Kd.R_reads' HO391.out).2.1); rintro e w' ⟨rfl, ⟨nd, rfl⟩⟩; obtain ⟨Ao49, co49, eo49⟩ := Kd.R_slice HO373.out; subst eo49) | ((with_reducible refine gate_callee (f := 23) rfl ?_); refine goesL_ (some 55) rfl rfl Try.func23 (by kernel_rfl) rfl #[.slice Ao40 t374.length co40, .slice Ao49 t371.length co49] rfl zq5x_0 ?_; (with_reducible refine (cert_Merge.calls k _ _ t374 _ _ t371 t393 _ ?side1 ?side2 ?side3 ?side4 A23.out).mono ?_); (case side1 => repeat (first | exact (Kd.R_reads' HO376.out).2.2 | (with_reducible refine Kd.C_alloc ?_ _) | (with_reducible refine Kd.C_drewN ?_ _) | (with_reducible refine Kd.C_drew ?_))); (case side2 => exact (Kd.R_reads' HO376.out).2.1); (case side3 => repeat (first | exact (Kd.R_reads' HO373.out).2.2 | (with_reducible refine Kd.C_alloc ?_ _) | (with_reducible refine Kd.C_drewN ?_ _) | (with_reducible refine Kd.C_drew ?_))); (case side4 => exact (Kd.R_reads' HO373.out).2.1); rintro e w50 ⟨v394, rfl, ho0, hb⟩; refine ⟨_, rfl, ?_⟩; have n0_ := Aside0.mk (Kd.R_below zq5x_2 hb); have n1_ := Aside0.mk (Kd.R_below zq5x_3 hb); have n2_ := Aside0.mk (Kd.R_below zq5x_4 hb); have n3_ := Aside0.mk (Kd.R_elder' zq5x_5 (Kd.R_base ho0) hb); have n4_ := Aside0.mk (Kd.R_elder' zq5x_6 (Kd.R_base ho0) hb); have n5_ := Aside0.mk (Kd.R_elder' zq5x_7 (Kd.R_base ho0) hb); have n6_ := Aside0.mk (Kd.R_elder' zq5x_8 (Kd.R_base ho0) hb); have n7_ := Aside0.mk (Kd.R_below zq5x_9 hb); have n8_ := Aside0.mk (Kd.R_below zq5x_10 hb); have n9_ := Aside0.mk (Kd.R_elder' zq5x_11 (Kd.R_base ho0) hb); have n10_ := Aside0.mk (Kd.R_elder' zq5x_12 (Kd.R_base ho0) hb); have n11_ := Aside0.mk (Kd.R_lower (Kd.R_new' (Kd.R_new' (Kd.R_new' (Kd.R_new' (Kd.R_new' (Kd.R_new' ho0 (Kd.R_lt zq5x_5)) (Kd.R_lt zq5x_6)) (Kd.R_lt zq5x_7)) (Kd.R_lt zq5x_8)) (Kd.R_lt zq5x_11)) (Kd.R_lt zq5x_12)) (below_size zq5x_1)); have n12_ := Aside0.mk (below_step zq5x_1 hb); clear HO358; clear HO361; clear HO364; clear HO367; clear HO370; clear HO373; clear HO376; clear HO380; clear HO383; clear HO387; clear HO391; clear HB; have HO358 := n0_; have HO361 := n1_; have HO364 := n2_; have HO367 := n3_; have HO370 := n4_; have HO373 := n5_; have HO376 := n6_; have HO380 := n7_; have HO383 := n8_; have HO387 := n9_; have HO391 := n10_; have HO395 := n11_; have HB := n12_; clear n0_ n1_ n2_ n3_ n4_ n5_ n6_ n7_ n8_ n9_ n10_ n11_ n12_; (try clear hb); (try clear hb2); (try clear hk); (try clear hi); (try clear ho0)) | ((with_reducible refine gate_callee (f := 23) rfl ?_); refine goesL_ (some 59) rfl rfl Try.func23 (by kernel_rfl) rfl #[.slice Ao37 t368.length co37, .slice Ao49 t371.length co49] rfl zq5x_0 ?_; (with_reducible refine (cert_Merge.calls k _ _ t368 _ _ t371 t396 _ ?side1 ?side2 ?side3 ?side4 A24.out).mono ?_); (case side1 => repeat (first | exact (Kd.R_reads' HO370.out).2.2 | (with_reducible refine Kd.C_alloc ?_ _) | (with_reducible refine Kd.C_drewN ?_ _) | (with_reducible refine Kd.C_drew ?_))); (case side2 => exact (Kd.R_reads' HO370.out).2.1); (case side3 => repeat (first | exact (Kd.R_reads' HO373.out).2.2 | (with_reducible refine Kd.C_alloc ?_ _) | (with_reducible refine Kd.C_drewN ?_ _) | (with_reducible refine Kd.C_drew ?_))); (case side4 => exact (Kd.R_reads' HO373.out).2.1); rintro e w51 ⟨v397, rfl, ho0, hb⟩; refine ⟨_, rfl, ?_⟩; have n0_ := Aside0.mk (Kd.R_below zq5x_2 hb); have n1_ := Aside0.mk (Kd.R_below zq5x_3 hb); have n2_ := Aside0.mk (Kd.R_below zq5x_4 hb); have n3_ := Aside0.mk (Kd.R_elder' zq5x_5 (Kd.R_base ho0) hb); have n4_ := Aside0.mk (Kd.R_elder' zq5x_6 (Kd.R_base ho0) hb); have n5_ := Aside0.mk (Kd.R_elder' zq5x_7 (Kd.R_base ho0) hb); have n6_ := Aside0.mk (Kd.R_elder' zq5x_8 (Kd.R_base ho0) hb); have n7_ := Aside0.mk (Kd.R_below zq5x_9 hb); have n8_ := Aside0.mk (Kd.R_below zq5x_10 hb); have n9_ := Aside0.mk (Kd.R_elder' zq5x_11 (Kd.R_base ho0) hb); have n10_ := Aside0.mk (Kd.R_elder' zq5x_12 (Kd.R_base ho0) hb); have n11_ := Aside0.mk (Kd.R_elder' zq5x_13 (Kd.R_base ho0) hb); have n12_ := Aside0.mk (Kd.R_lower (Kd.R_new' (Kd.R_new' (Kd.R_new' (Kd.R_new' (Kd.R_new' (Kd.R_new' (Kd.R_new' ho0 (Kd.R_lt zq5x_5)) (Kd.R_lt zq5x_6)) (Kd.R_lt zq5x_7)) (Kd.R_lt zq5x_8)) (Kd.R_lt zq5x_11)) (Kd.R_lt zq5x_12)) (Kd.R_lt zq5x_13)) (below_size zq5x_1)); have n13_ := Aside0.mk (below_step zq5x_1 hb); clear HO358; clear HO361; clear HO364; clear HO367; clear HO370; clear HO373; clear HO376; clear HO380; clear HO383; clear HO387; clear HO391; clear HO395; clear HB; have HO358 := n0_; have HO361 := n1_; have HO364 := n2_; have HO367 := n3_; have HO370 := n4_; have HO373 := n5_; have HO376 := n6_; have HO380 := n7_; have HO383 := n8_; have HO387 := n9_; have HO391 := n10_; have HO395 := n11_; have HO398 := n12_; have HB := n13_; clear n0_ n1_ n2_ n3_ n4_ n5_ n6_ n7_ n8_ n9_ n10_ n11_ n12_ n13_; (try clear hb); (try clear hb2); (try clear hk); (try clear hi); (try clear ho0); obtain ⟨Ao52, co52, eo52⟩ := Kd.R_slice HO398.out; subst eo52) | ((with_reducible refine gate_callee (f := 23) rfl ?_); refine goesL_ (some 60) rfl rfl Try.func23 (by kernel_rfl) rfl #[.slice Ao36 t365.length co36, .slice Ao52 t396.length co52] rfl zq5x_0 ?_; (with_reducible refine (cert_Merge.calls k _ _ t365 _ _ t396 t399 _ ?side1 ?side2 ?side3 ?side4 A25.out).mono ?_); (case side1 => repeat (first | exact (Kd.R_reads' HO367.out).2.2 | (with_reducible refine Kd.C_alloc ?_ _) | (with_reducible refine Kd.C_drewN ?_ _) | (with_reducible refine Kd.C_drew ?_))); (case side2 => exact (Kd.R_reads' HO367.out).2.1); (case side3 => repeat (first | exact (Kd.R_reads' HO398.out).2.2 | (with_reducible refine Kd.C_alloc ?_ _) | (with_reducible refine Kd.C_drewN ?_ _) | (with_reducible refine Kd.C_drew ?_))); (case side4 => exact (Kd.R_reads' HO398.out).2.1); rintro e w53 ⟨v400, rfl, ho0, hb⟩; refine ⟨_, rfl, ?_⟩; have n0_ := Aside0.mk (Kd.R_below zq5x_2 hb); have n1_ := Aside0.mk (Kd.R_below zq5x_3 hb); have n2_ := Aside0.mk (Kd.R_below zq5x_4 hb); have n3_ := Aside0.mk (Kd.R_elder' zq5x_5 (Kd.R_base ho0) hb); have n4_ := Aside0.mk (Kd.R_elder' zq5x_6 (Kd.R_base ho0) hb); have n5_ := Aside0.mk (Kd.R_elder' zq5x_7 (Kd.R_base ho0) hb); have n6_ := Aside0.mk (Kd.R_elder' zq5x_8 (Kd.R_base ho0) hb); have n7_ := Aside0.mk (Kd.R_below zq5x_9 hb); have n8_ := Aside0.mk (Kd.R_below zq5x_10 hb); have n9_ := Aside0.mk (Kd.R_elder' zq5x_11 (Kd.R_base ho0) hb); have n10_ := Aside0.mk (Kd.R_elder' zq5x_12 (Kd.R_base ho0) hb); have n11_ := Aside0.mk (Kd.R_elder' zq5x_13 (Kd.R_base ho0) hb); have n12_ := Aside0.mk (Kd.R_elder' (by (with_reducible repeat (first | apply Kd.R_alloc | apply Kd.R_drewN | apply Kd.R_drew)); exact HO398.out) (Kd.R_base ho0) hb); have n13_ := Aside0.mk (Kd.R_lower (Kd.R_new' (Kd.R_new' (Kd.R_new' (Kd.R_new' (Kd.R_new' (Kd.R_new' (Kd.R_new' (Kd.R_new' ho0 (Kd.R_lt zq5x_5)) (Kd.R_lt zq5x_6)) (Kd.R_lt zq5x_7)) (Kd.R_lt zq5x_8)) (Kd.R_lt zq5x_11)) (Kd.R_lt zq5x_12)) (Kd.R_lt zq5x_13)) (Kd.R_lt (by (with_reducible repeat (first | apply Kd.R_alloc | apply Kd.R_drewN | apply Kd.R_drew)); exact HO398.out))) (below_size zq5x_1)); have n14_ := Aside0.mk (below_step zq5x_1 hb); clear HO358; clear HO361; clear HO364; clear HO367; clear HO370; clear HO373; clear HO376; clear HO380; clear HO383; clear HO387; clear HO391; clear HO395; clear HO398; clear HB; have HO358 := n0_; have HO361 := n1_; have HO364 := n2_; have HO367 := n3_; have HO370 := n4_; have HO373 := n5_; have HO376 := n6_; have HO380 := n7_; have HO383 := n8_; have HO387 := n9_; have HO391 := n10_; have HO395 := n11_; have HO398 := n12_; have HO401 := n13_; have HB := n14_; clear n0_ n1_ n2_ n3_ n4_ n5_ n6_ n7_ n8_ n9_ n10_ n11_ n12_ n13_ n14_; (try clear hb); (try clear hb2); (try clear hk); (try clear hi); (try clear ho0); obtain ⟨Ao54, co54, eo54⟩ := Kd.R_slice HO395.out; subst eo54; obtain ⟨Ao55, co55, eo55⟩ := Kd.R_slice HO401.out; subst eo55) | ((with_reducible refine gate_callee (f := 28) rfl ?_); refine goesL_ (some 61) rfl rfl Try.func28 (by kernel_rfl) rfl #[.slice Ao54 t393.length co54, .slice Ao55 t399.length co55] rfl zq5x_0 ?_; (with_reducible refine (vec_Same.calls k _ _ t393 _ _ t399 t402 _ ?side1 ?side2 ?side3 ?side4 A26.out).mono ?_); (case side1 => repeat (first | exact (Kd.R_reads' HO395.out).2.2 | (with_reducible refine Kd.C_alloc ?_ _) | (with_reducible refine Kd.C_drewN ?_ _) | (with_reducible refine Kd.C_drew ?_))); (case side2 => exact (Kd.R_reads' HO395.out).2.1); (case side3 => repeat (first | exact (Kd.R_reads' HO401.out).2.2 | (with_reducible refine Kd.C_alloc ?_ _) | (with_reducible refine Kd.C_drewN ?_ _) | (with_reducible refine Kd.C_drew ?_))); (case side4 => exact (Kd.R_reads' HO401.out).2.1); rintro e w' ⟨rfl, ⟨nd, rfl⟩⟩; refine ⟨_, rfl, ?_⟩))
     go_ret
     exact ⟨by first | rfl | (simp [errW_none, errW_some] <;> rfl) | (simp [*, errW_none, errW_some] <;> rfl), by repeat (first | (with_reducible first | exact HB.out | apply below_alloc | apply pw_below_drewN | apply below_drew1) | exact HB.out)⟩
    ·replace c22 := Bool.eq_false_iff.mpr c22
     subst c22
     have H1 : (none) = some r := by rw [if_neg (show ¬ (false = true) by decide)] at H; exact H
     clear H
     have H := H1
     clear H1
     exact absurd H (by simp)
   ·replace c19 := Bool.eq_false_iff.mpr c19
    subst c19
    have H1 : (none) = some r := by rw [if_neg (show ¬ (false = true) by decide)] at H; exact H
    clear H
    have H := H1
    clear H1
    exact absurd H (by simp)
  ·replace c16 := Bool.eq_false_iff.mpr c16
   subst c16
   have H1 : (none) = some r := by rw [if_neg (show ¬ (false = true) by decide)] at H; exact H
   clear H
   have H := H1
   clear H1
   exact absurd H (by simp)
 ·replace c12 := Bool.eq_false_iff.mpr c12
  subst c12
  have H1 : (none) = some r := by rw [if_neg (show ¬ (false = true) by decide)] at H; exact H
  clear H
  have H := H1
  clear H1
  exact absurd H (by simp)

end Go.Proofs.Ytloeealbggobjaa.P
