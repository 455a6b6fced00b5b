import Derived.Test.YtkfehkaiifjkmaaGreatP0
namespace Go.Proofs.YtkfehkaiifjkmaaGreat.P
open Go.RowKit Go.Proofs.YtkfehkaiifjkmaaGreatW.PrintWords Go.Proofs.YtkfehkaiifjkmaaGreatW.PrintLast Go.Proofs.YtkfehkaiifjkmaaGreatW.PrintMore
set_option maxHeartbeats 8000000
set_option maxRecDepth 100000
attribute [local go_sem] max2_int min2_int max_two min_two max_three min_three max_four min_four
set_option linter.unusedVariables false
set_option linter.unusedSimpArgs false
theorem zq34_0 {p_ : Prop} (h_ : p_ := by first | (with_reducible assumption) | assumption) : p_ := h_
theorem zq34_1 {p_ : Prop} (h_ : p_ := by first | rfl | (simp; done) | (simp [*]; done)) : p_ := h_
mutual
def cenotaphref01_Compare.l0 : Nat → ByteArray → ByteArray → Int → Option (Int)
 | 0, _, _, _ => none
 | k + 1, x0, x1, x5 => if x5 < (x0.size : Int) then (cenotaphref01_Compare.j1 k x0 x1 x5 (decide (x5 < (x1.size : Int)))) else (cenotaphref01_Compare.j1 k x0 x1 x5 false)
def cenotaphref01_Compare.j1 : Nat → ByteArray → ByteArray → Int → Bool → Option (Int)
 | 0, _, _, _, _ => none
 | k + 1, x0, x1, x5, x15 => if x15 = true then (if 0 ≤ x5 then (if x5 < (x0.size : Int) then (if x5 < (x1.size : Int) then (if (bt x0 x5) < (bt x1 x5) then (some (-1)) else (if (bt x0 x5) > (bt x1 x5) then (some 1) else (cenotaphref01_Compare.l0 k x0 x1 (wrap64 (x5 + 1))))) else (none)) else (none)) else (none)) else (if (x0.size : Int) < (x1.size : Int) then (some (-1)) else (if (x0.size : Int) > (x1.size : Int) then (some 1) else (some 0)))
end
def cenotaphref01_Compare.f (k : Nat) (a0 : ByteArray) (a1 : ByteArray) : Option (Int) := cenotaphref01_Compare.l0 k a0 a1 0
theorem cenotaphref01_Compare.mono_l : ∀ k, (∀ y0 y1 y2, LeO (cenotaphref01_Compare.l0 k y0 y1 y2) (cenotaphref01_Compare.l0 (k + 1) y0 y1 y2)) ∧ (∀ y0 y1 y2 y3, LeO (cenotaphref01_Compare.j1 k y0 y1 y2 y3) (cenotaphref01_Compare.j1 (k + 1) y0 y1 y2 y3))
 | 0 => ⟨fun _ _ _ r h => by simp [cenotaphref01_Compare.l0] at h, fun _ _ _ _ r h => by simp [cenotaphref01_Compare.j1] at h⟩
 | k + 1 => by
  obtain ⟨ih0, ih1⟩ := cenotaphref01_Compare.mono_l k
  refine ⟨?_, ?_⟩
  ·intro y0 y1 y2
   unfold cenotaphref01_Compare.l0
   repeat' first
   | (with_reducible exact ih0 _ _ _)
   | (with_reducible exact ih1 _ _ _ _)
   | (with_reducible exact LeO.refl _)
   | (with_reducible exact LeO.none _)
   | (with_reducible refine LeO.ite ?_ ?_)
   | (with_reducible refine LeO.bind ?_ (fun _ => ?_))
   | exact ih0 _ _ _
   | exact ih1 _ _ _ _
   | exact LeO.none _
   | refine LeO.ite ?_ ?_
   | refine LeO.bind ?_ (fun _ => ?_)
  ·intro y0 y1 y2 y3
   unfold cenotaphref01_Compare.j1
   repeat' first
   | (with_reducible exact ih0 _ _ _)
   | (with_reducible exact ih1 _ _ _ _)
   | (with_reducible exact LeO.refl _)
   | (with_reducible exact LeO.none _)
   | (with_reducible refine LeO.ite ?_ ?_)
   | (with_reducible refine LeO.bind ?_ (fun _ => ?_))
   | exact ih0 _ _ _
   | exact ih1 _ _ _ _
   | exact LeO.none _
   | refine LeO.ite ?_ ?_
   | refine LeO.bind ?_ (fun _ => ?_)
theorem cenotaphref01_Compare.mono : ∀ a0 a1 k, LeO (cenotaphref01_Compare.f k a0 a1) (cenotaphref01_Compare.f (k + 1) a0 a1) := by
 intro a0 a1 k
 obtain ⟨ih0, ih1⟩ := cenotaphref01_Compare.mono_l k
 unfold cenotaphref01_Compare.f
 repeat' first
   | (with_reducible exact ih0 _ _ _)
   | (with_reducible exact ih1 _ _ _ _)
   | (with_reducible exact LeO.refl _)
   | (with_reducible exact LeO.none _)
   | (with_reducible refine LeO.ite ?_ ?_)
   | (with_reducible refine LeO.bind ?_ (fun _ => ?_))
   | exact ih0 _ _ _
   | exact ih1 _ _ _ _
   | exact LeO.none _
   | refine LeO.ite ?_ ?_
   | refine LeO.bind ?_ (fun _ => ?_)
theorem cenotaphref01_Compare.calls (k : Nat) (a0 : ByteArray) (a1 : ByteArray) (r : Int) (w : World) (h : cenotaphref01_Compare.f k a0 a1 = some r) :
  Calls Tryz.prog 34 #[.string a0, .string a1] w fun e w' => e = .returned (.int .i64 r) ∧ Drawn0 w w' := by
 have H : (cenotaphref01_Compare.l0 k a0 a1 0) = some r := h
 clear h
 have H' := aK H
 clear H
 go_enter Tryz.func34, Tryz.ntmps34
 go_wp2
 repeat (go_quiet (fail); try go_wp2)
 go_loopg [5] k (fun kq v5 w' => ∃ (x5_1 : Int), v5 = .int .i64 x5_1 ∧ Aside0 (cenotaphref01_Compare.l0 kq a0 a1 x5_1 = some r) ∧ Aside0 (kq ≤ k) ∧ Drawn0 w w')
 case atStart => exact ⟨(0), zq34_1, H', ⟨Nat.le_refl _⟩, by repeat (first | exact Drawn0.refl _ | apply Drawn0.step)⟩
 case round =>
  clear H'
  try clear p2
  obtain ⟨x5_1, rfl, HA, HK1, ⟨m1, rfl⟩⟩ := hrel
  cases gk with
  | zero => exact absurd HA.out (by simp [cenotaphref01_Compare.l0])
  | succ k1 =>
   have H := HA.out
   clear HA
   simp only [cenotaphref01_Compare.l0] at H
   have HC3 := aK H
   clear H
   go_upto_region 2 with (fail)
   repeat (go_quiet (fail); go_upto_region 2 with (fail))
   go_cut [15] (fun v15 wc => ∃ (kq : Nat) (x15_2 : Bool), v15 = .bool x15_2 ∧ Aside0 (cenotaphref01_Compare.j1 kq a0 a1 x5_1 x15_2 = some r) ∧ Aside0 (kq ≤ k1) ∧ Drawn0 w wc)
   case first =>
    have H := HC3.out
    clear HC3
    by_cases c4 : x5_1 < (a0.size : Int)
    ·rw [if_pos c4] at H
     have c4b0 : decide (x5_1 < (a0.size : Int)) = true := dT c4
     clear c4
     (first | rw [c4b0] | (simp only [i64_w, i32_w]; rw [c4b0]) | skip)
     have H' := aK H
     clear H
     go_wp2
     repeat (go_quiet (fail); try go_wp2)
     go_meet
     case rel => exact ⟨_, (decide (x5_1 < (a1.size : Int))), zq34_1, H', ⟨by have := HK1.out; first | omega | exact Nat.le_refl _⟩, by repeat (first | exact Drawn0.refl _ | apply Drawn0.step)⟩
    ·rw [if_neg c4] at H
     have c4b0 : decide (x5_1 < (a0.size : Int)) = false := decide_eq_false c4
     clear c4
     (first | rw [c4b0] | (simp only [i64_w, i32_w]; rw [c4b0]) | skip)
     have H' := aK H
     clear H
     go_wp2
     repeat (go_quiet (fail); try go_wp2)
     go_meet
     case rel => exact ⟨_, (false), zq34_1, H', ⟨by have := HK1.out; first | omega | exact Nat.le_refl _⟩, by repeat (first | exact Drawn0.refl _ | apply Drawn0.step)⟩
   case rest =>
    clear HC3
    try clear p2
    try clear c3
    try clear c4
    try clear c4b0
    try clear p2
    obtain ⟨kq, x15_2, rfl, HA, HJ2, ⟨mc2, rfl⟩⟩ := hcut
    cases kq with
    | zero => exact absurd HA.out (by simp [cenotaphref01_Compare.j1])
    | succ kj2 =>
     have H := HA.out
     clear HA
     simp only [cenotaphref01_Compare.j1] at H
     by_cases c5 : x15_2 = true
     ·subst c5
      have H1 : (if 0 ≤ x5_1 then (if x5_1 < (a0.size : Int) then (if x5_1 < (a1.size : Int) then (if (bt a0 x5_1) < (bt a1 x5_1) then (some (-1)) else (if (bt a0 x5_1) > (bt a1 x5_1) then (some 1) else (cenotaphref01_Compare.l0 kj2 a0 a1 (wrap64 (x5_1 + 1))))) else (none)) else (none)) else (none)) = some r := by rw [if_pos rfl] at H; exact H
      clear H
      have H := H1
      clear H1
      by_cases c6 : 0 ≤ x5_1
      ·rw [if_pos c6] at H
       have c6b0 : decide (0 ≤ x5_1) = true := dT c6
       clear c6
       by_cases c7 : x5_1 < (a0.size : Int)
       ·rw [if_pos c7] at H
        have c7b0 : decide (x5_1 < (a0.size : Int)) = true := dT c7
        clear c7
        by_cases c9 : x5_1 < (a1.size : Int)
        ·rw [if_pos c9] at H
         have c9b0 : decide (x5_1 < (a1.size : Int)) = true := dT c9
         clear c9
         by_cases c11 : (bt a0 x5_1) < (bt a1 x5_1)
         ·rw [if_pos c11] at H
          have c11b0 : decide ((bt a0 x5_1) < (bt a1 x5_1)) = true := dT c11
          clear c11
          obtain rfl := sI H
          have p8 : 0 ≤ (x5_1 : Int) := oD zq34_0
          have q8 : x5_1 < (a0.size : Int) := oD zq34_0
          have hx8 := bt_at a0 x5_1
          replace p8 := eT p8
          replace q8 := eT q8
          have p10 : 0 ≤ (x5_1 : Int) := oD zq34_0
          have q10 : x5_1 < (a1.size : Int) := oD zq34_0
          have hx10 := bt_at a1 x5_1
          replace p10 := eT p10
          replace q10 := eT q10
          go_wp2
          repeat (go_quiet (fail); try go_wp2)
          go_ret
          exact ⟨by first | rfl | (simp; done) | (simp [*]; done), by repeat (first | exact Drawn0.refl _ | apply Drawn0.step)⟩
         ·rw [if_neg c11] at H
          have c11b0 : decide ((bt a0 x5_1) < (bt a1 x5_1)) = false := decide_eq_false c11
          clear c11
          by_cases c14 : (bt a0 x5_1) > (bt a1 x5_1)
          ·rw [if_pos c14] at H
           have c14b0 : decide ((bt a1 x5_1) < (bt a0 x5_1)) = true := dT c14
           clear c14
           obtain rfl := sI H
           have p8 : 0 ≤ (x5_1 : Int) := oD zq34_0
           have q8 : x5_1 < (a0.size : Int) := oD zq34_0
           have hx8 := bt_at a0 x5_1
           replace p8 := eT p8
           replace q8 := eT q8
           have p10 : 0 ≤ (x5_1 : Int) := oD zq34_0
           have q10 : x5_1 < (a1.size : Int) := oD zq34_0
           have hx10 := bt_at a1 x5_1
           replace p10 := eT p10
           replace q10 := eT q10
           have p12 : 0 ≤ (x5_1 : Int) := oD zq34_0
           have q12 : x5_1 < (a0.size : Int) := oD zq34_0
           have hx12 := bt_at a0 x5_1
           replace p12 := eT p12
           replace q12 := eT q12
           have p13 : 0 ≤ (x5_1 : Int) := oD zq34_0
           have q13 : x5_1 < (a1.size : Int) := oD zq34_0
           have hx13 := bt_at a1 x5_1
           replace p13 := eT p13
           replace q13 := eT q13
           go_wp2
           repeat (go_quiet (fail); try go_wp2)
           go_ret
           exact ⟨by first | rfl | (simp; done) | (simp [*]; done), by repeat (first | exact Drawn0.refl _ | apply Drawn0.step)⟩
          ·rw [if_neg c14] at H
           have c14b0 : decide ((bt a1 x5_1) < (bt a0 x5_1)) = false := decide_eq_false c14
           clear c14
           have H' := aK H
           clear H
           have p8 : 0 ≤ (x5_1 : Int) := oD zq34_0
           have q8 : x5_1 < (a0.size : Int) := oD zq34_0
           have hx8 := bt_at a0 x5_1
           replace p8 := eT p8
           replace q8 := eT q8
           have p10 : 0 ≤ (x5_1 : Int) := oD zq34_0
           have q10 : x5_1 < (a1.size : Int) := oD zq34_0
           have hx10 := bt_at a1 x5_1
           replace p10 := eT p10
           replace q10 := eT q10
           have p12 : 0 ≤ (x5_1 : Int) := oD zq34_0
           have q12 : x5_1 < (a0.size : Int) := oD zq34_0
           have hx12 := bt_at a0 x5_1
           replace p12 := eT p12
           replace q12 := eT q12
           have p13 : 0 ≤ (x5_1 : Int) := oD zq34_0
           have q13 : x5_1 < (a1.size : Int) := oD zq34_0
           have hx13 := bt_at a1 x5_1
           replace p13 := eT p13
           replace q13 := eT q13
           go_wp2
           repeat (go_quiet (fail); try go_wp2)
           go_roundg kj2
           case measure => have := HK1.out; have := HJ2.out; omega
           case rel => exact ⟨(wrap64 (x5_1 + 1)), zq34_1, H', ⟨by have := HK1.out; have := HJ2.out; omega⟩, by repeat (first | exact Drawn0.refl _ | apply Drawn0.step)⟩
        ·rw [if_neg c9] at H
         exact absurd H (by simp)
       ·rw [if_neg c7] at H
        exact absurd H (by simp)
      ·rw [if_neg c6] at H
       exact absurd H (by simp)
     ·replace c5 := Bool.eq_false_iff.mpr c5
      subst c5
      have H1 : (if (a0.size : Int) < (a1.size : Int) then (some (-1)) else (if (a0.size : Int) > (a1.size : Int) then (some 1) else (some 0))) = some r := by rw [if_neg (show ¬ (false = true) by decide)] at H; exact H
      clear H
      have H := H1
      clear H1
      by_cases c15 : (a0.size : Int) < (a1.size : Int)
      ·rw [if_pos c15] at H
       have c15b0 : decide ((a0.size : Int) < (a1.size : Int)) = true := dT c15
       have c15b1 : decide (a0.size < a1.size) = true := dT (Int.ofNat_lt.mp c15)
       clear c15
       obtain rfl := sI H
       go_wp2
       repeat (go_quiet (fail); try go_wp2)
       go_ret
       exact ⟨by first | rfl | (simp; done) | (simp [*]; done), by repeat (first | exact Drawn0.refl _ | apply Drawn0.step)⟩
      ·rw [if_neg c15] at H
       have c15b0 : decide ((a0.size : Int) < (a1.size : Int)) = false := decide_eq_false c15
       have c15b1 : decide (a0.size < a1.size) = false := decide_eq_false (fun h => c15 (Int.ofNat_lt.mpr h))
       clear c15
       by_cases c16 : (a0.size : Int) > (a1.size : Int)
       ·rw [if_pos c16] at H
        have c16b0 : decide ((a1.size : Int) < (a0.size : Int)) = true := dT c16
        have c16b1 : decide (a1.size < a0.size) = true := dT (Int.ofNat_lt.mp c16)
        clear c16
        obtain rfl := sI H
        go_wp2
        repeat (go_quiet (fail); try go_wp2)
        go_ret
        exact ⟨by first | rfl | (simp; done) | (simp [*]; done), by repeat (first | exact Drawn0.refl _ | apply Drawn0.step)⟩
       ·rw [if_neg c16] at H
        have c16b0 : decide ((a1.size : Int) < (a0.size : Int)) = false := decide_eq_false c16
        have c16b1 : decide (a1.size < a0.size) = false := decide_eq_false (fun h => c16 (Int.ofNat_lt.mpr h))
        clear c16
        obtain rfl := sI H
        go_wp2
        repeat (go_quiet (fail); try go_wp2)
        go_ret
        exact ⟨by first | rfl | (simp; done) | (simp [*]; done), by repeat (first | exact Drawn0.refl _ | apply Drawn0.step)⟩
theorem zq59_0 {p_ : Prop} (h_ : p_ := by repeat (first | (with_reducible first | exact HB.out | apply bA | apply pB | apply bW) | exact HB.out)) : p_ := h_
theorem zq59_1 {p_ : Prop} (h_ : p_ := by first | (with_reducible assumption) | assumption) : p_ := h_
theorem zq59_2 {p_ : Prop} (h_ : p_ := by first | rfl | (simp; done) | (simp [*]; done)) : p_ := h_
def cenotaphref04_Drop.l0 : Nat → List (S61) → ByteArray → List (S61) → Int → Option ((List (S61)))
 | 0, _, _, _, _ => none
 | k + 1, x0, x1, x5, x6 => if x6 < (x0.length : Int) then (if 0 ≤ x6 then (if ((rd_T61 x0 x6).f0).toList = x1.toList then (cenotaphref04_Drop.l0 k x0 x1 x5 (wrap64 (x6 + 1))) else (if x5.length < 2932031007402 then (cenotaphref04_Drop.l0 k x0 x1 (x5 ++ [(⟨(rd_T61 x0 x6).f0, (⟨(rd_T61 x0 x6).f1.f0, (rd_T61 x0 x6).f1.f1⟩ : S59)⟩ : S61)]) (wrap64 (x6 + 1))) else (none))) else (none)) else (some x5)
def cenotaphref04_Drop.f (k : Nat) (l0 : List (S61)) (a1 : ByteArray) : Option ((List (S61))) := cenotaphref04_Drop.l0 k l0 a1 ([] : List (S61)) 0
theorem cenotaphref04_Drop.mono_l : ∀ k, (∀ y0 y1 y2 y3, LeO (cenotaphref04_Drop.l0 k y0 y1 y2 y3) (cenotaphref04_Drop.l0 (k + 1) y0 y1 y2 y3))
 | 0 => fun _ _ _ _ r h => by simp [cenotaphref04_Drop.l0] at h
 | k + 1 => by
  have ih0 := cenotaphref04_Drop.mono_l k
  ·intro y0 y1 y2 y3
   unfold cenotaphref04_Drop.l0
   repeat' first
   | (with_reducible exact ih0 _ _ _ _)
   | (with_reducible exact LeO.refl _)
   | (with_reducible exact LeO.none _)
   | (with_reducible refine LeO.ite ?_ ?_)
   | (with_reducible refine LeO.bind ?_ (fun _ => ?_))
   | exact ih0 _ _ _ _
   | exact LeO.none _
   | refine LeO.ite ?_ ?_
   | refine LeO.bind ?_ (fun _ => ?_)
theorem cenotaphref04_Drop.mono : ∀ a0 a1 k, LeO (cenotaphref04_Drop.f k a0 a1) (cenotaphref04_Drop.f (k + 1) a0 a1) := by
 intro a0 a1 k
 have ih0 := cenotaphref04_Drop.mono_l k
 unfold cenotaphref04_Drop.f
 repeat' first
   | (with_reducible exact ih0 _ _ _ _)
   | (with_reducible exact LeO.refl _)
   | (with_reducible exact LeO.none _)
   | (with_reducible refine LeO.ite ?_ ?_)
   | (with_reducible refine LeO.bind ?_ (fun _ => ?_))
   | exact ih0 _ _ _ _
   | exact LeO.none _
   | refine LeO.ite ?_ ?_
   | refine LeO.bind ?_ (fun _ => ?_)
theorem cenotaphref04_Drop.calls (k : Nat) (P0_ : Nat → Prop) (A0 : Option Addr) (c0 : Nat) (l0 : List (S61)) (a1 : ByteArray) (r : List (S61)) (w : World) (hs0 : Kd.V k61 61 w w.heap.size (fun k_ => P0_ k_) (.slice A0 l0.length c0) l0) (h : cenotaphref04_Drop.f k l0 a1 = some r) :
  Calls Tryz.prog 59 #[.slice A0 l0.length c0, .string a1] w fun e w' => ∃ v0_ : Value, e = .returned (v0_) ∧ Kd.N k61 61 w' w.heap.size (fun k_ => (P0_ k_ ∨ w.heap.size ≤ k_)) v0_ r ∧ Below w.heap.size w w' := by
 have hu61 := Tryz.underlying61
 have HO0 := aK (show Kd.V k61 61 w w.heap.size (fun k_ => (P0_ k_ ∨ w.heap.size ≤ k_)) (.slice A0 l0.length c0) l0 from Kd.V_mono hs0 (fun k_ hk => .inl hk))
 have HB := aK (Below.refl w.heap.size w)
 have H : (cenotaphref04_Drop.l0 k l0 a1 ([] : List (S61)) 0) = some r := h
 clear h
 have H' := aK H
 clear H
 go_enter Tryz.func59, Tryz.ntmps59
 go_wp2
 go_loopg [5, 6] k (fun kq v5 v6 w' => ∃ (x5_1 : List (S61)) (x6_1 : Int), v6 = .int .i64 x6_1 ∧ Aside0 (cenotaphref04_Drop.l0 kq l0 a1 x5_1 x6_1 = some r) ∧ Aside0 (kq ≤ k) ∧ Aside0 (Kd.V k61 61 w' w.heap.size (fun k_ => (P0_ k_ ∨ w.heap.size ≤ k_) ∧ some k_ ≠ (v5 : Value).ownBlock) (.slice A0 l0.length c0) l0) ∧ Aside0 (Kd.N k61 61 w' w.heap.size (fun k_ => (P0_ k_ ∨ w.heap.size ≤ k_)) v5 x5_1) ∧ Aside0 (Below w.heap.size w w'))
 case atStart => exact ⟨(([] : List (S61))), (0), zq59_2, H', ⟨Nat.le_refl _⟩, ⟨by (with_reducible repeat (first | apply Kd.V_alloc | apply Kd.V_drewN | apply Kd.V_drew)); exact Kd.V_mono HO0.out (fun _ hk => ⟨hk, (by simp [Value.ownBlock])⟩)⟩, ⟨by first | exact Kd.S_nil _ _ _ _ _ | exact Kd.N_nil _ _ _ _ _ | exact Kd.V_nil _ _ _ _ _ | exact Kd.Q_nil _ _ _ _ _ | exact Kd.R_nil _ _ _ _ _⟩, ⟨by repeat (first | (with_reducible first | exact HB.out | apply bA | apply pB | apply bW) | exact HB.out)⟩⟩
 case round =>
  clear H'
  try clear p2
  obtain ⟨x5_1, x6_1, rfl, HA, HK1, HO_0, HO_5, HB⟩ := hrel
  cases gk with
  | zero => exact absurd HA.out (by simp [cenotaphref04_Drop.l0])
  | succ k1 =>
   have H := HA.out
   clear HA
   simp only [cenotaphref04_Drop.l0] at H
   by_cases c3 : x6_1 < (l0.length : Int)
   ·rw [if_pos c3] at H
    have c3b0 : decide (x6_1 < (l0.length : Int)) = true := dT c3
    clear c3
    by_cases c4 : 0 ≤ x6_1
    ·rw [if_pos c4] at H
     have c4b0 : decide (0 ≤ x6_1) = true := dT c4
     clear c4
     by_cases c5 : ((rd_T61 l0 x6_1).f0).toList = a1.toList
     ·rw [if_pos c5] at H
      have c5b0 : (((rd_T61 l0 x6_1).f0).toList == a1.toList) = true := beq_iff_eq.mpr c5
      have c5b1 : (((rd_T61 l0 x6_1).f0).toList != a1.toList) = false := bne_eq_false_iff_eq.mpr c5
      clear c5
      have H' := aK H
      clear H
      have p101 : 0 ≤ (x6_1 : Int) := oD zq59_1
      have q101 : x6_1 < (l0.length : Int) := oD zq59_1
      obtain ⟨ad101, A101_2, c101_2, e101, hx101_0, hx101_1, hx101_2, hl101_2, hi101_2⟩ := at_T61 (Kd.V_reads' HO_0.out).2.2 x6_1 p101 q101
      cases e101
      obtain ⟨ce101, hce101, hMe101, hcc101⟩ := Kd.V_get HO_0.out z61 x6_1 p101 (by first | exact q101 | exact oD zq59_1 | (have e_ := (Kd.V_reads' HO_0.out).1; omega))
      obtain ⟨ua101_2, uc101_2, rfl, ul101_2, ge101_2⟩ := k61_openF hMe101
      have hv101_2 := hcc101 2 _ rfl
      rw [add_field _ _ 2 (by omega)] at hv101_2
      replace hv101_2 := sI (hv101_2.symm.trans hx101_2)
      injection hv101_2 with hva_ hvn_ hvc_
      rw [hva_] at ge101_2
      rw [hvc_] at ul101_2
      have HL101_2 := aK (show Kd.V (Kd.int .i64) 3 _ w.heap.size _ _ ((rd_T61 l0 x6_1).f1.f1) from Kd.V_mk ul101_2 ge101_2)
      clear hva_ hvn_ hvc_ ge101_2 ul101_2
      clear hcc101 hce101
      have HR101_2 := aK hi101_2
      have HC101_2 := aK hl101_2
      clear hi101_2 hl101_2
      replace p101 := eT p101
      replace q101 := eT q101
      go_wp2
      go_roundg k1
      case measure => have := HK1.out; omega
      case rel => exact ⟨(x5_1), (wrap64 (x6_1 + 1)), zq59_2, H', ⟨by have := HK1.out; omega⟩, ⟨by (with_reducible repeat (first | apply Kd.V_alloc | apply Kd.V_drewN | apply Kd.V_drew)); exact HO_0.out⟩, ⟨by (with_reducible repeat (first | apply Kd.N_alloc | apply Kd.N_drewN | apply Kd.N_drew)); exact HO_5.out⟩, ⟨by repeat (first | (with_reducible first | exact HB.out | apply bA | apply pB | apply bW) | exact HB.out)⟩⟩
     ·rw [if_neg c5] at H
      have c5b0 : (((rd_T61 l0 x6_1).f0).toList == a1.toList) = false := beq_eq_false_iff_ne.mpr c5
      have c5b1 : (((rd_T61 l0 x6_1).f0).toList != a1.toList) = true := bne_iff_ne.mpr c5
      by_cases c6 : x5_1.length < 2932031007402
      ·rw [if_pos c6] at H
       have LMc6 := aK c6
       clear c6
       obtain ⟨y103, hy103⟩ : ∃ y_ : List (S61), y_ = (x5_1 ++ [(⟨(rd_T61 l0 x6_1).f0, (⟨(rd_T61 l0 x6_1).f1.f0, (rd_T61 l0 x6_1).f1.f1⟩ : S59)⟩ : S61)]) := ⟨_, rfl⟩
       replace H : (cenotaphref04_Drop.l0 k1 l0 a1 y103 (wrap64 (x6_1 + 1))) = some r := by first | (rw [hy103]; with_reducible exact H) | (have H2_ := (Option.bind_some _ _).symm.trans H; rw [hy103]; with_reducible exact H2_) | (have H2_ := (Option.bind_some _ _).symm.trans H; with_reducible exact H2_) | with_reducible exact H | (rw [hy103]; exact H) | exact H
       have Ny103 := aK hy103
       clear hy103
       have H' := aK H
       clear H
       have p101 : 0 ≤ (x6_1 : Int) := oD zq59_1
       have q101 : x6_1 < (l0.length : Int) := oD zq59_1
       obtain ⟨ad101, A101_2, c101_2, e101, hx101_0, hx101_1, hx101_2, hl101_2, hi101_2⟩ := at_T61 (Kd.V_reads' HO_0.out).2.2 x6_1 p101 q101
       cases e101
       obtain ⟨ce101, hce101, hMe101, hcc101⟩ := Kd.V_get HO_0.out z61 x6_1 p101 (by first | exact q101 | exact oD zq59_1 | (have e_ := (Kd.V_reads' HO_0.out).1; omega))
       obtain ⟨ua101_2, uc101_2, rfl, ul101_2, ge101_2⟩ := k61_openF hMe101
       have hv101_2 := hcc101 2 _ rfl
       rw [add_field _ _ 2 (by omega)] at hv101_2
       replace hv101_2 := sI (hv101_2.symm.trans hx101_2)
       injection hv101_2 with hva_ hvn_ hvc_
       rw [hva_] at ge101_2
       rw [hvc_] at ul101_2
       have HL101_2 := aK (show Kd.V (Kd.int .i64) 3 _ w.heap.size _ _ ((rd_T61 l0 x6_1).f1.f1) from Kd.V_mk ul101_2 ge101_2)
       clear hva_ hvn_ hvc_ ge101_2 ul101_2
       clear hcc101 hce101
       have HR101_2 := aK hi101_2
       have HC101_2 := aK hl101_2
       clear hi101_2 hl101_2
       replace p101 := eT p101
       replace q101 := eT q101
       have p102 : 0 ≤ (x6_1 : Int) := oD zq59_1
       have q102 : x6_1 < (l0.length : Int) := oD zq59_1
       obtain ⟨ad102, A102_2, c102_2, e102, hx102_0, hx102_1, hx102_2, hl102_2, hi102_2⟩ := at_T61 (Kd.V_reads' HO_0.out).2.2 x6_1 p102 q102
       obtain rfl : ad101 = ad102 := (by injection e102)
       obtain ⟨ce102, hce102, hMe102, hcc102⟩ := Kd.V_get HO_0.out z61 x6_1 p102 (by first | exact q102 | exact oD zq59_1 | (have e_ := (Kd.V_reads' HO_0.out).1; omega))
       obtain ⟨ua102_2, uc102_2, rfl, ul102_2, ge102_2⟩ := k61_openF hMe102
       have hv102_2 := hcc102 2 _ rfl
       rw [add_field _ _ 2 (by omega)] at hv102_2
       replace hv102_2 := sI (hv102_2.symm.trans hx102_2)
       injection hv102_2 with hva_ hvn_ hvc_
       rw [hva_] at ge102_2
       rw [hvc_] at ul102_2
       have HL102_2 := aK (show Kd.V (Kd.int .i64) 3 _ w.heap.size _ _ ((rd_T61 l0 x6_1).f1.f1) from Kd.V_mk ul102_2 ge102_2)
       clear hva_ hvn_ hvc_ ge102_2 ul102_2
       clear hcc102 hce102
       have HR102_2 := aK hi102_2
       have HC102_2 := aK hl102_2
       clear hi102_2 hl102_2
       replace p102 := eT p102
       replace q102 := eT q102
       have ea_ := sI (hx101_2.symm.trans hx102_2)
       injection ea_ with ea_ en_ ec_
       subst ea_
       subst ec_
       clear en_
       go_wp2_with (first | ((with_reducible refine gate_builtin (b := .append) (xs := #[.tmp 20, .tmp 25]) rfl ?_); at_builtin; refine Kd.N_append k61 (w0 := w) w.heap.size rfl (.tmp 20) (.tmp 25) 22 61 (.agg #[(.string ⟨#[]⟩), (.int .i64 0), (.slice none 0 0)]) 48 rfl Tryz.underlying22 info61 rfl (by decide) (by omega) u5 x5_1 (⟨(rd_T61 l0 x6_1).f0, (⟨(rd_T61 l0 x6_1).f1.f0, (rd_T61 l0 x6_1).f1.f1⟩ : S59)⟩ : S61) [.string ((rd_T61 l0 x6_1).f0), .int .i64 ((rd_T61 l0 x6_1).f1.f0), .slice A101_2 ((rd_T61 l0 x6_1).f1.f1).length c101_2] (fun k_ => (P0_ k_ ∨ w.heap.size ≤ k_)) (fun k_ => ((fun k_ => (P0_ k_ ∨ w.heap.size ≤ k_))) k_ ∧ some k_ ≠ (u5 : Value).ownBlock) rfl rfl ?aP (fun _ hk => hk) ?aF ?aO ?aB ?aS ?aL ?_; (case aP => exact (k61_mkF _ _ (⟨(rd_T61 l0 x6_1).f0, (⟨(rd_T61 l0 x6_1).f1.f0, (rd_T61 l0 x6_1).f1.f1⟩ : S59)⟩ : S61) (Kd.V_reads' (Kd.V_mono (ok' := (fun k_ => ((fun k_ => (P0_ k_ ∨ w.heap.size ≤ k_))) k_ ∧ some k_ ≠ (u5 : Value).ownBlock)) (HL102_2.out) (fun k_ hk => ⟨hk.1, hk.2⟩))).2.1 (Kd.V_F (Kd.V_mono (ok' := (fun k_ => ((fun k_ => (P0_ k_ ∨ w.heap.size ≤ k_))) k_ ∧ some k_ ≠ (u5 : Value).ownBlock)) (HL102_2.out) (fun k_ hk => ⟨hk.1, hk.2⟩))))); (case aB => exact zq59_0); (case aF => exact (fun k_ hk => (.inr (Nat.le_trans (below_size zq59_0) hk)))); (case aO => exact (by (with_reducible repeat (first | apply Kd.N_alloc | apply Kd.N_drewN | apply Kd.N_drew)); exact HO_5.out)); (case aS => exact (below_size zq59_0)); (case aL => have := LMc6.out; omega); intro v104 w7 ho hb hg hat; rw [← Ny103.out] at ho; replace HO_0 := aK (Kd.V_afterv (ok := (fun k_ => (P0_ k_ ∨ w.heap.size ≤ k_))) (by (with_reducible repeat (first | apply Kd.V_alloc | apply Kd.V_drewN | apply Kd.V_drew)); exact HO_0.out) hg hat); replace HL101_2 := aK (Kd.V_afterv (ok := (fun k_ => (P0_ k_ ∨ w.heap.size ≤ k_))) (by (with_reducible repeat (first | apply Kd.V_alloc | apply Kd.V_drewN | apply Kd.V_drew)); exact HL101_2.out) hg hat); replace HL102_2 := aK (Kd.V_afterv (ok := (fun k_ => (P0_ k_ ∨ w.heap.size ≤ k_))) (by (with_reducible repeat (first | apply Kd.V_alloc | apply Kd.V_drewN | apply Kd.V_drew)); exact HL102_2.out) hg hat); replace HB := aK (hb); have HO105 := aK (ho); clear HO_5; clear ho hb hg hat))
       go_roundg k1
       case measure => have := HK1.out; omega
       case rel => exact ⟨(y103), (wrap64 (x6_1 + 1)), zq59_2, H', ⟨by have := HK1.out; omega⟩, ⟨by (with_reducible repeat (first | apply Kd.V_alloc | apply Kd.V_drewN | apply Kd.V_drew)); exact HO_0.out⟩, ⟨by (with_reducible repeat (first | apply Kd.N_alloc | apply Kd.N_drewN | apply Kd.N_drew)); exact HO105.out⟩, ⟨by repeat (first | (with_reducible first | exact HB.out | apply bA | apply pB | apply bW) | exact HB.out)⟩⟩
      ·rw [if_neg c6] at H
       exact absurd H (by simp)
    ·rw [if_neg c4] at H
     exact absurd H (by simp)
   ·rw [if_neg c3] at H
    have c3b0 : decide (x6_1 < (l0.length : Int)) = false := decide_eq_false c3
    clear c3
    obtain rfl := sI H
    go_wp2
    go_ret
    exact ⟨_, by first | rfl | (simp [errW_none, errW_some] <;> rfl) | (simp [*, errW_none, errW_some] <;> rfl), by (with_reducible repeat (first | apply Kd.N_alloc | apply Kd.N_drewN | apply Kd.N_drew)); exact HO_5.out, by repeat (first | (with_reducible first | exact HB.out | apply bA | apply pB | apply bW) | exact HB.out)⟩
def cenotaphref02_Count.f (a0_0 : Int) (l0_1 : List Int) : Option (Int) := some (wrap64 (a0_0 + (l0_1.length : Int)))
theorem cenotaphref02_Count.calls (a0_0 : Int) (A0_1 : Option Addr) (c0_1 : Nat) (l0_1 : List Int) (r : Int) (w : World) (hr0_1 : Kd.C (Kd.int .i64) w A0_1 l0_1.length l0_1) (hc0_1 : l0_1.length ≤ c0_1) (h : cenotaphref02_Count.f a0_0 l0_1 = some r) :
  Calls Tryz.prog 60 #[.agg #[.int .i64 a0_0, .slice A0_1 l0_1.length c0_1]] w fun e w' => e = .returned (.int .i64 r) ∧ Below w.heap.size w w' := by
 have hu59 := Tryz.underlying59
 have HR0_1 := aK hr0_1
 have HC0_1 := aK hc0_1
 clear hr0_1 hc0_1
 have HB := aK (Below.refl w.heap.size w)
 have H : (some (wrap64 (a0_0 + (l0_1.length : Int)))) = some r := h
 clear h
 obtain rfl := sI H
 go_enter Tryz.func60, Tryz.ntmps60
 go_wp2_with (first | ((with_reducible refine gate_dst (N := 1) rfl ?_); refine box_event ?hg (N := 1) ?hd (cs := #[.int .i64 a0_0, .slice A0_1 l0_1.length c0_1]) (t := 59) ?hr ?_; (case hd => rfl); (case hg => rfl); (case hr => first | (go_simp; done) | (go_simp; rfl)); intro gb106 hg w2 hbox hb; have BK106 := aK (hbox); have GW106 := aK ((by rw [hg]; exact (below_size (by repeat (first | (with_reducible first | exact HB.out | apply bA | apply pB | apply bW) | exact HB.out))) : w.heap.size ≤ gb106)); have GE106 := aK ((by rw [hg]; exact (below_size (by repeat (first | (with_reducible first | exact HB.out | apply bA | apply pB | apply bW) | exact HB.out))) : w.heap.size ≤ gb106)); replace HB := aK (bS (by repeat (first | (with_reducible first | exact HB.out | apply bA | apply pB | apply bW) | exact HB.out)) hb); clear hb hbox hg; have hcz3_0 : w2.cell? ⟨gb106, 0, none⟩ = some (.int .i64 a0_0) := (bC BK106.out 0).trans rfl; have hcz3_1 : w2.cell? ⟨gb106, 1, none⟩ = some (.slice A0_1 l0_1.length c0_1) := (bC BK106.out 1).trans rfl; have hfz3_0 := bF_ BK106.out 0; have hfz3_1 := bF_ BK106.out 1))
 go_ret
 exact ⟨by first | rfl | (simp [errW_none, errW_some] <;> rfl) | (simp [*, errW_none, errW_some] <;> rfl), by repeat (first | (with_reducible first | exact HB.out | apply bA | apply pB | apply bW | refine below_set ?_ GE106.out) | exact HB.out)⟩
theorem lead_r : LeadK k61 (Kd.int .i64) S61.f0 (fun x => x.f1.f0) (fun x => x.f1.f1) := ⟨rfl, (Kd.heap_int .i64), fun h => k61_open h, fun h1 h2 => k61_mk _ _ h1 h2⟩
def sinkO (k : Nat) (v : S61) : List S61 → List S61 → Option (List S61)
 | [], q => some (v :: q)
 | u :: p, q => (cenotaphref01_Compare.f k u.f0 v.f0).bind fun c => if c > 0 then sinkO k v p (u :: q) else some ((u :: p).reverse ++ v :: q)
theorem sinkO_mono (k : Nat) (v : S61) : ∀ (p q : List S61), LeO (sinkO k v p q) (sinkO (k + 1) v p q)
 | [], _ => LeO.refl _
 | u :: p, q => by unfold sinkO; exact LeO.bind (cenotaphref01_Compare.mono _ _ _) (fun _ => LeO.ite (sinkO_mono k v p _) (LeO.refl _))
def cenotaphref04_put.f (k : Nat) (l0 : List S61) (a1 : ByteArray) (u2 : Int) (e2 : List Int) : Option (List S61) := (cenotaphref04_Drop.f k l0 a1).bind fun d => (cenotaphref02_Count.f u2 e2).bind fun c => if c < 1 then some d else if d.length < 1000000000 then sinkO k ⟨a1, ⟨u2, e2⟩⟩ d.reverse [] else none
theorem cenotaphref04_put.mono : ∀ a0 a1 a2 a3 k, LeO (cenotaphref04_put.f k a0 a1 a2 a3) (cenotaphref04_put.f (k + 1) a0 a1 a2 a3) := by
 intro a0 a1 a2 a3 k
 unfold cenotaphref04_put.f
 exact LeO.bind (cenotaphref04_Drop.mono _ _ _) (fun _ => LeO.bind (LeO.refl _) (fun _ => LeO.ite (LeO.refl _) (LeO.ite (sinkO_mono _ _ _ _) (LeO.refl _))))
theorem cell_below2 {w W : World} {a : Addr} {v : Value} (h : w.cell? a = some v) (hb : Below w.heap.size w W) : W.cell? a = some v := (hb.cell (wl_ w _ h)).trans h
theorem cell_drew2 {w : World} {a : Addr} {v : Value} (h : w.cell? a = some v) : w.drew.cell? a = some v := cell_below2 h (bW (Below.refl _ _))
theorem swap_list {α : Type} (p q : List α) (u v z : α) : (((u :: p).reverse ++ v :: q).set p.length (((u :: p).reverse ++ v :: q).getD (p.length + 1) z)).set (p.length + 1) (((u :: p).reverse ++ v :: q).getD p.length z) = p.reverse ++ v :: u :: q := by
 have e : (u :: p).reverse ++ v :: q = p.reverse ++ u :: v :: q := by simp
 rw [e]
 have hl : p.reverse.length = p.length := List.length_reverse
 have g1 : (p.reverse ++ u :: v :: q).getD (p.length + 1) z = v := by
  rw [List.getD_eq_getElem?_getD, ← hl, List.getElem?_append_right (by omega)]
  simp
 have g2 : (p.reverse ++ u :: v :: q).getD p.length z = u := by
  rw [List.getD_eq_getElem?_getD, ← hl, List.getElem?_append_right (by omega)]
  simp
 rw [g1, g2, ← hl, List.set_append_right _ _ (by omega), List.set_append_right _ _ (by omega)]
 simp
theorem cenotaphref04_put.calls (k : Nat) (P0_ : Nat → Prop) (A0 : Option Addr) (c0 : Nat) (l0 : List S61) (a1 : ByteArray) (u2 : Int) (P2_1_ : Nat → Prop) (A2 : Option Addr) (c2 : Nat) (e2 : List Int) (r : List S61) (w : World) (hs0 : Kd.V k61 61 w w.heap.size (fun k_ => P0_ k_) (.slice A0 l0.length c0) l0) (hs2 : Kd.V (Kd.int .i64) 3 w w.heap.size (fun k_ => P2_1_ k_) (.slice A2 e2.length c2) e2) (h : cenotaphref04_put.f k l0 a1 u2 e2 = some r) :
  Calls Tryz.prog 29 #[.slice A0 l0.length c0, .string a1, .agg #[.int .i64 u2, .slice A2 e2.length c2]] w fun e w' => ∃ v0_ : Value, e = .returned (v0_) ∧ Kd.V k61 61 w' w.heap.size (fun k_ => ((P0_ k_ ∨ P2_1_ k_) ∨ w.heap.size ≤ k_)) v0_ r ∧ Below w.heap.size w w' := by
 unfold cenotaphref04_put.f at h
 obtain ⟨d, hd, h⟩ := bM h
 obtain ⟨cn, hcn, h⟩ := bM h
 have HV0 := aK hs0
 have HJF := aK (Kd.F_alloc (Kd.F_bound (Kd.V_F hs2)) (.cells #[.int .i64 u2, .slice A2 e2.length c2] 59))
 have HJL := aK (Kd.V_reads' hs2).2.1
 have HD := aK hd
 have HCN := aK hcn
 have H := aK h
 have HB := aK (bA (Below.refl w.heap.size w) (.cells #[.int .i64 u2, .slice A2 e2.length c2] 59))
 have BK := aK (blk_new w (.cells #[.int .i64 u2, .slice A2 e2.length c2] 59))
 clear hd hcn h hs0 hs2
 have hut := Tryz.underlying61
 have hut2 := Tryz.underlying59
 go_enter Tryz.func29, Tryz.ntmps29
 go_upto_region 1 with fail
 have HSZ0 := aK (show w.heap.size ≤ (w.alloc (.cells #[.int .i64 u2, .slice A2 e2.length c2] 59)).heap.size by simp)
 generalize w.alloc (.cells #[.int .i64 u2, .slice A2 e2.length c2] 59) = w3 at HJF HB BK HSZ0 ⊢
 go_wp2_with fail
 refine (cenotaphref04_Drop.calls k P0_ A0 c0 l0 a1 d _ (Kd.V_map (base' := w3.heap.size) (Kd.V_below HV0.out HB.out) (fun _ h => h)) HD.out).mono ?_
 rintro e w4 ⟨v4, rfl, hN, hb4⟩
 obtain ⟨rs, hR4, hI4⟩ := lead_N lead_r hN
 have hlen := F2.len hI4
 have HBS := aK (Kd.R_base hR4)
 have HO := aK (Kd.R_lower hR4 (below_size HB.out))
 have HI := aK (INs.bound (INs.mono (ok' := fun k => (P0_ k ∨ w.heap.size ≤ k) ∧ some k ≠ v4.ownBlock) hI4 (fun k hk => ⟨hk.1.imp_right (fun h => Nat.le_trans (below_size HB.out) h), hk.2⟩)))
 have HSZ := aK (Nat.le_trans HSZ0.out hb4.size)
 replace HBS := aK (show ∀ k, v4.ownBlock = some k → w.heap.size ≤ k from fun k hk => Nat.le_trans HSZ0.out (HBS.out k hk))
 replace HJF := aK (Kd.F_below HJF.out hb4)
 replace BK := aK (bB BK.out hb4)
 replace HB := aK (bS HB.out hb4)
 obtain ⟨A4, c4, rfl⟩ := Kd.R_slice HO.out
 have HLEN := aK hlen
 clear hN hR4 hI4 hb4 HD hlen HSZ0
 have hq0 : w4.cell? ⟨w.heap.size, 0, none⟩ = some (.int .i64 u2) := (bC BK.out 0).trans rfl
 have hq1 : w4.cell? ⟨w.heap.size, 1, none⟩ = some (.slice A2 e2.length c2) := (bC BK.out 1).trans rfl
 go_wp2_with fail
 refine (cenotaphref02_Count.calls u2 A2 c2 e2 cn w4 (Kd.F_now HJF.out) HJL.out HCN.out).mono ?_
 rintro e wb ⟨rfl, hb⟩
 replace HO := aK (Kd.R_below HO.out hb)
 have HSB := aK hb.size
 replace HI := aK (INs.mono (INs.below HI.out hb) (ok' := fun k => ((P0_ k ∨ w.heap.size ≤ k) ∧ some k ≠ (Value.slice A4 rs.length c4).ownBlock) ∧ k < wb.heap.size) (fun k hk => ⟨hk.1, Nat.lt_of_lt_of_le hk.2 HSB.out⟩))
 replace HSZ := aK (Nat.le_trans HSZ.out hb.size)
 replace HJF := aK (Kd.F_below HJF.out hb)
 replace BK := aK (bB BK.out hb)
 replace HB := aK (bS HB.out hb)
 clear hb hq0 hq1 HSB HCN
 have hh := H.out
 clear H
 by_cases hc1 : cn < 1
 ·rw [if_pos hc1] at hh
  obtain rfl := sI hh
  have hz1 : decide (cn < 1) = true := dT hc1
  have hz2 := eT hc1
  clear hh hc1
  go_wp2_with fail
  go_ret
  exact ⟨_, rfl, lead_view2 lead_r HO.out HI.out (fun k hk => .inr hk) (fun k hk => hk.1.1.imp_left Or.inl), HB.out⟩
 rw [if_neg hc1] at hh
 by_cases hdl : d.length < 1000000000
 rotate_left
 ·rw [if_neg hdl] at hh; cases hh
 rw [if_pos hdl] at hh
 have hz1 : decide (cn < 1) = false := decide_eq_false hc1
 have hz2 := eq_false hc1
 have HH := aK hh
 have LM := aK (show rs.length < 1000000000 by rw [HLEN.out]; exact hdl)
 clear hh hdl hc1
 have hq0 : wb.cell? ⟨w.heap.size, 0, none⟩ = some (.int .i64 u2) := (bC BK.out 0).trans rfl
 have hq1 : wb.cell? ⟨w.heap.size, 1, none⟩ = some (.slice A2 e2.length c2) := (bC BK.out 1).trans rfl
 go_upto_region 5 with (first | ((with_reducible refine gate_dst (N := 20) rfl ?_); refine Kd.R_lit kRW _ 61 ?hg (N := 20) ?hd (xs := ([⟨a1, u2, A2, e2.length, c2⟩] : List RW)) (inner := [.string a1, .int .i64 u2, .slice A2 e2.length c2]) (ok := fun _ => True) (okp := fun _ => True) ?hr ?hp (fun _ hk => hk) trivial (Below.refl _ _) (Nat.le_refl _) (by simp) ?_; (case hd => rfl); (case hg => rfl); (case hr => first | (go_simp; done) | (go_simp; rfl)); (case hp => exact (Reps.c3 (show Kd.M kRW _ _ _ (⟨a1, u2, A2, e2.length, c2⟩ : RW) [.string a1, .int .i64 u2, .slice A2 e2.length c2] from kRW_mkM _ _ _ _) (Reps.none _ _))); intro v121 w5 ho4 hb hg_ hnew_; clear hg_ hnew_; obtain ⟨AL, cL, rfl⟩ := Kd.R_slice ho4; have n0_ := aK (Kd.R_reads' ho4); have n1_ := aK (bS HB.out hb); have n2_ := aK (INs.below HI.out hb); have n3_ := aK (Kd.F_below HJF.out hb); have n4_ := aK (Kd.R_below HO.out hb); have n5_ := aK (Nat.le_trans HSZ.out (below_size hb)); clear HB HI HJF HO HSZ; have HL1 := n0_; have HB := n1_; have HI := n2_; have HJF := n3_; have HO := n4_; have HSZ := n5_; clear n0_ n1_ n2_ n3_ n4_ n5_; clear hb ho4) | ((with_reducible refine gate_builtin (b := .append) (xs := #[.tmp 16, .tmp 20]) rfl ?_); at_builtin; refine Kd.R_append_rows kRW (w0 := w) w.heap.size rfl (.tmp 16) (.tmp 20) 22 61 (.agg #[(.string ⟨#[]⟩), (.int .i64 0), (.slice none 0 0)]) 48 rfl Tryz.underlying22 info61 rfl (by decide) (by omega) (.slice A4 rs.length c4) rs [⟨a1, u2, A2, e2.length, c2⟩] _ _ _ (fun _ => True) (fun _ => False) rfl rfl ?aO ?aR (fun _ _ h => h) (fun _ h => h.elim) ?aF ?aB ?aS ?aL ?_; (case aR => exact HL1.out.2.2); (case aB => exact HB.out); (case aF => exact (fun _ _ => trivial)); (case aO => exact HO.out); (case aS => exact (below_size HB.out)); (case aL => have := LM.out; simp only [List.length_cons, List.length_nil]; omega); intro v6 w6 ho hb hg hat; have n0_ := aK (hb); have n1_ := aK (ho); have n2_ := aK hg; have n3_ := aK hat; clear HB HO; have HB := n0_; have HO := n1_; have HG := n2_; have HAT := n3_; clear n0_ n1_ n2_ n3_; clear ho hb hg hat))
 have hIN : INs (Kd.int .i64) S61.f0 (fun x => x.f1.f0) (fun x => x.f1.f1) w6 (fun k => ((P0_ k ∨ P2_1_ k) ∨ w.heap.size ≤ k) ∧ some k ≠ v6.ownBlock) (rs ++ [⟨a1, u2, A2, e2.length, c2⟩]) (d ++ [(⟨a1, ⟨u2, e2⟩⟩ : S61)]) := by
  have hfar : ∀ k, k < w5.heap.size → some k ≠ (Value.slice A4 rs.length c4).ownBlock → some k ≠ v6.ownBlock := fun k hk hne => by
   rcases HAT.out with h | ⟨b, h, hle⟩
   ·rw [h]; exact hne
   ·rw [h]; intro e; injection e with e; omega
  refine F2.append (INs.mono (INs.step (INs.bound HI.out) (fun k hk hlt => HG.out.block k hlt hk.1.1.2)) (fun k hk => ⟨hk.1.1.1.imp_left Or.inl, hfar k hk.2 hk.1.1.2⟩)) ⟨⟨rfl, rfl, rfl, HJL.out, ?_⟩, trivial⟩
  have hne : ∀ k, k < w.heap.size → some k ≠ (Value.slice A4 rs.length c4).ownBlock := fun k hk e => by have := HBS.out k e.symm; omega
  exact Kd.F_mono (Kd.F_step (Kd.F_bound HJF.out) (fun k hk hlt => HG.out.block k hlt (hne k hk.1.2))) (fun k hk => ⟨.inl (.inr hk.1.1), hfar k hk.2 (hne k hk.1.2)⟩)
 obtain ⟨g, cp, rfl, hg0, hg1, -⟩ := Kd.R_form HO.out (by simp)
 replace HI := aK (show INs (Kd.int .i64) S61.f0 (fun x => x.f1.f0) (fun x => x.f1.f1) w6 (fun k => ((P0_ k ∨ P2_1_ k) ∨ w.heap.size ≤ k) ∧ k ≠ g) (rs ++ [⟨a1, u2, A2, e2.length, c2⟩]) (d ++ [(⟨a1, ⟨u2, e2⟩⟩ : S61)]) from INs.mono hIN (fun k hk => ⟨hk.1, fun e => hk.2 (by rw [e]; simp [Value.ownBlock])⟩))
 have HGB := aK hg0
 clear hIN HL1 HJF HJL HG HAT HBS HSZ HV0 BK hg0 hg1 hq0 hq1
 have hN : (rs ++ [(⟨a1, u2, A2, e2.length, c2⟩ : RW)]).length = d.length + 1 := by rw [List.length_append, HLEN.out]; rfl
 have LD := aK (show d.length < 1000000000 by have := LM.out; have := HLEN.out; omega)
 rw [hN] at HO ⊢
 generalize (rs ++ [(⟨a1, u2, A2, e2.length, c2⟩ : RW)]) = L at HI HO
 clear hN LM HLEN
 generalize hN : d.length + 1 = N at HO ⊢
 have HN := aK hN
 have hmax : maxLen = 9223372036854775807 := rfl
 have hs0 : (N : Int) - 1 = (d.length : Int) := by omega
 have hw0 : wrap64 (d.length : Int) = (d.length : Int) := by rw [Go.Proofs.YtkfehkaiifjkmaaGreat.Pure.wrap_id (by omega) (by have := LD.out; omega)]
 have hwi : IntKind.i64.wrap ((N : Int) - 1) = (d.length : Int) := by rw [hs0, IntKind.wrap_i64] <;> (have := LD.out; omega)
 clear hN
 go_wp2_with fail
 go_loopw [8] (fun vi wr => ∃ (p q : List S61) (L : List RW), vi = .int .i64 ((p.length : Nat) : Int) ∧ Aside0 (p.length + q.length + 1 = N) ∧ Aside0 (sinkO k (⟨a1, ⟨u2, e2⟩⟩ : S61) p q = some r) ∧ Aside0 (Kd.R kRW 61 wr w.heap.size (fun _ => True) (.slice (some ⟨g, 0, none⟩) N cp) L) ∧ Aside0 (INs (Kd.int .i64) S61.f0 (fun x => x.f1.f0) (fun x => x.f1.f1) wr (fun k => ((P0_ k ∨ P2_1_ k) ∨ w.heap.size ≤ k) ∧ k ≠ g) L (p.reverse ++ (⟨a1, ⟨u2, e2⟩⟩ : S61) :: q)) ∧ Aside0 (Below w.heap.size w wr)) (fun vi _ => (intOf vi).toNat)
 case atStart => exact ⟨d.reverse, [], L, by rw [List.length_reverse, hw0], ⟨by rw [List.length_reverse]; exact HN.out⟩, HH, HO, ⟨by rw [List.reverse_reverse]; exact HI.out⟩, HB⟩
 case round =>
  clear HO HI HB HH hs0 hw0 hwi
  obtain ⟨p, q, L, rfl, HPQ, HH, HO, HI, HB⟩ := hrel
  cases p with
  | nil =>
   have hr : r = (⟨a1, ⟨u2, e2⟩⟩ : S61) :: q := by have h := HH.out; unfold sinkO at h; exact (sI h).symm
   subst hr
   simp only [List.length_nil]
   go_upto_region 6 with fail
   refine start_ (n := 17) (S := fun w' => True) (ds := []) #[false, false, false, false, false, false, false, false, false, false, false, false, false, false, false, false, false] (by kernel_rfl) rfl rfl trivial (fun hHeld => ?_)
   replace HO := aK (Kd.R_drew HO.out)
   replace HI := aK (INs.below HI.out (bW (Below.refl _ _)))
   replace HB := aK (bW HB.out)
   generalize wr.drew = w7 at HO HI HB hHeld ⊢
   refine p_ 0 25 (mk_ 17 0x1) ?_
   refine p_ 1 26 (mk_ 17 0x3) ?_
   refine p_ 2 27 (mk_ 17 0x7) ?_
   refine u_ 3 28 (mk_ 17 0xf) ?_
   refine u_ 4 29 (mk_ 17 0x1f) ?_
   refine u_ 5 30 (mk_ 17 0x3f) ?_
   refine u_ 6 31 (mk_ 17 0x7f) ?_
   refine u_ 7 32 (mk_ 17 0xff) ?_
   refine u_ 8 33 (mk_ 17 0x1ff) ?_
   refine u_ 9 34 (mk_ 17 0x3ff) ?_
   refine u_ 10 35 (mk_ 17 0x7ff) ?_
   refine u_ 11 36 (mk_ 17 0xfff) ?_
   refine u_ 12 37 (mk_ 17 0x1fff) ?_
   refine u_ 13 38 (mk_ 17 0x3fff) ?_
   refine u_ 14 39 (mk_ 17 0x7fff) ?_
   refine u_ 15 40 (mk_ 17 0xffff) ?_
   refine p_ 16 41 (mk_ 17 0x1ffff) ?_
   refine done_ (by kernel_rfl) ?_
   go_wp2_with fail
   go_ret
   exact ⟨_, rfl, lead_view2 lead_r HO.out HI.out (fun k hk => .inr hk) (fun k hk => hk.1), HB.out⟩
  | cons u p =>
   obtain ⟨i, hi⟩ : ∃ i, (u :: p).length = i := ⟨_, rfl⟩
   obtain ⟨m, hm⟩ : ∃ m, p.length = m := ⟨_, rfl⟩
   have him : i = m + 1 := by rw [← hi, ← hm]; rfl
   have hiN : i < N := by have := HPQ.out; rw [hi] at this; omega
   have hmN : m < N := by omega
   have hmB : (m : Int) < 4000000000 := by have := LD.out; have := HN.out; omega
   rw [hi]
   have hs1 : (i : Int) - 1 = (m : Int) := by omega
   have hw1 : wrap64 (m : Int) = (m : Int) := by rw [Go.Proofs.YtkfehkaiifjkmaaGreat.Pure.wrap_id (by omega) (by omega)]
   have hwi : IntKind.i64.wrap ((i : Int) - 1) = (m : Int) := by rw [hs1, IntKind.wrap_i64] <;> omega
   have gt1 : decide ((i : Int) > 0) = true := dT (by omega)
   have gt2 := eT (show (i : Int) > 0 by omega)
   have gt3 := eT (show 0 < i by omega)
   have gt4 : decide (0 < i) = true := dT (by omega)
   have pm := eT (show (0 : Int) ≤ (m : Int) by omega)
   have qm := eT (show (m : Int) < (N : Int) by omega)
   have pi := eT (show (0 : Int) ≤ (i : Int) by omega)
   have qi := eT (show (i : Int) < (N : Int) by omega)
   have hlx : ((u :: p).reverse ++ (⟨a1, ⟨u2, e2⟩⟩ : S61) :: q).length = N := by have := HPQ.out; simp only [List.length_append, List.length_reverse, List.length_cons] at this ⊢; omega
   have gu : ((u :: p).reverse ++ (⟨a1, ⟨u2, e2⟩⟩ : S61) :: q).getD m z61 = u := by
    rw [List.getD_eq_getElem?_getD, List.reverse_cons, List.append_assoc, List.getElem?_append_right (by rw [List.length_reverse]; omega), List.length_reverse, hm]
    simp
   have gv : ((u :: p).reverse ++ (⟨a1, ⟨u2, e2⟩⟩ : S61) :: q).getD i z61 = (⟨a1, ⟨u2, e2⟩⟩ : S61) := by
    rw [List.getD_eq_getElem?_getD, List.getElem?_append_right (by rw [List.length_reverse]; omega), List.length_reverse, hi]
    simp
   have iu := F2.getD HI.out (j := m) (by omega) zRW z61
   have iv := F2.getD HI.out (j := i) (by omega) zRW z61
   rw [gu] at iu
   rw [gv] at iv
   obtain ⟨cu, hclu, hMu, hcu, -⟩ := Kd.R_elem HO.out zRW (m : Int) (by omega) (by omega)
   obtain ⟨cv, hclv, hMv, hcv, -⟩ := Kd.R_elem HO.out zRW (i : Int) (by omega) (by omega)
   rw [Int.toNat_natCast] at hMu hcu hMv hcv
   have hSW := F2.set (F2.set HI.out (i := m) iv) (i := i) iu
   have hsw := swap_list p q u (⟨a1, ⟨u2, e2⟩⟩ : S61) z61
   rw [hm, ← him, gu, gv] at hsw
   rw [hsw] at hSW
   generalize hru : L.getD m zRW = ru at iu hMu hSW
   generalize hrv : L.getD i zRW = rv at iv hMv hSW
   obtain ⟨su, uu, uA, un, uc⟩ := ru
   obtain ⟨sv, vu, vA, vn, vc⟩ := rv
   obtain rfl := kRW_openM hMu
   obtain rfl := kRW_openM hMv
   have e1 : su = u.f0 := iu.1
   have e2 : sv = a1 := iv.1
   subst e1
   subst e2
   have HX0 := aK (show wr.cell? ⟨g, m * 3, none⟩ = some (.string u.f0) from hcu 0 _ rfl)
   have HX4 := aK (show wr.cell? ⟨g, m * 3 + 1, none⟩ = some (.int .i64 uu) from hcu 1 _ rfl)
   have HX1 := aK (show wr.cell? ⟨g, m * 3 + 2, none⟩ = some (.slice uA un uc) from hcu 2 _ rfl)
   have HX2 := aK (show wr.cell? ⟨g, i * 3, none⟩ = some (.string sv) from hcv 0 _ rfl)
   have HX5 := aK (show wr.cell? ⟨g, i * 3 + 1, none⟩ = some (.int .i64 vu) from hcv 1 _ rfl)
   have HX3 := aK (show wr.cell? ⟨g, i * 3 + 2, none⟩ = some (.slice vA vn vc) from hcv 2 _ rfl)
   have HHH := HH.out
   unfold sinkO at HHH
   obtain ⟨c, hc, HHH⟩ := bM HHH
   have HCM := aK (show cenotaphref01_Compare.f k u.f0 sv = some c from hc)
   have HRS := aK (And.intro hru hrv)
   have HPM := aK hm
   have HIM := aK him
   have HHI := aK hi
   have HSW := aK hsw
   have HGU := aK gu
   have HGV := aK gv
   have HLX := aK hlx
   clear hru hrv hm him hi hsw hSW hc HH iu iv hcu hcv hclu hclv hMu hMv gu gv hlx
   by_cases hc0 : c > 0
   ·rw [if_pos hc0] at HHH
    have HH := aK HHH
    clear HHH
    have hq1 : decide (c > 0) = true := dT hc0
    have hq2 := eT hc0
    have hq3 := eT (show 0 < c from hc0)
    clear hc0
    go_upto_region 6 with fail
    refine start_ (n := 17) (S := fun w' => w'.cell? ⟨g, m * 3, none⟩ = some (.string u.f0) ∧ w'.cell? ⟨g, m * 3 + 1, none⟩ = some (.int .i64 uu) ∧ w'.cell? ⟨g, m * 3 + 2, none⟩ = some (.slice uA un uc) ∧ w'.cell? ⟨g, i * 3, none⟩ = some (.string sv) ∧ w'.cell? ⟨g, i * 3 + 1, none⟩ = some (.int .i64 vu) ∧ w'.cell? ⟨g, i * 3 + 2, none⟩ = some (.slice vA vn vc)) (ds := []) #[false, false, false, false, false, false, false, false, false, false, false, false, false, false, false, false, false] (by kernel_rfl) rfl rfl ⟨cell_drew2 HX0.out, cell_drew2 HX4.out, cell_drew2 HX1.out, cell_drew2 HX2.out, cell_drew2 HX5.out, cell_drew2 HX3.out⟩ (fun hHeld => ?_)
    replace HO := aK (Kd.R_drew HO.out)
    replace HI := aK (INs.below HI.out (bW (Below.refl _ _)))
    replace HB := aK (bW HB.out)
    replace HX0 := aK (cell_drew2 HX0.out)
    replace HX1 := aK (cell_drew2 HX1.out)
    replace HX2 := aK (cell_drew2 HX2.out)
    replace HX3 := aK (cell_drew2 HX3.out)
    replace HX4 := aK (cell_drew2 HX4.out)
    replace HX5 := aK (cell_drew2 HX5.out)
    generalize wr.drew = w7 at HO HI HB HX0 HX1 HX2 HX3 HX4 HX5 hHeld ⊢
    refine p_ 0 25 (mk_ 17 0x1) ?_
    refine p_ 1 26 (mk_ 17 0x3) ?_
    refine p_ 2 27 (mk_ 17 0x7) ?_
    refine p_ 3 28 (mk_ 17 0xf) ?_
    refine p_ 4 29 (mk_ 17 0x1f) ?_
    refine p_ 5 30 (mk_ 17 0x3f) ?_
    refine p_ 6 31 (mk_ 17 0x7f) ?_
    refine p_ 7 32 (mk_ 17 0xff) ?_
    refine t_ 8 33 (mk_ 17 0x1ff) hHeld ?_
    refine p_ 9 34 (mk_ 17 0x3ff) ?_
    refine p_ 10 35 (mk_ 17 0x7ff) ?_
    refine p_ 11 36 (mk_ 17 0xfff) ?_
    refine p_ 12 37 (mk_ 17 0x1fff) ?_
    refine t_ 13 38 (mk_ 17 0x3fff) hHeld ?_
    refine one_ (i := 14) (N := some 39) #[true, true, true, true, true, true, true, true, true, true, true, true, true, true, true, false, false] rfl rfl (by kernel_rfl) (by decide) (fun K hK => ?_)
    refine goes_ Tryz.func34 (by kernel_rfl) rfl #[.string u.f0, .string sv] (by rfl) rfl rfl (by (try simp only [List.map_toArray, List.map_cons, List.map_nil]); first | done | rfl) ?_
    refine (cenotaphref01_Compare.calls k u.f0 sv c w7 HCM.out).mono ?_
    rintro ev w8 ⟨rfl, hb⟩
    replace hb := hb.below
    refine ⟨_, rfl, ?_⟩
    replace HO := aK (Kd.R_below HO.out hb)
    replace HI := aK (INs.below HI.out hb)
    replace HB := aK (bS HB.out hb)
    replace HX0 := aK (cell_below2 HX0.out hb)
    replace HX1 := aK (cell_below2 HX1.out hb)
    replace HX2 := aK (cell_below2 HX2.out hb)
    replace HX3 := aK (cell_below2 HX3.out hb)
    replace HX4 := aK (cell_below2 HX4.out hb)
    replace HX5 := aK (cell_below2 HX5.out hb)
    clear hb
    refine hK.out _ _ ⟨HX0.out, HX4.out, HX1.out, HX2.out, HX5.out, HX3.out⟩ (fun hHeld => ?_)
    clear hK K
    refine norm_ (a' := ?_) ?_ ?_
    rotate_left
    ·show Act.put _ (some 39) _ = _
     simp only [Act.put, lA, lB, lC, i64_w, i32_w]
     rfl
    refine p_ 15 40 (mk_ 17 0xffff) ?_
    refine p_ 16 41 (mk_ 17 0x1ffff) ?_
    refine done_ (by kernel_rfl) ?_
    have HIS := aK HI.out
    go_upto_region 8 with fail
    refine start_ (n := 18) (S := fun w' => w'.cell? ⟨g, m * 3, none⟩ = some (.string u.f0) ∧ w'.cell? ⟨g, m * 3 + 1, none⟩ = some (.int .i64 uu) ∧ w'.cell? ⟨g, m * 3 + 2, none⟩ = some (.slice uA un uc) ∧ w'.cell? ⟨g, i * 3, none⟩ = some (.string sv) ∧ w'.cell? ⟨g, i * 3 + 1, none⟩ = some (.int .i64 vu) ∧ w'.cell? ⟨g, i * 3 + 2, none⟩ = some (.slice vA vn vc)) (ds := [15, 17]) #[false, false, false, false, false, false, false, false, false, false, false, false, false, false, false, false, false, false] (by kernel_rfl) rfl rfl ⟨cell_drew2 HX0.out, cell_drew2 HX4.out, cell_drew2 HX1.out, cell_drew2 HX2.out, cell_drew2 HX5.out, cell_drew2 HX3.out⟩ (fun hHeld => ?_)
    replace HO := aK (Kd.R_drew HO.out)
    replace HI := aK (INs.below HI.out (bW (Below.refl _ _)))
    replace HB := aK (bW HB.out)
    clear HX0 HX1 HX2 HX3 HX4 HX5
    generalize w8.drew = w9 at HO HI HB hHeld ⊢
    refine p_ 0 44 (mk_ 18 0x1) ?_
    refine p_ 1 45 (mk_ 18 0x3) ?_
    refine p_ 2 46 (mk_ 18 0x7) ?_
    refine p_ 3 47 (mk_ 18 0xf) ?_
    refine p_ 4 48 (mk_ 18 0x1f) ?_
    refine p_ 5 49 (mk_ 18 0x3f) ?_
    refine p_ 6 50 (mk_ 18 0x7f) ?_
    refine p_ 7 51 (mk_ 18 0xff) ?_
    refine t_ 8 52 (mk_ 18 0x1ff) hHeld ?_
    refine p_ 9 53 (mk_ 18 0x3ff) ?_
    refine p_ 10 54 (mk_ 18 0x7ff) ?_
    refine p_ 11 55 (mk_ 18 0xfff) ?_
    refine p_ 12 56 (mk_ 18 0x1fff) ?_
    refine t_ 13 57 (mk_ 18 0x3fff) hHeld ?_
    refine p_ 14 58 (mk_ 18 0x7fff) ?_
    clear hHeld
    refine last_ (i := 15) (N := none) #[true, true, true, true, true, true, true, true, true, true, true, true, true, true, true, true, false, false] rfl rfl (by kernel_rfl) (by decide) (fun K hK => ?_)
    obtain ⟨cz, hclz, hMz, hcz, hfz⟩ := Kd.R_elem HO.out zRW (m : Int) (by omega) (by omega)
    obtain rfl := kRW_openM hMz
    generalize (List.getD _ (m : Int).toNat zRW) = rz at hcz
    rw [Int.toNat_natCast] at hcz hfz
    have hz0 : World.frozen? w9 ⟨g, m * 3, none⟩ = false := hfz 0
    have hz1 : World.frozen? w9 ⟨g, m * 3 + 1, none⟩ = false := hfz 1
    have hz4 : World.frozen? w9 ⟨g, m * 3 + 2, none⟩ = false := hfz 2
    have hz2 : World.cell? w9 ⟨g, m * 3, none⟩ = some (.string rz.f0) := hcz 0 _ rfl
    have hz3 : World.cell? w9 ⟨g, m * 3 + 1, none⟩ = some (.int .i64 rz.u) := hcz 1 _ rfl
    have hz5 : World.cell? w9 ⟨g, m * 3 + 2, none⟩ = some (.slice rz.A rz.n rz.c) := hcz 2 _ rfl
    clear hclz hMz hcz hfz
    refine skip_ (w1 := ?_) (by rfl) rfl ?_ ?_
    rotate_left
    ·go_simp
     rfl
    refine hK.out _ _ ?_
    clear hK K
    clear hz0 hz1 hz2 hz3 hz4 hz5
    replace HO := aK (show Kd.R kRW 61 (((w9.setCell ⟨g, m * 3, none⟩ (.string sv)).setCell ⟨g, m * 3 + 1, none⟩ (.int .i64 vu)).setCell ⟨g, m * 3 + 2, none⟩ (.slice vA vn vc)) w.heap.size (fun _ => True) (.slice (some ⟨g, 0, none⟩) N cp) (L.set m ⟨sv, vu, vA, vn, vc⟩) from RW_put HO.out hmN ⟨sv, vu, vA, vn, vc⟩)
    replace HI := aK (show INs (Kd.int .i64) S61.f0 (fun x => x.f1.f0) (fun x => x.f1.f1) (((w9.setCell ⟨g, m * 3, none⟩ (.string sv)).setCell ⟨g, m * 3 + 1, none⟩ (.int .i64 vu)).setCell ⟨g, m * 3 + 2, none⟩ (.slice vA vn vc)) (fun k => ((P0_ k ∨ P2_1_ k) ∨ w.heap.size ≤ k) ∧ k ≠ g) L ((u :: p).reverse ++ (⟨sv, ⟨u2, e2⟩⟩ : S61) :: q) from INs.far (o := m * 3) (seg := [.string sv, .int .i64 vu, .slice vA vn vc]) HI.out (fun k hk => hk.2))
    replace HB := aK (show Below w.heap.size w (((w9.setCell ⟨g, m * 3, none⟩ (.string sv)).setCell ⟨g, m * 3 + 1, none⟩ (.int .i64 vu)).setCell ⟨g, m * 3 + 2, none⟩ (.slice vA vn vc)) from below_set (below_set (below_set HB.out HGB.out) HGB.out) HGB.out)
    generalize ((w9.setCell ⟨g, m * 3, none⟩ (.string sv)).setCell ⟨g, m * 3 + 1, none⟩ (.int .i64 vu)).setCell ⟨g, m * 3 + 2, none⟩ (.slice vA vn vc) = w10 at HO HI HB ⊢
    refine p_ 16 59 (mk_ 18 0x1ffff) ?_
    refine last_ (i := 17) (N := none) #[true, true, true, true, true, true, true, true, true, true, true, true, true, true, true, true, true, true] rfl rfl (by kernel_rfl) (by decide) (fun K hK => ?_)
    obtain ⟨cz, hclz, hMz, hcz, hfz⟩ := Kd.R_elem HO.out zRW (i : Int) (by omega) (by omega)
    obtain rfl := kRW_openM hMz
    generalize (List.getD _ (i : Int).toNat zRW) = rz at hcz
    rw [Int.toNat_natCast] at hcz hfz
    have hz0 : World.frozen? w10 ⟨g, i * 3, none⟩ = false := hfz 0
    have hz1 : World.frozen? w10 ⟨g, i * 3 + 1, none⟩ = false := hfz 1
    have hz4 : World.frozen? w10 ⟨g, i * 3 + 2, none⟩ = false := hfz 2
    have hz2 : World.cell? w10 ⟨g, i * 3, none⟩ = some (.string rz.f0) := hcz 0 _ rfl
    have hz3 : World.cell? w10 ⟨g, i * 3 + 1, none⟩ = some (.int .i64 rz.u) := hcz 1 _ rfl
    have hz5 : World.cell? w10 ⟨g, i * 3 + 2, none⟩ = some (.slice rz.A rz.n rz.c) := hcz 2 _ rfl
    clear hclz hMz hcz hfz
    refine skip_ (w1 := ?_) (by rfl) rfl ?_ ?_
    rotate_left
    ·go_simp
     rfl
    refine hK.out _ _ ?_
    clear hK K
    clear hz0 hz1 hz2 hz3 hz4 hz5
    replace HO := aK (show Kd.R kRW 61 (((w10.setCell ⟨g, i * 3, none⟩ (.string u.f0)).setCell ⟨g, i * 3 + 1, none⟩ (.int .i64 uu)).setCell ⟨g, i * 3 + 2, none⟩ (.slice uA un uc)) w.heap.size (fun _ => True) (.slice (some ⟨g, 0, none⟩) N cp) ((L.set m ⟨sv, vu, vA, vn, vc⟩).set i ⟨u.f0, uu, uA, un, uc⟩) from RW_put HO.out hiN ⟨u.f0, uu, uA, un, uc⟩)
    replace HI := aK (show INs (Kd.int .i64) S61.f0 (fun x => x.f1.f0) (fun x => x.f1.f1) (((w10.setCell ⟨g, i * 3, none⟩ (.string u.f0)).setCell ⟨g, i * 3 + 1, none⟩ (.int .i64 uu)).setCell ⟨g, i * 3 + 2, none⟩ (.slice uA un uc)) (fun k => ((P0_ k ∨ P2_1_ k) ∨ w.heap.size ≤ k) ∧ k ≠ g) L ((u :: p).reverse ++ (⟨sv, ⟨u2, e2⟩⟩ : S61) :: q) from INs.far (o := i * 3) (seg := [.string u.f0, .int .i64 uu, .slice uA un uc]) HI.out (fun k hk => hk.2))
    replace HB := aK (show Below w.heap.size w (((w10.setCell ⟨g, i * 3, none⟩ (.string u.f0)).setCell ⟨g, i * 3 + 1, none⟩ (.int .i64 uu)).setCell ⟨g, i * 3 + 2, none⟩ (.slice uA un uc)) from below_set (below_set (below_set HB.out HGB.out) HGB.out) HGB.out)
    generalize ((w10.setCell ⟨g, i * 3, none⟩ (.string u.f0)).setCell ⟨g, i * 3 + 1, none⟩ (.int .i64 uu)).setCell ⟨g, i * 3 + 2, none⟩ (.slice uA un uc) = w11 at HO HI HB ⊢
    refine done_ (by kernel_rfl) ?_
    replace HI := aK (show INs (Kd.int .i64) S61.f0 (fun x => x.f1.f0) (fun x => x.f1.f1) w11 (fun k => ((P0_ k ∨ P2_1_ k) ∨ w.heap.size ≤ k) ∧ k ≠ g) ((L.set m ⟨sv, vu, vA, vn, vc⟩).set i ⟨u.f0, uu, uA, un, uc⟩) (p.reverse ++ (⟨sv, ⟨u2, e2⟩⟩ : S61) :: u :: q) from by
     have iu := F2.getD HI.out (j := m) (by have := HLX.out; omega) zRW z61
     have iv := F2.getD HI.out (j := i) (by have := HLX.out; omega) zRW z61
     rw [HGU.out, HRS.out.1] at iu
     rw [HGV.out, HRS.out.2] at iv
     have h := F2.set (F2.set HI.out (i := m) iv) (i := i) iu
     rw [HSW.out] at h
     exact h)
    go_wp2_with fail
    go_roundw
    case rel => exact ⟨p, u :: q, _, by rw [HPM.out], ⟨by have := HPQ.out; simp only [List.length_cons] at this ⊢; omega⟩, HH, HO, HI, HB⟩
    case measure => simp [intOf]; have := HIM.out; omega
   ·rw [if_neg hc0] at HHH
    have HRR := aK (sI HHH)
    clear HHH
    have hq1 : decide (c > 0) = false := decide_eq_false hc0
    have hq2 := eq_false hc0
    have hq3 := eq_false (show ¬ 0 < c from hc0)
    clear hc0
    go_upto_region 6 with fail
    refine start_ (n := 17) (S := fun w' => w'.cell? ⟨g, m * 3, none⟩ = some (.string u.f0) ∧ w'.cell? ⟨g, m * 3 + 1, none⟩ = some (.int .i64 uu) ∧ w'.cell? ⟨g, m * 3 + 2, none⟩ = some (.slice uA un uc) ∧ w'.cell? ⟨g, i * 3, none⟩ = some (.string sv) ∧ w'.cell? ⟨g, i * 3 + 1, none⟩ = some (.int .i64 vu) ∧ w'.cell? ⟨g, i * 3 + 2, none⟩ = some (.slice vA vn vc)) (ds := []) #[false, false, false, false, false, false, false, false, false, false, false, false, false, false, false, false, false] (by kernel_rfl) rfl rfl ⟨cell_drew2 HX0.out, cell_drew2 HX4.out, cell_drew2 HX1.out, cell_drew2 HX2.out, cell_drew2 HX5.out, cell_drew2 HX3.out⟩ (fun hHeld => ?_)
    replace HO := aK (Kd.R_drew HO.out)
    replace HI := aK (INs.below HI.out (bW (Below.refl _ _)))
    replace HB := aK (bW HB.out)
    replace HX0 := aK (cell_drew2 HX0.out)
    replace HX1 := aK (cell_drew2 HX1.out)
    replace HX2 := aK (cell_drew2 HX2.out)
    replace HX3 := aK (cell_drew2 HX3.out)
    replace HX4 := aK (cell_drew2 HX4.out)
    replace HX5 := aK (cell_drew2 HX5.out)
    generalize wr.drew = w7 at HO HI HB HX0 HX1 HX2 HX3 HX4 HX5 hHeld ⊢
    refine p_ 0 25 (mk_ 17 0x1) ?_
    refine p_ 1 26 (mk_ 17 0x3) ?_
    refine p_ 2 27 (mk_ 17 0x7) ?_
    refine p_ 3 28 (mk_ 17 0xf) ?_
    refine p_ 4 29 (mk_ 17 0x1f) ?_
    refine p_ 5 30 (mk_ 17 0x3f) ?_
    refine p_ 6 31 (mk_ 17 0x7f) ?_
    refine p_ 7 32 (mk_ 17 0xff) ?_
    refine t_ 8 33 (mk_ 17 0x1ff) hHeld ?_
    refine p_ 9 34 (mk_ 17 0x3ff) ?_
    refine p_ 10 35 (mk_ 17 0x7ff) ?_
    refine p_ 11 36 (mk_ 17 0xfff) ?_
    refine p_ 12 37 (mk_ 17 0x1fff) ?_
    refine t_ 13 38 (mk_ 17 0x3fff) hHeld ?_
    refine one_ (i := 14) (N := some 39) #[true, true, true, true, true, true, true, true, true, true, true, true, true, true, true, false, false] rfl rfl (by kernel_rfl) (by decide) (fun K hK => ?_)
    refine goes_ Tryz.func34 (by kernel_rfl) rfl #[.string u.f0, .string sv] (by rfl) rfl rfl (by (try simp only [List.map_toArray, List.map_cons, List.map_nil]); first | done | rfl) ?_
    refine (cenotaphref01_Compare.calls k u.f0 sv c w7 HCM.out).mono ?_
    rintro ev w8 ⟨rfl, hb⟩
    replace hb := hb.below
    refine ⟨_, rfl, ?_⟩
    replace HO := aK (Kd.R_below HO.out hb)
    replace HI := aK (INs.below HI.out hb)
    replace HB := aK (bS HB.out hb)
    replace HX0 := aK (cell_below2 HX0.out hb)
    replace HX1 := aK (cell_below2 HX1.out hb)
    replace HX2 := aK (cell_below2 HX2.out hb)
    replace HX3 := aK (cell_below2 HX3.out hb)
    replace HX4 := aK (cell_below2 HX4.out hb)
    replace HX5 := aK (cell_below2 HX5.out hb)
    clear hb
    refine hK.out _ _ ⟨HX0.out, HX4.out, HX1.out, HX2.out, HX5.out, HX3.out⟩ (fun hHeld => ?_)
    clear hK K
    refine norm_ (a' := ?_) ?_ ?_
    rotate_left
    ·show Act.put _ (some 39) _ = _
     simp only [Act.put, lA, lB, lC, i64_w, i32_w]
     rfl
    refine p_ 15 40 (mk_ 17 0xffff) ?_
    refine p_ 16 41 (mk_ 17 0x1ffff) ?_
    refine done_ (by kernel_rfl) ?_
    go_wp2_with fail
    go_ret
    exact ⟨_, rfl, by rw [← HRR.out]; exact lead_view2 lead_r HO.out HI.out (fun k hk => .inr hk) (fun k hk => hk.1), HB.out⟩
theorem zq30_0 {p_ : Prop} (h_ : p_ := by first | (with_reducible assumption) | assumption) : p_ := h_
theorem zq30_1 {p_ : Prop} (h_ : p_ := by first | rfl | (simp; done) | (simp [*]; done)) : p_ := h_
def cenotaphref01_Fix.l0 : Nat → ByteArray → ByteArray → Int → Option (ByteArray)
 | 0, _, _, _ => none
 | k + 1, x0, x3, x4 => if x4 < (x0.size : Int) then (if x4 < 5 then (if 0 ≤ x4 then (if 0 ≤ (Int.tmod (bt x0 x4) 9) then (if (Int.tmod (bt x0 x4) 9) ≤ (((Int.tmod (bt x0 x4) 9) + 1) % 256) then (if (((Int.tmod (bt x0 x4) 9) + 1) % 256) ≤ 9 then (if x3.size + ((⟨#[49, 50, 51, 52, 53, 54, 55, 56, 57]⟩ : ByteArray).extract ((Int.tmod (bt x0 x4) 9) : Int).toNat ((((Int.tmod (bt x0 x4) 9) + 1) % 256) : Int).toNat).size ≤ 9223372036854775807 then (cenotaphref01_Fix.l0 k x0 (x3 ++ ((⟨#[49, 50, 51, 52, 53, 54, 55, 56, 57]⟩ : ByteArray).extract ((Int.tmod (bt x0 x4) 9) : Int).toNat ((((Int.tmod (bt x0 x4) 9) + 1) % 256) : Int).toNat)) (wrap64 (x4 + 1))) else (none)) else (none)) else (none)) else (none)) else (none)) else (some x3)) else (some x3)
def cenotaphref01_Fix.f (k : Nat) (a0 : ByteArray) : Option (ByteArray) := cenotaphref01_Fix.l0 k a0 (⟨#[48]⟩ : ByteArray) 0
theorem cenotaphref01_Fix.mono_l : ∀ k, (∀ y0 y1 y2, LeO (cenotaphref01_Fix.l0 k y0 y1 y2) (cenotaphref01_Fix.l0 (k + 1) y0 y1 y2))
 | 0 => fun _ _ _ r h => by simp [cenotaphref01_Fix.l0] at h
 | k + 1 => by
  have ih0 := cenotaphref01_Fix.mono_l k
  ·intro y0 y1 y2
   unfold cenotaphref01_Fix.l0
   repeat' first
   | (with_reducible exact ih0 _ _ _)
   | (with_reducible exact LeO.refl _)
   | (with_reducible exact LeO.none _)
   | (with_reducible refine LeO.ite ?_ ?_)
   | (with_reducible refine LeO.bind ?_ (fun _ => ?_))
   | exact ih0 _ _ _
   | exact LeO.none _
   | refine LeO.ite ?_ ?_
   | refine LeO.bind ?_ (fun _ => ?_)
theorem cenotaphref01_Fix.mono : ∀ a0 k, LeO (cenotaphref01_Fix.f k a0) (cenotaphref01_Fix.f (k + 1) a0) := by
 intro a0 k
 have ih0 := cenotaphref01_Fix.mono_l k
 unfold cenotaphref01_Fix.f
 repeat' first
   | (with_reducible exact ih0 _ _ _)
   | (with_reducible exact LeO.refl _)
   | (with_reducible exact LeO.none _)
   | (with_reducible refine LeO.ite ?_ ?_)
   | (with_reducible refine LeO.bind ?_ (fun _ => ?_))
   | exact ih0 _ _ _
   | exact LeO.none _
   | refine LeO.ite ?_ ?_
   | refine LeO.bind ?_ (fun _ => ?_)
theorem cenotaphref01_Fix.calls (k : Nat) (a0 : ByteArray) (r : ByteArray) (w : World) (h : cenotaphref01_Fix.f k a0 = some r) :
  Calls Tryz.prog 30 #[.string a0] w fun e w' => e = .returned (.string r) ∧ Drawn0 w w' := by
 have H : (cenotaphref01_Fix.l0 k a0 (⟨#[48]⟩ : ByteArray) 0) = some r := h
 clear h
 have H' := aK H
 clear H
 go_enter Tryz.func30, Tryz.ntmps30
 go_wp2
 repeat (go_quiet (fail); try go_wp2)
 go_loopg [3, 4] k (fun kq v3 v4 w' => ∃ (x3_1 : ByteArray) (x4_1 : Int), v3 = .string x3_1 ∧ v4 = .int .i64 x4_1 ∧ Aside0 (cenotaphref01_Fix.l0 kq a0 x3_1 x4_1 = some r) ∧ Aside0 (kq ≤ k) ∧ Drawn0 w w')
 case atStart => exact ⟨((⟨#[48]⟩ : ByteArray)), (0), zq30_1, zq30_1, H', ⟨Nat.le_refl _⟩, by repeat (first | exact Drawn0.refl _ | apply Drawn0.step)⟩
 case round =>
  clear H'
  obtain ⟨x3_1, x4_1, rfl, rfl, HA, HK1, ⟨m1, rfl⟩⟩ := hrel
  cases gk with
  | zero => exact absurd HA.out (by simp [cenotaphref01_Fix.l0])
  | succ k1 =>
   have H := HA.out
   clear HA
   simp only [cenotaphref01_Fix.l0] at H
   by_cases c2 : x4_1 < (a0.size : Int)
   ·rw [if_pos c2] at H
    have c2b0 : decide (x4_1 < (a0.size : Int)) = true := dT c2
    clear c2
    by_cases c3 : x4_1 < 5
    ·rw [if_pos c3] at H
     have c3b0 : decide (x4_1 < 5) = true := dT c3
     clear c3
     by_cases c4 : 0 ≤ x4_1
     ·rw [if_pos c4] at H
      have c4b0 : decide (0 ≤ x4_1) = true := dT c4
      clear c4
      obtain ⟨ji7, hji7⟩ : ∃ j_ : Int, (Int.tmod (bt a0 x4_1) 9) = j_ := ⟨_, rfl⟩
      replace H : (if 0 ≤ (ji7) then (if (ji7) ≤ (((ji7) + 1) % 256) then (if (((ji7) + 1) % 256) ≤ 9 then (if x3_1.size + ((⟨#[49, 50, 51, 52, 53, 54, 55, 56, 57]⟩ : ByteArray).extract ((ji7) : Int).toNat ((((ji7) + 1) % 256) : Int).toNat).size ≤ 9223372036854775807 then (cenotaphref01_Fix.l0 k1 a0 (x3_1 ++ ((⟨#[49, 50, 51, 52, 53, 54, 55, 56, 57]⟩ : ByteArray).extract ((ji7) : Int).toNat ((((ji7) + 1) % 256) : Int).toNat)) (wrap64 (x4_1 + 1))) else (none)) else (none)) else (none)) else (none)) = some r := by first | (rw [hji7] at H; exact H) | (simp only [hji7] at H ⊢; exact H)
      by_cases c8 : 0 ≤ (ji7)
      ·rw [if_pos c8] at H
       have c8b0 := eT c8
       have c8b1 : decide (0 ≤ (ji7)) = true := dT c8
       clear c8
       by_cases c9 : (ji7) ≤ (((ji7) + 1) % 256)
       ·rw [if_pos c9] at H
        have c9b0 := eT c9
        have c9b1 : decide ((ji7) ≤ (((ji7) + 1) % 256)) = true := dT c9
        by_cases c10 : (((ji7) + 1) % 256) ≤ 9
        ·rw [if_pos c10] at H
         have c10b0 := eT c10
         have c10b1 : decide ((((ji7) + 1) % 256) ≤ 9) = true := dT c10
         by_cases c11 : x3_1.size + ((⟨#[49, 50, 51, 52, 53, 54, 55, 56, 57]⟩ : ByteArray).extract ((ji7) : Int).toNat ((((ji7) + 1) % 256) : Int).toNat).size ≤ 9223372036854775807
         ·rw [if_pos c11] at H
          have c11b0 := eT c11
          have c11b1 : decide (x3_1.size + ((⟨#[49, 50, 51, 52, 53, 54, 55, 56, 57]⟩ : ByteArray).extract ((ji7) : Int).toNat ((((ji7) + 1) % 256) : Int).toNat).size ≤ 9223372036854775807) = true := dT c11
          try have c11b2 : (9223372036854775807 < x3_1.size + ((⟨#[49, 50, 51, 52, 53, 54, 55, 56, 57]⟩ : ByteArray).extract ((ji7) : Int).toNat ((((ji7) + 1) % 256) : Int).toNat).size) = False := eq_false (Nat.not_lt.2 c11)
          have H' := aK H
          clear H
          have p5 : 0 ≤ (x4_1 : Int) := oD zq30_0
          have q5 : x4_1 < (a0.size : Int) := oD zq30_0
          have hx5 := bt_at a0 x4_1
          replace p5 := eT p5
          replace q5 := eT q5
          have p6 : 0 ≤ (x4_1 : Int) := oD zq30_0
          have q6 : x4_1 < (a0.size : Int) := oD zq30_0
          have hx6 := bt_at a0 x4_1
          replace p6 := eT p6
          replace q6 := eT q6
          go_wp2
          repeat (go_quiet (fail); try go_wp2)
          go_roundg k1
          case measure => have := HK1.out; omega
          case rel => exact ⟨(x3_1 ++ ((⟨#[49, 50, 51, 52, 53, 54, 55, 56, 57]⟩ : ByteArray).extract ((ji7) : Int).toNat ((((ji7) + 1) % 256) : Int).toNat)), (wrap64 (x4_1 + 1)), (by first | rfl | (simp; done) | (simp only [← hji7] <;> (first | rfl | simp)) | (simp [*]; done)), zq30_1, H', ⟨by have := HK1.out; omega⟩, by repeat (first | exact Drawn0.refl _ | apply Drawn0.step)⟩
         ·rw [if_neg c11] at H
          exact absurd H (by simp)
        ·rw [if_neg c10] at H
         exact absurd H (by simp)
       ·rw [if_neg c9] at H
        exact absurd H (by simp)
      ·rw [if_neg c8] at H
       exact absurd H (by simp)
     ·rw [if_neg c4] at H
      exact absurd H (by simp)
    ·rw [if_neg c3] at H
     have c3b0 : decide (x4_1 < 5) = false := decide_eq_false c3
     clear c3
     obtain rfl := sI H
     go_wp2
     repeat (go_quiet (fail); try go_wp2)
     go_ret
     exact ⟨by first | rfl | (simp; done) | (simp [*]; done), by repeat (first | exact Drawn0.refl _ | apply Drawn0.step)⟩
   ·rw [if_neg c2] at H
    have c2b0 : decide (x4_1 < (a0.size : Int)) = false := decide_eq_false c2
    clear c2
    obtain rfl := sI H
    go_wp2
    repeat (go_quiet (fail); try go_wp2)
    go_ret
    exact ⟨by first | rfl | (simp; done) | (simp [*]; done), by repeat (first | exact Drawn0.refl _ | apply Drawn0.step)⟩
theorem zq78_0 {p_ : Prop} (h_ : p_ := by repeat (first | (with_reducible first | exact HB.out | apply bA | apply pB | apply bW) | exact HB.out)) : p_ := h_
theorem zq78_1 {p_ : Prop} (h_ : p_ := by first | (with_reducible assumption) | assumption) : p_ := h_
theorem zq78_2 {p_ : Prop} (h_ : p_ := by first | rfl | (simp; done) | (simp [*]; done)) : p_ := h_
mutual
def cenotaphref02_Has.j0 : Nat → Int → Bool → Int → List Int → Option (Bool)
 | 0, _, _, _, _ => none
 | k + 1, x1, x13, x108000, x108001 => if x13 = true then (some true) else (cenotaphref02_Has.l0 k x1 0 x108000 x108001)
def cenotaphref02_Has.l0 : Nat → Int → Int → Int → List Int → Option (Bool)
 | 0, _, _, _, _ => none
 | k + 1, x1, x5, x108000, x108001 => if x5 < (x108001.length : Int) then (if 0 ≤ x5 then (if (rd x108001 x5) = x1 then (some true) else (cenotaphref02_Has.l0 k x1 (wrap64 (x5 + 1)) x108000 x108001)) else (none)) else (some false)
end
def cenotaphref02_Has.f (k : Nat) (a0_0 : Int) (l0_1 : List Int) (a1 : Int) : Option (Bool) := if a1 ≥ 1 then (cenotaphref02_Has.j0 k a1 (decide (a1 ≤ a0_0)) a0_0 l0_1) else (cenotaphref02_Has.j0 k a1 false a0_0 l0_1)
theorem cenotaphref02_Has.mono_l : ∀ k, (∀ y0 y1 y2 y3, LeO (cenotaphref02_Has.j0 k y0 y1 y2 y3) (cenotaphref02_Has.j0 (k + 1) y0 y1 y2 y3)) ∧ (∀ y0 y1 y2 y3, LeO (cenotaphref02_Has.l0 k y0 y1 y2 y3) (cenotaphref02_Has.l0 (k + 1) y0 y1 y2 y3))
 | 0 => ⟨fun _ _ _ _ r h => by simp [cenotaphref02_Has.j0] at h, fun _ _ _ _ r h => by simp [cenotaphref02_Has.l0] at h⟩
 | k + 1 => by
  obtain ⟨ih0, ih1⟩ := cenotaphref02_Has.mono_l k
  refine ⟨?_, ?_⟩
  ·intro y0 y1 y2 y3
   unfold cenotaphref02_Has.j0
   repeat' first
   | (with_reducible exact ih0 _ _ _ _)
   | (with_reducible exact ih1 _ _ _ _)
   | (with_reducible exact LeO.refl _)
   | (with_reducible exact LeO.none _)
   | (with_reducible refine LeO.ite ?_ ?_)
   | (with_reducible refine LeO.bind ?_ (fun _ => ?_))
   | exact ih0 _ _ _ _
   | exact ih1 _ _ _ _
   | exact LeO.none _
   | refine LeO.ite ?_ ?_
   | refine LeO.bind ?_ (fun _ => ?_)
  ·intro y0 y1 y2 y3
   unfold cenotaphref02_Has.l0
   repeat' first
   | (with_reducible exact ih0 _ _ _ _)
   | (with_reducible exact ih1 _ _ _ _)
   | (with_reducible exact LeO.refl _)
   | (with_reducible exact LeO.none _)
   | (with_reducible refine LeO.ite ?_ ?_)
   | (with_reducible refine LeO.bind ?_ (fun _ => ?_))
   | exact ih0 _ _ _ _
   | exact ih1 _ _ _ _
   | exact LeO.none _
   | refine LeO.ite ?_ ?_
   | refine LeO.bind ?_ (fun _ => ?_)
theorem cenotaphref02_Has.mono : ∀ a0 a1 a2 k, LeO (cenotaphref02_Has.f k a0 a1 a2) (cenotaphref02_Has.f (k + 1) a0 a1 a2) := by
 intro a0 a1 a2 k
 obtain ⟨ih0, ih1⟩ := cenotaphref02_Has.mono_l k
 unfold cenotaphref02_Has.f
 repeat' first
   | (with_reducible exact ih0 _ _ _ _)
   | (with_reducible exact ih1 _ _ _ _)
   | (with_reducible exact LeO.refl _)
   | (with_reducible exact LeO.none _)
   | (with_reducible refine LeO.ite ?_ ?_)
   | (with_reducible refine LeO.bind ?_ (fun _ => ?_))
   | exact ih0 _ _ _ _
   | exact ih1 _ _ _ _
   | exact LeO.none _
   | refine LeO.ite ?_ ?_
   | refine LeO.bind ?_ (fun _ => ?_)
theorem cenotaphref02_Has.calls (k : Nat) (a0_0 : Int) (A0_1 : Option Addr) (c0_1 : Nat) (l0_1 : List Int) (a1 : Int) (r : Bool) (w : World) (hr0_1 : Kd.C (Kd.int .i64) w A0_1 l0_1.length l0_1) (hc0_1 : l0_1.length ≤ c0_1) (h : cenotaphref02_Has.f k a0_0 l0_1 a1 = some r) :
  Calls Tryz.prog 78 #[.agg #[.int .i64 a0_0, .slice A0_1 l0_1.length c0_1], .int .i64 a1] w fun e w' => e = .returned (.bool r) ∧ Below w.heap.size w w' := by
 have hu59 := Tryz.underlying59
 have HR0_1 := aK hr0_1
 have HC0_1 := aK hc0_1
 clear hr0_1 hc0_1
 have HB := aK (Below.refl w.heap.size w)
 have H : (if a1 ≥ 1 then (cenotaphref02_Has.j0 k a1 (decide (a1 ≤ a0_0)) a0_0 l0_1) else (cenotaphref02_Has.j0 k a1 false a0_0 l0_1)) = some r := h
 clear h
 have HC3 := aK H
 clear H
 go_enter Tryz.func78, Tryz.ntmps78
 go_upto_region 1 with (first | ((with_reducible refine gate_dst (N := 2) rfl ?_); refine box_event ?hg (N := 2) ?hd (cs := #[.int .i64 a0_0, .slice A0_1 l0_1.length c0_1]) (t := 59) ?hr ?_; (case hd => rfl); (case hg => rfl); (case hr => first | (go_simp; done) | (go_simp; rfl)); intro gb107 hg w4 hbox hb; have BK107 := aK (hbox); have GW107 := aK (((by rw [hg]; exact (below_size zq78_0)) : w.heap.size ≤ gb107)); have GE107 := aK (((by rw [hg]; exact (below_size zq78_0)) : w.heap.size ≤ gb107)); replace HB := aK (bS zq78_0 hb); clear hb hbox hg))
 (try simp only [Act.put, lA, lB, lC])
 go_cut [13] (fun v13 wc => ∃ (kq : Nat) (x13_2 : Bool), v13 = .bool x13_2 ∧ Aside0 (cenotaphref02_Has.j0 kq a1 x13_2 a0_0 l0_1 = some r) ∧ Aside0 (kq ≤ k) ∧ Aside0 (wc.heap[gb107]? = some (.cells #[.int .i64 a0_0, (.slice A0_1 l0_1.length c0_1)] 59 (0, 0))) ∧ Aside0 (Below w.heap.size w wc))
 case first =>
  have H := HC3.out
  clear HC3
  by_cases c5 : a1 ≥ 1
  ·rw [if_pos c5] at H
   have c5b0 : decide (1 ≤ a1) = true := dT c5
   clear c5
   (first | rw [c5b0] | (simp only [i64_w, i32_w]; rw [c5b0]) | skip)
   have H' := aK H
   clear H
   have hcz6_0 : w4.cell? ⟨gb107, 0, none⟩ = some (.int .i64 a0_0) := (bC BK107.out 0).trans rfl
   have hcz6_1 : w4.cell? ⟨gb107, 1, none⟩ = some (.slice A0_1 l0_1.length c0_1) := (bC BK107.out 1).trans rfl
   have hfz6_0 := bF_ BK107.out 0
   have hfz6_1 := bF_ BK107.out 1
   go_wp2
   go_meet
   case rel => exact ⟨_, (decide (a1 ≤ a0_0)), zq78_2, H', ⟨by first | omega | exact Nat.le_refl _⟩, ⟨by (with_reducible repeat (first | refine blk_drewN ?_ _ | refine blk_drew ?_ | refine blk_alloc ?_ _)); exact BK107.out⟩, ⟨by repeat (first | (with_reducible first | exact HB.out | apply bA | apply pB | apply bW | refine below_set ?_ GE107.out) | exact HB.out)⟩⟩
  ·rw [if_neg c5] at H
   have c5b0 : decide (1 ≤ a1) = false := decide_eq_false c5
   clear c5
   (first | rw [c5b0] | (simp only [i64_w, i32_w]; rw [c5b0]) | skip)
   have H' := aK H
   clear H
   go_wp2
   go_meet
   case rel => exact ⟨_, (false), zq78_2, H', ⟨by first | omega | exact Nat.le_refl _⟩, ⟨by (with_reducible repeat (first | refine blk_drewN ?_ _ | refine blk_drew ?_ | refine blk_alloc ?_ _)); exact BK107.out⟩, ⟨by repeat (first | (with_reducible first | exact HB.out | apply bA | apply pB | apply bW | refine below_set ?_ GE107.out) | exact HB.out)⟩⟩
 case rest =>
  clear HC3
  try clear p2
  try clear c5
  try clear c5b0
  try clear hcz6_0
  try clear hcz6_1
  try clear hfz6_0
  try clear hfz6_1
  obtain ⟨kq, x13_2, rfl, HA, HJ2, BK107, HB⟩ := hcut
  cases kq with
  | zero => exact absurd HA.out (by simp [cenotaphref02_Has.j0])
  | succ kj2 =>
   have H := HA.out
   clear HA
   simp only [cenotaphref02_Has.j0] at H
   by_cases c7 : x13_2 = true
   ·subst c7
    have H1 : (some true) = some r := by rw [if_pos rfl] at H; exact H
    clear H
    have H := H1
    clear H1
    obtain rfl := sI H
    go_wp2
    go_ret
    exact ⟨by first | rfl | (simp [errW_none, errW_some] <;> rfl) | (simp [*, errW_none, errW_some] <;> rfl), by repeat (first | (with_reducible first | exact HB.out | apply bA | apply pB | apply bW | refine below_set ?_ GE107.out) | exact HB.out)⟩
   ·replace c7 := Bool.eq_false_iff.mpr c7
    subst c7
    have H1 : (cenotaphref02_Has.l0 kj2 a1 0 a0_0 l0_1) = some r := by rw [if_neg (show ¬ (false = true) by decide)] at H; exact H
    clear H
    have H := H1
    clear H1
    have H' := aK H
    clear H
    go_wp2
    go_loopg [5] kj2 (fun kq v5 w' => ∃ (x5_2 : Int), v5 = .int .i64 x5_2 ∧ Aside0 (cenotaphref02_Has.l0 kq a1 x5_2 a0_0 l0_1 = some r) ∧ Aside0 (kq ≤ kj2) ∧ Aside0 (w'.heap[gb107]? = some (.cells #[.int .i64 a0_0, (.slice A0_1 l0_1.length c0_1)] 59 (0, 0))) ∧ Aside0 (Below w.heap.size w w'))
    case atStart => exact ⟨(0), zq78_2, H', ⟨Nat.le_refl _⟩, ⟨by (with_reducible repeat (first | refine blk_drewN ?_ _ | refine blk_drew ?_ | refine blk_alloc ?_ _)); exact BK107.out⟩, ⟨by repeat (first | (with_reducible first | exact HB.out | apply bA | apply pB | apply bW | refine below_set ?_ GE107.out) | exact HB.out)⟩⟩
    case round =>
     clear H'
     try clear p2
     try clear c5
     try clear c5b0
     try clear c7
     try clear hcz6_0
     try clear hcz6_1
     try clear hfz6_0
     try clear hfz6_1
     try clear p2
     obtain ⟨x5_2, rfl, HA, HK2, BK107, HB⟩ := hrel
     cases gk with
     | zero => exact absurd HA.out (by simp [cenotaphref02_Has.l0])
     | succ k2 =>
      have H := HA.out
      clear HA
      simp only [cenotaphref02_Has.l0] at H
      by_cases c8 : x5_2 < (l0_1.length : Int)
      ·rw [if_pos c8] at H
       have c8b0 : decide (x5_2 < (l0_1.length : Int)) = true := dT c8
       clear c8
       by_cases c9 : 0 ≤ x5_2
       ·rw [if_pos c9] at H
        have c9b0 : decide (0 ≤ x5_2) = true := dT c9
        clear c9
        by_cases c10 : (rd l0_1 x5_2) = a1
        ·rw [if_pos c10] at H
         have c10b0 : ((rd l0_1 x5_2) == a1) = true := beq_iff_eq.mpr c10
         have c10b1 : ((rd l0_1 x5_2) != a1) = false := bne_eq_false_iff_eq.mpr c10
         clear c10
         obtain rfl := sI H
         have hcz11_0 : wr.cell? ⟨gb107, 0, none⟩ = some (.int .i64 a0_0) := (bC BK107.out 0).trans rfl
         have hcz11_1 : wr.cell? ⟨gb107, 1, none⟩ = some (.slice A0_1 l0_1.length c0_1) := (bC BK107.out 1).trans rfl
         have hfz11_0 := bF_ BK107.out 0
         have hfz11_1 := bF_ BK107.out 1
         have p108 : 0 ≤ (x5_2 : Int) := oD zq78_1
         have q108 : x5_2 < (l0_1.length : Int) := oD zq78_1
         obtain ⟨ad108, e108, hx108_0⟩ := Kd.at_int HR0_1.out x5_2 p108 q108
         cases e108
         replace hx108_0 := pc_ HB hx108_0
         replace p108 := eT p108
         replace q108 := eT q108
         go_wp2
         go_ret
         exact ⟨by first | rfl | (simp [errW_none, errW_some] <;> rfl) | (simp [*, errW_none, errW_some] <;> rfl), by repeat (first | (with_reducible first | exact HB.out | apply bA | apply pB | apply bW | refine below_set ?_ GE107.out) | exact HB.out)⟩
        ·rw [if_neg c10] at H
         have c10b0 : ((rd l0_1 x5_2) == a1) = false := beq_eq_false_iff_ne.mpr c10
         have c10b1 : ((rd l0_1 x5_2) != a1) = true := bne_iff_ne.mpr c10
         have H' := aK H
         clear H
         have hcz12_0 : wr.cell? ⟨gb107, 0, none⟩ = some (.int .i64 a0_0) := (bC BK107.out 0).trans rfl
         have hcz12_1 : wr.cell? ⟨gb107, 1, none⟩ = some (.slice A0_1 l0_1.length c0_1) := (bC BK107.out 1).trans rfl
         have hfz12_0 := bF_ BK107.out 0
         have hfz12_1 := bF_ BK107.out 1
         have p108 : 0 ≤ (x5_2 : Int) := oD zq78_1
         have q108 : x5_2 < (l0_1.length : Int) := oD zq78_1
         obtain ⟨ad108, e108, hx108_0⟩ := Kd.at_int HR0_1.out x5_2 p108 q108
         cases e108
         replace hx108_0 := pc_ HB hx108_0
         replace p108 := eT p108
         replace q108 := eT q108
         go_wp2
         go_roundg k2
         case measure => have := HJ2.out; have := HK2.out; omega
         case rel => exact ⟨(wrap64 (x5_2 + 1)), zq78_2, H', ⟨by have := HJ2.out; have := HK2.out; omega⟩, ⟨by (with_reducible repeat (first | refine blk_drewN ?_ _ | refine blk_drew ?_ | refine blk_alloc ?_ _)); exact BK107.out⟩, ⟨by repeat (first | (with_reducible first | exact HB.out | apply bA | apply pB | apply bW | refine below_set ?_ GE107.out) | exact HB.out)⟩⟩
       ·rw [if_neg c9] at H
        exact absurd H (by simp)
      ·rw [if_neg c8] at H
       have c8b0 : decide (x5_2 < (l0_1.length : Int)) = false := decide_eq_false c8
       clear c8
       obtain rfl := sI H
       have hcz13_0 : wr.cell? ⟨gb107, 0, none⟩ = some (.int .i64 a0_0) := (bC BK107.out 0).trans rfl
       have hcz13_1 : wr.cell? ⟨gb107, 1, none⟩ = some (.slice A0_1 l0_1.length c0_1) := (bC BK107.out 1).trans rfl
       have hfz13_0 := bF_ BK107.out 0
       have hfz13_1 := bF_ BK107.out 1
       go_wp2
       go_ret
       exact ⟨by first | rfl | (simp [errW_none, errW_some] <;> rfl) | (simp [*, errW_none, errW_some] <;> rfl), by repeat (first | (with_reducible first | exact HB.out | apply bA | apply pB | apply bW | refine below_set ?_ GE107.out) | exact HB.out)⟩
end Go.Proofs.YtkfehkaiifjkmaaGreat.P
