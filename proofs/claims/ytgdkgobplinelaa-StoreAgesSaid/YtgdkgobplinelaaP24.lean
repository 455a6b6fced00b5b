import Derived.Test.YtgdkgobplinelaaP0
import Derived.Test.YtgdkgobplinelaaP9
import Derived.Test.YtgdkgobplinelaaP12
import Derived.Test.YtgdkgobplinelaaP14
import Derived.Test.YtgdkgobplinelaaP15
import Derived.Test.YtgdkgobplinelaaP22
import Derived.Test.YtgdkgobplinelaaP23
namespace Go.Proofs.Ytgdkgobplinelaa.P
open Go.RowKit Go.Proofs.YtgdkgobplinelaaW.PrintWords Go.Proofs.YtgdkgobplinelaaW.PrintLast Go.Proofs.YtgdkgobplinelaaW.PrintMore
set_option maxHeartbeats 8000000
set_option maxRecDepth 100000
attribute [local go_sem] run_store_complex max2_int min2_int max_two min_two max_three min_three max_four min_four
set_option linter.unusedVariables false
set_option linter.unusedSimpArgs false
theorem zq88_0 {p_ : Prop} (h_ : p_ := by first | (with_reducible assumption) | assumption) : p_ := h_
theorem zq88_1 {p_ : Prop} (h_ : p_ := by first | rfl | (simp; done) | (simp [*]; done)) : p_ := h_
def slices_BinarySearch_int_int.l0 : Nat → List Int → Int → Int → Int → Int → Option (Int × Bool)
 | 0, _, _, _, _, _ => none
 | k + 1, x0, x1, x6, x7, x8 => if x7 < x8 then (if 0 ≤ (wrap64 ((IntKind.u64.wrap (wrap64 (x7 + x8))) / 2)) then (if (wrap64 ((IntKind.u64.wrap (wrap64 (x7 + x8))) / 2)) < (x0.length : Int) then ((cmp_Less_int.f (rd x0 (wrap64 ((IntKind.u64.wrap (wrap64 (x7 + x8))) / 2))) x1).bind fun t675 => (if t675 = true then (slices_BinarySearch_int_int.l0 k x0 x1 x6 (wrap64 ((wrap64 ((IntKind.u64.wrap (wrap64 (x7 + x8))) / 2)) + 1)) x8) else (slices_BinarySearch_int_int.l0 k x0 x1 x6 x7 (wrap64 ((IntKind.u64.wrap (wrap64 (x7 + x8))) / 2))))) else (none)) else (none)) else (if x7 < x6 then (if 0 ≤ x7 then (if x7 < (x0.length : Int) then (if (rd x0 x7) = x1 then (some (x7, true)) else ((slices_isNaN_int.f (rd x0 x7)).bind fun t678 => (if t678 = true then ((slices_isNaN_int.f x1).bind fun t679 => (some (x7, t679))) else (some (x7, false))))) else (none)) else (none)) else (some (x7, false)))
def slices_BinarySearch_int_int.f (k : Nat) (l0 : List Int) (a1 : Int) : Option (Int × Bool) := slices_BinarySearch_int_int.l0 k l0 a1 (l0.length : Int) 0 (l0.length : Int)
theorem slices_BinarySearch_int_int.mono_l : ∀ k, (∀ y0 y1 y2 y3 y4, LeO (slices_BinarySearch_int_int.l0 k y0 y1 y2 y3 y4) (slices_BinarySearch_int_int.l0 (k + 1) y0 y1 y2 y3 y4))
 | 0 => fun _ _ _ _ _ r h => by simp [slices_BinarySearch_int_int.l0] at h
 | k + 1 => by
  have ih0 := slices_BinarySearch_int_int.mono_l k
  ·intro y0 y1 y2 y3 y4
   unfold slices_BinarySearch_int_int.l0
   repeat' first
   | (with_reducible exact ih0 _ _ _ _ _)
   | (with_reducible exact LeO.refl _)
   | (with_reducible exact LeO.none _)
   | (with_reducible refine LeO.ite ?_ ?_)
   | (with_reducible refine LeO.bind ?_ (fun _ => ?_))
   | exact ih0 _ _ _ _ _
   | exact LeO.none _
   | refine LeO.ite ?_ ?_
   | refine LeO.bind ?_ (fun _ => ?_)
theorem slices_BinarySearch_int_int.mono : ∀ a0 a1 k, LeO (slices_BinarySearch_int_int.f k a0 a1) (slices_BinarySearch_int_int.f (k + 1) a0 a1) := by
 intro a0 a1 k
 have ih0 := slices_BinarySearch_int_int.mono_l k
 unfold slices_BinarySearch_int_int.f
 repeat' first
   | (with_reducible exact ih0 _ _ _ _ _)
   | (with_reducible exact LeO.refl _)
   | (with_reducible exact LeO.none _)
   | (with_reducible refine LeO.ite ?_ ?_)
   | (with_reducible refine LeO.bind ?_ (fun _ => ?_))
   | exact ih0 _ _ _ _ _
   | exact LeO.none _
   | refine LeO.ite ?_ ?_
   | refine LeO.bind ?_ (fun _ => ?_)
theorem slices_BinarySearch_int_int.calls (k : Nat) (A0 : Option Addr) (c0 : Nat) (l0 : List Int) (a1 : Int) (r1 : Int) (r2 : Bool) (w : World) (hr0 : Kd.C (Kd.int .i64) w A0 l0.length l0) (hc0 : l0.length ≤ c0) (h : slices_BinarySearch_int_int.f k l0 a1 = some (r1, r2)) :
  Calls Try.prog 88 #[.slice A0 l0.length c0, .int .i64 a1] w fun e w' => e = .returned (.tuple #[.int .i64 r1, .bool r2]) ∧ Drawn0 w w' := by
 have HR0 := aK hr0
 have HC0 := aK hc0
 clear hr0 hc0
 have H : (slices_BinarySearch_int_int.l0 k l0 a1 (l0.length : Int) 0 (l0.length : Int)) = some (r1, r2) := h
 clear h
 have H' := aK H
 clear H
 go_enter Try.func88, Try.ntmps88
 go_wp2
 go_loopg [7, 8] k (fun kq v7 v8 w' => ∃ (x7_1 : Int) (x8_1 : Int), v7 = .int .i64 x7_1 ∧ v8 = .int .i64 x8_1 ∧ Aside0 (slices_BinarySearch_int_int.l0 kq l0 a1 (l0.length : Int) x7_1 x8_1 = some (r1, r2)) ∧ Aside0 (kq ≤ k) ∧ Drawn0 w w')
 case atStart => exact ⟨(0), ((l0.length : Int)), zq88_1, zq88_1, H', ⟨Nat.le_refl _⟩, by repeat (first | exact Drawn0.refl _ | apply Drawn0.step)⟩
 case round =>
  clear H'
  try clear p2
  obtain ⟨x7_1, x8_1, rfl, rfl, HA, HK1, ⟨m1, rfl⟩⟩ := hrel
  cases gk with
  | zero => exact absurd HA.out (by simp [slices_BinarySearch_int_int.l0])
  | succ k1 =>
   have H := HA.out
   clear HA
   simp only [slices_BinarySearch_int_int.l0] at H
   by_cases c3 : x7_1 < x8_1
   ·rw [if_pos c3] at H
    have c3b0 : decide (x7_1 < x8_1) = true := dT c3
    clear c3
    obtain ⟨ji4, hji4⟩ : ∃ j_ : Int, (wrap64 ((IntKind.u64.wrap (wrap64 (x7_1 + x8_1))) / 2)) = j_ := ⟨_, rfl⟩
    replace H : (if 0 ≤ (ji4) then (if (ji4) < (l0.length : Int) then ((cmp_Less_int.f (rd l0 (ji4)) a1).bind fun t675 => (if t675 = true then (slices_BinarySearch_int_int.l0 k1 l0 a1 (l0.length : Int) (wrap64 ((ji4) + 1)) x8_1) else (slices_BinarySearch_int_int.l0 k1 l0 a1 (l0.length : Int) x7_1 ji4))) else (none)) else (none)) = some (r1, r2) := by first | (rw [hji4] at H; exact H) | (simp only [hji4] at H ⊢; exact H)
    have hji4w : (IntKind.i64.wrap ((IntKind.u64.wrap (wrap64 (x7_1 + x8_1))) / 2)) = ji4 := (i64_w _).trans hji4
    by_cases c5 : 0 ≤ (ji4)
    ·rw [if_pos c5] at H
     have c5b0 : decide (0 ≤ (ji4)) = true := dT c5
     clear c5
     by_cases c6 : (ji4) < (l0.length : Int)
     ·rw [if_pos c6] at H
      have c6b0 : decide ((ji4) < (l0.length : Int)) = true := dT c6
      clear c6
      replace H := bM H
      obtain ⟨t675, A70, H⟩ := H
      replace H : (if t675 = true then (slices_BinarySearch_int_int.l0 k1 l0 a1 (l0.length : Int) (wrap64 ((ji4) + 1)) x8_1) else (slices_BinarySearch_int_int.l0 k1 l0 a1 (l0.length : Int) x7_1 ji4)) = some (r1, r2) := H
      have A7 := aK A70
      clear A70
      by_cases c8 : t675 = true
      ·subst c8
       have H1 : (slices_BinarySearch_int_int.l0 k1 l0 a1 (l0.length : Int) (wrap64 ((ji4) + 1)) x8_1) = some (r1, r2) := by rw [if_pos rfl] at H; exact H
       clear H
       have H := H1
       clear H1
       have H' := aK H
       clear H
       have p674 : 0 ≤ ((ji4) : Int) := oD zq88_0
       have q674 : (ji4) < (l0.length : Int) := oD zq88_0
       obtain ⟨ad674, e674, hx674_0⟩ := Kd.at_int HR0.out (ji4) p674 q674
       cases e674
       replace p674 := eT p674
       replace q674 := eT q674
       go_wp2_with (first | ((with_reducible refine gate_callee (f := 94) rfl ?_); refine goesL_ (some 27) rfl rfl Try.func94 (by kernel_rfl) rfl #[.int .i64 (rd l0 (ji4)), .int .i64 a1] rfl (by (try simp only [List.map_toArray, List.map_cons, List.map_nil]); first | done | (simp only [hji4]; rfl) | rfl | (simp only [List.length_drop, List.length_take]; rfl)) ?_; (with_reducible refine (cmp_Less_int.calls (rd l0 (ji4)) a1 true _ A7.out).mono ?_); rintro e w' ⟨rfl, ⟨nd, rfl⟩⟩; refine ⟨_, rfl, ?_⟩))
       go_roundg k1
       case measure => have := HK1.out; omega
       case rel => exact ⟨(wrap64 ((ji4) + 1)), (x8_1), (by first | rfl | (simp; done) | (simp only [← hji4] <;> (first | rfl | simp)) | (simp [*]; done)), zq88_1, H', ⟨by have := HK1.out; omega⟩, by repeat (first | exact Drawn0.refl _ | apply Drawn0.step)⟩
      ·replace c8 := Bool.eq_false_iff.mpr c8
       subst c8
       have H1 : (slices_BinarySearch_int_int.l0 k1 l0 a1 (l0.length : Int) x7_1 ji4) = some (r1, r2) := by rw [if_neg (show ¬ (false = true) by decide)] at H; exact H
       clear H
       have H := H1
       clear H1
       have H' := aK H
       clear H
       have p674 : 0 ≤ ((ji4) : Int) := oD zq88_0
       have q674 : (ji4) < (l0.length : Int) := oD zq88_0
       obtain ⟨ad674, e674, hx674_0⟩ := Kd.at_int HR0.out (ji4) p674 q674
       cases e674
       replace p674 := eT p674
       replace q674 := eT q674
       go_wp2_with (first | ((with_reducible refine gate_callee (f := 94) rfl ?_); refine goesL_ (some 27) rfl rfl Try.func94 (by kernel_rfl) rfl #[.int .i64 (rd l0 (ji4)), .int .i64 a1] rfl (by (try simp only [List.map_toArray, List.map_cons, List.map_nil]); first | done | (simp only [hji4]; rfl) | rfl | (simp only [List.length_drop, List.length_take]; rfl)) ?_; (with_reducible refine (cmp_Less_int.calls (rd l0 (ji4)) a1 false _ A7.out).mono ?_); rintro e w' ⟨rfl, ⟨nd, rfl⟩⟩; refine ⟨_, rfl, ?_⟩))
       go_roundg k1
       case measure => have := HK1.out; omega
       case rel => exact ⟨(x7_1), (ji4), zq88_1, (by first | rfl | (simp; done) | (simp only [← hji4] <;> (first | rfl | simp)) | (simp [*]; done)), H', ⟨by have := HK1.out; omega⟩, by repeat (first | exact Drawn0.refl _ | apply Drawn0.step)⟩
     ·rw [if_neg c6] at H
      exact absurd H (by simp)
    ·rw [if_neg c5] at H
     exact absurd H (by simp)
   ·rw [if_neg c3] at H
    have c3b0 : decide (x7_1 < x8_1) = false := decide_eq_false c3
    clear c3
    by_cases c9 : x7_1 < (l0.length : Int)
    ·rw [if_pos c9] at H
     have c9b0 : decide (x7_1 < (l0.length : Int)) = true := dT c9
     clear c9
     by_cases c10 : 0 ≤ x7_1
     ·rw [if_pos c10] at H
      have c10b0 : decide (0 ≤ x7_1) = true := dT c10
      clear c10
      by_cases c11 : x7_1 < (l0.length : Int)
      ·rw [if_pos c11] at H
       have c11b0 : decide (x7_1 < (l0.length : Int)) = true := dT c11
       clear c11
       by_cases c12 : (rd l0 x7_1) = a1
       ·rw [if_pos c12] at H
        have c12b0 : ((rd l0 x7_1) == a1) = true := beq_iff_eq.mpr c12
        have c12b1 : ((rd l0 x7_1) != a1) = false := bne_eq_false_iff_eq.mpr c12
        clear c12
        simp only [Option.some.injEq, Prod.mk.injEq] at H
        obtain ⟨rfl, rfl⟩ := H
        have p676 : 0 ≤ (x7_1 : Int) := oD zq88_0
        have q676 : x7_1 < (l0.length : Int) := oD zq88_0
        obtain ⟨ad676, e676, hx676_0⟩ := Kd.at_int HR0.out x7_1 p676 q676
        cases e676
        replace p676 := eT p676
        replace q676 := eT q676
        go_wp2
        go_ret2
        exact ⟨by first | rfl | (simp; done) | (simp [*]; done), by repeat (first | exact Drawn0.refl _ | apply Drawn0.step)⟩
       ·rw [if_neg c12] at H
        have c12b0 : ((rd l0 x7_1) == a1) = false := beq_eq_false_iff_ne.mpr c12
        have c12b1 : ((rd l0 x7_1) != a1) = true := bne_iff_ne.mpr c12
        replace H := bM H
        obtain ⟨t678, A130, H⟩ := H
        replace H : (if t678 = true then ((slices_isNaN_int.f a1).bind fun t679 => (some (x7_1, t679))) else (some (x7_1, false))) = some (r1, r2) := H
        have A13 := aK A130
        clear A130
        by_cases c14 : t678 = true
        ·subst c14
         have H1 : ((slices_isNaN_int.f a1).bind fun t679 => (some (x7_1, t679))) = some (r1, r2) := by rw [if_pos rfl] at H; exact H
         clear H
         have H := H1
         clear H1
         replace H := bM H
         obtain ⟨t679, A150, H⟩ := H
         replace H : (some (x7_1, t679)) = some (r1, r2) := H
         have A15 := aK A150
         clear A150
         simp only [Option.some.injEq, Prod.mk.injEq] at H
         obtain ⟨rfl, rfl⟩ := H
         have p676 : 0 ≤ (x7_1 : Int) := oD zq88_0
         have q676 : x7_1 < (l0.length : Int) := oD zq88_0
         obtain ⟨ad676, e676, hx676_0⟩ := Kd.at_int HR0.out x7_1 p676 q676
         cases e676
         replace p676 := eT p676
         replace q676 := eT q676
         have p677 : 0 ≤ (x7_1 : Int) := oD zq88_0
         have q677 : x7_1 < (l0.length : Int) := oD zq88_0
         obtain ⟨ad677, e677, hx677_0⟩ := Kd.at_int HR0.out x7_1 p677 q677
         obtain rfl : ad676 = ad677 := (by injection e677)
         replace p677 := eT p677
         replace q677 := eT q677
         go_wp2_with (first | (go_at_call 95; (with_reducible refine (slices_isNaN_int.calls (rd l0 x7_1) true _ A13.out).mono ?_); rintro e w' ⟨rfl, ⟨nd, rfl⟩⟩) | (go_at_call 95; (with_reducible refine (slices_isNaN_int.calls a1 t679 _ A15.out).mono ?_); rintro e w' ⟨rfl, ⟨nd, rfl⟩⟩))
         go_ret2
         exact ⟨by first | rfl | (simp; done) | (simp [*]; done), by repeat (first | exact Drawn0.refl _ | apply Drawn0.step)⟩
        ·replace c14 := Bool.eq_false_iff.mpr c14
         subst c14
         have H1 : (some (x7_1, false)) = some (r1, r2) := by rw [if_neg (show ¬ (false = true) by decide)] at H; exact H
         clear H
         have H := H1
         clear H1
         simp only [Option.some.injEq, Prod.mk.injEq] at H
         obtain ⟨rfl, rfl⟩ := H
         have p676 : 0 ≤ (x7_1 : Int) := oD zq88_0
         have q676 : x7_1 < (l0.length : Int) := oD zq88_0
         obtain ⟨ad676, e676, hx676_0⟩ := Kd.at_int HR0.out x7_1 p676 q676
         cases e676
         replace p676 := eT p676
         replace q676 := eT q676
         have p677 : 0 ≤ (x7_1 : Int) := oD zq88_0
         have q677 : x7_1 < (l0.length : Int) := oD zq88_0
         obtain ⟨ad677, e677, hx677_0⟩ := Kd.at_int HR0.out x7_1 p677 q677
         obtain rfl : ad676 = ad677 := (by injection e677)
         replace p677 := eT p677
         replace q677 := eT q677
         go_wp2_with (first | (go_at_call 95; (with_reducible refine (slices_isNaN_int.calls (rd l0 x7_1) false _ A13.out).mono ?_); rintro e w' ⟨rfl, ⟨nd, rfl⟩⟩))
         go_ret2
         exact ⟨by first | rfl | (simp; done) | (simp [*]; done), by repeat (first | exact Drawn0.refl _ | apply Drawn0.step)⟩
      ·rw [if_neg c11] at H
       exact absurd H (by simp)
     ·rw [if_neg c10] at H
      exact absurd H (by simp)
    ·rw [if_neg c9] at H
     have c9b0 : decide (x7_1 < (l0.length : Int)) = false := decide_eq_false c9
     clear c9
     simp only [Option.some.injEq, Prod.mk.injEq] at H
     obtain ⟨rfl, rfl⟩ := H
     go_wp2
     go_ret2
     exact ⟨by first | rfl | (simp; done) | (simp [*]; done), by repeat (first | exact Drawn0.refl _ | apply Drawn0.step)⟩
def span_Has.f (k : Nat) (a0_0 : Int) (l0_1 : List Int) (a1 : Int) : Option (Bool) := if a1 ≤ a0_0 then (some (decide (a1 ≥ 1))) else ((slices_BinarySearch_int_int.f k l0_1 a1).bind fun bt681 => (some bt681.2))
theorem span_Has.mono : ∀ a0 a1 a2 k, LeO (span_Has.f k a0 a1 a2) (span_Has.f (k + 1) a0 a1 a2) := by
 intro a0 a1 a2 k
 unfold span_Has.f
 repeat' first
   | (with_reducible exact slices_BinarySearch_int_int.mono _ _ _)
   | (with_reducible exact LeO.refl _)
   | (with_reducible exact LeO.none _)
   | (with_reducible refine LeO.ite ?_ ?_)
   | (with_reducible refine LeO.bind ?_ (fun _ => ?_))
   | exact slices_BinarySearch_int_int.mono _ _ _
   | exact LeO.none _
   | refine LeO.ite ?_ ?_
   | refine LeO.bind ?_ (fun _ => ?_)
theorem span_Has.calls (k : Nat) (a0_0 : Int) (A0_1 : Option Addr) (c0_1 : Nat) (l0_1 : List Int) (a1 : Int) (r : Bool) (w : World) (hr0_1 : Kd.C (Kd.int .i64) w A0_1 l0_1.length l0_1) (hc0_1 : l0_1.length ≤ c0_1) (h : span_Has.f k a0_0 l0_1 a1 = some r) :
  Calls Try.prog 75 #[.agg #[.int .i64 a0_0, .slice A0_1 l0_1.length c0_1], .int .i64 a1] w fun e w' => e = .returned (.bool r) ∧ Below w.heap.size w w' := by
 have hu97 := Try.underlying97
 have HR0_1 := aK hr0_1
 have HC0_1 := aK hc0_1
 clear hr0_1 hc0_1
 have HB := aK (Below.refl w.heap.size w)
 have H : (if a1 ≤ a0_0 then (some (decide (a1 ≥ 1))) else ((slices_BinarySearch_int_int.f k l0_1 a1).bind fun bt681 => (some bt681.2))) = some r := h
 clear h
 by_cases c3 : a1 ≤ a0_0
 ·rw [if_pos c3] at H
  have c3b0 : decide (a1 ≤ a0_0) = true := dT c3
  clear c3
  obtain rfl := sI H
  go_enter Try.func75, Try.ntmps75
  go_wp2_with (first | ((with_reducible refine gate_dst (N := 2) rfl ?_); refine box_event ?hg (N := 2) ?hd (cs := #[.int .i64 a0_0, .slice A0_1 l0_1.length c0_1]) (t := 97) ?hr ?_; (case hd => rfl); (case hg => rfl); (case hr => first | (go_simp; done) | (go_simp; rfl)); intro gb680 hg w4 hbox hb; have BK680 := aK (hbox); have GW680 := aK ((by rw [hg]; exact (below_size (by repeat (first | (with_reducible first | exact HB.out | apply bA | apply pB | apply bW) | exact HB.out))) : w.heap.size ≤ gb680)); have GE680 := aK ((by rw [hg]; exact (below_size (by repeat (first | (with_reducible first | exact HB.out | apply bA | apply pB | apply bW) | exact HB.out))) : w.heap.size ≤ gb680)); replace HB := aK (bS (by repeat (first | (with_reducible first | exact HB.out | apply bA | apply pB | apply bW) | exact HB.out)) hb); clear hb hbox hg; have hcz5_0 : w4.cell? ⟨gb680, 0, none⟩ = some (.int .i64 a0_0) := (bC BK680.out 0).trans rfl; have hcz5_1 : w4.cell? ⟨gb680, 1, none⟩ = some (.slice A0_1 l0_1.length c0_1) := (bC BK680.out 1).trans rfl; have hfz5_0 := bF_ BK680.out 0; have hfz5_1 := bF_ BK680.out 1))
  go_ret
  exact ⟨by first | rfl | (simp [errW_none, errW_some] <;> rfl) | (simp [*, errW_none, errW_some] <;> rfl), by repeat (first | (with_reducible first | exact HB.out | apply bA | apply pB | apply bW | refine below_set ?_ GE680.out) | exact HB.out)⟩
 ·rw [if_neg c3] at H
  have c3b0 : decide (a1 ≤ a0_0) = false := decide_eq_false c3
  clear c3
  replace H := bM H
  obtain ⟨⟨t681, t682⟩, A60, H⟩ := H
  have A6 := aK A60
  clear A60
  obtain rfl := sI H
  go_enter Try.func75, Try.ntmps75
  go_wp2_with (first | ((with_reducible refine gate_dst (N := 2) rfl ?_); refine box_event ?hg (N := 2) ?hd (cs := #[.int .i64 a0_0, .slice A0_1 l0_1.length c0_1]) (t := 97) ?hr ?_; (case hd => rfl); (case hg => rfl); (case hr => first | (go_simp; done) | (go_simp; rfl)); intro gb680 hg w7 hbox hb; have BK680 := aK (hbox); have GW680 := aK ((by rw [hg]; exact (below_size (by repeat (first | (with_reducible first | exact HB.out | apply bA | apply pB | apply bW) | exact HB.out))) : w.heap.size ≤ gb680)); have GE680 := aK ((by rw [hg]; exact (below_size (by repeat (first | (with_reducible first | exact HB.out | apply bA | apply pB | apply bW) | exact HB.out))) : w.heap.size ≤ gb680)); replace HB := aK (bS (by repeat (first | (with_reducible first | exact HB.out | apply bA | apply pB | apply bW) | exact HB.out)) hb); clear hb hbox hg; have hcz8_0 : w7.cell? ⟨gb680, 0, none⟩ = some (.int .i64 a0_0) := (bC BK680.out 0).trans rfl; have hcz8_1 : w7.cell? ⟨gb680, 1, none⟩ = some (.slice A0_1 l0_1.length c0_1) := (bC BK680.out 1).trans rfl; have hfz8_0 := bF_ BK680.out 0; have hfz8_1 := bF_ BK680.out 1) | ((with_reducible refine gate_callee (f := 88) rfl ?_); refine goesL_ (some 17) rfl rfl Try.func88 (by kernel_rfl) rfl #[.slice A0_1 l0_1.length c0_1, .int .i64 a1] rfl (by (try simp only [List.map_toArray, List.map_cons, List.map_nil]); first | done | rfl | (simp only [List.length_drop, List.length_take]; rfl)) ?_; (with_reducible refine (slices_BinarySearch_int_int.calls k _ _ l0_1 a1 t681 t682 _ ?side1 ?side2 A6.out).mono ?_); (case side1 => repeat (first | exact (cB HR0_1.out HB.out) | (with_reducible refine Kd.C_alloc ?_ _) | (with_reducible refine Kd.C_drewN ?_ _) | (with_reducible refine Kd.C_drew ?_))); (case side2 => exact HC0_1.out); rintro e w' ⟨rfl, ⟨nd, rfl⟩⟩; refine ⟨_, rfl, ?_⟩))
  go_ret
  exact ⟨by first | rfl | (simp [errW_none, errW_some] <;> rfl) | (simp [*, errW_none, errW_some] <;> rfl), by repeat (first | (with_reducible first | exact HB.out | apply bA | apply pB | apply bW | refine below_set ?_ GE680.out) | exact HB.out)⟩
def know_Has.f (k : Nat) (l0 : List (S100)) (a1 : ByteArray) (a2 : Int) : Option (Bool) := (know_find.f l0 a1).bind fun bt683 => (if bt683.2 = true then (if 0 ≤ bt683.1 then (if bt683.1 < (l0.length : Int) then ((span_Has.f k ((rd_T100 l0 bt683.1).f1.f0) ((rd_T100 l0 bt683.1).f1.f1) a2).bind fun t686 => (some t686)) else (none)) else (none)) else (some false))
theorem know_Has.mono : ∀ a0 a1 a2 k, LeO (know_Has.f k a0 a1 a2) (know_Has.f (k + 1) a0 a1 a2) := by
 intro a0 a1 a2 k
 unfold know_Has.f
 repeat' first
   | (with_reducible exact span_Has.mono _ _ _ _)
   | (with_reducible exact LeO.refl _)
   | (with_reducible exact LeO.none _)
   | (with_reducible refine LeO.ite ?_ ?_)
   | (with_reducible refine LeO.bind ?_ (fun _ => ?_))
   | exact span_Has.mono _ _ _ _
   | exact LeO.none _
   | refine LeO.ite ?_ ?_
   | refine LeO.bind ?_ (fun _ => ?_)
theorem know_Has.calls (k : Nat) (A0 : Option Addr) (c0 : Nat) (l0 : List (S100)) (a1 : ByteArray) (a2 : Int) (r : Bool) (w : World) (hr0 : Kd.C k100 w A0 l0.length l0) (hc0 : l0.length ≤ c0) (h : know_Has.f k l0 a1 a2 = some r) :
  Calls Try.prog 56 #[.slice A0 l0.length c0, .string a1, .int .i64 a2] w fun e w' => e = .returned (.bool r) ∧ Below w.heap.size w w' := by
 have hu97 := Try.underlying97
 have HR0 := aK hr0
 have HC0 := aK hc0
 clear hr0 hc0
 have HB := aK (Below.refl w.heap.size w)
 have H := h
 unfold know_Has.f at H
 clear h
 replace H := bM H
 obtain ⟨⟨t683, t684⟩, A40, H⟩ := H
 have A4 := aK A40
 clear A40
 by_cases c5 : t684 = true
 ·subst c5
  have H1 : (if 0 ≤ t683 then (if t683 < (l0.length : Int) then ((span_Has.f k ((rd_T100 l0 t683).f1.f0) ((rd_T100 l0 t683).f1.f1) a2).bind fun t686 => (some t686)) else (none)) else (none)) = some r := by rw [if_pos rfl] at H; exact H
  clear H
  have H := H1
  clear H1
  by_cases c6 : 0 ≤ t683
  ·rw [if_pos c6] at H
   have c6b0 : decide (0 ≤ t683) = true := dT c6
   clear c6
   by_cases c7 : t683 < (l0.length : Int)
   ·rw [if_pos c7] at H
    have c7b0 : decide (t683 < (l0.length : Int)) = true := dT c7
    clear c7
    replace H := bM H
    obtain ⟨t686, A80, H⟩ := H
    have A8 := aK A80
    clear A80
    obtain rfl := sI H
    go_enter Try.func56, Try.ntmps56
    go_wp2_with (first | ((with_reducible refine gate_callee (f := 74) rfl ?_); refine goesL_ (some 12) rfl rfl Try.func74 (by kernel_rfl) rfl #[.slice A0 l0.length c0, .string a1] rfl (by (try simp only [List.map_toArray, List.map_cons, List.map_nil]); first | done | rfl | (simp only [List.length_drop, List.length_take]; rfl)) ?_; (with_reducible refine (know_find.calls _ _ l0 a1 t683 true _ ?side1 ?side2 A4.out).mono ?_); (case side1 => repeat (first | exact HR0.out | (with_reducible refine Kd.C_alloc ?_ _) | (with_reducible refine Kd.C_drewN ?_ _) | (with_reducible refine Kd.C_drew ?_))); (case side2 => exact HC0.out); rintro e w9 ⟨rfl, hb⟩; refine ⟨_, rfl, ?_⟩; replace HB := aK (bS (by repeat (first | (with_reducible first | exact HB.out | apply bA | apply pB | apply bW) | exact HB.out)) hb); (try clear hb); (try clear hb2); (try clear hk); (try clear hi); have p685 : 0 ≤ (t683 : Int) := oD (by first | (with_reducible assumption) | assumption); have q685 : t683 < (l0.length : Int) := oD (by first | (with_reducible assumption) | assumption); obtain ⟨ad685, A685_2, c685_2, e685, hx685_0, hx685_1, hx685_2, hl685_2, hi685_2⟩ := at_T100 HR0.out t683 p685 q685; cases e685; replace hx685_0 := pc_ HB hx685_0; replace hx685_1 := pc_ HB hx685_1; replace hx685_2 := pc_ HB hx685_2; have HR685_2 := aK hi685_2; have HC685_2 := aK hl685_2; clear hi685_2 hl685_2; replace p685 := eT p685; replace q685 := eT q685) | (go_at_call 75; (with_reducible refine (span_Has.calls k ((rd_T100 l0 t683).f1.f0) _ _ ((rd_T100 l0 t683).f1.f1) a2 t686 _ ?side1 ?side2 A8.out).mono ?_); (case side1 => repeat (first | exact (cB HR685_2.out HB.out) | (with_reducible refine Kd.C_alloc ?_ _) | (with_reducible refine Kd.C_drewN ?_ _) | (with_reducible refine Kd.C_drew ?_))); (case side2 => exact HC685_2.out); rintro e w10 ⟨rfl, hb⟩; replace HB := aK (bS (by repeat (first | (with_reducible first | exact HB.out | apply bA | apply pB | apply bW) | exact HB.out)) hb); (try clear hb); (try clear hb2); (try clear hk); (try clear hi)))
    go_ret
    exact ⟨by first | rfl | (simp [errW_none, errW_some] <;> rfl) | (simp [*, errW_none, errW_some] <;> rfl), by repeat (first | (with_reducible first | exact HB.out | apply bA | apply pB | apply bW) | exact HB.out)⟩
   ·rw [if_neg c7] at H
    exact absurd H (by simp)
  ·rw [if_neg c6] at H
   exact absurd H (by simp)
 ·replace c5 := Bool.eq_false_iff.mpr c5
  subst c5
  have H1 : (some false) = some r := by rw [if_neg (show ¬ (false = true) by decide)] at H; exact H
  clear H
  have H := H1
  clear H1
  obtain rfl := sI H
  go_enter Try.func56, Try.ntmps56
  go_wp2_with (first | ((with_reducible refine gate_callee (f := 74) rfl ?_); refine goesL_ (some 12) rfl rfl Try.func74 (by kernel_rfl) rfl #[.slice A0 l0.length c0, .string a1] rfl (by (try simp only [List.map_toArray, List.map_cons, List.map_nil]); first | done | rfl | (simp only [List.length_drop, List.length_take]; rfl)) ?_; (with_reducible refine (know_find.calls _ _ l0 a1 t683 false _ ?side1 ?side2 A4.out).mono ?_); (case side1 => repeat (first | exact HR0.out | (with_reducible refine Kd.C_alloc ?_ _) | (with_reducible refine Kd.C_drewN ?_ _) | (with_reducible refine Kd.C_drew ?_))); (case side2 => exact HC0.out); rintro e w11 ⟨rfl, hb⟩; refine ⟨_, rfl, ?_⟩; replace HB := aK (bS (by repeat (first | (with_reducible first | exact HB.out | apply bA | apply pB | apply bW) | exact HB.out)) hb); (try clear hb); (try clear hb2); (try clear hk); (try clear hi)))
  go_ret
  exact ⟨by first | rfl | (simp [errW_none, errW_some] <;> rfl) | (simp [*, errW_none, errW_some] <;> rfl), by repeat (first | (with_reducible first | exact HB.out | apply bA | apply pB | apply bW) | exact HB.out)⟩
attribute [local go_sem] run_store_complex
theorem stu_index (A0 : Option Addr) (c0 : Nat) (l0 : List S41) (cb : Value) (p : S41 → Bool) (w : World) (hr0 : Kd.C k41 w A0 l0.length l0)
  (hp : ∀ (x : S41) (W : World), x ∈ l0 → Below w.heap.size w W → Calls Try.prog 55 #[.agg #[.int .i64 x.f0, .string x.f1.f0, .int .i64 x.f1.f1, .int .i64 x.f1.f2, .bool x.f2, .complex .f64 x.f3.re x.f3.im, .string x.f4, .bool x.f5], cb] W fun e w' => e = .returned (.bool (p x)) ∧ Below W.heap.size W w') :
  Calls Try.prog 73 #[.slice A0 l0.length c0, .func (.func 55) #[] #[cb]] w fun e w' => e = .returned (.int .i64 (idxI p l0)) ∧ Below w.heap.size w w' := by
 have hlen := hr0.2.1
 have HR0 := aK hr0
 have HP := aK hp
 clear hr0 hp
 have HF := aK (fun i hi hn h => idxI_found p z41 l0 i hi hn h)
 have HN := aK (fun hn => idxI_none p z41 l0 hn)
 generalize idxI p l0 = r at *
 generalize hn : l0.length = n at *
 have HL := aK hn
 clear hn
 have HB := aK (Below.refl w.heap.size w)
 have hut := Try.underlying41
 go_enter Try.func73, Try.ntmps73
 go_wp2
 go_loopw [8] (fun vi wr => ∃ i : Nat, vi = .int .i64 i ∧ i ≤ n ∧ Aside0 (∀ j, j < i → p (l0.getD j z41) = false) ∧ Aside0 (Below w.heap.size w wr)) (fun vi _ => n - (intOf vi).toNat)
 case atStart => exact ⟨0, rfl, Nat.zero_le _, ⟨fun j hj => absurd hj (Nat.not_lt_zero _)⟩, HB⟩
 case round =>
  clear HB
  obtain ⟨i, rfl, hin, HA, HB⟩ := hrel
  by_cases hlt : i < n
  ·obtain ⟨ad, hA, hx0, hx1, hx2, hx3, hx4, hx5, hx6, hx7⟩ := at_T41 HR0.out (i : Int) (by omega) (by omega)
   obtain rfl := hA
   have pm := eT (show (0 : Int) ≤ (i : Int) by omega)
   have qm := eT (show (i : Int) < (n : Int) by omega)
   replace hx0 := pc_ HB hx0; replace hx1 := pc_ HB hx1; replace hx2 := pc_ HB hx2; replace hx3 := pc_ HB hx3; replace hx4 := pc_ HB hx4; replace hx5 := pc_ HB hx5; replace hx6 := pc_ HB hx6; replace hx7 := pc_ HB hx7
   have hel : rd_T41 l0 (i : Int) = l0.getD i z41 := rfl
   simp only [Int.toNat_natCast, hel] at hx0 hx1 hx2 hx3 hx4 hx5 hx6 hx7
   have HK := aK (HP.out (l0.getD i z41)  wr (by rw [← List.getElem_eq_getD (h := by have := HL.out; omega)]; exact List.getElem_mem _) HB.out)
   by_cases hpx : p (l0.getD i z41) = true
   ·have HRES := aK (HF.out i (by have := HL.out; omega) HA.out hpx)
    rw [hpx] at HK
    clear hel hpx
    go_wp2_with fail
    refine HK.out.mono ?_
    rintro e w' ⟨rfl, hb1⟩
    have HB1 := aK (bS HB.out hb1)
    clear hb1
    go_wp2_with fail
    go_ret
    exact ⟨by rw [HRES.out]; rfl, HB1.out⟩
   ·have hpf : p (l0.getD i z41) = false := by simpa using hpx
    rw [hpf] at HK
    have HPF := aK hpf
    clear hel hpx hpf
    go_wp2_with fail
    refine HK.out.mono ?_
    rintro e w' ⟨rfl, hb1⟩
    have HB1 := aK (bS HB.out hb1)
    clear hb1
    go_wp2_with fail
    go_roundw
    case rel => exact ⟨i + 1, by go_num, by omega, ⟨fun j hj => by
     by_cases e : j = i
     ·subst e; exact HPF.out
     ·exact HA.out j (by omega)⟩, HB1⟩
    case measure => simp [intOf]; omega
  ·have hge : decide ((i : Int) < (n : Int)) = false := by simp; omega
   have HRES := aK (HN.out (fun j hj => HA.out j (by have := HL.out; omega)))
   go_wp2_with fail
   go_ret
   exact ⟨by rw [HRES.out]; rfl, HB.out⟩
theorem stu_deletek (w : World) (base : Nat) (ok : Nat → Prop) (v : Value) (l : List S41) (cb : Value) (p : S41 → Bool) (ho : Kd.R k41 41 w base ok v l) (hbase : base ≤ w.heap.size)
  (hp : ∀ (x : S41) (W : World), x ∈ l → Below base w W → Calls Try.prog 55 #[.agg #[.int .i64 x.f0, .string x.f1.f0, .int .i64 x.f1.f1, .int .i64 x.f1.f2, .bool x.f2, .complex .f64 x.f3.re x.f3.im, .string x.f4, .bool x.f5], cb] W fun e w' => e = .returned (.bool (p x)) ∧ Below W.heap.size W w') :
  Calls Try.prog 54 #[v, .func (.func 55) #[] #[cb]] w fun e w' => ∃ v' : Value, e = .returned v' ∧ Kd.R k41 41 w' base ok v' (l.filter fun x => !p x) ∧ Below base w w' ∧ ∀ k, k < w.heap.size → some k ≠ v.ownBlock → w'.heap[k]? = w.heap[k]? := by
 obtain ⟨A, c, rfl, hlc, hC⟩ := Kd.R_reads ho
 have hix := stu_index A c l cb p w hC (fun x  W hx hW => hp x  W hx ⟨hW.os, hW.tape, hW.output, by have := hW.size; omega, fun k hk => hW.block k (by omega)⟩)
 have hle := idxP_le p l
 have HIX := aK hix
 have HP := aK hp
 have HO := aK ho
 clear hix hp hC
 obtain ⟨i0, hi0⟩ : ∃ i0, idxP p l = i0 := ⟨_, rfl⟩
 have hut := Try.underlying41
 by_cases hlt : i0 < l.length
 ·have hq : idxI p l = (i0 : Int) := by unfold idxI; rw [hi0, if_pos hlt]
  rw [hq] at HIX
  have hq1 : ((i0 : Int) == -1) = false := by rw [beq_eq_false_iff_ne]; omega
  have hne : l ≠ [] := fun e => by rw [e] at hlt; simp at hlt
  obtain ⟨g, cap, cur, ev, hg, hk, hh, h2, h3, h4, hpp⟩ := R_open ho hne
  injection ev with eA _ ec
  subst eA; subst ec
  clear hh h4 hpp ho hq
  have hw1 : IntKind.i64.wrap ((i0 : Int) + 1) = (i0 : Int) + 1 := by
   have : maxLen = 9223372036854775807 := rfl
   rw [IntKind.wrap_i64] <;> omega
  go_enter Try.func54, Try.ntmps54
  go_wp2_with fail
  refine HIX.out.mono ?_
  rintro e w1 ⟨rfl, hb1⟩
  have HO1 := aK (Kd.R_below HO.out hb1)
  have HB1 := aK (below_then (Below.refl base w) hbase hb1)
  have HK1 := aK (show ∀ k, k < w.heap.size → k ≠ g → w1.heap[k]? = w.heap[k]? from fun k hk _ => hb1.block k hk)
  clear hb1 HO HIX
  go_wp2_with fail
  have HS := aK (del_start p z41 l (by rw [hi0]; exact hlt))
  rw [hi0] at HS
  generalize hn : l.length = n at *
  have HL := aK hn
  clear hn hi0 hq1 hw1
  have hmax : maxLen = 9223372036854775807 := rfl
  go_loopw [5, 6] (fun vi vj wr => ∃ (i j : Nat) (L : List S41), vi = .int .i64 i ∧ vj = .int .i64 j ∧ i < j ∧ j ≤ n ∧ Aside0 (L.length = n) ∧ Aside0 (L.take i = (l.take j).filter (fun x => !p x)) ∧ Aside0 (L.drop j = l.drop j) ∧ Aside0 (Kd.R k41 41 wr base ok (.slice (some ⟨g, 0, none⟩) n c) L) ∧ Aside0 (Below base w wr) ∧ Aside0 (∀ k, k < w.heap.size → k ≠ g → wr.heap[k]? = w.heap[k]?)) (fun _ vj _ => n - (intOf vj).toNat)
  case atStart => exact ⟨i0, i0 + 1, l, rfl, by go_num, by omega, by omega, HL, HS, ⟨rfl⟩, HO1, HB1, HK1⟩
  case round =>
   clear HS HO1 HB1 HK1
   obtain ⟨i, j, L, rfl, rfl, hij, hjn, HLL, HT, HD, HO, HB, HKP⟩ := hrel
   by_cases hj : j < n
   ·have hC := (Kd.R_reads' HO.out).2.2
    obtain ⟨ad, hA, hx0, hx1, hx2, hx3, hx4, hx5, hx6, hx7⟩ := at_T41 hC (j : Int) (by omega) (by have := HLL.out; omega)
    injection hA with hA
    subst hA
    have pm := eT (show (0 : Int) ≤ (j : Int) by omega)
    have qm := eT (show (j : Int) < (n : Int) by omega)
    have hel : rd_T41 L (j : Int) = l.getD j z41 := drop_get z41 HD.out (by have := HL.out; omega)
    simp only [Int.toNat_natCast, hel, Addr.add_lit, Nat.zero_add] at hx0 hx1 hx2 hx3 hx4 hx5 hx6 hx7
    clear hC
    have HMEM := aK (show l.getD j z41 ∈ l by rw [← List.getElem_eq_getD (h := by have := HL.out; omega)]; exact List.getElem_mem _)
    generalize hx : l.getD j z41 = x at hx0 hx1 hx2 hx3 hx4 hx5 hx6 hx7 hel HMEM
    have HX := aK hx
    clear hx hel
    go_wp2_with fail
    have HBA := aK (HB.out.alloc (by have := below_size' HB.out hbase; omega) (.cells #[.int .i64 x.f0, .string x.f1.f0, .int .i64 x.f1.f1, .int .i64 x.f1.f2, .bool x.f2, .complex .f64 x.f3.re x.f3.im, .string x.f4, .bool x.f5] 41))
    have HOA := aK (Kd.R_below HO.out (bA (Below.refl _ _) (.cells #[.int .i64 x.f0, .string x.f1.f0, .int .i64 x.f1.f1, .int .i64 x.f1.f2, .bool x.f2, .complex .f64 x.f3.re x.f3.im, .string x.f4, .bool x.f5] 41)))
    have BK := aK (blk_new wr (.cells #[.int .i64 x.f0, .string x.f1.f0, .int .i64 x.f1.f1, .int .i64 x.f1.f2, .bool x.f2, .complex .f64 x.f3.re x.f3.im, .string x.f4, .bool x.f5] 41))
    have HKA := aK (show ∀ (W : World), Below (wr.alloc (.cells #[.int .i64 x.f0, .string x.f1.f0, .int .i64 x.f1.f1, .int .i64 x.f1.f2, .bool x.f2, .complex .f64 x.f3.re x.f3.im, .string x.f4, .bool x.f5] 41)).heap.size (wr.alloc (.cells #[.int .i64 x.f0, .string x.f1.f0, .int .i64 x.f1.f1, .int .i64 x.f1.f2, .bool x.f2, .complex .f64 x.f3.re x.f3.im, .string x.f4, .bool x.f5] 41)) W → ∀ k, k < w.heap.size → k ≠ g → W.heap[k]? = w.heap[k]? from fun W hW k hk hne => ((hW.block k (by have := HB.out.size; simp; omega)).trans ((bA (Below.refl _ _) _).block k (by have := HB.out.size; omega))).trans (HKP.out k hk hne))
    have HK := aK (HP.out x  _ HMEM.out HBA.out)
    by_cases hpx : p x = true
    ·rw [hpx] at HK
     have HPX := aK hpx
     clear hpx
     refine HK.out.mono ?_
     rintro e w' ⟨rfl, hb1⟩
     have HB1 := aK (below_then HBA.out (below_size' HBA.out hbase) hb1)
     have HO1 := aK (Kd.R_below HOA.out hb1)
     have HK2 := aK (HKA.out _ hb1)
     clear hb1
     go_wp2_with fail
     go_roundw
     case rel => exact ⟨i, j + 1, L, rfl, by go_num, by omega, by omega, HLL, ⟨del_skip p z41 HT.out (by have := HL.out; omega) (by rw [HX.out]; exact HPX.out)⟩, ⟨drop_succ_eq HD.out⟩, HO1, HB1, HK2⟩
     case measure => simp [intOf]; omega
    ·have hpf : p x = false := by simpa using hpx
     rw [hpf] at HK
     have HPX := aK hpf
     clear hpx hpf
     refine HK.out.mono ?_
     rintro e w' ⟨rfl, hb1⟩
     have HB1 := aK (below_then HBA.out (below_size' HBA.out hbase) hb1)
     have HO1 := aK (Kd.R_below HOA.out hb1)
     have BK1 := aK (bB BK.out hb1)
     have HK2 := aK (HKA.out _ hb1)
     clear hb1
     have hin : i < n := by omega
     have pi := eT (show (0 : Int) ≤ (i : Int) by omega)
     have qi := eT (show (i : Int) < (n : Int) by omega)
     obtain ⟨gI, capI, curI, evI, _, _, hhI, _, _, _, _⟩ := R_open HO1.out (fun e => by have := HLL.out; rw [e] at this; simp at this; omega)
     injection evI with eA eN eC
     clear eN eC
     injection eA with eA
     injection eA with eA
     subst eA
     obtain ⟨adI, hAI, hy0, hy1, hy2, hy3, hy4, hy5, hy6, hy7⟩ := at_T41 (Kd.R_reads' HO1.out).2.2 (i : Int) (by omega) (by have := HLL.out; omega)
     injection hAI with hAI
     subst hAI
     simp only [Int.toNat_natCast, Addr.add_lit, Nat.zero_add] at hy0 hy1 hy2 hy3 hy4 hy5 hy6 hy7
     have hq0 : w'.cell? ⟨wr.heap.size, 0, none⟩ = some (.int .i64 x.f0) := (bC BK1.out 0).trans rfl; have hq1 : w'.cell? ⟨wr.heap.size, 1, none⟩ = some (.string x.f1.f0) := (bC BK1.out 1).trans rfl; have hq2 : w'.cell? ⟨wr.heap.size, 2, none⟩ = some (.int .i64 x.f1.f1) := (bC BK1.out 2).trans rfl; have hq3 : w'.cell? ⟨wr.heap.size, 3, none⟩ = some (.int .i64 x.f1.f2) := (bC BK1.out 3).trans rfl; have hq4 : w'.cell? ⟨wr.heap.size, 4, none⟩ = some (.bool x.f2) := (bC BK1.out 4).trans rfl; have hq5 : w'.cell? ⟨wr.heap.size, 5, none⟩ = some (.complex .f64 x.f3.re x.f3.im) := (bC BK1.out 5).trans rfl; have hq6 : w'.cell? ⟨wr.heap.size, 6, none⟩ = some (.string x.f4) := (bC BK1.out 6).trans rfl; have hq7 : w'.cell? ⟨wr.heap.size, 7, none⟩ = some (.bool x.f5) := (bC BK1.out 7).trans rfl
     have hz0 : w'.frozen? ⟨g, i * 8, none⟩ = false := bF_ hhI _; have hz1 : w'.frozen? ⟨g, i * 8 + 1, none⟩ = false := bF_ hhI _; have hz2 : w'.frozen? ⟨g, i * 8 + 2, none⟩ = false := bF_ hhI _; have hz3 : w'.frozen? ⟨g, i * 8 + 3, none⟩ = false := bF_ hhI _; have hz4 : w'.frozen? ⟨g, i * 8 + 4, none⟩ = false := bF_ hhI _; have hz5 : w'.frozen? ⟨g, i * 8 + 5, none⟩ = false := bF_ hhI _; have hz6 : w'.frozen? ⟨g, i * 8 + 6, none⟩ = false := bF_ hhI _; have hz7 : w'.frozen? ⟨g, i * 8 + 7, none⟩ = false := bF_ hhI _
     have hres := Kd.R_seg (d := k41) (W := w') (okp := fun _ => False) HO1.out (i : Int) (by omega) (by omega) (c := [.int .i64 (rd_T41 L (i : Int)).f0, .string (rd_T41 L (i : Int)).f1.f0, .int .i64 (rd_T41 L (i : Int)).f1.f1, .int .i64 (rd_T41 L (i : Int)).f1.f2, .bool (rd_T41 L (i : Int)).f2, .complex .f64 (rd_T41 L (i : Int)).f3.re (rd_T41 L (i : Int)).f3.im, .string (rd_T41 L (i : Int)).f4, .bool (rd_T41 L (i : Int)).f5]) (seg := [.int .i64 x.f0, .string x.f1.f0, .int .i64 x.f1.f1, .int .i64 x.f1.f2, .bool x.f2, .complex .f64 x.f3.re x.f3.im, .string x.f4, .bool x.f5]) (j := 0) rfl (fun q u hq => by rw [Int.toNat_natCast]; rcases q with _ | _ | _ | _ | _ | _ | _ | _ | q; (cases hq; exact hy0); (cases hq; exact hy1); (cases hq; exact hy2); (cases hq; exact hy3); (cases hq; exact hy4); (cases hq; exact hy5); (cases hq; exact hy6); (cases hq; exact hy7); (cases hq)) (show 0 + 8 ≤ 8 by decide) (x' := x) (k41_mkM _ _ _ x) (fun _ h => h.elim)
     have HR := aK hres.1
     have HG := aK (HB1.out.grown hres.2 (below_size' HB1.out hbase) (fun k e => by injection e with e; omega))
     have HK3 := aK (fun k (hk : k < w.heap.size) (hne : k ≠ g) => (hres.2.block k (by have := HB1.out.size; omega) (fun e => by injection e with e; exact hne e)).trans (HK2.out k hk hne))
     clear hres hhI
     go_wp2_with fail
     go_roundw
     case rel => exact ⟨i + 1, j + 1, L.set i x, by go_num, by go_num, by omega, by omega, ⟨by rw [List.length_set]; exact HLL.out⟩, ⟨by rw [← HX.out]; exact del_keep p z41 HT.out (by have := HL.out; omega) (by have := HLL.out; omega) (by rw [HX.out]; exact HPX.out)⟩, ⟨del_drop x HD.out hij⟩, HR, HG, HK3⟩
     case measure => simp [intOf]; omega
   ·have hge : decide ((j : Int) < (n : Int)) = false := by simp; omega
    have hjj : j = n := by omega
    obtain ⟨i1, hi1, hz1, hsz1, hby1⟩ := info_parts info41
    obtain ⟨gI, capI, curI, evI, hgI, hkI, hhI, h2I, h3I, h4I, hpI⟩ := R_open HO.out (fun e => by have := HLL.out; rw [e] at this; simp at this; omega)
    injection evI with eA eN eC
    clear eN
    injection eA with eA
    injection eA with eA
    subst eA; subst eC
    rw [HLL.out] at h2I
    have hin : i < n := by omega
    have c1 : ∀ W : World, (Instr.slice 31 (.slice (some ⟨g, 0, none⟩) n c) (some (.int .i64 (i : Int))) none none).run Try.prog W = .ok (.slice (some ⟨g, i * 8, none⟩) (n - i) (c - i)) W := by
     intro W
     rw [cut_from (P := Try.prog) 31 41 .i64 Try.underlying31 hi1 8 hsz1 (some ⟨g, 0, none⟩) n c (i : Int) (by omega) (by omega) W, Int.toNat_natCast, if_neg (by omega), Option.map_some, Addr.add_lit, Nat.zero_add]
    have c2 := cut_to (P := Try.prog) 31 41 .i64 Try.underlying31 hi1 (some ⟨g, 0, none⟩) n c (i : Int) (by omega) (by omega) h2I
    rw [Int.toNat_natCast] at c2
    have hcl := fun ty => run_clear_k (P := Try.prog) wr 31 41 ty _ [.int .i64 0, .string ⟨#[]⟩, .int .i64 0, .int .i64 0, .bool false, .complex .f64 0 0, .string ⟨#[]⟩, .bool false] Try.underlying31 Try.zeroValue41 rfl (by decide) (by decide) g (i * 8) (n - i) (c - i) (by omega) (fun q hq => by
     have hq' : q < (n - i) * 8 := hq
     rw [bC hhI, Array.getElem?_eq_getElem (by have h4' : curI.size = c * 8 := h4I; omega)]; rfl) (fun q _ => bF_ hhI _)
    have hfin := R_cut_clear (d := k41) (i := i) hgI hkI hhI (by rw [HLL.out]; exact h2I) h3I h4I hpI (by rw [HLL.out]; omega) (List.replicate (n - i) ([.int .i64 0, .string ⟨#[]⟩, .int .i64 0, .int .i64 0, .bool false, .complex .f64 0 0, .string ⟨#[]⟩, .bool false] : List Value)).flatten (by
     have h4' : curI.size = c * 8 := h4I
     have hl : ((List.replicate (n - i) ([.int .i64 0, .string ⟨#[]⟩, .int .i64 0, .int .i64 0, .bool false, .complex .f64 0 0, .string ⟨#[]⟩, .bool false] : List Value)).flatten).length = (n - i) * 8 := by simp
     rw [hl]
     show i * 8 + _ ≤ _
     omega)
    generalize (List.replicate (n - i) ([.int .i64 0, .string ⟨#[]⟩, .int .i64 0, .int .i64 0, .bool false, .complex .f64 0 0, .string ⟨#[]⟩, .bool false] : List Value)).flatten = vs at hcl hfin
    have HR := aK (show Kd.R k41 41 (wr.setCells g (i * 8) vs) base ok (.slice (some ⟨g, 0, none⟩) i c) (l.filter fun x => !p x) from by
     have h := hfin.1
     rw [HT.out, hjj, List.take_of_length_le (by have := HL.out; omega)] at h
     exact h)
    have HG := aK (show Below base w (wr.setCells g (i * 8) vs) from HB.out.grown hfin.2 (below_size' HB.out hbase) (fun k e => by injection e with e; omega))
    have HK4 := aK (show ∀ k, k < w.heap.size → k ≠ g → (wr.setCells g (i * 8) vs).heap[k]? = w.heap[k]? from fun k hk hne => (hfin.2.block k (by have := HB.out.size; omega) (fun e => by injection e with e; exact hne e)).trans (HKP.out k hk hne))
    clear hfin hhI hpI h4I
    go_wp2
    go_ret
    exact ⟨_, rfl, HR.out, HG.out, fun k hk hne => HK4.out k hk (fun e => hne (by rw [e]; simp [Value.ownBlock]))⟩
 ·have hq : idxI p l = -1 := by unfold idxI; rw [hi0, if_neg hlt]
  have HF := aK (filter_none p l (by omega))
  rw [hq] at HIX
  clear hq hi0 hlt hle hlc ho
  go_enter Try.func54, Try.ntmps54
  go_wp2_with fail
  refine HIX.out.mono ?_
  rintro e w1 ⟨rfl, hb1⟩
  have HO1 := aK (Kd.R_below HO.out hb1)
  have HB1 := aK (below_then (Below.refl base w) hbase hb1)
  have HK1 := aK hb1
  clear hb1 HO HIX
  go_wp2_with fail
  go_ret
  exact ⟨_, rfl, by rw [HF.out]; exact HO1.out, HB1.out, fun k hk _ => HK1.out.block k hk⟩
theorem stu_delete (w : World) (base : Nat) (ok : Nat → Prop) (v : Value) (l : List S41) (cb : Value) (p : S41 → Bool) (ho : Kd.R k41 41 w base ok v l) (hbase : base ≤ w.heap.size)
  (hp : ∀ (x : S41) (W : World), x ∈ l → Below base w W → Calls Try.prog 55 #[.agg #[.int .i64 x.f0, .string x.f1.f0, .int .i64 x.f1.f1, .int .i64 x.f1.f2, .bool x.f2, .complex .f64 x.f3.re x.f3.im, .string x.f4, .bool x.f5], cb] W fun e w' => e = .returned (.bool (p x)) ∧ Below W.heap.size W w') :
  Calls Try.prog 54 #[v, .func (.func 55) #[] #[cb]] w fun e w' => ∃ v' : Value, e = .returned v' ∧ Kd.R k41 41 w' base ok v' (l.filter fun x => !p x) ∧ Below base w w' :=
 (stu_deletek w base ok v l cb p ho hbase hp).mono fun e w' h => by
  obtain ⟨v', h1, h2, h3, -⟩ := h
  exact ⟨v', h1, h2, h3⟩
theorem stu_pred (k : Nat) (x : S41) (B : Nat) (A1 : Option Addr) (c1 : Nat) (l1 : List S100) (r : Bool) (W : World) (hB : W.heap[B]? = some (.cells #[.slice A1 l1.length c1] 68 (0, 0))) (hr1 : Kd.C k100 W A1 l1.length l1) (hc1 : l1.length ≤ c1) (h : know_Has.f k l1 x.f1.f0 x.f1.f1 = some r) :
  Calls Try.prog 55 #[.agg #[.int .i64 x.f0, .string x.f1.f0, .int .i64 x.f1.f1, .int .i64 x.f1.f2, .bool x.f2, .complex .f64 x.f3.re x.f3.im, .string x.f4, .bool x.f5], .pointer (some ⟨B, 0, none⟩)] W fun e w' => e = .returned (.bool r) ∧ Below W.heap.size W w' := by
 have HB := aK (bA (Below.refl W.heap.size W) (.cells #[.int .i64 x.f0, .string x.f1.f0, .int .i64 x.f1.f1, .int .i64 x.f1.f2, .bool x.f2, .complex .f64 x.f3.re x.f3.im, .string x.f4, .bool x.f5] 41))
 have BK := aK (blk_new W (.cells #[.int .i64 x.f0, .string x.f1.f0, .int .i64 x.f1.f1, .int .i64 x.f1.f2, .bool x.f2, .complex .f64 x.f3.re x.f3.im, .string x.f4, .bool x.f5] 41))
 have BB := aK (blk_alloc hB (.cells #[.int .i64 x.f0, .string x.f1.f0, .int .i64 x.f1.f1, .int .i64 x.f1.f2, .bool x.f2, .complex .f64 x.f3.re x.f3.im, .string x.f4, .bool x.f5] 41))
 have HK := aK (know_Has.calls k A1 c1 l1 x.f1.f0 x.f1.f1 r _ (cB hr1 HB.out) hc1 h)
 have hc0 := (bC BK.out 1).trans (rfl : _ = some (Value.string x.f1.f0))
 have hc1' := (bC BK.out 2).trans (rfl : _ = some (Value.int .i64 x.f1.f1))
 have hc2 := (bC BB.out 0).trans (rfl : _ = some (Value.slice A1 l1.length c1))
 have hut := Try.underlying41
 have huv := Try.underlying38
 clear hB hr1 hc1 h
 go_enter Try.func55, Try.ntmps55
 go_wp2_with fail
 refine HK.out.mono ?_
 rintro e w1 ⟨rfl, hb⟩
 replace HB := aK (bS HB.out hb)
 clear hb
 go_wp2_with fail
 go_ret
 exact ⟨rfl, HB.out⟩
def kns (k : Nat) (l1 : List S100) (x : S41) : Bool := (know_Has.f k l1 x.f1.f0 x.f1.f1).getD false
def store_Unknown.f (k : Nat) (l0 : List S41) (l1 : List S100) : Option (List S41) := (store_ByAge.f l0).bind fun b => if (b.all fun x => (know_Has.f k l1 x.f1.f0 x.f1.f1).isSome) = true then some (b.filter fun x => !(kns k l1 x)) else none
theorem store_Unknown.mono (l0 : List S41) (l1 : List S100) : ∀ k, LeO (store_Unknown.f k l0 l1) (store_Unknown.f (k + 1) l0 l1) := by
 intro k r h
 unfold store_Unknown.f at h ⊢
 obtain ⟨b, hb, h⟩ := bM h
 rw [hb, Option.bind_some]
 by_cases hc : (b.all fun x => (know_Has.f k l1 x.f1.f0 x.f1.f1).isSome) = true
 ·rw [if_pos hc] at h
  have hx : ∀ x ∈ b, know_Has.f (k + 1) l1 x.f1.f0 x.f1.f1 = know_Has.f k l1 x.f1.f0 x.f1.f1 := by
   intro x hx
   obtain ⟨v, hv⟩ := Option.isSome_iff_exists.mp (List.all_eq_true.mp hc x hx)
   rw [hv]
   exact know_Has.mono _ _ _ k v hv
  rw [if_pos (by rw [List.all_eq_true] at hc ⊢; intro x h2; rw [hx x h2]; exact hc x h2), ← h]
  congr 1
  refine List.filter_congr fun x h2 => ?_
  unfold kns
  rw [hx x h2]
 ·rw [if_neg hc] at h; cases h
theorem store_Unknown.calls (k : Nat) (A0 : Option Addr) (c0 : Nat) (l0 : List S41) (A1 : Option Addr) (c1 : Nat) (l1 : List S100) (r : List S41) (w : World) (hr0 : Kd.C k41 w A0 l0.length l0) (hc0 : l0.length ≤ c0) (hr1 : Kd.C k100 w A1 l1.length l1) (hc1 : l1.length ≤ c1) (h : store_Unknown.f k l0 l1 = some r) :
  Calls Try.prog 30 #[.slice A0 l0.length c0, .slice A1 l1.length c1] w fun e w' => ∃ v0_ : Value, e = .returned (v0_) ∧ Kd.R k41 41 w' w.heap.size (fun _ => True) v0_ r ∧ Below w.heap.size w w' := by
 unfold store_Unknown.f at h
 obtain ⟨b, hb, h⟩ := bM h
 have hall : ∀ x ∈ b, know_Has.f k l1 x.f1.f0 x.f1.f1 = some (kns k l1 x) := by
  intro x hx
  by_cases hc : (b.all fun x => (know_Has.f k l1 x.f1.f0 x.f1.f1).isSome) = true
  ·obtain ⟨v, hv⟩ := Option.isSome_iff_exists.mp (List.all_eq_true.mp hc x hx)
   unfold kns; rw [hv]; rfl
  ·rw [if_neg hc] at h; cases h
 have hr : (b.filter fun x => !(kns k l1 x)) = r := by
  by_cases hc : (b.all fun x => (know_Has.f k l1 x.f1.f0 x.f1.f1).isSome) = true
  ·rw [if_pos hc] at h; exact sI h
  ·rw [if_neg hc] at h; cases h
 have HR := aK hr
 have HA := aK hall
 have HB := aK (bA (Below.refl w.heap.size w) (.cells #[.slice A1 l1.length c1] 68))
 have BK := aK (blk_new w (.cells #[.slice A1 l1.length c1] 68))
 have HA1 := aK (fun W (hW : Below w.heap.size w W) => store_ByAge.calls A0 c0 l0 b W (cB hr0 hW) hc0 hb)
 have HK := aK (And.intro hc1 hr1)
 clear hr hall h hb hr0 hc0 hr1 hc1
 go_enter Try.func30, Try.ntmps30
 go_wp2_with fail
 refine (HA1.out _ HB.out).mono ?_
 rintro e w1 ⟨v1, rfl, ho1, hb1⟩
 have HO := aK ho1
 have BK1 := aK (bB BK.out hb1)
 have HB1 := aK (bS HB.out hb1)
 have hsz : (w.alloc (.cells #[.slice A1 l1.length c1] 68)).heap.size = w.heap.size + 1 := by simp
 have hz1 : w.heap.size + 1 ≤ w1.heap.size := by rw [← hsz]; exact hb1.size
 rw [hsz] at HO
 have HZ := aK hz1
 clear ho1 hb1 hsz hz1 HA1
 go_wp2_with fail
 refine (stu_delete w1 (w.heap.size + 1) (fun _ => True) v1 b (.pointer (some ⟨w.heap.size, 0, none⟩)) (fun x => kns k l1 x) HO.out HZ.out (fun x W hx hW => stu_pred k x w.heap.size A1 c1 l1 _ W ((hW.block _ (by omega)).trans BK1.out) (cB HK.out.2 (HB1.out.trans ⟨hW.os, hW.tape, hW.output, hW.size, fun k hk => hW.block k (by omega)⟩)) HK.out.1 (HA.out x hx))).mono ?_
 rintro e w2 ⟨v2, rfl, ho2, hb2⟩
 have HO2 := aK (Kd.R_lower ho2 (show w.heap.size ≤ w.heap.size + 1 by omega))
 have HB2 := aK (HB1.out.trans ⟨hb2.os, hb2.tape, hb2.output, hb2.size, fun k hk => hb2.block k (by omega)⟩)
 clear ho2 hb2
 go_wp2_with fail
 go_ret
 exact ⟨_, rfl, by rw [← HR.out]; exact HO2.out, HB2.out⟩
def cenotaphlaw02_To.f (a0_0 : Int) (l0_1 : List Int) : Option (Int × List Int) := (some (([] : List Int) : List Int)).bind fun y689 => (if y689.length + l0_1.length < 17592186044416 then (some (a0_0, (y689 ++ l0_1))) else (none))
def cenotaphlaw02_To.T1 : Bool × List (List Nat × List Nat) := (true, [([], []), ([0], [0]), ([], []), ([], []), ([3], [3]), ([2, 4], [2, 4]), ([1, 5], [1, 5]), ([6, 5, 0, 1, 2, 3, 4, 5, 6], [6])])
def cenotaphlaw02_To.B1 : List Nat := [0, 1, 0, 0, 8, 28, 63, 127]
theorem cenotaphlaw02_To.tab1 : rtab .any (opsOf Try.f57 1) = cenotaphlaw02_To.T1 := by kernel_rfl
theorem cenotaphlaw02_To.bits1 : waitsOk cenotaphlaw02_To.T1.2 cenotaphlaw02_To.B1 = true := by kernel_rfl
theorem cenotaphlaw02_To.calls (a0_0 : Int) (A0_1 : Option Addr) (c0_1 : Nat) (l0_1 : List Int) (r1 : Int) (r2 : List Int) (w : World) (hr0_1 : Kd.C (Kd.int .i64) w A0_1 l0_1.length l0_1) (hc0_1 : l0_1.length ≤ c0_1) (h : cenotaphlaw02_To.f a0_0 l0_1 = some (r1, r2)) :
  Calls Try.prog 57 #[.agg #[.int .i64 a0_0, .slice A0_1 l0_1.length c0_1]] w fun e w' => ∃ v1_ : Value, e = .returned (.agg #[.int .i64 r1, v1_]) ∧ Kd.R (Kd.int .i64) 3 w' w.heap.size (fun _ => True) v1_ r2 ∧ Below w.heap.size w w' := by
 have hu89 := Try.underlying89
 have hu97 := Try.underlying97
 have HR0_1 := aK hr0_1
 have HC0_1 := aK hc0_1
 clear hr0_1 hc0_1
 have HB := aK (Below.refl w.heap.size w)
 have H : ((some (([] : List Int) : List Int)).bind fun y689 => (if y689.length + l0_1.length < 17592186044416 then (some (a0_0, (y689 ++ l0_1))) else (none))) = some (r1, r2) := h
 clear h
 obtain ⟨y689, hy689⟩ : ∃ y_ : List Int, y_ = (([] : List Int)) := ⟨_, rfl⟩
 replace H : (if y689.length + l0_1.length < 17592186044416 then (some (a0_0, (y689 ++ l0_1))) else (none)) = some (r1, r2) := by first | (rw [hy689]; with_reducible exact H) | (have H2_ := (Option.bind_some _ _).symm.trans H; rw [hy689]; with_reducible exact H2_) | (have H2_ := (Option.bind_some _ _).symm.trans H; with_reducible exact H2_) | with_reducible exact H | (rw [hy689]; exact H) | exact H
 have Ny689 := aK hy689
 clear hy689
 by_cases c2 : y689.length + l0_1.length < 17592186044416
 ·rw [if_pos c2] at H
  have LMc2 := aK c2
  clear c2
  obtain ⟨y692, hy692⟩ : ∃ y_ : List Int, y_ = (y689 ++ l0_1) := ⟨_, rfl⟩
  replace H : (some (a0_0, y692)) = some (r1, r2) := by first | (rw [hy692]; with_reducible exact H) | (have H2_ := (Option.bind_some _ _).symm.trans H; rw [hy692]; with_reducible exact H2_) | (have H2_ := (Option.bind_some _ _).symm.trans H; with_reducible exact H2_) | with_reducible exact H | (rw [hy692]; exact H) | exact H
  have Ny692 := aK hy692
  clear hy692
  simp only [Option.some.injEq, Prod.mk.injEq] at H
  obtain ⟨rfl, rfl⟩ := H
  go_enter Try.func57, Try.ntmps57
  try go_wp2_with (first | ((with_reducible refine gate_dst (N := 1) rfl ?_); refine box_event ?hg (N := 1) ?hd (cs := #[.int .i64 a0_0, .slice A0_1 l0_1.length c0_1]) (t := 89) ?hr ?_; (case hd => rfl); (case hg => rfl); (case hr => first | (go_simp; done) | (go_simp; rfl)); intro gb687 hg w3 hbox hb; have BK687 := aK (hbox); have GW687 := aK ((by rw [hg]; exact (below_size (by repeat (first | (with_reducible first | exact HB.out | apply bA | apply pB | apply bW) | exact HB.out))) : w.heap.size ≤ gb687)); have GE687 := aK ((by rw [hg]; exact (below_size (by repeat (first | (with_reducible first | exact HB.out | apply bA | apply pB | apply bW) | exact HB.out))) : w.heap.size ≤ gb687)); replace HB := aK (bS (by repeat (first | (with_reducible first | exact HB.out | apply bA | apply pB | apply bW) | exact HB.out)) hb); clear hb hbox hg) | ((with_reducible refine gate_dst (N := 2) rfl ?_); refine box_event ?hg (N := 2) ?hd (cs := #[.int .i64 0, .slice none 0 0]) (t := 97) ?hr ?_; (case hd => rfl); (case hg => rfl); (case hr => first | (go_simp; done) | (go_simp; rfl)); intro gb688 hg w4 hbox hb; have BK688 := aK (hbox); have GW688 := aK ((by rw [hg]; exact (below_size (by repeat (first | (with_reducible first | exact HB.out | apply bA | apply pB | apply bW | refine below_set ?_ GE687.out) | exact HB.out))) : w.heap.size ≤ gb688)); have GE688 := aK ((by rw [hg]; exact (below_size (by repeat (first | (with_reducible first | exact HB.out | apply bA | apply pB | apply bW | refine below_set ?_ GE687.out) | exact HB.out))) : w.heap.size ≤ gb688)); replace HB := aK (bS (by repeat (first | (with_reducible first | exact HB.out | apply bA | apply pB | apply bW | refine below_set ?_ GE687.out) | exact HB.out)) hb); have NB687_688 := aK ((by rw [hg]; exact Nat.ne_of_lt (blk_lt (g := gb687) (o := .cells #[.int .i64 a0_0, .slice A0_1 l0_1.length c0_1] 89 (0, 0)) (by (with_reducible repeat (first | refine blk_drewN ?_ _ | refine blk_drew ?_ | refine blk_alloc ?_ _)); exact BK687.out)) : gb687 ≠ gb688)); have NB688_687 := aK ((by rw [hg]; exact Nat.ne_of_gt (blk_lt (g := gb687) (o := .cells #[.int .i64 a0_0, .slice A0_1 l0_1.length c0_1] 89 (0, 0)) (by (with_reducible repeat (first | refine blk_drewN ?_ _ | refine blk_drew ?_ | refine blk_alloc ?_ _)); exact BK687.out)) : gb688 ≠ gb687)); replace BK687 := aK (bB (g := gb687) (o := .cells #[.int .i64 a0_0, .slice A0_1 l0_1.length c0_1] 89 (0, 0)) (by (with_reducible repeat (first | refine blk_drewN ?_ _ | refine blk_drew ?_ | refine blk_alloc ?_ _)); exact BK687.out) hb); clear hb hbox hg))
  have n0_ := aK (blk_drew BK687.out)
  have n1_ := aK (blk_drew BK688.out)
  have n2_ := aK (bW HB.out)
  clear BK687
  clear BK688
  clear HB
  have BK687 := n0_
  have BK688 := n1_
  have HB := n2_
  clear n0_ n1_ n2_
  refine start_ (n := 8) (S := fun w' => w'.cell? ⟨gb687, 0, none⟩ = some (.int .i64 a0_0) ∧ w'.cell? ⟨gb687, 1, none⟩ = some (.slice A0_1 l0_1.length c0_1)) (ds := []) #[false, false, false, false, false, false, false, false] (by kernel_rfl) rfl rfl ⟨(bC BK687.out 0).trans rfl, (bC BK687.out 1).trans rfl⟩ (fun hHeld => ?_); refine with_tabW cenotaphlaw02_To.tab1 cenotaphlaw02_To.bits1 (fun HT_ HW_ => ?_)
  generalize w4.drew = w5 at BK687 BK688 HB hHeld ⊢
  refine p_ 0 3 (mk_ 8 0x1) ?_
  refine p_ 3 6 (mk_ 8 0x9) ?_
  refine t_ 1 4 (mk_ 8 0xb) hHeld ?_
  refine t_ 4 7 (mk_ 8 0x1b) hHeld ?_
  refine one_ (i := 2) (N := some 5) #[true, true, true, true, true, false, false, false] rfl rfl (one_of HT_.out (by kernel_rfl)) (by decide) (fun K hK => ?_)
  refine Kd.R_lit_step (Kd.int .i64) _ 3 ?hg (N := 5) ?hd (xs := ([] : List Int)) (inner := []) (ok := fun _ => True) (okp := fun _ => True) ?hr ?hp (fun _ hk => hk) trivial (Below.refl _ _) (Nat.le_refl _) (by simp) ?_; (case hd => rfl); (case hg => rfl); (case hr => first | (go_simp; done) | (go_simp; rfl)); (case hp => exact (Reps.none _ _))
  intro v690 w6 ho7 hb hg_ hnew_
  clear hg_ hnew_
  (first | rw [← Ny689.out] at ho7 | (simp only [Int.reduceToNat] at ho7; rw [← Ny689.out] at ho7))
  have n0_ := aK (Kd.R_lower ho7 (below_size (by repeat (first | (with_reducible first | exact HB.out | apply bA | apply pB | apply bW | refine below_set ?_ GE687.out | refine below_set ?_ GE688.out) | exact HB.out))))
  have n1_ := aK (bB (g := gb687) (o := .cells #[.int .i64 a0_0, .slice A0_1 l0_1.length c0_1] 89 (0, 0)) (by (with_reducible repeat (first | refine blk_drewN ?_ _ | refine blk_drew ?_ | refine blk_alloc ?_ _)); exact BK687.out) hb)
  have n2_ := aK (bB (g := gb688) (o := .cells #[.int .i64 0, .slice none 0 0] 97 (0, 0)) (by (with_reducible repeat (first | refine blk_drewN ?_ _ | refine blk_drew ?_ | refine blk_alloc ?_ _)); exact BK688.out) hb)
  have n3_ := aK (bS (by repeat (first | (with_reducible first | exact HB.out | apply bA | apply pB | apply bW | refine below_set ?_ GE687.out | refine below_set ?_ GE688.out) | exact HB.out)) hb)
  clear BK687
  clear BK688
  clear HB
  have HO691 := n0_
  have BK687 := n1_
  have BK688 := n2_
  have HB := n3_
  clear n0_ n1_ n2_ n3_
  clear hb ho7
  refine hK.out _ _ ⟨(bC BK687.out 0).trans rfl, (bC BK687.out 1).trans rfl⟩ (fun hHeld => ?_)
  clear hK K
  refine norm_ (a' := ?_) ?_ ?_
  rotate_left
  ·show Act.put _ (some 5) _ = _
   simp only [Act.put, lA, lB, lC, i64_w, i32_w]
   rfl
  refine one_ (i := 5) (N := some 8) #[true, true, true, true, true, true, false, false] rfl rfl (one_of HT_.out (by kernel_rfl)) (by decide) (fun K hK => ?_)
  refine Kd.R_append_rows_step (Kd.int .i64) (w0 := w) w.heap.size (by rfl) (.tmp 5) (.tmp 7) 57 3 (.int .i64 0) 8 rfl Try.underlying57 info3 rfl (by decide) (by omega) v690 y689 l0_1 _ _ _ (fun _ => True) (fun _ => False) rfl rfl ?aO ?aR (fun _ _ h => h) (fun _ h => h.elim) ?aF ?aB ?aS ?aL ?_
  (case aR => repeat (first | exact (cB HR0_1.out HB.out) | (with_reducible refine Kd.C_alloc ?_ _) | (with_reducible refine Kd.C_drewN ?_ _) | (with_reducible refine Kd.C_drew ?_)))
  (case aB => exact (by repeat (first | (with_reducible first | exact HB.out | apply bA | apply pB | apply bW | refine below_set ?_ GE687.out | refine below_set ?_ GE688.out) | exact HB.out)))
  (case aF => exact (fun _ _ => trivial))
  (case aO => exact (by (with_reducible repeat (first | apply Kd.R_alloc | apply Kd.R_drewN | apply Kd.R_drew)); exact HO691.out))
  (case aS => exact (below_size (by repeat (first | (with_reducible first | exact HB.out | apply bA | apply pB | apply bW | refine below_set ?_ GE687.out | refine below_set ?_ GE688.out) | exact HB.out))))
  (case aL => have := LMc2.out; omega)
  intro v693 w8 ho hb hg hat
  rw [← Ny692.out] at ho
  have n0_ := aK (blk_grown (g := gb687) (o := .cells #[.int .i64 a0_0, .slice A0_1 l0_1.length c0_1] 89 (0, 0)) (by (with_reducible repeat (first | refine blk_drewN ?_ _ | refine blk_drew ?_ | refine blk_alloc ?_ _)); exact BK687.out) hg (Kd.R_ne HO691.out BK687.out (by decide)))
  have n1_ := aK (blk_grown (g := gb688) (o := .cells #[.int .i64 0, .slice none 0 0] 97 (0, 0)) (by (with_reducible repeat (first | refine blk_drewN ?_ _ | refine blk_drew ?_ | refine blk_alloc ?_ _)); exact BK688.out) hg (Kd.R_ne HO691.out BK688.out (by decide)))
  have n2_ := aK (hb)
  have n3_ := aK (ho)
  clear BK687
  clear BK688
  clear HB
  clear HO691
  have BK687 := n0_
  have BK688 := n1_
  have HB := n2_
  have HO694 := n3_
  clear n0_ n1_ n2_ n3_
  clear ho hb hg hat
  obtain ⟨Ao9, co9, eo9⟩ := Kd.R_slice HO694.out
  (first | subst eo9 | (injection eo9 with f1_ f2_ f3_; have f4_ := f1_.symm; have f5_ := f3_.symm; clear f1_ f2_ f3_; subst f4_; subst f5_))
  refine hK.out _ _ ⟨(bC BK687.out 0).trans rfl, (bC BK687.out 1).trans rfl⟩ (fun hHeld => ?_)
  clear hK K
  refine norm_ (a' := ?_) ?_ ?_
  rotate_left
  ·show Act.put _ (some 8) _ = _
   simp only [Act.put, lA, lB, lC, i64_w, i32_w]
   rfl
  refine p_ 6 9 (mk_ 8 0x7f) ?_
  refine one_ (i := 7) (N := none) #[true, true, true, true, true, true, true, true] rfl rfl (one_of HT_.out (by kernel_rfl)) (by decide) (fun K hK => ?_)
  have hs10 : w8.cell? ⟨gb688, 0, none⟩ = some (.int .i64 0) := (bC BK688.out 0).trans rfl
  have hfs10 := bF_ BK688.out 0
  have hns10_0 := NB687_688.out
  have hms10_0 := NB688_687.out
  have hs11 : w8.cell? ⟨gb688, 1, none⟩ = some (.slice none 0 0) := (bC BK688.out 1).trans rfl
  have hfs11 := bF_ BK688.out 1
  have hns11_0 := NB687_688.out
  have hms11_0 := NB688_687.out
  refine skip_ (w1 := ?_) (by rfl) rfl ?_ ?_
  rotate_left
  ·go_simp
   rfl
  refine hK.out _ _ ⟨((cell_far (p := ⟨gb688, _, none⟩) NB687_688.out _).trans (((cell_far (p := ⟨gb688, _, none⟩) NB687_688.out _).trans (hHeld.1)))), ((cell_far (p := ⟨gb688, _, none⟩) NB687_688.out _).trans (((cell_far (p := ⟨gb688, _, none⟩) NB687_688.out _).trans (hHeld.2))))⟩ (fun hHeld => ?_)
  clear hK K
  refine done_ (done_of HT_.out (by kernel_rfl)) ?_
  try go_wp2
  refine bodyPost_ret (results_cell_row rfl _ _ gb688 97 #[.int .i64 a0_0, .slice Ao9 y692.length co9] (0, 0) _ rfl (by (with_reducible repeat (first | refine blk_drewN ?_ _ | refine blk_drew ?_ | refine blk_alloc ?_ _)); refine blk_put (cs := #[.int .i64 a0_0, .slice none 0 0]) ?_ 1 _ rfl; (with_reducible repeat (first | refine blk_drewN ?_ _ | refine blk_drew ?_ | refine blk_alloc ?_ _)); refine blk_put (cs := #[.int .i64 0, .slice none 0 0]) ?_ 0 _ rfl; (with_reducible repeat (first | refine blk_drewN ?_ _ | refine blk_drew ?_ | refine blk_alloc ?_ _)); exact BK688.out) Try.underlying97 rfl (by kernel_rfl)) rfl ?_
  exact ⟨_, by first | rfl | (simp [errW_none, errW_some] <;> rfl) | (simp [*, errW_none, errW_some] <;> rfl), by (with_reducible repeat (first | apply Kd.R_alloc | apply Kd.R_drewN | apply Kd.R_drew)); exact Kd.R_mono (Kd.R_far (p := ⟨gb688, 1, none⟩) (Kd.R_far (p := ⟨gb688, 0, none⟩) (Kd.R_types HO694.out BK688.out (by decide)) (fun _ hk => hk.2) (.int .i64 a0_0)) (fun _ hk => hk.2) (.slice Ao9 y692.length co9)) (fun _ hk => trivial), by repeat (first | (with_reducible first | exact HB.out | apply bA | apply pB | apply bW | refine below_set ?_ GE687.out | refine below_set ?_ GE688.out) | exact HB.out)⟩
 ·rw [if_neg c2] at H
  exact absurd H (by simp)
theorem zq31_0 {p_ : Prop} (h_ : p_ := by repeat (first | (with_reducible first | exact HB.out | apply bA | apply pB | apply bW) | exact HB.out)) : p_ := h_
theorem zq31_1 {p_ : Prop} (h_ : p_ := by first | (with_reducible assumption) | assumption) : p_ := h_
def cenotaphlaw04_To.l0 : Nat → List (S91) → List (S100) → Int → Option ((List (S100)))
 | 0, _, _, _ => none
 | k + 1, x0, x3, x4 => if x4 < (x0.length : Int) then (if 0 ≤ x4 then ((cenotaphlaw02_To.f ((rd_T91 x0 x4).f1.f0) ((rd_T91 x0 x4).f1.f1)).bind fun bt697 => (if x3.length < 2932031007402 then (cenotaphlaw04_To.l0 k x0 (x3 ++ [(⟨(rd_T91 x0 x4).f0, (⟨bt697.1, bt697.2⟩ : S97)⟩ : S100)]) (wrap64 (x4 + 1))) else (none))) else (none)) else (some x3)
def cenotaphlaw04_To.f (k : Nat) (l0 : List (S91)) : Option ((List (S100))) := cenotaphlaw04_To.l0 k l0 ([] : List (S100)) 0
theorem cenotaphlaw04_To.mono_l : ∀ k, (∀ y0 y1 y2, LeO (cenotaphlaw04_To.l0 k y0 y1 y2) (cenotaphlaw04_To.l0 (k + 1) y0 y1 y2))
 | 0 => fun _ _ _ r h => by simp [cenotaphlaw04_To.l0] at h
 | k + 1 => by
  have ih0 := cenotaphlaw04_To.mono_l k
  ·intro y0 y1 y2
   unfold cenotaphlaw04_To.l0
   repeat' first
   | (with_reducible exact ih0 _ _ _)
   | (with_reducible exact LeO.refl _)
   | (with_reducible exact LeO.none _)
   | (with_reducible refine LeO.ite ?_ ?_)
   | (with_reducible refine LeO.bind ?_ (fun _ => ?_))
   | exact ih0 _ _ _
   | exact LeO.none _
   | refine LeO.ite ?_ ?_
   | refine LeO.bind ?_ (fun _ => ?_)
theorem cenotaphlaw04_To.mono : ∀ a0 k, LeO (cenotaphlaw04_To.f k a0) (cenotaphlaw04_To.f (k + 1) a0) := by
 intro a0 k
 have ih0 := cenotaphlaw04_To.mono_l k
 unfold cenotaphlaw04_To.f
 repeat' first
   | (with_reducible exact ih0 _ _ _)
   | (with_reducible exact LeO.refl _)
   | (with_reducible exact LeO.none _)
   | (with_reducible refine LeO.ite ?_ ?_)
   | (with_reducible refine LeO.bind ?_ (fun _ => ?_))
   | exact ih0 _ _ _
   | exact LeO.none _
   | refine LeO.ite ?_ ?_
   | refine LeO.bind ?_ (fun _ => ?_)
def cenotaphlaw04_To.T5 : Bool × List (List Nat × List Nat) := (true, [([], []), ([], []), ([], []), ([1, 2], [1, 2]), ([3], [3]), ([4], [4]), ([], []), ([], []), ([6, 7], [6, 7]), ([8], [8]), ([9], [9]), ([10], [10]), ([5, 11], [5, 11]), ([12], [12]), ([0, 13, 11], [0, 13]), ([14, 14, 0, 1, 2, 3, 4, 5, 6, 7, 8, 9, 10, 11, 12, 13, 14], [0, 14])])
def cenotaphlaw04_To.B5 : List Nat := [0, 0, 0, 6, 14, 30, 0, 0, 192, 448, 960, 1984, 4094, 8190, 16383, 32767]
theorem cenotaphlaw04_To.tab5 : rtab .any (opsOf Try.f31 5) = cenotaphlaw04_To.T5 := by kernel_rfl
theorem cenotaphlaw04_To.bits5 : waitsOk cenotaphlaw04_To.T5.2 cenotaphlaw04_To.B5 = true := by kernel_rfl
theorem cenotaphlaw04_To.calls (k : Nat) (A0 : Option Addr) (c0 : Nat) (l0 : List (S91)) (r : List (S100)) (w : World) (hr0 : Kd.C k91 w A0 l0.length l0) (hc0 : l0.length ≤ c0) (h : cenotaphlaw04_To.f k l0 = some r) :
  Calls Try.prog 31 #[.slice A0 l0.length c0] w fun e w' => ∃ v0_ : Value, e = .returned (v0_) ∧ Kd.S k100 100 w' w.heap.size (fun _ => True) v0_ r ∧ Below w.heap.size w w' := by
 have hu89 := Try.underlying89
 have hu100 := Try.underlying100
 have HR0 := aK hr0
 have HC0 := aK hc0
 clear hr0 hc0
 have HB := aK (Below.refl w.heap.size w)
 have H : (cenotaphlaw04_To.l0 k l0 ([] : List (S100)) 0) = some r := h
 clear h
 have H' := aK H
 clear H
 go_enter Try.func31, Try.ntmps31
 go_wp2
 go_loopg [3, 4] k (fun kq v3 v4 w' => ∃ (x3_1 : List (S100)) (x4_1 : Int), v4 = .int .i64 x4_1 ∧ Aside0 (cenotaphlaw04_To.l0 kq l0 x3_1 x4_1 = some r) ∧ Aside0 (kq ≤ k) ∧ Aside0 (Kd.S k100 100 w' w.heap.size (fun _ => True) v3 x3_1) ∧ Aside0 (Below w.heap.size w w'))
 case atStart => exact ⟨(([] : List (S100))), (0), (by first | rfl | (simp; done) | (simp [*]; done)), H', ⟨Nat.le_refl _⟩, ⟨by first | exact Kd.S_nil _ _ _ _ _ | exact Kd.N_nil _ _ _ _ _ | exact Kd.V_nil _ _ _ _ _ | exact Kd.Q_nil _ _ _ _ _ | exact Kd.R_nil _ _ _ _ _⟩, ⟨by repeat (first | (with_reducible first | exact HB.out | apply bA | apply pB | apply bW) | exact HB.out)⟩⟩
 case round =>
  clear H'
  obtain ⟨x3_1, x4_1, rfl, HA, HK1, HO_3, HB⟩ := hrel
  cases gk with
  | zero => exact absurd HA.out (by simp [cenotaphlaw04_To.l0])
  | succ k1 =>
   have H := HA.out
   clear HA
   simp only [cenotaphlaw04_To.l0] at H
   by_cases c2 : x4_1 < (l0.length : Int)
   ·rw [if_pos c2] at H
    have c2b0 : decide (x4_1 < (l0.length : Int)) = true := dT c2
    clear c2
    by_cases c3 : 0 ≤ x4_1
    ·rw [if_pos c3] at H
     have c3b0 : decide (0 ≤ x4_1) = true := dT c3
     clear c3
     replace H := bM H
     obtain ⟨⟨t697, t698⟩, A40, H⟩ := H
     have A4 := aK A40
     clear A40
     by_cases c5 : x3_1.length < 2932031007402
     ·rw [if_pos c5] at H
      have LMc5 := aK c5
      clear c5
      obtain ⟨y701, hy701⟩ : ∃ y_ : List (S100), y_ = (x3_1 ++ [(⟨(rd_T91 l0 x4_1).f0, (⟨t697, t698⟩ : S97)⟩ : S100)]) := ⟨_, rfl⟩
      replace H : (cenotaphlaw04_To.l0 k1 l0 y701 (wrap64 (x4_1 + 1))) = some r := by first | (rw [hy701]; with_reducible exact H) | (have H2_ := (Option.bind_some _ _).symm.trans H; rw [hy701]; with_reducible exact H2_) | (have H2_ := (Option.bind_some _ _).symm.trans H; with_reducible exact H2_) | with_reducible exact H | (rw [hy701]; exact H) | exact H
      have Ny701 := aK hy701
      clear hy701
      have H' := aK H
      clear H
      try go_wp2
      replace HO_3 := aK (Kd.S_drew HO_3.out)
      replace HB := aK (bW HB.out)
      have p695 : 0 ≤ (x4_1 : Int) := oD zq31_1
      have q695 : x4_1 < (l0.length : Int) := oD zq31_1
      obtain ⟨ad695, A695_2, c695_2, e695, hx695_0, hx695_1, hx695_2, hl695_2, hi695_2⟩ := at_T91 HR0.out x4_1 p695 q695
      have hw695_2 := hx695_2
      have hw695_1 := hx695_1
      have hw695_0 := hx695_0
      cases e695
      replace hx695_0 := pc_ HB hx695_0
      replace hx695_1 := pc_ HB hx695_1
      replace hx695_2 := pc_ HB hx695_2
      have HR695_2 := aK hi695_2
      have HC695_2 := aK hl695_2
      clear hi695_2 hl695_2
      replace p695 := eT p695
      replace q695 := eT q695
      have p696 : 0 ≤ (x4_1 : Int) := oD zq31_1
      have q696 : x4_1 < (l0.length : Int) := oD zq31_1
      obtain ⟨ad696, A696_2, c696_2, e696, hx696_0, hx696_1, hx696_2, hl696_2, hi696_2⟩ := at_T91 HR0.out x4_1 p696 q696
      have hw696_2 := hx696_2
      have hw696_1 := hx696_1
      have hw696_0 := hx696_0
      obtain rfl : ad695 = ad696 := (by injection e696)
      replace hx696_0 := pc_ HB hx696_0
      replace hx696_1 := pc_ HB hx696_1
      replace hx696_2 := pc_ HB hx696_2
      have HR696_2 := aK hi696_2
      have HC696_2 := aK hl696_2
      clear hi696_2 hl696_2
      replace p696 := eT p696
      replace q696 := eT q696
      have ea_ := sI (hx695_2.symm.trans hx696_2)
      injection ea_ with ea_ en_ ec_
      subst ea_
      subst ec_
      clear en_
      refine start_ (n := 16) (S := fun w' => w'.cell? (ad695.add ((x4_1).toNat * 3)) = some (.string ((rd_T91 l0 x4_1).f0)) ∧ w'.cell? ⟨(ad695.add ((x4_1).toNat * 3)).block, (ad695.add ((x4_1).toNat * 3)).off + 1, none⟩ = some (.int .i64 ((rd_T91 l0 x4_1).f1.f0)) ∧ w'.cell? ⟨(ad695.add ((x4_1).toNat * 3)).block, (ad695.add ((x4_1).toNat * 3)).off + 2, none⟩ = some (.slice A695_2 ((rd_T91 l0 x4_1).f1.f1).length c695_2) ∧ w'.cell? (ad695.add ((x4_1).toNat * 3)) = some (.string ((rd_T91 l0 x4_1).f0)) ∧ w'.cell? ⟨(ad695.add ((x4_1).toNat * 3)).block, (ad695.add ((x4_1).toNat * 3)).off + 1, none⟩ = some (.int .i64 ((rd_T91 l0 x4_1).f1.f0)) ∧ w'.cell? ⟨(ad695.add ((x4_1).toNat * 3)).block, (ad695.add ((x4_1).toNat * 3)).off + 2, none⟩ = some (.slice A695_2 ((rd_T91 l0 x4_1).f1.f1).length c695_2)) (ds := []) #[false, false, false, false, false, false, false, false, false, false, false, false, false, false, false, false] (by kernel_rfl) rfl rfl ⟨(pc_ HB hw695_0), (pc_ HB hw695_1), (pc_ HB hw695_2), (pc_ HB hw696_0), (pc_ HB hw696_1), (pc_ HB hw696_2)⟩ (fun hHeld => ?_); refine with_tabW cenotaphlaw04_To.tab5 cenotaphlaw04_To.bits5 (fun HT_ HW_ => ?_)
      generalize wr.drew = w6 at HO_3 HB HR695_2 HR696_2 hx695_0 hx695_1 hx695_2 hx696_0 hx696_1 hx696_2 hHeld ⊢
      refine p_ 0 11 (mk_ 16 0x1) ?_
      refine p_ 1 12 (mk_ 16 0x3) ?_
      refine p_ 2 13 (mk_ 16 0x7) ?_
      refine p_ 3 14 (mk_ 16 0xf) ?_
      refine p_ 4 15 (mk_ 16 0x1f) ?_
      refine p_ 6 17 (mk_ 16 0x5f) ?_
      refine p_ 7 18 (mk_ 16 0xdf) ?_
      refine p_ 8 19 (mk_ 16 0x1df) ?_
      refine p_ 9 20 (mk_ 16 0x3df) ?_
      refine t_ 5 16 (mk_ 16 0x3ff) hHeld ?_
      refine t_ 10 21 (mk_ 16 0x7ff) hHeld ?_
      refine one_ (i := 11) (N := some 22) #[true, true, true, true, true, true, true, true, true, true, true, true, false, false, false, false] rfl rfl (one_of HT_.out (by kernel_rfl)) (by decide) (fun K hK => ?_)
      refine goes_ Try.func57 (by kernel_rfl) rfl #[.agg #[.int .i64 ((rd_T91 l0 x4_1).f1.f0), .slice A695_2 ((rd_T91 l0 x4_1).f1.f1).length c695_2]] (by rfl) rfl rfl (by (try simp only [List.map_toArray, List.map_cons, List.map_nil]); first | done | rfl | (simp only [List.length_drop, List.length_take]; rfl)) ?_
      with_reducible refine (cenotaphlaw02_To.calls ((rd_T91 l0 x4_1).f1.f0) _ _ ((rd_T91 l0 x4_1).f1.f1) t697 t698 _ ?side1 ?side2 A4.out).mono ?_
      (case side1 => repeat (first | exact (cB HR696_2.out HB.out) | (with_reducible refine Kd.C_alloc ?_ _) | (with_reducible refine Kd.C_drewN ?_ _) | (with_reducible refine Kd.C_drew ?_)))
      (case side2 => exact HC696_2.out)
      rintro e w7 ⟨v699, rfl, ho0, hb⟩
      refine ⟨_, rfl, ?_⟩
      replace HO_3 := aK (Kd.S_elder' (by (with_reducible repeat (first | apply Kd.S_alloc | apply Kd.S_drewN | apply Kd.S_drew)); exact HO_3.out) (Kd.R_base ho0) hb)
      have HO700 := aK (Kd.R_lower ho0 (below_size zq31_0))
      replace HB := aK (bS zq31_0 hb)
      (try clear hb)
      (try clear hb2)
      (try clear hk)
      (try clear hi)
      (try clear ho0)
      obtain ⟨Ao8, co8, eo8⟩ := Kd.R_slice HO700.out
      (first | subst eo8 | (injection eo8 with f1_ f2_ f3_; have f4_ := f1_.symm; have f5_ := f3_.symm; clear f1_ f2_ f3_; subst f4_; subst f5_))
      refine hK.out _ _ ⟨(pc_ HB hw695_0), (pc_ HB hw695_1), (pc_ HB hw695_2), (pc_ HB hw696_0), (pc_ HB hw696_1), (pc_ HB hw696_2)⟩ (fun hHeld => ?_)
      clear hK K
      refine norm_ (a' := ?_) ?_ ?_
      rotate_left
      ·show Act.put _ (some 22) _ = _
       simp only [Act.put, lA, lB, lC, i64_w, i32_w]
       rfl
      refine p_ 12 23 (mk_ 16 0x1fff) ?_
      refine one_ (i := 13) (N := some 24) #[true, true, true, true, true, true, true, true, true, true, true, true, true, true, false, false] rfl rfl (one_of HT_.out (by kernel_rfl)) (by decide) (fun K hK => ?_)
      refine value_ (w1 := ?_) (v := ?_) (by rfl) rfl ?_ ?_
      rotate_left 2
      ·go_simp
       constructor
       ·rfl
       ·rfl
      refine hK.out _ _ ⟨(World.cell?_alloc_lt _ _ _ (wl_ _ _ ((pc_ HB hw695_0)))).trans ((pc_ HB hw695_0)), (World.cell?_alloc_lt _ _ _ (wl_ _ _ ((pc_ HB hw695_1)))).trans ((pc_ HB hw695_1)), (World.cell?_alloc_lt _ _ _ (wl_ _ _ ((pc_ HB hw695_2)))).trans ((pc_ HB hw695_2)), (World.cell?_alloc_lt _ _ _ (wl_ _ _ ((pc_ HB hw696_0)))).trans ((pc_ HB hw696_0)), (World.cell?_alloc_lt _ _ _ (wl_ _ _ ((pc_ HB hw696_1)))).trans ((pc_ HB hw696_1)), (World.cell?_alloc_lt _ _ _ (wl_ _ _ ((pc_ HB hw696_2)))).trans ((pc_ HB hw696_2))⟩ (fun hHeld => ?_)
      clear hK K
      refine norm_ (a' := ?_) ?_ ?_
      rotate_left
      ·show Act.put _ (some 24) _ = _
       simp only [Act.put, lA, lB, lC, i64_w, i32_w]
       rfl
      refine one_ (i := 14) (N := some 25) #[true, true, true, true, true, true, true, true, true, true, true, true, true, true, true, false] rfl rfl (one_of HT_.out (by kernel_rfl)) (by decide) (fun K hK => ?_)
      refine Kd.S_append_step k100 (w0 := w) w.heap.size (by rfl) (.tmp 11) (.tmp 24) 68 100 (.agg #[(.string ⟨#[]⟩), (.int .i64 0), (.slice none 0 0)]) 48 rfl Try.underlying68 info100 rfl (by decide) (by omega) u3 x3_1 (⟨(rd_T91 l0 x4_1).f0, (⟨t697, t698⟩ : S97)⟩ : S100) [.string ((rd_T91 l0 x4_1).f0), .int .i64 t697, .slice Ao8 t698.length co8] (fun _ => True) (fun k_ => some k_ = (.slice Ao8 t698.length co8 : Value).ownBlock) rfl rfl ?aP (fun k_ hk_ => ((Kd.R_mono (ok' := fun k_ => ((fun _ => True)) k_ ∧ some k_ ≠ (u3 : Value).ownBlock) (Kd.R_apart' (HO700.out) (Kd.S_typed HO_3.out) (by decide)) (fun k_ hk => ⟨trivial, hk.2⟩))).1 k_ hk_.symm) ?aF ?aO ?aB ?aS ?aL ?_
      (case aP => exact k100_mkM _ _ _ (⟨(rd_T91 l0 x4_1).f0, (⟨t697, t698⟩ : S97)⟩ : S100) (Kd.R_mono (Kd.R_tight rfl (Kd.R_mono (ok' := fun k_ => ((fun _ => True)) k_ ∧ some k_ ≠ (u3 : Value).ownBlock) (Kd.R_apart' (HO700.out) (Kd.S_typed HO_3.out) (by decide)) (fun k_ hk => ⟨trivial, hk.2⟩))) (fun _ h_ => h_)))
      (case aB => exact zq31_0)
      (case aF => exact (fun _ _ => trivial))
      (case aO => exact (by (with_reducible repeat (first | apply Kd.S_alloc | apply Kd.S_drewN | apply Kd.S_drew)); exact Kd.S_mono HO_3.out (fun k_ hk => ⟨trivial, fun e_ => hk.2 e_⟩)))
      (case aS => exact (below_size zq31_0))
      (case aL => have := LMc5.out; omega)
      intro v702 w9 ho hb hg hat
      rw [← Ny701.out] at ho
      replace HB := aK (hb)
      have HO703 := aK (ho)
      clear HO_3 HO700
      clear ho hb hg hat
      refine hK.out _ _ ⟨(pc_ HB hw695_0), (pc_ HB hw695_1), (pc_ HB hw695_2), (pc_ HB hw696_0), (pc_ HB hw696_1), (pc_ HB hw696_2)⟩ (fun hHeld => ?_)
      clear hK K
      refine norm_ (a' := ?_) ?_ ?_
      rotate_left
      ·show Act.put _ (some 25) _ = _
       simp only [Act.put, lA, lB, lC, i64_w, i32_w]
       rfl
      refine p_ 15 3 (mk_ 16 0xffff) ?_
      refine done_ (done_of HT_.out (by kernel_rfl)) ?_
      try go_wp2
      go_roundg k1
      case measure => have := HK1.out; omega
      case rel => exact ⟨(y701), (wrap64 (x4_1 + 1)), (by first | rfl | (simp; done) | (simp [*]; done)), H', ⟨by have := HK1.out; omega⟩, ⟨by (with_reducible repeat (first | apply Kd.S_alloc | apply Kd.S_drewN | apply Kd.S_drew)); exact HO703.out⟩, ⟨by repeat (first | (with_reducible first | exact HB.out | apply bA | apply pB | apply bW) | exact HB.out)⟩⟩
     ·rw [if_neg c5] at H
      exact absurd H (by simp)
    ·rw [if_neg c3] at H
     exact absurd H (by simp)
   ·rw [if_neg c2] at H
    have c2b0 : decide (x4_1 < (l0.length : Int)) = false := decide_eq_false c2
    clear c2
    obtain rfl := sI H
    go_wp2
    go_ret
    exact ⟨_, by first | rfl | (simp [errW_none, errW_some] <;> rfl) | (simp [*, errW_none, errW_some] <;> rfl), by (with_reducible repeat (first | apply Kd.S_alloc | apply Kd.S_drewN | apply Kd.S_drew)); exact HO_3.out, by repeat (first | (with_reducible first | exact HB.out | apply bA | apply pB | apply bW) | exact HB.out)⟩
theorem zq77_0 {p_ : Prop} (h_ : p_ := by repeat (first | (with_reducible first | exact HB.out | apply bA | apply pB | apply bW) | exact HB.out)) : p_ := h_
theorem zq77_1 {p_ : Prop} (h_ : p_ := by first | (with_reducible assumption) | assumption) : p_ := h_
def cenotaphref04_Of.l0 : Nat → List (S91) → ByteArray → Int → Option (Int × List Int)
 | 0, _, _, _ => none
 | k + 1, x0, x1, x5 => if x5 < (x0.length : Int) then (if 0 ≤ x5 then (if ((rd_T91 x0 x5).f0).toList = x1.toList then (some ((rd_T91 x0 x5).f1.f0, (rd_T91 x0 x5).f1.f1)) else (cenotaphref04_Of.l0 k x0 x1 (wrap64 (x5 + 1)))) else (none)) else (some (0, ([] : List Int)))
def cenotaphref04_Of.f (k : Nat) (l0 : List (S91)) (a1 : ByteArray) : Option (Int × List Int) := cenotaphref04_Of.l0 k l0 a1 0
theorem cenotaphref04_Of.mono_l : ∀ k, (∀ y0 y1 y2, LeO (cenotaphref04_Of.l0 k y0 y1 y2) (cenotaphref04_Of.l0 (k + 1) y0 y1 y2))
 | 0 => fun _ _ _ r h => by simp [cenotaphref04_Of.l0] at h
 | k + 1 => by
  have ih0 := cenotaphref04_Of.mono_l k
  ·intro y0 y1 y2
   unfold cenotaphref04_Of.l0
   repeat' first
   | (with_reducible exact ih0 _ _ _)
   | (with_reducible exact LeO.refl _)
   | (with_reducible exact LeO.none _)
   | (with_reducible refine LeO.ite ?_ ?_)
   | (with_reducible refine LeO.bind ?_ (fun _ => ?_))
   | exact ih0 _ _ _
   | exact LeO.none _
   | refine LeO.ite ?_ ?_
   | refine LeO.bind ?_ (fun _ => ?_)
theorem cenotaphref04_Of.mono : ∀ a0 a1 k, LeO (cenotaphref04_Of.f k a0 a1) (cenotaphref04_Of.f (k + 1) a0 a1) := by
 intro a0 a1 k
 have ih0 := cenotaphref04_Of.mono_l k
 unfold cenotaphref04_Of.f
 repeat' first
   | (with_reducible exact ih0 _ _ _)
   | (with_reducible exact LeO.refl _)
   | (with_reducible exact LeO.none _)
   | (with_reducible refine LeO.ite ?_ ?_)
   | (with_reducible refine LeO.bind ?_ (fun _ => ?_))
   | exact ih0 _ _ _
   | exact LeO.none _
   | refine LeO.ite ?_ ?_
   | refine LeO.bind ?_ (fun _ => ?_)
theorem cenotaphref04_Of.calls (k : Nat) (P0_ : Nat → Prop) (A0 : Option Addr) (c0 : Nat) (l0 : List (S91)) (a1 : ByteArray) (r1 : Int) (r2 : List Int) (w : World) (hs0 : Kd.V k91 91 w w.heap.size (fun k_ => P0_ k_) (.slice A0 l0.length c0) l0) (h : cenotaphref04_Of.f k l0 a1 = some (r1, r2)) :
  Calls Try.prog 77 #[.slice A0 l0.length c0, .string a1] w fun e w' => ∃ v1_ : Value, e = .returned (.agg #[.int .i64 r1, v1_]) ∧ Kd.V (Kd.int .i64) 3 w' w.heap.size (fun k_ => (P0_ k_ ∨ w.heap.size ≤ k_)) v1_ r2 ∧ Below w.heap.size w w' := by
 have hu89 := Try.underlying89
 have HO0 := aK (show Kd.V k91 91 w w.heap.size (fun k_ => (P0_ k_ ∨ w.heap.size ≤ k_)) (.slice A0 l0.length c0) l0 from Kd.V_mono hs0 (fun k_ hk => .inl hk))
 have HB := aK (Below.refl w.heap.size w)
 have H : (cenotaphref04_Of.l0 k l0 a1 0) = some (r1, r2) := h
 clear h
 have H' := aK H
 clear H
 go_enter Try.func77, Try.ntmps77
 go_wp2_with (first | ((with_reducible refine gate_dst (N := 4) rfl ?_); refine box_event ?hg (N := 4) ?hd (cs := #[.int .i64 0, .slice none 0 0]) (t := 89) ?hr ?_; (case hd => rfl); (case hg => rfl); (case hr => first | (go_simp; done) | (go_simp; rfl)); intro gb704 hg w3 hbox hb; replace HO0 := aK (Kd.V_below (Kd.V_elderB (by (with_reducible repeat (first | apply Kd.V_alloc | apply Kd.V_drewN | apply Kd.V_drew)); exact HO0.out) gb704 (Nat.le_of_eq hg.symm)) hb); have BK704 := aK (hbox); have GW704 := aK (((by rw [hg]; exact (below_size zq77_0)) : w.heap.size ≤ gb704)); have GE704 := aK (((by rw [hg]; exact (below_size zq77_0)) : w.heap.size ≤ gb704)); replace HB := aK (bS zq77_0 hb); clear hb hbox hg))
 go_loopg [5] k (fun kq v5 w' => ∃ (x5_1 : Int) (x705000_1 : Int), v5 = .int .i64 x5_1 ∧ Aside0 (cenotaphref04_Of.l0 kq l0 a1 x5_1 = some (r1, r2)) ∧ Aside0 (kq ≤ k) ∧ Aside0 (Kd.V k91 91 w' w.heap.size (fun k_ => (P0_ k_ ∨ w.heap.size ≤ k_) ∧ k_ ≠ gb704) (.slice A0 l0.length c0) l0) ∧ Aside0 (w'.heap[gb704]? = some (.cells #[.int .i64 x705000_1, (.slice none 0 0)] 89 (0, 0))) ∧ Aside0 (Below w.heap.size w w'))
 case atStart => exact ⟨(0), (0), (by first | rfl | (simp; done) | (simp [*]; done)), H', ⟨Nat.le_refl _⟩, ⟨by (with_reducible repeat (first | apply Kd.V_alloc | apply Kd.V_drewN | apply Kd.V_drew)); exact HO0.out⟩, ⟨by (with_reducible repeat (first | refine blk_drewN ?_ _ | refine blk_drew ?_ | refine blk_alloc ?_ _)); exact BK704.out⟩, ⟨by repeat (first | (with_reducible first | exact HB.out | apply bA | apply pB | apply bW | refine below_set ?_ GE704.out) | exact HB.out)⟩⟩
 case round =>
  clear H'
  try clear p2
  obtain ⟨x5_1, x705000_1, rfl, HA, HK1, HO_0, BK704, HB⟩ := hrel
  cases gk with
  | zero => exact absurd HA.out (by simp [cenotaphref04_Of.l0])
  | succ k1 =>
   have H := HA.out
   clear HA
   simp only [cenotaphref04_Of.l0] at H
   by_cases c4 : x5_1 < (l0.length : Int)
   ·rw [if_pos c4] at H
    have c4b0 : decide (x5_1 < (l0.length : Int)) = true := dT c4
    clear c4
    by_cases c5 : 0 ≤ x5_1
    ·rw [if_pos c5] at H
     have c5b0 : decide (0 ≤ x5_1) = true := dT c5
     clear c5
     by_cases c6 : ((rd_T91 l0 x5_1).f0).toList = a1.toList
     ·rw [if_pos c6] at H
      have c6b0 : (((rd_T91 l0 x5_1).f0).toList == a1.toList) = true := beq_iff_eq.mpr c6
      have c6b1 : (((rd_T91 l0 x5_1).f0).toList != a1.toList) = false := bne_eq_false_iff_eq.mpr c6
      clear c6
      simp only [Option.some.injEq, Prod.mk.injEq] at H
      obtain ⟨rfl, rfl⟩ := H
      have p705 : 0 ≤ (x5_1 : Int) := oD zq77_1
      have q705 : x5_1 < (l0.length : Int) := oD zq77_1
      obtain ⟨ad705, A705_2, c705_2, e705, hx705_0, hx705_1, hx705_2, hl705_2, hi705_2⟩ := at_T91 (Kd.V_reads' HO_0.out).2.2 x5_1 p705 q705
      cases e705
      obtain ⟨ce705, hce705, hMe705, hcc705⟩ := Kd.V_get HO_0.out z91 x5_1 p705 (by first | exact q705 | exact oD zq77_1 | (have e_ := (Kd.V_reads' HO_0.out).1; omega))
      obtain ⟨ua705_2, uc705_2, rfl, ul705_2, ge705_2⟩ := k91_openF hMe705
      have hv705_2 := hcc705 2 _ rfl
      rw [add_field _ _ 2 (by omega)] at hv705_2
      replace hv705_2 := sI (hv705_2.symm.trans hx705_2)
      injection hv705_2 with hva_ hvn_ hvc_
      rw [hva_] at ge705_2
      rw [hvc_] at ul705_2
      have HL705_2 := aK (show Kd.V (Kd.int .i64) 3 _ w.heap.size _ _ ((rd_T91 l0 x5_1).f1.f1) from Kd.V_mk ul705_2 ge705_2)
      clear hva_ hvn_ hvc_ ge705_2 ul705_2
      clear hcc705 hce705
      have HR705_2 := aK hi705_2
      have HC705_2 := aK hl705_2
      clear hi705_2 hl705_2
      replace p705 := eT p705
      replace q705 := eT q705
      have p706 : 0 ≤ (x5_1 : Int) := oD zq77_1
      have q706 : x5_1 < (l0.length : Int) := oD zq77_1
      obtain ⟨ad706, A706_2, c706_2, e706, hx706_0, hx706_1, hx706_2, hl706_2, hi706_2⟩ := at_T91 (Kd.V_reads' HO_0.out).2.2 x5_1 p706 q706
      obtain rfl : ad705 = ad706 := (by injection e706)
      obtain ⟨ce706, hce706, hMe706, hcc706⟩ := Kd.V_get HO_0.out z91 x5_1 p706 (by first | exact q706 | exact oD zq77_1 | (have e_ := (Kd.V_reads' HO_0.out).1; omega))
      obtain ⟨ua706_2, uc706_2, rfl, ul706_2, ge706_2⟩ := k91_openF hMe706
      have hv706_2 := hcc706 2 _ rfl
      rw [add_field _ _ 2 (by omega)] at hv706_2
      replace hv706_2 := sI (hv706_2.symm.trans hx706_2)
      injection hv706_2 with hva_ hvn_ hvc_
      rw [hva_] at ge706_2
      rw [hvc_] at ul706_2
      have HL706_2 := aK (show Kd.V (Kd.int .i64) 3 _ w.heap.size _ _ ((rd_T91 l0 x5_1).f1.f1) from Kd.V_mk ul706_2 ge706_2)
      clear hva_ hvn_ hvc_ ge706_2 ul706_2
      clear hcc706 hce706
      have HR706_2 := aK hi706_2
      have HC706_2 := aK hl706_2
      clear hi706_2 hl706_2
      replace p706 := eT p706
      replace q706 := eT q706
      have ea_ := sI (hx705_2.symm.trans hx706_2)
      injection ea_ with ea_ en_ ec_
      subst ea_
      subst ec_
      clear en_
      have hcz7_0 : wr.cell? ⟨gb704, 0, none⟩ = some (.int .i64 x705000_1) := (bC BK704.out 0).trans rfl
      have hcz7_1 : wr.cell? ⟨gb704, 1, none⟩ = some (.slice none 0 0) := (bC BK704.out 1).trans rfl
      have hfz7_0 := bF_ BK704.out 0
      have hfz7_1 := bF_ BK704.out 1
      go_wp2
      refine bodyPost_ret (results_cell_row rfl _ _ gb704 89 #[.int .i64 ((rd_T91 l0 x5_1).f1.f0), .slice A705_2 ((rd_T91 l0 x5_1).f1.f1).length c705_2] (0, 0) _ rfl (by (with_reducible repeat (first | refine blk_drewN ?_ _ | refine blk_drew ?_ | refine blk_alloc ?_ _)); refine blk_put (cs := #[.int .i64 ((rd_T91 l0 x5_1).f1.f0), .slice none 0 0]) ?_ 1 _ rfl; (with_reducible repeat (first | refine blk_drewN ?_ _ | refine blk_drew ?_ | refine blk_alloc ?_ _)); refine blk_put (cs := #[.int .i64 x705000_1, .slice none 0 0]) ?_ 0 _ rfl; (with_reducible repeat (first | refine blk_drewN ?_ _ | refine blk_drew ?_ | refine blk_alloc ?_ _)); exact BK704.out) Try.underlying89 rfl (by kernel_rfl)) rfl ?_
      exact ⟨_, by first | rfl | (simp [errW_none, errW_some] <;> rfl) | (simp [*, errW_none, errW_some] <;> rfl), by (with_reducible repeat (first | apply Kd.V_alloc | apply Kd.V_drewN | apply Kd.V_drew)); exact Kd.V_mono (Kd.V_far (p := ⟨gb704, 1, none⟩) (Kd.V_far (p := ⟨gb704, 0, none⟩) (Kd.V_mono HL706_2.out (fun k_ hk => (⟨hk, hk.2⟩ : _ ∧ k_ ≠ gb704))) (fun _ hk => hk.2) (.int .i64 ((rd_T91 l0 x5_1).f1.f0))) (fun _ hk => hk.2) (.slice A705_2 ((rd_T91 l0 x5_1).f1.f1).length c705_2)) (fun _ hk => hk.1.1), by repeat (first | (with_reducible first | exact HB.out | apply bA | apply pB | apply bW | refine below_set ?_ GE704.out) | exact HB.out)⟩
     ·rw [if_neg c6] at H
      have c6b0 : (((rd_T91 l0 x5_1).f0).toList == a1.toList) = false := beq_eq_false_iff_ne.mpr c6
      have c6b1 : (((rd_T91 l0 x5_1).f0).toList != a1.toList) = true := bne_iff_ne.mpr c6
      have H' := aK H
      clear H
      have p705 : 0 ≤ (x5_1 : Int) := oD zq77_1
      have q705 : x5_1 < (l0.length : Int) := oD zq77_1
      obtain ⟨ad705, A705_2, c705_2, e705, hx705_0, hx705_1, hx705_2, hl705_2, hi705_2⟩ := at_T91 (Kd.V_reads' HO_0.out).2.2 x5_1 p705 q705
      cases e705
      obtain ⟨ce705, hce705, hMe705, hcc705⟩ := Kd.V_get HO_0.out z91 x5_1 p705 (by first | exact q705 | exact oD zq77_1 | (have e_ := (Kd.V_reads' HO_0.out).1; omega))
      obtain ⟨ua705_2, uc705_2, rfl, ul705_2, ge705_2⟩ := k91_openF hMe705
      have hv705_2 := hcc705 2 _ rfl
      rw [add_field _ _ 2 (by omega)] at hv705_2
      replace hv705_2 := sI (hv705_2.symm.trans hx705_2)
      injection hv705_2 with hva_ hvn_ hvc_
      rw [hva_] at ge705_2
      rw [hvc_] at ul705_2
      have HL705_2 := aK (show Kd.V (Kd.int .i64) 3 _ w.heap.size _ _ ((rd_T91 l0 x5_1).f1.f1) from Kd.V_mk ul705_2 ge705_2)
      clear hva_ hvn_ hvc_ ge705_2 ul705_2
      clear hcc705 hce705
      have HR705_2 := aK hi705_2
      have HC705_2 := aK hl705_2
      clear hi705_2 hl705_2
      replace p705 := eT p705
      replace q705 := eT q705
      go_wp2
      go_roundg k1
      case measure => have := HK1.out; omega
      case rel => exact ⟨(wrap64 (x5_1 + 1)), (x705000_1), (by first | rfl | (simp; done) | (simp [*]; done)), H', ⟨by have := HK1.out; omega⟩, ⟨by (with_reducible repeat (first | apply Kd.V_alloc | apply Kd.V_drewN | apply Kd.V_drew)); exact HO_0.out⟩, ⟨by (with_reducible repeat (first | refine blk_drewN ?_ _ | refine blk_drew ?_ | refine blk_alloc ?_ _)); exact BK704.out⟩, ⟨by repeat (first | (with_reducible first | exact HB.out | apply bA | apply pB | apply bW | refine below_set ?_ GE704.out) | exact HB.out)⟩⟩
    ·rw [if_neg c5] at H
     exact absurd H (by simp)
   ·rw [if_neg c4] at H
    have c4b0 : decide (x5_1 < (l0.length : Int)) = false := decide_eq_false c4
    clear c4
    simp only [Option.some.injEq, Prod.mk.injEq] at H
    obtain ⟨rfl, rfl⟩ := H
    have hcz8_0 : wr.cell? ⟨gb704, 0, none⟩ = some (.int .i64 x705000_1) := (bC BK704.out 0).trans rfl
    have hcz8_1 : wr.cell? ⟨gb704, 1, none⟩ = some (.slice none 0 0) := (bC BK704.out 1).trans rfl
    have hfz8_0 := bF_ BK704.out 0
    have hfz8_1 := bF_ BK704.out 1
    go_wp2
    refine bodyPost_ret (results_cell_row rfl _ _ gb704 89 #[.int .i64 0, .slice none 0 0] (0, 0) _ rfl (by (with_reducible repeat (first | refine blk_drewN ?_ _ | refine blk_drew ?_ | refine blk_alloc ?_ _)); refine blk_put (cs := #[.int .i64 0, .slice none 0 0]) ?_ 1 _ rfl; (with_reducible repeat (first | refine blk_drewN ?_ _ | refine blk_drew ?_ | refine blk_alloc ?_ _)); refine blk_put (cs := #[.int .i64 x705000_1, .slice none 0 0]) ?_ 0 _ rfl; (with_reducible repeat (first | refine blk_drewN ?_ _ | refine blk_drew ?_ | refine blk_alloc ?_ _)); exact BK704.out) Try.underlying89 rfl (by kernel_rfl)) rfl ?_
    exact ⟨_, by first | rfl | (simp [errW_none, errW_some] <;> rfl) | (simp [*, errW_none, errW_some] <;> rfl), (Kd.V_nil _ _ _ _ _), by repeat (first | (with_reducible first | exact HB.out | apply bA | apply pB | apply bW | refine below_set ?_ GE704.out) | exact HB.out)⟩
def cenotaphref04_Has.f (k : Nat) (l0 : List (S91)) (a1 : ByteArray) (a2 : Int) : Option (Bool) := (cenotaphref04_Of.f k l0 a1).bind fun bt707 => ((cenotaphref02_Has.f k bt707.1 bt707.2 a2).bind fun t711 => (some t711))
theorem cenotaphref04_Has.mono : ∀ a0 a1 a2 k, LeO (cenotaphref04_Has.f k a0 a1 a2) (cenotaphref04_Has.f (k + 1) a0 a1 a2) := by
 intro a0 a1 a2 k
 unfold cenotaphref04_Has.f
 repeat' first
   | (with_reducible exact cenotaphref02_Has.mono _ _ _ _)
   | (with_reducible exact cenotaphref04_Of.mono _ _ _)
   | (with_reducible exact LeO.refl _)
   | (with_reducible exact LeO.none _)
   | (with_reducible refine LeO.ite ?_ ?_)
   | (with_reducible refine LeO.bind ?_ (fun _ => ?_))
   | exact cenotaphref02_Has.mono _ _ _ _
   | exact cenotaphref04_Of.mono _ _ _
   | exact LeO.none _
   | refine LeO.ite ?_ ?_
   | refine LeO.bind ?_ (fun _ => ?_)
theorem cenotaphref04_Has.calls (k : Nat) (A0 : Option Addr) (c0 : Nat) (l0 : List (S91)) (a1 : ByteArray) (a2 : Int) (r : Bool) (w : World) (hr0 : Kd.C k91 w A0 l0.length l0) (hc0 : l0.length ≤ c0) (h : cenotaphref04_Has.f k l0 a1 a2 = some r) :
  Calls Try.prog 58 #[.slice A0 l0.length c0, .string a1, .int .i64 a2] w fun e w' => e = .returned (.bool r) ∧ Below w.heap.size w w' := by
 have HR0 := aK hr0
 have HC0 := aK hc0
 clear hr0 hc0
 have HB := aK (Below.refl w.heap.size w)
 have H : ((cenotaphref04_Of.f k l0 a1).bind fun bt707 => ((cenotaphref02_Has.f k bt707.1 bt707.2 a2).bind fun t711 => (some t711))) = some r := h
 clear h
 replace H := bM H
 obtain ⟨⟨t707, t708⟩, A40, H⟩ := H
 have A4 := aK A40
 clear A40
 replace H := bM H
 obtain ⟨t711, A50, H⟩ := H
 have A5 := aK A50
 clear A50
 obtain rfl := sI H
 go_enter Try.func58, Try.ntmps58
 go_wp2_with (first | ((with_reducible refine gate_callee (f := 77) rfl ?_); refine goesL_ (some 9) rfl rfl Try.func77 (by kernel_rfl) rfl #[.slice A0 l0.length c0, .string a1] rfl (by (try simp only [List.map_toArray, List.map_cons, List.map_nil]); first | done | rfl | (simp only [List.length_drop, List.length_take]; rfl)) ?_; (with_reducible refine (cenotaphref04_Of.calls k (fun k_ => k_ < w.heap.size) _ _ l0 a1 t707 t708 _ ?side1 A4.out).mono ?_); (case side1 => exact Kd.V_mk HC0.out (Kd.F_below (Kd.C_F k91_heap HR0.out) (by repeat (first | (with_reducible first | exact HB.out | apply bA | apply pB | apply bW) | exact HB.out)))); rintro e w6 ⟨v709, rfl, ho0, hb⟩; refine ⟨_, rfl, ?_⟩; have HO710 := aK (Kd.V_lower (Kd.V_mono (ok' := fun k_ => True) ho0 (fun k_ hk_ => trivial)) (below_size (by repeat (first | (with_reducible first | exact HB.out | apply bA | apply pB | apply bW) | exact HB.out)))); replace HB := aK (bS (by repeat (first | (with_reducible first | exact HB.out | apply bA | apply pB | apply bW) | exact HB.out)) hb); (try clear hb); (try clear hb2); (try clear hk); (try clear hi); (try clear ho0); obtain ⟨Ao7, co7, eo7⟩ := Kd.V_slice HO710.out; subst eo7) | ((with_reducible refine gate_callee (f := 76) rfl ?_); refine goesL_ (some 11) rfl rfl Try.func76 (by kernel_rfl) rfl #[.agg #[.int .i64 t707, .slice Ao7 t708.length co7], .int .i64 a2] rfl (by (try simp only [List.map_toArray, List.map_cons, List.map_nil]); first | done | rfl | (simp only [List.length_drop, List.length_take]; rfl)) ?_; (with_reducible refine (cenotaphref02_Has.calls k t707 _ _ t708 a2 t711 _ ?side1 ?side2 A5.out).mono ?_); (case side1 => repeat (first | exact (Kd.V_reads' HO710.out).2.2 | (with_reducible refine Kd.C_alloc ?_ _) | (with_reducible refine Kd.C_drewN ?_ _) | (with_reducible refine Kd.C_drew ?_))); (case side2 => exact (Kd.V_reads' HO710.out).2.1); rintro e w8 ⟨rfl, hb⟩; refine ⟨_, rfl, ?_⟩; replace HO710 := aK (Kd.V_below (by (with_reducible repeat (first | apply Kd.V_alloc | apply Kd.V_drewN | apply Kd.V_drew)); exact HO710.out) hb); replace HB := aK (bS (by repeat (first | (with_reducible first | exact HB.out | apply bA | apply pB | apply bW) | exact HB.out)) hb); (try clear hb); (try clear hb2); (try clear hk); (try clear hi)))
 go_ret
 exact ⟨by first | rfl | (simp [errW_none, errW_some] <;> rfl) | (simp [*, errW_none, errW_some] <;> rfl), by repeat (first | (with_reducible first | exact HB.out | apply bA | apply pB | apply bW) | exact HB.out)⟩
theorem zq32_0 {p_ : Prop} (h_ : p_ := by (try simp only [List.map_toArray, List.map_cons, List.map_nil]); first | done | rfl | (simp only [List.length_drop, List.length_take]; rfl)) : p_ := h_
theorem zq32_1 {p_ : Prop} (h_ : p_ := by repeat (first | (with_reducible first | exact HB.out | apply bA | apply pB | apply bW) | exact HB.out)) : p_ := h_
theorem zq32_2 {p_ : Prop} (h_ : p_ := by (with_reducible repeat (first | apply Kd.R_alloc | apply Kd.R_drewN | apply Kd.R_drew)); exact HO_5.out) : p_ := h_
theorem zq32_3 {p_ : Prop} (h_ : p_ := by (with_reducible repeat (first | apply Kd.R_alloc | apply Kd.R_drewN | apply Kd.R_drew)); exact HO_6.out) : p_ := h_
theorem zq32_4 {p_ : Prop} (h_ : p_ := by first | (with_reducible assumption) | assumption) : p_ := h_
theorem zq32_5 {p_ : Prop} (h_ : p_ := by first | rfl | (simp; done) | (simp [*]; done)) : p_ := h_
def cenotaphref08_Unknown.l0 : Nat → List (S91) → List (S28) → List (S28) → Int → Option ((List (S28)))
 | 0, _, _, _, _ => none
 | k + 1, x1, x5, x6, x7 => if x7 < (x5.length : Int) then (if 0 ≤ x7 then ((cenotaphref04_Has.f k x1 ((rd_T28 x5 x7).f1.f0) ((rd_T28 x5 x7).f1.f1)).bind fun t717 => (if t717 = true then (cenotaphref08_Unknown.l0 k x1 x5 x6 (wrap64 (x7 + 1))) else (if x6.length < 1599289640401 then (cenotaphref08_Unknown.l0 k x1 x5 (x6 ++ [(⟨(rd_T28 x5 x7).f0, (⟨(rd_T28 x5 x7).f1.f0, (rd_T28 x5 x7).f1.f1, (rd_T28 x5 x7).f1.f2⟩ : S24), (rd_T28 x5 x7).f2, (⟨(rd_T28 x5 x7).f3.f0, (rd_T28 x5 x7).f3.f1⟩ : S26), (rd_T28 x5 x7).f4, (rd_T28 x5 x7).f5⟩ : S28)]) (wrap64 (x7 + 1))) else (none)))) else (none)) else (some x6)
def cenotaphref08_Unknown.f (k : Nat) (l0 : List (S28)) (l1 : List (S91)) : Option ((List (S28))) := (cenotaphref08_ByAge.f k l0).bind fun t712 => (cenotaphref08_Unknown.l0 k l1 t712 ([] : List (S28)) 0)
theorem cenotaphref08_Unknown.mono_l : ∀ k, (∀ y0 y1 y2 y3, LeO (cenotaphref08_Unknown.l0 k y0 y1 y2 y3) (cenotaphref08_Unknown.l0 (k + 1) y0 y1 y2 y3))
 | 0 => fun _ _ _ _ r h => by simp [cenotaphref08_Unknown.l0] at h
 | k + 1 => by
  have ih0 := cenotaphref08_Unknown.mono_l k
  ·intro y0 y1 y2 y3
   unfold cenotaphref08_Unknown.l0
   repeat' first
   | (with_reducible exact ih0 _ _ _ _)
   | (with_reducible exact cenotaphref04_Has.mono _ _ _ _)
   | (with_reducible exact cenotaphref08_ByAge.mono _ _)
   | (with_reducible exact LeO.refl _)
   | (with_reducible exact LeO.none _)
   | (with_reducible refine LeO.ite ?_ ?_)
   | (with_reducible refine LeO.bind ?_ (fun _ => ?_))
   | exact ih0 _ _ _ _
   | exact cenotaphref04_Has.mono _ _ _ _
   | exact cenotaphref08_ByAge.mono _ _
   | exact LeO.none _
   | refine LeO.ite ?_ ?_
   | refine LeO.bind ?_ (fun _ => ?_)
theorem cenotaphref08_Unknown.mono : ∀ a0 a1 k, LeO (cenotaphref08_Unknown.f k a0 a1) (cenotaphref08_Unknown.f (k + 1) a0 a1) := by
 intro a0 a1 k
 have ih0 := cenotaphref08_Unknown.mono_l k
 unfold cenotaphref08_Unknown.f
 repeat' first
   | (with_reducible exact ih0 _ _ _ _)
   | (with_reducible exact cenotaphref04_Has.mono _ _ _ _)
   | (with_reducible exact cenotaphref08_ByAge.mono _ _)
   | (with_reducible exact LeO.refl _)
   | (with_reducible exact LeO.none _)
   | (with_reducible refine LeO.ite ?_ ?_)
   | (with_reducible refine LeO.bind ?_ (fun _ => ?_))
   | exact ih0 _ _ _ _
   | exact cenotaphref04_Has.mono _ _ _ _
   | exact cenotaphref08_ByAge.mono _ _
   | exact LeO.none _
   | refine LeO.ite ?_ ?_
   | refine LeO.bind ?_ (fun _ => ?_)
def cenotaphref08_Unknown.T6 : Bool × List (List Nat × List Nat) := (true, [([], []), ([], []), ([], []), ([1, 2], [1, 2]), ([3], [3]), ([4], [4]), ([5], [5]), ([], []), ([], []), ([7, 8], [7, 8]), ([9], [9]), ([10], [10]), ([11], [11]), ([0, 6, 12], [0, 6, 12]), ([13], [13])])
def cenotaphref08_Unknown.B6 : List Nat := [0, 0, 0, 6, 14, 30, 62, 0, 0, 384, 896, 1920, 3968, 8191, 16383]
theorem cenotaphref08_Unknown.tab6 : rtab .any (opsOf Try.f32 6) = cenotaphref08_Unknown.T6 := by kernel_rfl
theorem cenotaphref08_Unknown.bits6 : waitsOk cenotaphref08_Unknown.T6.2 cenotaphref08_Unknown.B6 = true := by kernel_rfl
theorem cenotaphref08_Unknown.calls (k : Nat) (A0 : Option Addr) (c0 : Nat) (l0 : List (S28)) (A1 : Option Addr) (c1 : Nat) (l1 : List (S91)) (r : List (S28)) (w : World) (hr0 : Kd.C k28 w A0 l0.length l0) (hc0 : l0.length ≤ c0) (hr1 : Kd.C k91 w A1 l1.length l1) (hc1 : l1.length ≤ c1) (h : cenotaphref08_Unknown.f k l0 l1 = some r) :
  Calls Try.prog 32 #[.slice A0 l0.length c0, .slice A1 l1.length c1] w fun e w' => ∃ v0_ : Value, e = .returned (v0_) ∧ Kd.R k28 28 w' w.heap.size (fun _ => True) v0_ r ∧ Below w.heap.size w w' := by
 have hu28 := Try.underlying28
 have HR0 := aK hr0
 have HC0 := aK hc0
 clear hr0 hc0
 have HR1 := aK hr1
 have HC1 := aK hc1
 clear hr1 hc1
 have HB := aK (Below.refl w.heap.size w)
 have H : ((cenotaphref08_ByAge.f k l0).bind fun t712 => (cenotaphref08_Unknown.l0 k l1 t712 ([] : List (S28)) 0)) = some r := h
 clear h
 replace H := bM H
 obtain ⟨t712, A30, H⟩ := H
 have A3 := aK A30
 clear A30
 have H' := aK H
 clear H
 go_enter Try.func32, Try.ntmps32
 go_wp2_with (first | ((with_reducible refine gate_callee (f := 29) rfl ?_); refine goesL_ (some 9) rfl rfl Try.func29 (by kernel_rfl) rfl #[.slice A0 l0.length c0] rfl zq32_0 ?_; (with_reducible refine (cenotaphref08_ByAge.calls k _ _ l0 t712 _ ?side1 ?side2 A3.out).mono ?_); (case side1 => repeat (first | exact HR0.out | (with_reducible refine Kd.C_alloc ?_ _) | (with_reducible refine Kd.C_drewN ?_ _) | (with_reducible refine Kd.C_drew ?_))); (case side2 => exact HC0.out); rintro e w4 ⟨v713, rfl, ho0, hb⟩; refine ⟨_, rfl, ?_⟩; have HO714 := aK (Kd.R_lower ho0 (below_size zq32_1)); replace HB := aK (bS zq32_1 hb); (try clear hb); (try clear hb2); (try clear hk); (try clear hi); (try clear ho0)))
 go_loopg [6, 7] k (fun kq v6 v7 w' => ∃ (x6_1 : List (S28)) (x7_1 : Int), v7 = .int .i64 x7_1 ∧ Aside0 (cenotaphref08_Unknown.l0 kq l1 t712 x6_1 x7_1 = some r) ∧ Aside0 (kq ≤ k) ∧ Aside0 (Kd.R k28 28 w' w.heap.size (fun k_ => some k_ ≠ (v6 : Value).ownBlock) v713 t712) ∧ Aside0 (Kd.R k28 28 w' w.heap.size (fun k_ => some k_ ≠ (v713 : Value).ownBlock) v6 x6_1) ∧ Aside0 (Below w.heap.size w w'))
 case atStart => exact ⟨(([] : List (S28))), (0), zq32_5, H', ⟨Nat.le_refl _⟩, ⟨by (with_reducible repeat (first | apply Kd.R_alloc | apply Kd.R_drewN | apply Kd.R_drew)); exact Kd.R_mono HO714.out (fun _ hk => (by simp [Value.ownBlock]))⟩, ⟨by first | exact Kd.R_nil _ _ _ _ _ | exact Kd.N_nil _ _ _ _ _ | exact Kd.V_nil _ _ _ _ _ | exact Kd.Q_nil _ _ _ _ _ | exact Kd.S_nil _ _ _ _ _⟩, ⟨by repeat (first | (with_reducible first | exact HB.out | apply bA | apply pB | apply bW) | exact HB.out)⟩⟩
 case round =>
  clear H'
  try clear c1
  try clear c2
  try clear p2
  try clear c3
  obtain ⟨x6_1, x7_1, rfl, HA, HK1, HO_5, HO_6, HB⟩ := hrel
  cases gk with
  | zero => exact absurd HA.out (by simp [cenotaphref08_Unknown.l0])
  | succ k1 =>
   have H := HA.out
   clear HA
   simp only [cenotaphref08_Unknown.l0] at H
   by_cases c5 : x7_1 < (t712.length : Int)
   ·rw [if_pos c5] at H
    have c5b0 : decide (x7_1 < (t712.length : Int)) = true := dT c5
    clear c5
    by_cases c6 : 0 ≤ x7_1
    ·rw [if_pos c6] at H
     have c6b0 : decide (0 ≤ x7_1) = true := dT c6
     clear c6
     replace H := bM H
     obtain ⟨t717, A70, H⟩ := H
     have A7 := aK A70
     clear A70
     by_cases c8 : t717 = true
     ·subst c8
      have H1 : (cenotaphref08_Unknown.l0 k1 l1 t712 x6_1 (wrap64 (x7_1 + 1))) = some r := by rw [if_pos rfl] at H; exact H
      clear H
      have H := H1
      clear H1
      have H' := aK H
      clear H
      obtain ⟨Ao9, co9, eo9⟩ := Kd.R_slice HO_5.out
      subst eo9
      try go_wp2
      replace HO_5 := aK (Kd.R_drew HO_5.out)
      replace HO_6 := aK (Kd.R_drew HO_6.out)
      replace HB := aK (bW HB.out)
      have p715 : 0 ≤ (x7_1 : Int) := oD zq32_4
      have q715 : x7_1 < (t712.length : Int) := oD zq32_4
      obtain ⟨ad715, e715, hx715_0, hx715_1, hx715_2, hx715_3, hx715_4, hx715_5, hx715_6, hx715_7, hx715_8⟩ := at_T28 (Kd.R_reads' HO_5.out).2.2 x7_1 p715 q715
      cases e715
      replace p715 := eT p715
      replace q715 := eT q715
      have p716 : 0 ≤ (x7_1 : Int) := oD zq32_4
      have q716 : x7_1 < (t712.length : Int) := oD zq32_4
      obtain ⟨ad716, e716, hx716_0, hx716_1, hx716_2, hx716_3, hx716_4, hx716_5, hx716_6, hx716_7, hx716_8⟩ := at_T28 (Kd.R_reads' HO_5.out).2.2 x7_1 p716 q716
      obtain rfl : ad715 = ad716 := (by injection e716)
      replace p716 := eT p716
      replace q716 := eT q716
      refine start_ (n := 15) (S := fun w' => w'.cell? (ad715.add ((x7_1).toNat * 9)) = some (.int .i64 ((rd_T28 t712 x7_1).f0)) ∧ w'.cell? ⟨(ad715.add ((x7_1).toNat * 9)).block, (ad715.add ((x7_1).toNat * 9)).off + 1, none⟩ = some (.string ((rd_T28 t712 x7_1).f1.f0)) ∧ w'.cell? ⟨(ad715.add ((x7_1).toNat * 9)).block, (ad715.add ((x7_1).toNat * 9)).off + 2, none⟩ = some (.int .i64 ((rd_T28 t712 x7_1).f1.f1)) ∧ w'.cell? ⟨(ad715.add ((x7_1).toNat * 9)).block, (ad715.add ((x7_1).toNat * 9)).off + 3, none⟩ = some (.int .i64 ((rd_T28 t712 x7_1).f1.f2)) ∧ w'.cell? ⟨(ad715.add ((x7_1).toNat * 9)).block, (ad715.add ((x7_1).toNat * 9)).off + 4, none⟩ = some (.bool ((rd_T28 t712 x7_1).f2)) ∧ w'.cell? ⟨(ad715.add ((x7_1).toNat * 9)).block, (ad715.add ((x7_1).toNat * 9)).off + 5, none⟩ = some (.int .i64 ((rd_T28 t712 x7_1).f3.f0)) ∧ w'.cell? ⟨(ad715.add ((x7_1).toNat * 9)).block, (ad715.add ((x7_1).toNat * 9)).off + 6, none⟩ = some (.int .i64 ((rd_T28 t712 x7_1).f3.f1)) ∧ w'.cell? ⟨(ad715.add ((x7_1).toNat * 9)).block, (ad715.add ((x7_1).toNat * 9)).off + 7, none⟩ = some (.string ((rd_T28 t712 x7_1).f4)) ∧ w'.cell? ⟨(ad715.add ((x7_1).toNat * 9)).block, (ad715.add ((x7_1).toNat * 9)).off + 8, none⟩ = some (.bool ((rd_T28 t712 x7_1).f5)) ∧ w'.cell? (ad715.add ((x7_1).toNat * 9)) = some (.int .i64 ((rd_T28 t712 x7_1).f0)) ∧ w'.cell? ⟨(ad715.add ((x7_1).toNat * 9)).block, (ad715.add ((x7_1).toNat * 9)).off + 1, none⟩ = some (.string ((rd_T28 t712 x7_1).f1.f0)) ∧ w'.cell? ⟨(ad715.add ((x7_1).toNat * 9)).block, (ad715.add ((x7_1).toNat * 9)).off + 2, none⟩ = some (.int .i64 ((rd_T28 t712 x7_1).f1.f1)) ∧ w'.cell? ⟨(ad715.add ((x7_1).toNat * 9)).block, (ad715.add ((x7_1).toNat * 9)).off + 3, none⟩ = some (.int .i64 ((rd_T28 t712 x7_1).f1.f2)) ∧ w'.cell? ⟨(ad715.add ((x7_1).toNat * 9)).block, (ad715.add ((x7_1).toNat * 9)).off + 4, none⟩ = some (.bool ((rd_T28 t712 x7_1).f2)) ∧ w'.cell? ⟨(ad715.add ((x7_1).toNat * 9)).block, (ad715.add ((x7_1).toNat * 9)).off + 5, none⟩ = some (.int .i64 ((rd_T28 t712 x7_1).f3.f0)) ∧ w'.cell? ⟨(ad715.add ((x7_1).toNat * 9)).block, (ad715.add ((x7_1).toNat * 9)).off + 6, none⟩ = some (.int .i64 ((rd_T28 t712 x7_1).f3.f1)) ∧ w'.cell? ⟨(ad715.add ((x7_1).toNat * 9)).block, (ad715.add ((x7_1).toNat * 9)).off + 7, none⟩ = some (.string ((rd_T28 t712 x7_1).f4)) ∧ w'.cell? ⟨(ad715.add ((x7_1).toNat * 9)).block, (ad715.add ((x7_1).toNat * 9)).off + 8, none⟩ = some (.bool ((rd_T28 t712 x7_1).f5))) (ds := []) #[false, false, false, false, false, false, false, false, false, false, false, false, false, false, false] (by kernel_rfl) rfl rfl ⟨hx715_0, hx715_1, hx715_2, hx715_3, hx715_4, hx715_5, hx715_6, hx715_7, hx715_8, hx716_0, hx716_1, hx716_2, hx716_3, hx716_4, hx716_5, hx716_6, hx716_7, hx716_8⟩ (fun hHeld => ?_); refine with_tabW cenotaphref08_Unknown.tab6 cenotaphref08_Unknown.bits6 (fun HT_ HW_ => ?_)
      generalize wr.drew = w10 at HO_5 HO_6 HB hx715_0 hx715_1 hx715_2 hx715_3 hx715_4 hx715_5 hx715_6 hx715_7 hx715_8 hx716_0 hx716_1 hx716_2 hx716_3 hx716_4 hx716_5 hx716_6 hx716_7 hx716_8 hHeld ⊢
      refine p_ 0 16 (mk_ 15 0x1) ?_
      refine p_ 1 17 (mk_ 15 0x3) ?_
      refine p_ 2 18 (mk_ 15 0x7) ?_
      refine p_ 3 19 (mk_ 15 0xf) ?_
      refine p_ 4 20 (mk_ 15 0x1f) ?_
      refine p_ 5 21 (mk_ 15 0x3f) ?_
      refine p_ 7 23 (mk_ 15 0xbf) ?_
      refine p_ 8 24 (mk_ 15 0x1bf) ?_
      refine p_ 9 25 (mk_ 15 0x3bf) ?_
      refine p_ 10 26 (mk_ 15 0x7bf) ?_
      refine p_ 11 27 (mk_ 15 0xfbf) ?_
      refine t_ 6 22 (mk_ 15 0xfff) hHeld ?_
      refine t_ 12 28 (mk_ 15 0x1fff) hHeld ?_
      refine one_ (i := 13) (N := some 29) #[true, true, true, true, true, true, true, true, true, true, true, true, true, true, false] rfl rfl (one_of HT_.out (by kernel_rfl)) (by decide) (fun K hK => ?_)
      refine goes_ Try.func58 (by kernel_rfl) rfl #[.slice A1 l1.length c1, .string ((rd_T28 t712 x7_1).f1.f0), .int .i64 ((rd_T28 t712 x7_1).f1.f1)] (by rfl) rfl rfl zq32_0 ?_
      with_reducible refine (cenotaphref04_Has.calls k1 _ _ l1 ((rd_T28 t712 x7_1).f1.f0) ((rd_T28 t712 x7_1).f1.f1) true _ ?side1 ?side2 A7.out).mono ?_
      (case side1 => repeat (first | exact (cB HR1.out HB.out) | (with_reducible refine Kd.C_alloc ?_ _) | (with_reducible refine Kd.C_drewN ?_ _) | (with_reducible refine Kd.C_drew ?_)))
      (case side2 => exact HC1.out)
      rintro e w11 ⟨rfl, hb⟩
      have HS0_ := (hb.cell (wl_ _ _ (hHeld.1))).trans (hHeld.1)
      have HS1_ := (hb.cell (wl_ _ _ (hHeld.2.1))).trans (hHeld.2.1)
      have HS2_ := (hb.cell (wl_ _ _ (hHeld.2.2.1))).trans (hHeld.2.2.1)
      have HS3_ := (hb.cell (wl_ _ _ (hHeld.2.2.2.1))).trans (hHeld.2.2.2.1)
      have HS4_ := (hb.cell (wl_ _ _ (hHeld.2.2.2.2.1))).trans (hHeld.2.2.2.2.1)
      have HS5_ := (hb.cell (wl_ _ _ (hHeld.2.2.2.2.2.1))).trans (hHeld.2.2.2.2.2.1)
      have HS6_ := (hb.cell (wl_ _ _ (hHeld.2.2.2.2.2.2.1))).trans (hHeld.2.2.2.2.2.2.1)
      have HS7_ := (hb.cell (wl_ _ _ (hHeld.2.2.2.2.2.2.2.1))).trans (hHeld.2.2.2.2.2.2.2.1)
      have HS8_ := (hb.cell (wl_ _ _ (hHeld.2.2.2.2.2.2.2.2.1))).trans (hHeld.2.2.2.2.2.2.2.2.1)
      have HS9_ := (hb.cell (wl_ _ _ (hHeld.2.2.2.2.2.2.2.2.2.1))).trans (hHeld.2.2.2.2.2.2.2.2.2.1)
      have HS10_ := (hb.cell (wl_ _ _ (hHeld.2.2.2.2.2.2.2.2.2.2.1))).trans (hHeld.2.2.2.2.2.2.2.2.2.2.1)
      have HS11_ := (hb.cell (wl_ _ _ (hHeld.2.2.2.2.2.2.2.2.2.2.2.1))).trans (hHeld.2.2.2.2.2.2.2.2.2.2.2.1)
      have HS12_ := (hb.cell (wl_ _ _ (hHeld.2.2.2.2.2.2.2.2.2.2.2.2.1))).trans (hHeld.2.2.2.2.2.2.2.2.2.2.2.2.1)
      have HS13_ := (hb.cell (wl_ _ _ (hHeld.2.2.2.2.2.2.2.2.2.2.2.2.2.1))).trans (hHeld.2.2.2.2.2.2.2.2.2.2.2.2.2.1)
      have HS14_ := (hb.cell (wl_ _ _ (hHeld.2.2.2.2.2.2.2.2.2.2.2.2.2.2.1))).trans (hHeld.2.2.2.2.2.2.2.2.2.2.2.2.2.2.1)
      have HS15_ := (hb.cell (wl_ _ _ (hHeld.2.2.2.2.2.2.2.2.2.2.2.2.2.2.2.1))).trans (hHeld.2.2.2.2.2.2.2.2.2.2.2.2.2.2.2.1)
      have HS16_ := (hb.cell (wl_ _ _ (hHeld.2.2.2.2.2.2.2.2.2.2.2.2.2.2.2.2.1))).trans (hHeld.2.2.2.2.2.2.2.2.2.2.2.2.2.2.2.2.1)
      have HS17_ := (hb.cell (wl_ _ _ (hHeld.2.2.2.2.2.2.2.2.2.2.2.2.2.2.2.2.2))).trans (hHeld.2.2.2.2.2.2.2.2.2.2.2.2.2.2.2.2.2)
      refine ⟨_, rfl, ?_⟩
      replace HO_5 := aK (Kd.R_below zq32_2 hb)
      replace HO_6 := aK (Kd.R_below zq32_3 hb)
      replace HB := aK (bS zq32_1 hb)
      (try clear hb)
      (try clear hb2)
      (try clear hk)
      (try clear hi)
      refine hK.out _ _ ⟨HS0_, HS1_, HS2_, HS3_, HS4_, HS5_, HS6_, HS7_, HS8_, HS9_, HS10_, HS11_, HS12_, HS13_, HS14_, HS15_, HS16_, HS17_⟩ (fun hHeld => ?_)
      clear hK K
      refine norm_ (a' := ?_) ?_ ?_
      rotate_left
      ·show Act.put _ (some 29) _ = _
       simp only [Act.put, lA, lB, lC, i64_w, i32_w]
       rfl
      refine p_ 14 30 (mk_ 15 0x7fff) ?_
      refine done_ (done_of HT_.out (by kernel_rfl)) ?_
      try go_wp2
      go_roundg k1
      case measure => have := HK1.out; omega
      case rel => exact ⟨(x6_1), (wrap64 (x7_1 + 1)), zq32_5, H', ⟨by have := HK1.out; omega⟩, ⟨by (with_reducible repeat (first | apply Kd.R_alloc | apply Kd.R_drewN | apply Kd.R_drew)); exact HO_5.out⟩, ⟨by (with_reducible repeat (first | apply Kd.R_alloc | apply Kd.R_drewN | apply Kd.R_drew)); exact HO_6.out⟩, ⟨by repeat (first | (with_reducible first | exact HB.out | apply bA | apply pB | apply bW) | exact HB.out)⟩⟩
     ·replace c8 := Bool.eq_false_iff.mpr c8
      subst c8
      have H1 : (if x6_1.length < 1599289640401 then (cenotaphref08_Unknown.l0 k1 l1 t712 (x6_1 ++ [(⟨(rd_T28 t712 x7_1).f0, (⟨(rd_T28 t712 x7_1).f1.f0, (rd_T28 t712 x7_1).f1.f1, (rd_T28 t712 x7_1).f1.f2⟩ : S24), (rd_T28 t712 x7_1).f2, (⟨(rd_T28 t712 x7_1).f3.f0, (rd_T28 t712 x7_1).f3.f1⟩ : S26), (rd_T28 t712 x7_1).f4, (rd_T28 t712 x7_1).f5⟩ : S28)]) (wrap64 (x7_1 + 1))) else (none)) = some r := by rw [if_neg (show ¬ (false = true) by decide)] at H; exact H
      clear H
      have H := H1
      clear H1
      by_cases c12 : x6_1.length < 1599289640401
      ·rw [if_pos c12] at H
       have LMc12 := aK c12
       clear c12
       obtain ⟨y719, hy719⟩ : ∃ y_ : List (S28), y_ = (x6_1 ++ [(⟨(rd_T28 t712 x7_1).f0, (⟨(rd_T28 t712 x7_1).f1.f0, (rd_T28 t712 x7_1).f1.f1, (rd_T28 t712 x7_1).f1.f2⟩ : S24), (rd_T28 t712 x7_1).f2, (⟨(rd_T28 t712 x7_1).f3.f0, (rd_T28 t712 x7_1).f3.f1⟩ : S26), (rd_T28 t712 x7_1).f4, (rd_T28 t712 x7_1).f5⟩ : S28)]) := ⟨_, rfl⟩
       replace H : (cenotaphref08_Unknown.l0 k1 l1 t712 y719 (wrap64 (x7_1 + 1))) = some r := by first | (rw [hy719]; with_reducible exact H) | (have H2_ := (Option.bind_some _ _).symm.trans H; rw [hy719]; with_reducible exact H2_) | (have H2_ := (Option.bind_some _ _).symm.trans H; with_reducible exact H2_) | with_reducible exact H | (rw [hy719]; exact H) | exact H
       have Ny719 := aK hy719
       clear hy719
       have H' := aK H
       clear H
       obtain ⟨Ao13, co13, eo13⟩ := Kd.R_slice HO_5.out
       subst eo13
       try go_wp2
       replace HO_5 := aK (Kd.R_drew HO_5.out)
       replace HO_6 := aK (Kd.R_drew HO_6.out)
       replace HB := aK (bW HB.out)
       have p715 : 0 ≤ (x7_1 : Int) := oD zq32_4
       have q715 : x7_1 < (t712.length : Int) := oD zq32_4
       obtain ⟨ad715, e715, hx715_0, hx715_1, hx715_2, hx715_3, hx715_4, hx715_5, hx715_6, hx715_7, hx715_8⟩ := at_T28 (Kd.R_reads' HO_5.out).2.2 x7_1 p715 q715
       cases e715
       replace p715 := eT p715
       replace q715 := eT q715
       have p716 : 0 ≤ (x7_1 : Int) := oD zq32_4
       have q716 : x7_1 < (t712.length : Int) := oD zq32_4
       obtain ⟨ad716, e716, hx716_0, hx716_1, hx716_2, hx716_3, hx716_4, hx716_5, hx716_6, hx716_7, hx716_8⟩ := at_T28 (Kd.R_reads' HO_5.out).2.2 x7_1 p716 q716
       obtain rfl : ad715 = ad716 := (by injection e716)
       replace p716 := eT p716
       replace q716 := eT q716
       refine start_ (n := 15) (S := fun w' => w'.cell? (ad715.add ((x7_1).toNat * 9)) = some (.int .i64 ((rd_T28 t712 x7_1).f0)) ∧ w'.cell? ⟨(ad715.add ((x7_1).toNat * 9)).block, (ad715.add ((x7_1).toNat * 9)).off + 1, none⟩ = some (.string ((rd_T28 t712 x7_1).f1.f0)) ∧ w'.cell? ⟨(ad715.add ((x7_1).toNat * 9)).block, (ad715.add ((x7_1).toNat * 9)).off + 2, none⟩ = some (.int .i64 ((rd_T28 t712 x7_1).f1.f1)) ∧ w'.cell? ⟨(ad715.add ((x7_1).toNat * 9)).block, (ad715.add ((x7_1).toNat * 9)).off + 3, none⟩ = some (.int .i64 ((rd_T28 t712 x7_1).f1.f2)) ∧ w'.cell? ⟨(ad715.add ((x7_1).toNat * 9)).block, (ad715.add ((x7_1).toNat * 9)).off + 4, none⟩ = some (.bool ((rd_T28 t712 x7_1).f2)) ∧ w'.cell? ⟨(ad715.add ((x7_1).toNat * 9)).block, (ad715.add ((x7_1).toNat * 9)).off + 5, none⟩ = some (.int .i64 ((rd_T28 t712 x7_1).f3.f0)) ∧ w'.cell? ⟨(ad715.add ((x7_1).toNat * 9)).block, (ad715.add ((x7_1).toNat * 9)).off + 6, none⟩ = some (.int .i64 ((rd_T28 t712 x7_1).f3.f1)) ∧ w'.cell? ⟨(ad715.add ((x7_1).toNat * 9)).block, (ad715.add ((x7_1).toNat * 9)).off + 7, none⟩ = some (.string ((rd_T28 t712 x7_1).f4)) ∧ w'.cell? ⟨(ad715.add ((x7_1).toNat * 9)).block, (ad715.add ((x7_1).toNat * 9)).off + 8, none⟩ = some (.bool ((rd_T28 t712 x7_1).f5)) ∧ w'.cell? (ad715.add ((x7_1).toNat * 9)) = some (.int .i64 ((rd_T28 t712 x7_1).f0)) ∧ w'.cell? ⟨(ad715.add ((x7_1).toNat * 9)).block, (ad715.add ((x7_1).toNat * 9)).off + 1, none⟩ = some (.string ((rd_T28 t712 x7_1).f1.f0)) ∧ w'.cell? ⟨(ad715.add ((x7_1).toNat * 9)).block, (ad715.add ((x7_1).toNat * 9)).off + 2, none⟩ = some (.int .i64 ((rd_T28 t712 x7_1).f1.f1)) ∧ w'.cell? ⟨(ad715.add ((x7_1).toNat * 9)).block, (ad715.add ((x7_1).toNat * 9)).off + 3, none⟩ = some (.int .i64 ((rd_T28 t712 x7_1).f1.f2)) ∧ w'.cell? ⟨(ad715.add ((x7_1).toNat * 9)).block, (ad715.add ((x7_1).toNat * 9)).off + 4, none⟩ = some (.bool ((rd_T28 t712 x7_1).f2)) ∧ w'.cell? ⟨(ad715.add ((x7_1).toNat * 9)).block, (ad715.add ((x7_1).toNat * 9)).off + 5, none⟩ = some (.int .i64 ((rd_T28 t712 x7_1).f3.f0)) ∧ w'.cell? ⟨(ad715.add ((x7_1).toNat * 9)).block, (ad715.add ((x7_1).toNat * 9)).off + 6, none⟩ = some (.int .i64 ((rd_T28 t712 x7_1).f3.f1)) ∧ w'.cell? ⟨(ad715.add ((x7_1).toNat * 9)).block, (ad715.add ((x7_1).toNat * 9)).off + 7, none⟩ = some (.string ((rd_T28 t712 x7_1).f4)) ∧ w'.cell? ⟨(ad715.add ((x7_1).toNat * 9)).block, (ad715.add ((x7_1).toNat * 9)).off + 8, none⟩ = some (.bool ((rd_T28 t712 x7_1).f5))) (ds := []) #[false, false, false, false, false, false, false, false, false, false, false, false, false, false, false] (by kernel_rfl) rfl rfl ⟨hx715_0, hx715_1, hx715_2, hx715_3, hx715_4, hx715_5, hx715_6, hx715_7, hx715_8, hx716_0, hx716_1, hx716_2, hx716_3, hx716_4, hx716_5, hx716_6, hx716_7, hx716_8⟩ (fun hHeld => ?_); refine with_tabW cenotaphref08_Unknown.tab6 cenotaphref08_Unknown.bits6 (fun HT_ HW_ => ?_)
       generalize wr.drew = w14 at HO_5 HO_6 HB hx715_0 hx715_1 hx715_2 hx715_3 hx715_4 hx715_5 hx715_6 hx715_7 hx715_8 hx716_0 hx716_1 hx716_2 hx716_3 hx716_4 hx716_5 hx716_6 hx716_7 hx716_8 hHeld ⊢
       refine p_ 0 16 (mk_ 15 0x1) ?_
       refine p_ 1 17 (mk_ 15 0x3) ?_
       refine p_ 2 18 (mk_ 15 0x7) ?_
       refine p_ 3 19 (mk_ 15 0xf) ?_
       refine p_ 4 20 (mk_ 15 0x1f) ?_
       refine p_ 5 21 (mk_ 15 0x3f) ?_
       refine p_ 7 23 (mk_ 15 0xbf) ?_
       refine p_ 8 24 (mk_ 15 0x1bf) ?_
       refine p_ 9 25 (mk_ 15 0x3bf) ?_
       refine p_ 10 26 (mk_ 15 0x7bf) ?_
       refine p_ 11 27 (mk_ 15 0xfbf) ?_
       refine t_ 6 22 (mk_ 15 0xfff) hHeld ?_
       refine t_ 12 28 (mk_ 15 0x1fff) hHeld ?_
       refine one_ (i := 13) (N := some 29) #[true, true, true, true, true, true, true, true, true, true, true, true, true, true, false] rfl rfl (one_of HT_.out (by kernel_rfl)) (by decide) (fun K hK => ?_)
       refine goes_ Try.func58 (by kernel_rfl) rfl #[.slice A1 l1.length c1, .string ((rd_T28 t712 x7_1).f1.f0), .int .i64 ((rd_T28 t712 x7_1).f1.f1)] (by rfl) rfl rfl zq32_0 ?_
       with_reducible refine (cenotaphref04_Has.calls k1 _ _ l1 ((rd_T28 t712 x7_1).f1.f0) ((rd_T28 t712 x7_1).f1.f1) false _ ?side1 ?side2 A7.out).mono ?_
       (case side1 => repeat (first | exact (cB HR1.out HB.out) | (with_reducible refine Kd.C_alloc ?_ _) | (with_reducible refine Kd.C_drewN ?_ _) | (with_reducible refine Kd.C_drew ?_)))
       (case side2 => exact HC1.out)
       rintro e w15 ⟨rfl, hb⟩
       have HS0_ := (hb.cell (wl_ _ _ (hHeld.1))).trans (hHeld.1)
       have HS1_ := (hb.cell (wl_ _ _ (hHeld.2.1))).trans (hHeld.2.1)
       have HS2_ := (hb.cell (wl_ _ _ (hHeld.2.2.1))).trans (hHeld.2.2.1)
       have HS3_ := (hb.cell (wl_ _ _ (hHeld.2.2.2.1))).trans (hHeld.2.2.2.1)
       have HS4_ := (hb.cell (wl_ _ _ (hHeld.2.2.2.2.1))).trans (hHeld.2.2.2.2.1)
       have HS5_ := (hb.cell (wl_ _ _ (hHeld.2.2.2.2.2.1))).trans (hHeld.2.2.2.2.2.1)
       have HS6_ := (hb.cell (wl_ _ _ (hHeld.2.2.2.2.2.2.1))).trans (hHeld.2.2.2.2.2.2.1)
       have HS7_ := (hb.cell (wl_ _ _ (hHeld.2.2.2.2.2.2.2.1))).trans (hHeld.2.2.2.2.2.2.2.1)
       have HS8_ := (hb.cell (wl_ _ _ (hHeld.2.2.2.2.2.2.2.2.1))).trans (hHeld.2.2.2.2.2.2.2.2.1)
       have HS9_ := (hb.cell (wl_ _ _ (hHeld.2.2.2.2.2.2.2.2.2.1))).trans (hHeld.2.2.2.2.2.2.2.2.2.1)
       have HS10_ := (hb.cell (wl_ _ _ (hHeld.2.2.2.2.2.2.2.2.2.2.1))).trans (hHeld.2.2.2.2.2.2.2.2.2.2.1)
       have HS11_ := (hb.cell (wl_ _ _ (hHeld.2.2.2.2.2.2.2.2.2.2.2.1))).trans (hHeld.2.2.2.2.2.2.2.2.2.2.2.1)
       have HS12_ := (hb.cell (wl_ _ _ (hHeld.2.2.2.2.2.2.2.2.2.2.2.2.1))).trans (hHeld.2.2.2.2.2.2.2.2.2.2.2.2.1)
       have HS13_ := (hb.cell (wl_ _ _ (hHeld.2.2.2.2.2.2.2.2.2.2.2.2.2.1))).trans (hHeld.2.2.2.2.2.2.2.2.2.2.2.2.2.1)
       have HS14_ := (hb.cell (wl_ _ _ (hHeld.2.2.2.2.2.2.2.2.2.2.2.2.2.2.1))).trans (hHeld.2.2.2.2.2.2.2.2.2.2.2.2.2.2.1)
       have HS15_ := (hb.cell (wl_ _ _ (hHeld.2.2.2.2.2.2.2.2.2.2.2.2.2.2.2.1))).trans (hHeld.2.2.2.2.2.2.2.2.2.2.2.2.2.2.2.1)
       have HS16_ := (hb.cell (wl_ _ _ (hHeld.2.2.2.2.2.2.2.2.2.2.2.2.2.2.2.2.1))).trans (hHeld.2.2.2.2.2.2.2.2.2.2.2.2.2.2.2.2.1)
       have HS17_ := (hb.cell (wl_ _ _ (hHeld.2.2.2.2.2.2.2.2.2.2.2.2.2.2.2.2.2))).trans (hHeld.2.2.2.2.2.2.2.2.2.2.2.2.2.2.2.2.2)
       refine ⟨_, rfl, ?_⟩
       replace HO_5 := aK (Kd.R_below zq32_2 hb)
       replace HO_6 := aK (Kd.R_below zq32_3 hb)
       replace HB := aK (bS zq32_1 hb)
       (try clear hb)
       (try clear hb2)
       (try clear hk)
       (try clear hi)
       refine hK.out _ _ ⟨HS0_, HS1_, HS2_, HS3_, HS4_, HS5_, HS6_, HS7_, HS8_, HS9_, HS10_, HS11_, HS12_, HS13_, HS14_, HS15_, HS16_, HS17_⟩ (fun hHeld => ?_)
       clear hK K
       refine norm_ (a' := ?_) ?_ ?_
       rotate_left
       ·show Act.put _ (some 29) _ = _
        simp only [Act.put, lA, lB, lC, i64_w, i32_w]
        rfl
       refine p_ 14 30 (mk_ 15 0x7fff) ?_
       refine done_ (done_of HT_.out (by kernel_rfl)) ?_
       have p718 : 0 ≤ (x7_1 : Int) := oD zq32_4
       have q718 : x7_1 < (t712.length : Int) := oD zq32_4
       obtain ⟨ad718, e718, hx718_0, hx718_1, hx718_2, hx718_3, hx718_4, hx718_5, hx718_6, hx718_7, hx718_8⟩ := at_T28 (Kd.R_reads' HO_5.out).2.2 x7_1 p718 q718
       obtain rfl : ad715 = ad718 := (by injection e718)
       replace p718 := eT p718
       replace q718 := eT q718
       try go_wp2_with (first | ((with_reducible refine gate_builtin (b := .append) (xs := #[.tmp 31, .tmp 36]) rfl ?_); at_builtin; refine Kd.R_append k28 (w0 := w) w.heap.size rfl (.tmp 31) (.tmp 36) 22 28 (.agg #[(.int .i64 0), (.string ⟨#[]⟩), (.int .i64 0), (.int .i64 0), (.bool false), (.int .i64 0), (.int .i64 0), (.string ⟨#[]⟩), (.bool false)]) 88 rfl Try.underlying22 info28 rfl (by decide) (by omega) u6 x6_1 (⟨(rd_T28 t712 x7_1).f0, (⟨(rd_T28 t712 x7_1).f1.f0, (rd_T28 t712 x7_1).f1.f1, (rd_T28 t712 x7_1).f1.f2⟩ : S24), (rd_T28 t712 x7_1).f2, (⟨(rd_T28 t712 x7_1).f3.f0, (rd_T28 t712 x7_1).f3.f1⟩ : S26), (rd_T28 t712 x7_1).f4, (rd_T28 t712 x7_1).f5⟩ : S28) [.int .i64 ((rd_T28 t712 x7_1).f0), .string ((rd_T28 t712 x7_1).f1.f0), .int .i64 ((rd_T28 t712 x7_1).f1.f1), .int .i64 ((rd_T28 t712 x7_1).f1.f2), .bool ((rd_T28 t712 x7_1).f2), .int .i64 ((rd_T28 t712 x7_1).f3.f0), .int .i64 ((rd_T28 t712 x7_1).f3.f1), .string ((rd_T28 t712 x7_1).f4), .bool ((rd_T28 t712 x7_1).f5)] (fun k_ => some k_ ≠ (.slice (some ad715) t712.length co13 : Value).ownBlock) (fun _ => False) rfl rfl ?aP (fun _ hk => hk.elim) ?aF ?aO ?aB ?aS ?aL ?_; (case aP => exact k28_mkM _ _ _ (⟨(rd_T28 t712 x7_1).f0, (⟨(rd_T28 t712 x7_1).f1.f0, (rd_T28 t712 x7_1).f1.f1, (rd_T28 t712 x7_1).f1.f2⟩ : S24), (rd_T28 t712 x7_1).f2, (⟨(rd_T28 t712 x7_1).f3.f0, (rd_T28 t712 x7_1).f3.f1⟩ : S26), (rd_T28 t712 x7_1).f4, (rd_T28 t712 x7_1).f5⟩ : S28)); (case aB => exact zq32_1); (case aF => exact (fun k_ hk => Kd.fresh' (Kd.R_lt zq32_2) k_ hk)); (case aO => exact zq32_3); (case aS => exact (below_size zq32_1)); (case aL => have := LMc12.out; omega); intro v720 w16 ho hb hg hat; rw [← Ny719.out] at ho; replace HO_5 := aK (Kd.R_after (ok := (fun _ => True)) (by (with_reducible repeat (first | apply Kd.R_alloc | apply Kd.R_drewN | apply Kd.R_drew)); exact Kd.R_mono HO_5.out (fun _ hk => ⟨trivial, hk⟩)) hg hat); replace HB := aK (hb); have HO721 := aK (ho); clear HO_6; clear ho hb hg hat))
       go_roundg k1
       case measure => have := HK1.out; omega
       case rel => exact ⟨(y719), (wrap64 (x7_1 + 1)), zq32_5, H', ⟨by have := HK1.out; omega⟩, ⟨by (with_reducible repeat (first | apply Kd.R_alloc | apply Kd.R_drewN | apply Kd.R_drew)); exact Kd.R_mono HO_5.out (fun _ hk => hk.2)⟩, ⟨by (with_reducible repeat (first | apply Kd.R_alloc | apply Kd.R_drewN | apply Kd.R_drew)); exact HO721.out⟩, ⟨by repeat (first | (with_reducible first | exact HB.out | apply bA | apply pB | apply bW) | exact HB.out)⟩⟩
      ·rw [if_neg c12] at H
       exact absurd H (by simp)
    ·rw [if_neg c6] at H
     exact absurd H (by simp)
   ·rw [if_neg c5] at H
    have c5b0 : decide (x7_1 < (t712.length : Int)) = false := decide_eq_false c5
    clear c5
    obtain rfl := sI H
    obtain ⟨Ao17, co17, eo17⟩ := Kd.R_slice HO_5.out
    subst eo17
    go_wp2
    go_ret
    exact ⟨_, by first | rfl | (simp [errW_none, errW_some] <;> rfl) | (simp [*, errW_none, errW_some] <;> rfl), by (with_reducible repeat (first | apply Kd.R_alloc | apply Kd.R_drewN | apply Kd.R_drew)); exact Kd.R_mono HO_6.out (fun _ hk => trivial), by repeat (first | (with_reducible first | exact HB.out | apply bA | apply pB | apply bW) | exact HB.out)⟩
def cenotaphlaw08_StoreAges.f (k : Nat) (l0 : List (S28)) (l1 : List (S91)) : Option (Bool) := (cenotaphref08_Fix.f k l0).bind fun t722 => ((cenotaphref04_Fix.f k l1).bind fun t725 => ((cenotaphlaw08_told.f k).bind fun t728 => (if t728 = true then ((cenotaphlaw08_To.f k t722).bind fun t729 => ((store_ByAge.f t729).bind fun t732 => ((cenotaphlaw08_From.f k t732).bind fun t735 => ((cenotaphref08_ByAge.f k t722).bind fun t738 => ((cenotaphref08_Same.f k t735 t738).bind fun t741 => (if t741 = true then ((cenotaphlaw08_To.f k t722).bind fun t742 => ((cenotaphlaw04_To.f k t725).bind fun t745 => ((store_Unknown.f k t742 t745).bind fun t748 => ((cenotaphlaw08_From.f k t748).bind fun t751 => ((cenotaphref08_Unknown.f k t722 t725).bind fun t754 => ((cenotaphref08_Same.f k t751 t754).bind fun t757 => (some t757))))))) else (none))))))) else (none))))
theorem cenotaphlaw08_StoreAges.mono : ∀ a0 a1 k, LeO (cenotaphlaw08_StoreAges.f k a0 a1) (cenotaphlaw08_StoreAges.f (k + 1) a0 a1) := by
 intro a0 a1 k
 unfold cenotaphlaw08_StoreAges.f
 repeat' first
   | (with_reducible exact cenotaphlaw04_To.mono _ _)
   | (with_reducible exact cenotaphlaw08_From.mono _ _)
   | (with_reducible exact cenotaphlaw08_To.mono _ _)
   | (with_reducible exact cenotaphlaw08_told.mono _)
   | (with_reducible exact cenotaphref04_Fix.mono _ _)
   | (with_reducible exact cenotaphref08_ByAge.mono _ _)
   | (with_reducible exact cenotaphref08_Fix.mono _ _)
   | (with_reducible exact cenotaphref08_Same.mono _ _ _)
   | (with_reducible exact cenotaphref08_Unknown.mono _ _ _)
   | (with_reducible exact store_Unknown.mono _ _ _)
   | (with_reducible exact LeO.refl _)
   | (with_reducible exact LeO.none _)
   | (with_reducible refine LeO.ite ?_ ?_)
   | (with_reducible refine LeO.bind ?_ (fun _ => ?_))
   | exact cenotaphlaw04_To.mono _ _
   | exact cenotaphlaw08_From.mono _ _
   | exact cenotaphlaw08_To.mono _ _
   | exact cenotaphlaw08_told.mono _
   | exact cenotaphref04_Fix.mono _ _
   | exact cenotaphref08_ByAge.mono _ _
   | exact cenotaphref08_Fix.mono _ _
   | exact cenotaphref08_Same.mono _ _ _
   | exact cenotaphref08_Unknown.mono _ _ _
   | exact store_Unknown.mono _ _ _
   | exact LeO.none _
   | refine LeO.ite ?_ ?_
   | refine LeO.bind ?_ (fun _ => ?_)
theorem cenotaphlaw08_StoreAges.calls (k : Nat) (A0 : Option Addr) (c0 : Nat) (l0 : List (S28)) (A1 : Option Addr) (c1 : Nat) (l1 : List (S91)) (r : Bool) (w : World) (hr0 : Kd.C k28 w A0 l0.length l0) (hc0 : l0.length ≤ c0) (hr1 : Kd.C k91 w A1 l1.length l1) (hc1 : l1.length ≤ c1) (h : cenotaphlaw08_StoreAges.f k l0 l1 = some r) :
  Calls Try.prog 7 #[.slice A0 l0.length c0, .slice A1 l1.length c1] w fun e w' => e = .returned (.bool r) ∧ Below w.heap.size w w' := by
 have HR0 := aK hr0
 have HC0 := aK hc0
 clear hr0 hc0
 have HR1 := aK hr1
 have HC1 := aK hc1
 clear hr1 hc1
 have HB := aK (Below.refl w.heap.size w)
 have H := h
 unfold cenotaphlaw08_StoreAges.f at H
 clear h
 replace H := bM H
 obtain ⟨t722, A30, H⟩ := H
 have A3 := aK A30
 clear A30
 replace H := bM H
 obtain ⟨t725, A40, H⟩ := H
 have A4 := aK A40
 clear A40
 replace H := bM H
 obtain ⟨t728, A50, H⟩ := H
 have A5 := aK A50
 clear A50
 by_cases c6 : t728 = true
 ·subst c6
  have H1 : ((cenotaphlaw08_To.f k t722).bind fun t729 => ((store_ByAge.f t729).bind fun t732 => ((cenotaphlaw08_From.f k t732).bind fun t735 => ((cenotaphref08_ByAge.f k t722).bind fun t738 => ((cenotaphref08_Same.f k t735 t738).bind fun t741 => (if t741 = true then ((cenotaphlaw08_To.f k t722).bind fun t742 => ((cenotaphlaw04_To.f k t725).bind fun t745 => ((store_Unknown.f k t742 t745).bind fun t748 => ((cenotaphlaw08_From.f k t748).bind fun t751 => ((cenotaphref08_Unknown.f k t722 t725).bind fun t754 => ((cenotaphref08_Same.f k t751 t754).bind fun t757 => (some t757))))))) else (none))))))) = some r := by rw [if_pos rfl] at H; exact H
  clear H
  have H := H1
  clear H1
  replace H := bM H
  obtain ⟨t729, A70, H⟩ := H
  have A7 := aK A70
  clear A70
  replace H := bM H
  obtain ⟨t732, A80, H⟩ := H
  have A8 := aK A80
  clear A80
  replace H := bM H
  obtain ⟨t735, A90, H⟩ := H
  have A9 := aK A90
  clear A90
  replace H := bM H
  obtain ⟨t738, A100, H⟩ := H
  have A10 := aK A100
  clear A100
  replace H := bM H
  obtain ⟨t741, A110, H⟩ := H
  have A11 := aK A110
  clear A110
  by_cases c12 : t741 = true
  ·subst c12
   have H1 : ((cenotaphlaw08_To.f k t722).bind fun t742 => ((cenotaphlaw04_To.f k t725).bind fun t745 => ((store_Unknown.f k t742 t745).bind fun t748 => ((cenotaphlaw08_From.f k t748).bind fun t751 => ((cenotaphref08_Unknown.f k t722 t725).bind fun t754 => ((cenotaphref08_Same.f k t751 t754).bind fun t757 => (some t757))))))) = some r := by rw [if_pos rfl] at H; exact H
   clear H
   have H := H1
   clear H1
   replace H := bM H
   obtain ⟨t742, A130, H⟩ := H
   have A13 := aK A130
   clear A130
   replace H := bM H
   obtain ⟨t745, A140, H⟩ := H
   have A14 := aK A140
   clear A140
   replace H := bM H
   obtain ⟨t748, A150, H⟩ := H
   have A15 := aK A150
   clear A150
   replace H := bM H
   obtain ⟨t751, A160, H⟩ := H
   have A16 := aK A160
   clear A160
   replace H := bM H
   obtain ⟨t754, A170, H⟩ := H
   have A17 := aK A170
   clear A170
   replace H := bM H
   obtain ⟨t757, A180, H⟩ := H
   have A18 := aK A180
   clear A180
   obtain rfl := sI H
   go_enter Try.func7, Try.ntmps7
   have Hl0 := aK (And.intro HC0.out HR0.out)
   have Hl1 := aK (And.intro HC1.out HR1.out)
   go_wp2_with fail
   refine (cenotaphref08_Fix.calls k A0 c0 l0 t722 _ Hl0.out.2 Hl0.out.1 A3.out).mono ?_
   rintro e_ w1_ ⟨v_, rfl, ho_, hq_⟩
   replace Hl0 := aK (And.intro Hl0.out.1 (cB Hl0.out.2 hq_))
   replace Hl1 := aK (And.intro Hl1.out.1 (cB Hl1.out.2 hq_))
   replace HB := aK (bS HB.out hq_)
   replace ho_ : Kd.V k28 28 w1_ 0 (fun _ => True) v_ t722 := Kd.V_mono (Kd.R_V ho_) (fun _ _ => trivial)
   obtain ⟨A_t722, c_t722, rfl⟩ := Kd.V_slice ho_
   have Ht722 := aK ho_
   clear ho_
   clear hq_
   clear Hl0
   go_wp2_with fail
   refine (cenotaphref04_Fix.calls k A1 c1 l1 t725 _ Hl1.out.2 Hl1.out.1 A4.out).mono ?_
   rintro e_ w2_ ⟨v_, rfl, ho_, hq_⟩
   replace Hl1 := aK (And.intro Hl1.out.1 (cB Hl1.out.2 hq_))
   replace Ht722 := aK (Kd.V_below Ht722.out hq_)
   replace HB := aK (bS HB.out hq_)
   replace ho_ : Kd.V k91 91 w2_ 0 (fun _ => True) v_ t725 := Kd.V_mono ho_ (fun _ _ => trivial)
   obtain ⟨A_t725, c_t725, rfl⟩ := Kd.V_slice ho_
   have Ht725 := aK ho_
   clear ho_
   clear hq_
   clear Hl1
   go_wp2_with fail
   refine (cenotaphlaw08_told.calls k  true _  A5.out).mono ?_
   rintro e_ w3_ ⟨rfl, hq_⟩
   replace Ht722 := aK (Kd.V_below Ht722.out hq_)
   replace Ht725 := aK (Kd.V_below Ht725.out hq_)
   replace HB := aK (bS HB.out hq_)
   clear hq_
   go_wp2_with fail
   refine (cenotaphlaw08_To.calls k A_t722 c_t722 t722 t729 _ (Kd.V_reads' Ht722.out).2.2 (Kd.V_reads' Ht722.out).2.1 A7.out).mono ?_
   rintro e_ w4_ ⟨v_, rfl, ho_, hq_⟩
   replace Ht722 := aK (Kd.V_below Ht722.out hq_)
   replace Ht725 := aK (Kd.V_below Ht725.out hq_)
   replace HB := aK (bS HB.out hq_)
   replace ho_ : Kd.V k41 41 w4_ 0 (fun _ => True) v_ t729 := Kd.V_mono (Kd.R_V ho_) (fun _ _ => trivial)
   obtain ⟨A_t729, c_t729, rfl⟩ := Kd.V_slice ho_
   have Ht729 := aK ho_
   clear ho_
   clear hq_
   go_wp2_with fail
   refine (store_ByAge.calls A_t729 c_t729 t729 t732 _ (Kd.V_reads' Ht729.out).2.2 (Kd.V_reads' Ht729.out).2.1 A8.out).mono ?_
   rintro e_ w5_ ⟨v_, rfl, ho_, hq_⟩
   replace Ht722 := aK (Kd.V_below Ht722.out hq_)
   replace Ht725 := aK (Kd.V_below Ht725.out hq_)
   replace Ht729 := aK (Kd.V_below Ht729.out hq_)
   replace HB := aK (bS HB.out hq_)
   replace ho_ : Kd.V k41 41 w5_ 0 (fun _ => True) v_ t732 := Kd.V_mono (Kd.R_V ho_) (fun _ _ => trivial)
   obtain ⟨A_t732, c_t732, rfl⟩ := Kd.V_slice ho_
   have Ht732 := aK ho_
   clear ho_
   clear hq_
   clear Ht729
   go_wp2_with fail
   refine (cenotaphlaw08_From.calls k A_t732 c_t732 t732 t735 _ (Kd.V_reads' Ht732.out).2.2 (Kd.V_reads' Ht732.out).2.1 A9.out).mono ?_
   rintro e_ w6_ ⟨v_, rfl, ho_, hq_⟩
   replace Ht722 := aK (Kd.V_below Ht722.out hq_)
   replace Ht725 := aK (Kd.V_below Ht725.out hq_)
   replace Ht732 := aK (Kd.V_below Ht732.out hq_)
   replace HB := aK (bS HB.out hq_)
   replace ho_ : Kd.V k28 28 w6_ 0 (fun _ => True) v_ t735 := Kd.V_mono (Kd.R_V ho_) (fun _ _ => trivial)
   obtain ⟨A_t735, c_t735, rfl⟩ := Kd.V_slice ho_
   have Ht735 := aK ho_
   clear ho_
   clear hq_
   clear Ht732
   go_wp2_with fail
   refine (cenotaphref08_ByAge.calls k A_t722 c_t722 t722 t738 _ (Kd.V_reads' Ht722.out).2.2 (Kd.V_reads' Ht722.out).2.1 A10.out).mono ?_
   rintro e_ w7_ ⟨v_, rfl, ho_, hq_⟩
   replace Ht722 := aK (Kd.V_below Ht722.out hq_)
   replace Ht725 := aK (Kd.V_below Ht725.out hq_)
   replace Ht735 := aK (Kd.V_below Ht735.out hq_)
   replace HB := aK (bS HB.out hq_)
   replace ho_ : Kd.V k28 28 w7_ 0 (fun _ => True) v_ t738 := Kd.V_mono (Kd.R_V ho_) (fun _ _ => trivial)
   obtain ⟨A_t738, c_t738, rfl⟩ := Kd.V_slice ho_
   have Ht738 := aK ho_
   clear ho_
   clear hq_
   go_wp2_with fail
   refine (cenotaphref08_Same.calls k A_t735 c_t735 t735 A_t738 c_t738 t738 true _ (Kd.V_reads' Ht735.out).2.2 (Kd.V_reads' Ht735.out).2.1 (Kd.V_reads' Ht738.out).2.2 (Kd.V_reads' Ht738.out).2.1 A11.out).mono ?_
   rintro e_ w8_ ⟨rfl, hq_⟩
   replace hq_ := hq_.below
   replace Ht722 := aK (Kd.V_below Ht722.out hq_)
   replace Ht725 := aK (Kd.V_below Ht725.out hq_)
   replace Ht735 := aK (Kd.V_below Ht735.out hq_)
   replace Ht738 := aK (Kd.V_below Ht738.out hq_)
   replace HB := aK (bS HB.out hq_)
   clear hq_
   clear Ht735
   clear Ht738
   go_wp2_with fail
   refine (cenotaphlaw08_To.calls k A_t722 c_t722 t722 t742 _ (Kd.V_reads' Ht722.out).2.2 (Kd.V_reads' Ht722.out).2.1 A13.out).mono ?_
   rintro e_ w9_ ⟨v_, rfl, ho_, hq_⟩
   replace Ht722 := aK (Kd.V_below Ht722.out hq_)
   replace Ht725 := aK (Kd.V_below Ht725.out hq_)
   replace HB := aK (bS HB.out hq_)
   replace ho_ : Kd.V k41 41 w9_ 0 (fun _ => True) v_ t742 := Kd.V_mono (Kd.R_V ho_) (fun _ _ => trivial)
   obtain ⟨A_t742, c_t742, rfl⟩ := Kd.V_slice ho_
   have Ht742 := aK ho_
   clear ho_
   clear hq_
   go_wp2_with fail
   refine (cenotaphlaw04_To.calls k A_t725 c_t725 t725 t745 _ (Kd.V_reads' Ht725.out).2.2 (Kd.V_reads' Ht725.out).2.1 A14.out).mono ?_
   rintro e_ w10_ ⟨v_, rfl, ho_, hq_⟩
   replace Ht722 := aK (Kd.V_below Ht722.out hq_)
   replace Ht725 := aK (Kd.V_below Ht725.out hq_)
   replace Ht742 := aK (Kd.V_below Ht742.out hq_)
   replace HB := aK (bS HB.out hq_)
   replace ho_ : Kd.V k100 100 w10_ 0 (fun _ => True) v_ t745 := Kd.V_mono (Kd.S_V ho_) (fun _ _ => trivial)
   obtain ⟨A_t745, c_t745, rfl⟩ := Kd.V_slice ho_
   have Ht745 := aK ho_
   clear ho_
   clear hq_
   go_wp2_with fail
   refine (store_Unknown.calls k A_t742 c_t742 t742 A_t745 c_t745 t745 t748 _ (Kd.V_reads' Ht742.out).2.2 (Kd.V_reads' Ht742.out).2.1 (Kd.V_reads' Ht745.out).2.2 (Kd.V_reads' Ht745.out).2.1 A15.out).mono ?_
   rintro e_ w11_ ⟨v_, rfl, ho_, hq_⟩
   replace Ht722 := aK (Kd.V_below Ht722.out hq_)
   replace Ht725 := aK (Kd.V_below Ht725.out hq_)
   replace Ht742 := aK (Kd.V_below Ht742.out hq_)
   replace Ht745 := aK (Kd.V_below Ht745.out hq_)
   replace HB := aK (bS HB.out hq_)
   replace ho_ : Kd.V k41 41 w11_ 0 (fun _ => True) v_ t748 := Kd.V_mono (Kd.R_V ho_) (fun _ _ => trivial)
   obtain ⟨A_t748, c_t748, rfl⟩ := Kd.V_slice ho_
   have Ht748 := aK ho_
   clear ho_
   clear hq_
   clear Ht742
   clear Ht745
   go_wp2_with fail
   refine (cenotaphlaw08_From.calls k A_t748 c_t748 t748 t751 _ (Kd.V_reads' Ht748.out).2.2 (Kd.V_reads' Ht748.out).2.1 A16.out).mono ?_
   rintro e_ w12_ ⟨v_, rfl, ho_, hq_⟩
   replace Ht722 := aK (Kd.V_below Ht722.out hq_)
   replace Ht725 := aK (Kd.V_below Ht725.out hq_)
   replace Ht748 := aK (Kd.V_below Ht748.out hq_)
   replace HB := aK (bS HB.out hq_)
   replace ho_ : Kd.V k28 28 w12_ 0 (fun _ => True) v_ t751 := Kd.V_mono (Kd.R_V ho_) (fun _ _ => trivial)
   obtain ⟨A_t751, c_t751, rfl⟩ := Kd.V_slice ho_
   have Ht751 := aK ho_
   clear ho_
   clear hq_
   clear Ht748
   go_wp2_with fail
   refine (cenotaphref08_Unknown.calls k A_t722 c_t722 t722 A_t725 c_t725 t725 t754 _ (Kd.V_reads' Ht722.out).2.2 (Kd.V_reads' Ht722.out).2.1 (Kd.V_reads' Ht725.out).2.2 (Kd.V_reads' Ht725.out).2.1 A17.out).mono ?_
   rintro e_ w13_ ⟨v_, rfl, ho_, hq_⟩
   replace Ht722 := aK (Kd.V_below Ht722.out hq_)
   replace Ht725 := aK (Kd.V_below Ht725.out hq_)
   replace Ht751 := aK (Kd.V_below Ht751.out hq_)
   replace HB := aK (bS HB.out hq_)
   replace ho_ : Kd.V k28 28 w13_ 0 (fun _ => True) v_ t754 := Kd.V_mono (Kd.R_V ho_) (fun _ _ => trivial)
   obtain ⟨A_t754, c_t754, rfl⟩ := Kd.V_slice ho_
   have Ht754 := aK ho_
   clear ho_
   clear hq_
   go_wp2_with fail
   refine (cenotaphref08_Same.calls k A_t751 c_t751 t751 A_t754 c_t754 t754 t757 _ (Kd.V_reads' Ht751.out).2.2 (Kd.V_reads' Ht751.out).2.1 (Kd.V_reads' Ht754.out).2.2 (Kd.V_reads' Ht754.out).2.1 A18.out).mono ?_
   rintro e_ w14_ ⟨rfl, hq_⟩
   replace hq_ := hq_.below
   replace Ht722 := aK (Kd.V_below Ht722.out hq_)
   replace Ht725 := aK (Kd.V_below Ht725.out hq_)
   replace Ht751 := aK (Kd.V_below Ht751.out hq_)
   replace Ht754 := aK (Kd.V_below Ht754.out hq_)
   replace HB := aK (bS HB.out hq_)
   clear hq_
   go_wp2_with fail
   go_ret
   exact ⟨rfl, HB.out⟩
  ·replace c12 := Bool.eq_false_iff.mpr c12
   subst c12
   have H1 : (none) = some r := by rw [if_neg (show ¬ (false = true) by decide)] at H; exact H
   clear H
   have H := H1
   clear H1
   exact absurd H (by simp)
 ·replace c6 := Bool.eq_false_iff.mpr c6
  subst c6
  have H1 : (none) = some r := by rw [if_neg (show ¬ (false = true) by decide)] at H; exact H
  clear H
  have H := H1
  clear H1
  exact absurd H (by simp)
end Go.Proofs.Ytgdkgobplinelaa.P
