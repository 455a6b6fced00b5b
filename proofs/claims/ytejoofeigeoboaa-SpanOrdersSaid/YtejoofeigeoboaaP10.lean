-- Written by a program of this session (wip/pp.py over the kit's printer, with our own texts put in).
import Derived.Test.YtejoofeigeoboaaP0
import Derived.Test.YtejoofeigeoboaaP1
import Derived.Test.YtejoofeigeoboaaP2
import Derived.Test.YtejoofeigeoboaaP3
import Derived.Test.YtejoofeigeoboaaP8
namespace Go.Proofs.Ytejoofeigeoboaa.P
open Go.RowKit Go.Proofs.YtejoofeigeoboaaW.PrintWords Go.Proofs.YtejoofeigeoboaaW.PrintLast Go.Proofs.YtejoofeigeoboaaW.PrintMore
attribute [local go_sem] max2_int min2_int max_two min_two max_three min_three max_four min_four   -- for this text's walks alone
set_option linter.unusedVariables false
set_option linter.unusedSimpArgs false

/-! ### cenotaphlaw02_SpanOrders: function 8 -/
theorem zq8_0 {p_ : Prop} (h_ : p_ := by repeat (first | (with_reducible first | exact HB.out | apply below_alloc | apply pw_below_drewN | apply below_drew1 | refine below_set ?_ GE400.out | refine below_set ?_ GE401.out) | exact HB.out)) : p_ := h_
theorem zq8_1 {p_ : Prop} (h_ : p_ := by repeat (first | (with_reducible first | exact HB.out | apply below_alloc | apply pw_below_drewN | apply below_drew1 | refine below_set ?_ GE400.out) | exact HB.out)) : p_ := h_
theorem zq8_2 {p_ : Prop} (h_ : p_ := by (try simp only [List.map_toArray, List.map_cons, List.map_nil]); first | done | rfl | (simp only [List.length_drop, List.length_take]; rfl)) : p_ := h_
theorem zq8_3 {p_ : Prop} (h_ : p_ := by repeat (first | (with_reducible first | exact HB.out | apply below_alloc | apply pw_below_drewN | apply below_drew1) | exact HB.out)) : p_ := h_
theorem zq8_4 {p_ : Prop} (h_ : p_ := by (with_reducible repeat (first | refine blk_drewN ?_ _ | refine blk_drew ?_ | refine blk_alloc ?_ _)); exact BK400.out) : p_ := h_
theorem zq8_5 {p_ : Prop} (h_ : p_ := by (with_reducible repeat (first | refine blk_drewN ?_ _ | refine blk_drew ?_ | refine blk_alloc ?_ _)); exact BK401.out) : p_ := h_
theorem zq8_6 {p_ : Prop} (h_ : p_ := by (with_reducible repeat (first | apply Kd.R_alloc | apply Kd.R_drewN | apply Kd.R_drew)); exact HO_401001.out) : p_ := h_
theorem zq8_7 {p_ : Prop} (h_ : p_ := by (with_reducible repeat (first | apply Kd.R_alloc | apply Kd.R_drewN | apply Kd.R_drew)); exact HO_402001.out) : p_ := h_
theorem zq8_8 {p_ : Prop} (h_ : p_ := by (with_reducible repeat (first | apply Kd.R_alloc | apply Kd.R_drewN | apply Kd.R_drew)); exact HO_7.out) : p_ := h_
theorem zq8_9 {p_ : Prop} (h_ : p_ := by first | (with_reducible assumption) | assumption) : p_ := h_
theorem zq8_10 {p_ : Prop} (h_ : p_ := by first | rfl | (simp; done) | (simp [*]; done)) : p_ := h_
mutual
def cenotaphlaw02_SpanOrders.l0 : Nat → List Int → List Int → List Int → Int → Int → Int → Option (Bool)
 | 0, _, _, _, _, _, _ => none
 | k + 1, x0, x1, x7, x8, x401000, x402000 => if x8 < (x0.length : Int) then (if 0 ≤ x8 then (if x7.length < 17592186044416 then (cenotaphlaw02_SpanOrders.l0 k x0 x1 (x7 ++ [wrap64 (1 + (wrap64 (Int.tmod (IntKind.u64.wrap (rd x0 x8)) 50)))]) (wrap64 (x8 + 1)) x401000 x402000) else (none)) else (none)) else (cenotaphlaw02_SpanOrders.l1 k x1 x7 0 x401000 ([] : List Int) x402000)
def cenotaphlaw02_SpanOrders.l1 : Nat → List Int → List Int → Int → Int → List Int → Int → Option (Bool)
 | 0, _, _, _, _, _, _ => none
 | k + 1, x1, x7, x9, x401000, x401001, x402000 => if x9 < (x7.length : Int) then (if 0 ≤ x9 then ((span_Add.f k x401000 x401001 (rd x7 x9)).bind fun bt408 => (cenotaphlaw02_SpanOrders.l1 k x1 x7 (wrap64 (x9 + 1)) bt408.1 bt408.2 x402000)) else (none)) else ((some (([] : List Int) : List Int)).bind fun y412 => (if y412.length + x7.length < 17592186044416 then (cenotaphlaw02_SpanOrders.l2 k x1 x7 (y412 ++ x7) 0 x401000 x401001 x402000) else (none)))
def cenotaphlaw02_SpanOrders.j3 : Nat → List Int → List Int → Int → List Int → Int → Option (Bool)
 | 0, _, _, _, _, _ => none
 | k + 1, x7, x10, x401000, x401001, x402000 => cenotaphlaw02_SpanOrders.l3 k x7 x10 0 x401000 x401001 x402000 ([] : List Int)
def cenotaphlaw02_SpanOrders.l3 : Nat → List Int → List Int → Int → Int → List Int → Int → List Int → Option (Bool)
 | 0, _, _, _, _, _, _, _ => none
 | k + 1, x7, x10, x14, x401000, x401001, x402000, x402001 => if x14 < (x10.length : Int) then (if 0 ≤ x14 then ((span_Add.f k x402000 x402001 (rd x10 x14)).bind fun bt424 => (cenotaphlaw02_SpanOrders.l3 k x7 x10 (wrap64 (x14 + 1)) x401000 x401001 bt424.1 bt424.2)) else (none)) else (cenotaphlaw02_SpanOrders.l4 k x7 0 1 x401000 x401001 x402000 x402001)
def cenotaphlaw02_SpanOrders.l4 : Nat → List Int → Int → Int → Int → List Int → Int → List Int → Option (Bool)
 | 0, _, _, _, _, _, _, _ => none
 | k + 1, x7, x15, x16, x401000, x401001, x402000, x402001 => if x16 ≤ 50 then (cenotaphlaw02_SpanOrders.l5 k x7 x15 x16 false 0 x401000 x401001 x402000 x402001) else ((cenotaphlaw02_told.f k).bind fun t431 => (if t431 = true then ((span_Same.f k x401000 x401001 x402000 x402001).bind fun t432 => (if t432 = true then ((span_Count.f x401000 x401001).bind fun t433 => (if t433 = x15 then ((span_Right.f k x401000 x401001).bind fun t434 => (some t434)) else (none))) else (none))) else (none)))
def cenotaphlaw02_SpanOrders.l5 : Nat → List Int → Int → Int → Bool → Int → Int → List Int → Int → List Int → Option (Bool)
 | 0, _, _, _, _, _, _, _, _, _ => none
 | k + 1, x7, x15, x16, x17, x18, x401000, x401001, x402000, x402001 => if x18 < (x7.length : Int) then (if x17 = true then (cenotaphlaw02_SpanOrders.l5 k x7 x15 x16 true (wrap64 (x18 + 1)) x401000 x401001 x402000 x402001) else (if 0 ≤ x18 then (cenotaphlaw02_SpanOrders.l5 k x7 x15 x16 ((rd x7 x18) == x16) (wrap64 (x18 + 1)) x401000 x401001 x402000 x402001) else (none))) else (if x17 = true then ((span_Has.f k x401000 x401001 x16).bind fun t429 => (if (t429 != x17) = true then (none) else (cenotaphlaw02_SpanOrders.l4 k x7 (wrap64 (x15 + 1)) (wrap64 (x16 + 1)) x401000 x401001 x402000 x402001))) else ((span_Has.f k x401000 x401001 x16).bind fun t430 => (if (t430 != x17) = true then (none) else (cenotaphlaw02_SpanOrders.l4 k x7 x15 (wrap64 (x16 + 1)) x401000 x401001 x402000 x402001))))
def cenotaphlaw02_SpanOrders.l2 : Nat → List Int → List Int → List Int → Int → Int → List Int → Int → Option (Bool)
 | 0, _, _, _, _, _, _, _ => none
 | k + 1, x1, x7, x10, x11, x401000, x401001, x402000 => if x11 < (x1.length : Int) then (if (x10.length : Int) > 1 then (if x11 < 60 then (if (x10.length : Int) = 0 then (none) else (if 0 ≤ x11 then (if (IntKind.u64.wrap ((x10.length : Int))) = 0 then (none) else (if 0 ≤ (wrap64 (Int.tmod (IntKind.u64.wrap (rd x1 x11)) (IntKind.u64.wrap ((x10.length : Int))))) then (if (wrap64 (Int.tmod (IntKind.u64.wrap (rd x1 x11)) (IntKind.u64.wrap ((x10.length : Int))))) < (x10.length : Int) then (if 0 ≤ (Int.tmod x11 (x10.length : Int)) then (if (Int.tmod x11 (x10.length : Int)) < (x10.length : Int) then (cenotaphlaw02_SpanOrders.l2 k x1 x7 ((x10.set ((Int.tmod x11 (x10.length : Int)) : Int).toNat (rd x10 (wrap64 (Int.tmod (IntKind.u64.wrap (rd x1 x11)) (IntKind.u64.wrap ((x10.length : Int))))))).set ((wrap64 (Int.tmod (IntKind.u64.wrap (rd x1 x11)) (IntKind.u64.wrap ((x10.length : Int))))) : Int).toNat (rd x10 (Int.tmod x11 (x10.length : Int)))) (wrap64 (x11 + 1)) x401000 x401001 x402000) else (none)) else (none)) else (none)) else (none))) else (none))) else (cenotaphlaw02_SpanOrders.j3 k x7 x10 x401000 x401001 x402000)) else (cenotaphlaw02_SpanOrders.j3 k x7 x10 x401000 x401001 x402000)) else (cenotaphlaw02_SpanOrders.j3 k x7 x10 x401000 x401001 x402000)
end
def cenotaphlaw02_SpanOrders.f (k : Nat) (l0 : List Int) (l1 : List Int) : Option (Bool) := if 0 ≤ (mn (l0.length : Int) 60) then (if (mn (l0.length : Int) 60) ≤ (l0.length : Int) then (cenotaphlaw02_SpanOrders.l0 k (l0.take ((mn (l0.length : Int) 60) : Int).toNat) l1 ([] : List Int) 0 0 0) else (none)) else (none)
theorem cenotaphlaw02_SpanOrders.mono_l : ∀ k, (∀ y0 y1 y2 y3 y4 y5, LeO (cenotaphlaw02_SpanOrders.l0 k y0 y1 y2 y3 y4 y5) (cenotaphlaw02_SpanOrders.l0 (k + 1) y0 y1 y2 y3 y4 y5)) ∧ (∀ y0 y1 y2 y3 y4 y5, LeO (cenotaphlaw02_SpanOrders.l1 k y0 y1 y2 y3 y4 y5) (cenotaphlaw02_SpanOrders.l1 (k + 1) y0 y1 y2 y3 y4 y5)) ∧ (∀ y0 y1 y2 y3 y4, LeO (cenotaphlaw02_SpanOrders.j3 k y0 y1 y2 y3 y4) (cenotaphlaw02_SpanOrders.j3 (k + 1) y0 y1 y2 y3 y4)) ∧ (∀ y0 y1 y2 y3 y4 y5 y6, LeO (cenotaphlaw02_SpanOrders.l3 k y0 y1 y2 y3 y4 y5 y6) (cenotaphlaw02_SpanOrders.l3 (k + 1) y0 y1 y2 y3 y4 y5 y6)) ∧ (∀ y0 y1 y2 y3 y4 y5 y6, LeO (cenotaphlaw02_SpanOrders.l4 k y0 y1 y2 y3 y4 y5 y6) (cenotaphlaw02_SpanOrders.l4 (k + 1) y0 y1 y2 y3 y4 y5 y6)) ∧ (∀ y0 y1 y2 y3 y4 y5 y6 y7 y8, LeO (cenotaphlaw02_SpanOrders.l5 k y0 y1 y2 y3 y4 y5 y6 y7 y8) (cenotaphlaw02_SpanOrders.l5 (k + 1) y0 y1 y2 y3 y4 y5 y6 y7 y8)) ∧ (∀ y0 y1 y2 y3 y4 y5 y6, LeO (cenotaphlaw02_SpanOrders.l2 k y0 y1 y2 y3 y4 y5 y6) (cenotaphlaw02_SpanOrders.l2 (k + 1) y0 y1 y2 y3 y4 y5 y6))
 | 0 => ⟨fun _ _ _ _ _ _ r h => by simp [cenotaphlaw02_SpanOrders.l0] at h, fun _ _ _ _ _ _ r h => by simp [cenotaphlaw02_SpanOrders.l1] at h, fun _ _ _ _ _ r h => by simp [cenotaphlaw02_SpanOrders.j3] at h, fun _ _ _ _ _ _ _ r h => by simp [cenotaphlaw02_SpanOrders.l3] at h, fun _ _ _ _ _ _ _ r h => by simp [cenotaphlaw02_SpanOrders.l4] at h, fun _ _ _ _ _ _ _ _ _ r h => by simp [cenotaphlaw02_SpanOrders.l5] at h, fun _ _ _ _ _ _ _ r h => by simp [cenotaphlaw02_SpanOrders.l2] at h⟩
 | k + 1 => by
  obtain ⟨ih0, ih1, ih2, ih3, ih4, ih5, ih6⟩ := cenotaphlaw02_SpanOrders.mono_l k
  refine ⟨?_, ?_, ?_, ?_, ?_, ?_, ?_⟩
  ·intro y0 y1 y2 y3 y4 y5
   unfold cenotaphlaw02_SpanOrders.l0
   repeat' first
   | (with_reducible exact ih0 _ _ _ _ _ _)
   | (with_reducible exact ih1 _ _ _ _ _ _)
   | (with_reducible exact ih2 _ _ _ _ _)
   | (with_reducible exact ih3 _ _ _ _ _ _ _)
   | (with_reducible exact ih4 _ _ _ _ _ _ _)
   | (with_reducible exact ih5 _ _ _ _ _ _ _ _ _)
   | (with_reducible exact ih6 _ _ _ _ _ _ _)
   | (with_reducible exact cenotaphlaw02_told.mono _)
   | (with_reducible exact span_Add.mono _ _ _ _)
   | (with_reducible exact span_Has.mono _ _ _ _)
   | (with_reducible exact span_Right.mono _ _ _)
   | (with_reducible exact span_Same.mono _ _ _ _ _)
   | (with_reducible exact LeO.refl _)
   | (with_reducible exact LeO.none _)
   | (with_reducible refine LeO.ite ?_ ?_)
   | (with_reducible refine LeO.bind ?_ (fun _ => ?_))
   | exact ih0 _ _ _ _ _ _
   | exact ih1 _ _ _ _ _ _
   | exact ih2 _ _ _ _ _
   | exact ih3 _ _ _ _ _ _ _
   | exact ih4 _ _ _ _ _ _ _
   | exact ih5 _ _ _ _ _ _ _ _ _
   | exact ih6 _ _ _ _ _ _ _
   | exact cenotaphlaw02_told.mono _
   | exact span_Add.mono _ _ _ _
   | exact span_Has.mono _ _ _ _
   | exact span_Right.mono _ _ _
   | exact span_Same.mono _ _ _ _ _
   | exact LeO.none _
   | refine LeO.ite ?_ ?_
   | refine LeO.bind ?_ (fun _ => ?_)
  ·intro y0 y1 y2 y3 y4 y5
   unfold cenotaphlaw02_SpanOrders.l1
   repeat' first
   | (with_reducible exact ih0 _ _ _ _ _ _)
   | (with_reducible exact ih1 _ _ _ _ _ _)
   | (with_reducible exact ih2 _ _ _ _ _)
   | (with_reducible exact ih3 _ _ _ _ _ _ _)
   | (with_reducible exact ih4 _ _ _ _ _ _ _)
   | (with_reducible exact ih5 _ _ _ _ _ _ _ _ _)
   | (with_reducible exact ih6 _ _ _ _ _ _ _)
   | (with_reducible exact cenotaphlaw02_told.mono _)
   | (with_reducible exact span_Add.mono _ _ _ _)
   | (with_reducible exact span_Has.mono _ _ _ _)
   | (with_reducible exact span_Right.mono _ _ _)
   | (with_reducible exact span_Same.mono _ _ _ _ _)
   | (with_reducible exact LeO.refl _)
   | (with_reducible exact LeO.none _)
   | (with_reducible refine LeO.ite ?_ ?_)
   | (with_reducible refine LeO.bind ?_ (fun _ => ?_))
   | exact ih0 _ _ _ _ _ _
   | exact ih1 _ _ _ _ _ _
   | exact ih2 _ _ _ _ _
   | exact ih3 _ _ _ _ _ _ _
   | exact ih4 _ _ _ _ _ _ _
   | exact ih5 _ _ _ _ _ _ _ _ _
   | exact ih6 _ _ _ _ _ _ _
   | exact cenotaphlaw02_told.mono _
   | exact span_Add.mono _ _ _ _
   | exact span_Has.mono _ _ _ _
   | exact span_Right.mono _ _ _
   | exact span_Same.mono _ _ _ _ _
   | exact LeO.none _
   | refine LeO.ite ?_ ?_
   | refine LeO.bind ?_ (fun _ => ?_)
  ·intro y0 y1 y2 y3 y4
   unfold cenotaphlaw02_SpanOrders.j3
   repeat' first
   | (with_reducible exact ih0 _ _ _ _ _ _)
   | (with_reducible exact ih1 _ _ _ _ _ _)
   | (with_reducible exact ih2 _ _ _ _ _)
   | (with_reducible exact ih3 _ _ _ _ _ _ _)
   | (with_reducible exact ih4 _ _ _ _ _ _ _)
   | (with_reducible exact ih5 _ _ _ _ _ _ _ _ _)
   | (with_reducible exact ih6 _ _ _ _ _ _ _)
   | (with_reducible exact cenotaphlaw02_told.mono _)
   | (with_reducible exact span_Add.mono _ _ _ _)
   | (with_reducible exact span_Has.mono _ _ _ _)
   | (with_reducible exact span_Right.mono _ _ _)
   | (with_reducible exact span_Same.mono _ _ _ _ _)
   | (with_reducible exact LeO.refl _)
   | (with_reducible exact LeO.none _)
   | (with_reducible refine LeO.ite ?_ ?_)
   | (with_reducible refine LeO.bind ?_ (fun _ => ?_))
   | exact ih0 _ _ _ _ _ _
   | exact ih1 _ _ _ _ _ _
   | exact ih2 _ _ _ _ _
   | exact ih3 _ _ _ _ _ _ _
   | exact ih4 _ _ _ _ _ _ _
   | exact ih5 _ _ _ _ _ _ _ _ _
   | exact ih6 _ _ _ _ _ _ _
   | exact cenotaphlaw02_told.mono _
   | exact span_Add.mono _ _ _ _
   | exact span_Has.mono _ _ _ _
   | exact span_Right.mono _ _ _
   | exact span_Same.mono _ _ _ _ _
   | exact LeO.none _
   | refine LeO.ite ?_ ?_
   | refine LeO.bind ?_ (fun _ => ?_)
  ·intro y0 y1 y2 y3 y4 y5 y6
   unfold cenotaphlaw02_SpanOrders.l3
   repeat' first
   | (with_reducible exact ih0 _ _ _ _ _ _)
   | (with_reducible exact ih1 _ _ _ _ _ _)
   | (with_reducible exact ih2 _ _ _ _ _)
   | (with_reducible exact ih3 _ _ _ _ _ _ _)
   | (with_reducible exact ih4 _ _ _ _ _ _ _)
   | (with_reducible exact ih5 _ _ _ _ _ _ _ _ _)
   | (with_reducible exact ih6 _ _ _ _ _ _ _)
   | (with_reducible exact cenotaphlaw02_told.mono _)
   | (with_reducible exact span_Add.mono _ _ _ _)
   | (with_reducible exact span_Has.mono _ _ _ _)
   | (with_reducible exact span_Right.mono _ _ _)
   | (with_reducible exact span_Same.mono _ _ _ _ _)
   | (with_reducible exact LeO.refl _)
   | (with_reducible exact LeO.none _)
   | (with_reducible refine LeO.ite ?_ ?_)
   | (with_reducible refine LeO.bind ?_ (fun _ => ?_))
   | exact ih0 _ _ _ _ _ _
   | exact ih1 _ _ _ _ _ _
   | exact ih2 _ _ _ _ _
   | exact ih3 _ _ _ _ _ _ _
   | exact ih4 _ _ _ _ _ _ _
   | exact ih5 _ _ _ _ _ _ _ _ _
   | exact ih6 _ _ _ _ _ _ _
   | exact cenotaphlaw02_told.mono _
   | exact span_Add.mono _ _ _ _
   | exact span_Has.mono _ _ _ _
   | exact span_Right.mono _ _ _
   | exact span_Same.mono _ _ _ _ _
   | exact LeO.none _
   | refine LeO.ite ?_ ?_
   | refine LeO.bind ?_ (fun _ => ?_)
  ·intro y0 y1 y2 y3 y4 y5 y6
   unfold cenotaphlaw02_SpanOrders.l4
   repeat' first
   | (with_reducible exact ih0 _ _ _ _ _ _)
   | (with_reducible exact ih1 _ _ _ _ _ _)
   | (with_reducible exact ih2 _ _ _ _ _)
   | (with_reducible exact ih3 _ _ _ _ _ _ _)
   | (with_reducible exact ih4 _ _ _ _ _ _ _)
   | (with_reducible exact ih5 _ _ _ _ _ _ _ _ _)
   | (with_reducible exact ih6 _ _ _ _ _ _ _)
   | (with_reducible exact cenotaphlaw02_told.mono _)
   | (with_reducible exact span_Add.mono _ _ _ _)
   | (with_reducible exact span_Has.mono _ _ _ _)
   | (with_reducible exact span_Right.mono _ _ _)
   | (with_reducible exact span_Same.mono _ _ _ _ _)
   | (with_reducible exact LeO.refl _)
   | (with_reducible exact LeO.none _)
   | (with_reducible refine LeO.ite ?_ ?_)
   | (with_reducible refine LeO.bind ?_ (fun _ => ?_))
   | exact ih0 _ _ _ _ _ _
   | exact ih1 _ _ _ _ _ _
   | exact ih2 _ _ _ _ _
   | exact ih3 _ _ _ _ _ _ _
   | exact ih4 _ _ _ _ _ _ _
   | exact ih5 _ _ _ _ _ _ _ _ _
   | exact ih6 _ _ _ _ _ _ _
   | exact cenotaphlaw02_told.mono _
   | exact span_Add.mono _ _ _ _
   | exact span_Has.mono _ _ _ _
   | exact span_Right.mono _ _ _
   | exact span_Same.mono _ _ _ _ _
   | exact LeO.none _
   | refine LeO.ite ?_ ?_
   | refine LeO.bind ?_ (fun _ => ?_)
  ·intro y0 y1 y2 y3 y4 y5 y6 y7 y8
   unfold cenotaphlaw02_SpanOrders.l5
   repeat' first
   | (with_reducible exact ih0 _ _ _ _ _ _)
   | (with_reducible exact ih1 _ _ _ _ _ _)
   | (with_reducible exact ih2 _ _ _ _ _)
   | (with_reducible exact ih3 _ _ _ _ _ _ _)
   | (with_reducible exact ih4 _ _ _ _ _ _ _)
   | (with_reducible exact ih5 _ _ _ _ _ _ _ _ _)
   | (with_reducible exact ih6 _ _ _ _ _ _ _)
   | (with_reducible exact cenotaphlaw02_told.mono _)
   | (with_reducible exact span_Add.mono _ _ _ _)
   | (with_reducible exact span_Has.mono _ _ _ _)
   | (with_reducible exact span_Right.mono _ _ _)
   | (with_reducible exact span_Same.mono _ _ _ _ _)
   | (with_reducible exact LeO.refl _)
   | (with_reducible exact LeO.none _)
   | (with_reducible refine LeO.ite ?_ ?_)
   | (with_reducible refine LeO.bind ?_ (fun _ => ?_))
   | exact ih0 _ _ _ _ _ _
   | exact ih1 _ _ _ _ _ _
   | exact ih2 _ _ _ _ _
   | exact ih3 _ _ _ _ _ _ _
   | exact ih4 _ _ _ _ _ _ _
   | exact ih5 _ _ _ _ _ _ _ _ _
   | exact ih6 _ _ _ _ _ _ _
   | exact cenotaphlaw02_told.mono _
   | exact span_Add.mono _ _ _ _
   | exact span_Has.mono _ _ _ _
   | exact span_Right.mono _ _ _
   | exact span_Same.mono _ _ _ _ _
   | exact LeO.none _
   | refine LeO.ite ?_ ?_
   | refine LeO.bind ?_ (fun _ => ?_)
  ·intro y0 y1 y2 y3 y4 y5 y6
   unfold cenotaphlaw02_SpanOrders.l2
   repeat' first
   | (with_reducible exact ih0 _ _ _ _ _ _)
   | (with_reducible exact ih1 _ _ _ _ _ _)
   | (with_reducible exact ih2 _ _ _ _ _)
   | (with_reducible exact ih3 _ _ _ _ _ _ _)
   | (with_reducible exact ih4 _ _ _ _ _ _ _)
   | (with_reducible exact ih5 _ _ _ _ _ _ _ _ _)
   | (with_reducible exact ih6 _ _ _ _ _ _ _)
   | (with_reducible exact cenotaphlaw02_told.mono _)
   | (with_reducible exact span_Add.mono _ _ _ _)
   | (with_reducible exact span_Has.mono _ _ _ _)
   | (with_reducible exact span_Right.mono _ _ _)
   | (with_reducible exact span_Same.mono _ _ _ _ _)
   | (with_reducible exact LeO.refl _)
   | (with_reducible exact LeO.none _)
   | (with_reducible refine LeO.ite ?_ ?_)
   | (with_reducible refine LeO.bind ?_ (fun _ => ?_))
   | exact ih0 _ _ _ _ _ _
   | exact ih1 _ _ _ _ _ _
   | exact ih2 _ _ _ _ _
   | exact ih3 _ _ _ _ _ _ _
   | exact ih4 _ _ _ _ _ _ _
   | exact ih5 _ _ _ _ _ _ _ _ _
   | exact ih6 _ _ _ _ _ _ _
   | exact cenotaphlaw02_told.mono _
   | exact span_Add.mono _ _ _ _
   | exact span_Has.mono _ _ _ _
   | exact span_Right.mono _ _ _
   | exact span_Same.mono _ _ _ _ _
   | exact LeO.none _
   | refine LeO.ite ?_ ?_
   | refine LeO.bind ?_ (fun _ => ?_)
theorem cenotaphlaw02_SpanOrders.mono : ∀ a0 a1 k, LeO (cenotaphlaw02_SpanOrders.f k a0 a1) (cenotaphlaw02_SpanOrders.f (k + 1) a0 a1) := by
 intro a0 a1 k
 obtain ⟨ih0, ih1, ih2, ih3, ih4, ih5, ih6⟩ := cenotaphlaw02_SpanOrders.mono_l k
 unfold cenotaphlaw02_SpanOrders.f
 repeat' first
   | (with_reducible exact ih0 _ _ _ _ _ _)
   | (with_reducible exact ih1 _ _ _ _ _ _)
   | (with_reducible exact ih2 _ _ _ _ _)
   | (with_reducible exact ih3 _ _ _ _ _ _ _)
   | (with_reducible exact ih4 _ _ _ _ _ _ _)
   | (with_reducible exact ih5 _ _ _ _ _ _ _ _ _)
   | (with_reducible exact ih6 _ _ _ _ _ _ _)
   | (with_reducible exact cenotaphlaw02_told.mono _)
   | (with_reducible exact span_Add.mono _ _ _ _)
   | (with_reducible exact span_Has.mono _ _ _ _)
   | (with_reducible exact span_Right.mono _ _ _)
   | (with_reducible exact span_Same.mono _ _ _ _ _)
   | (with_reducible exact LeO.refl _)
   | (with_reducible exact LeO.none _)
   | (with_reducible refine LeO.ite ?_ ?_)
   | (with_reducible refine LeO.bind ?_ (fun _ => ?_))
   | exact ih0 _ _ _ _ _ _
   | exact ih1 _ _ _ _ _ _
   | exact ih2 _ _ _ _ _
   | exact ih3 _ _ _ _ _ _ _
   | exact ih4 _ _ _ _ _ _ _
   | exact ih5 _ _ _ _ _ _ _ _ _
   | exact ih6 _ _ _ _ _ _ _
   | exact cenotaphlaw02_told.mono _
   | exact span_Add.mono _ _ _ _
   | exact span_Has.mono _ _ _ _
   | exact span_Right.mono _ _ _
   | exact span_Same.mono _ _ _ _ _
   | exact LeO.none _
   | refine LeO.ite ?_ ?_
   | refine LeO.bind ?_ (fun _ => ?_)
def cenotaphlaw02_SpanOrders.T16 : Bool × List (List Nat × List Nat) := (true, [([], []), ([], []), ([1], [1]), ([0, 2], [0, 2]), ([], []), ([], []), ([4, 5], [4, 5]), ([6], [6]), ([7], [7]), ([], []), ([9], [9]), ([10], [10]), ([8, 11], [8, 11]), ([12], [12]), ([3, 0, 1, 2, 3], [3]), ([13, 14, 0, 1, 2, 3, 4, 5, 6, 7, 8, 9, 10, 11, 12, 13, 14], [13])])
def cenotaphlaw02_SpanOrders.B16 : List Nat := [0, 0, 2, 7, 0, 0, 48, 112, 240, 0, 512, 1536, 4080, 8176, 15, 32767]
theorem cenotaphlaw02_SpanOrders.tab16 : rtab .any (opsOf Try.f8 16) = cenotaphlaw02_SpanOrders.T16 := by kernel_rfl
theorem cenotaphlaw02_SpanOrders.bits16 : waitsOk cenotaphlaw02_SpanOrders.T16.2 cenotaphlaw02_SpanOrders.B16 = true := by kernel_rfl
def cenotaphlaw02_SpanOrders.T17 : Bool × List (List Nat × List Nat) := (true, [([], []), ([], []), ([], []), ([], []), ([], []), ([], []), ([4, 5], [4, 5]), ([6], [6]), ([], []), ([], []), ([8, 9], [8, 9]), ([10], [10]), ([0, 1, 0, 1, 4, 5, 6, 7, 11], [0, 1]), ([12, 7, 0, 1, 4, 5, 6, 7, 11], [7, 12]), ([2, 3, 0, 1, 2, 3, 4, 5, 6, 7, 8, 9, 10, 11, 12, 13], [2, 3]), ([14, 11, 13, 0, 1, 2, 3, 4, 5, 6, 7, 8, 9, 10, 11, 12, 13], [11, 14])])
def cenotaphlaw02_SpanOrders.B17 : List Nat := [0, 0, 0, 0, 0, 0, 48, 112, 0, 0, 768, 1792, 4083, 8179, 16383, 32767]
theorem cenotaphlaw02_SpanOrders.tab17 : rtab .any (opsOf Try.f8 17) = cenotaphlaw02_SpanOrders.T17 := by kernel_rfl
theorem cenotaphlaw02_SpanOrders.bits17 : waitsOk cenotaphlaw02_SpanOrders.T17.2 cenotaphlaw02_SpanOrders.B17 = true := by kernel_rfl
set_option maxHeartbeats 8000000 in
set_option maxRecDepth 100000 in
theorem cenotaphlaw02_SpanOrders.calls (k : Nat) (A0 : Option Addr) (c0 : Nat) (l0 : List Int) (A1 : Option Addr) (c1 : Nat) (l1 : List Int) (r : Bool) (w : World) (hr0 : Kd.C (Kd.int .i64) w A0 l0.length l0) (hc0 : l0.length ≤ c0) (hr1 : Kd.C (Kd.int .i64) w A1 l1.length l1) (hc1 : l1.length ≤ c1) (h : cenotaphlaw02_SpanOrders.f k l0 l1 = some r) :
  Calls Try.prog 8 #[.slice A0 l0.length c0, .slice A1 l1.length c1] w fun e w' => e = .returned (.bool r) ∧ Below w.heap.size w w' := by
 have hu24 := Try.underlying24
 have HR0 := Aside0.mk hr0
 have HC0 := Aside0.mk hc0
 clear hr0 hc0
 have HR1 := Aside0.mk hr1
 have HC1 := Aside0.mk hc1
 clear hr1 hc1
 have HB := Aside0.mk (Below.refl w.heap.size w)
 have H : (if 0 ≤ (mn (l0.length : Int) 60) then (if (mn (l0.length : Int) 60) ≤ (l0.length : Int) then (cenotaphlaw02_SpanOrders.l0 k (l0.take ((mn (l0.length : Int) 60) : Int).toNat) l1 ([] : List Int) 0 0 0) else (none)) else (none)) = some r := h
 clear h
 obtain ⟨ji3, hji3⟩ : ∃ j_ : Int, (mn (l0.length : Int) 60) = j_ := ⟨_, rfl⟩
 replace H : (if 0 ≤ (ji3) then (if (ji3) ≤ (l0.length : Int) then (cenotaphlaw02_SpanOrders.l0 k (l0.take ((ji3) : Int).toNat) l1 ([] : List Int) 0 0 0) else (none)) else (none)) = some r := by first | (rw [hji3] at H; exact H) | (simp only [hji3] at H ⊢; exact H)
 (try (have hji3h : ji3 ≤ 60 := by (rw [← hji3]; unfold mn; (repeat' split) <;> omega)))
 (try (have hji3g : ji3 ≤ 64 := by omega))
 (try (have hji3l : 0 ≤ ji3 := by (rw [← hji3]; unfold mn; (repeat' split) <;> omega)))
 (try (have hji3m : 0 ≤ ji3 := by omega))
 have hji3_ : (if 60 < (l0.length : Int) then 60 else (l0.length : Int)) = ji3 := hji3
 by_cases c4 : 0 ≤ (ji3)
 ·rw [if_pos c4] at H
  have c4b0 := eq_true c4
  have c4b1 : decide (0 ≤ (ji3)) = true := decide_eq_true c4
  clear c4
  by_cases c5 : (ji3) ≤ (l0.length : Int)
  ·rw [if_pos c5] at H
   have c5b0 := eq_true c5
   have c5b1 : decide ((ji3) ≤ (l0.length : Int)) = true := decide_eq_true c5
   clear c5
   have H' := Aside0.mk H
   clear H
   go_enter Try.func8, Try.ntmps8
   go_wp2_with (first | ((with_reducible refine gate_dst (N := 5) rfl ?_); (try (refine gate_guard (by rfl) ?_; dsimp only)); refine box_event ?hg (N := 5) ?hd (cs := #[.int .i64 0, .slice none 0 0]) (t := 24) ?hr ?_; (case hd => rfl); (case hg => rfl); (case hr => first | (go_simp; done) | (go_simp; rfl)); intro gb400 hg w6 hbox hb; have n0_ := Aside0.mk (below_step zq8_3 hb); have n1_ := Aside0.mk (hbox); have n2_ := Aside0.mk (((by rw [hg]; exact (below_size zq8_3)) : w.heap.size ≤ gb400)); have n3_ := Aside0.mk (((by rw [hg]; exact (below_size zq8_3)) : w.heap.size ≤ gb400)); clear HB; have HB := n0_; have BK400 := n1_; have GW400 := n2_; have GE400 := n3_; clear n0_ n1_ n2_ n3_; clear hb hbox hg) | ((with_reducible refine gate_dst (N := 6) rfl ?_); (try (refine gate_guard (by rfl) ?_; dsimp only)); refine box_event ?hg (N := 6) ?hd (cs := #[.int .i64 0, .slice none 0 0]) (t := 24) ?hr ?_; (case hd => rfl); (case hg => rfl); (case hr => first | (go_simp; done) | (go_simp; rfl)); intro gb401 hg w7 hbox hb; have n0_ := Aside0.mk (blk_below (g := gb400) (o := .cells #[.int .i64 0, .slice none 0 0] 24 (0, 0)) zq8_4 hb); have n1_ := Aside0.mk (below_step zq8_1 hb); have n2_ := Aside0.mk (hbox); have n3_ := Aside0.mk (((by rw [hg]; exact (below_size zq8_1)) : w.heap.size ≤ gb401)); have n4_ := Aside0.mk (((by rw [hg]; exact (below_size zq8_1)) : w.heap.size ≤ gb401)); have n5_ := Aside0.mk (((by rw [hg]; exact Nat.ne_of_lt (blk_lt (g := gb400) (o := .cells #[.int .i64 0, .slice none 0 0] 24 (0, 0)) zq8_4)) : gb400 ≠ gb401)); have n6_ := Aside0.mk (((by rw [hg]; exact Nat.ne_of_gt (blk_lt (g := gb400) (o := .cells #[.int .i64 0, .slice none 0 0] 24 (0, 0)) zq8_4)) : gb401 ≠ gb400)); clear BK400; clear HB; have BK400 := n0_; have HB := n1_; have BK401 := n2_; have GW401 := n3_; have GE401 := n4_; have NB400_401 := n5_; have NB401_400 := n6_; clear n0_ n1_ n2_ n3_ n4_ n5_ n6_; clear hb hbox hg; obtain ⟨i08, hi08, _, hsz8, _⟩ := info_parts info3; obtain ⟨hcut8, hA8, hC8⟩ := print_take_of (P := Try.prog) (Value.int .i64) 0 22 3 .i64 Try.underlying22 hi08 hsz8 A0 c0 l0 (ji3) (of_decide_eq_true zq8_9) (of_decide_eq_true zq8_9) HC0.out; have HR402 := Aside0.mk (Kd.C_of_reads (h1 := fun _ => rfl) (hA8 _ (Kd.reads_of_C HR0.out))); have HC402 := Aside0.mk hC8; clear hA8 hC8 hi08 hsz8; obtain ⟨x8, hx8⟩ : ∃ x_, x_ = (l0.take ((ji3) : Int).toNat) := ⟨_, rfl⟩; rw [← hx8] at hcut8 HR402 HC402; ((try rw [← hx8] at HC0) <;> (try rw [← hx8] at HC1) <;> (try rw [← hx8] at H')); have KX8 := Aside0.mk hx8; clear hx8))
   go_loopg [7, 8] k (fun kq v7 v8 w' => ∃ (x7_1 : List Int) (x8_1 : Int), v8 = .int .i64 x8_1 ∧ Aside0 (cenotaphlaw02_SpanOrders.l0 kq x8 l1 x7_1 x8_1 0 0 = some r) ∧ Aside0 (kq ≤ k) ∧ Aside0 (Kd.R (Kd.int .i64) 3 w' w.heap.size (fun _ => True) v7 x7_1) ∧ Aside0 (w'.heap[gb400]? = some (.cells #[.int .i64 0, (.slice none 0 0)] 24 (0, 0))) ∧ Aside0 (w'.heap[gb401]? = some (.cells #[.int .i64 0, (.slice none 0 0)] 24 (0, 0))) ∧ Aside0 (Below w.heap.size w w'))
   case atStart => exact ⟨(([] : List Int)), (0), zq8_10, H', ⟨Nat.le_refl _⟩, ⟨by first | exact Kd.R_nil _ _ _ _ _ | exact Kd.N_nil _ _ _ _ _ | exact Kd.V_nil _ _ _ _ _ | exact Kd.Q_nil _ _ _ _ _ | exact Kd.S_nil _ _ _ _ _⟩, ⟨by (with_reducible repeat (first | refine blk_drewN ?_ _ | refine blk_drew ?_ | refine blk_alloc ?_ _)); exact BK400.out⟩, ⟨by (with_reducible repeat (first | refine blk_drewN ?_ _ | refine blk_drew ?_ | refine blk_alloc ?_ _)); exact BK401.out⟩, ⟨by repeat (first | (with_reducible first | exact HB.out | apply below_alloc | apply pw_below_drewN | apply below_drew1 | refine below_set ?_ GE400.out | refine below_set ?_ GE401.out) | exact HB.out)⟩⟩
   case round =>
    clear H'
    try clear c1
    try clear p2
    try clear c4
    try clear c4b0
    try clear c4b1
    try clear c5
    try clear c5b0
    try clear c5b1
    try clear c8
    obtain ⟨x7_1, x8_1, rfl, HA, HK1, HO_7, BK400, BK401, HB⟩ := hrel
    cases gk with
    | zero => exact absurd HA.out (by simp [cenotaphlaw02_SpanOrders.l0])
    | succ k1 =>
     have H := HA.out
     clear HA
     simp only [cenotaphlaw02_SpanOrders.l0] at H
     by_cases c9 : x8_1 < (x8.length : Int)
     ·rw [if_pos c9] at H
      have c9b0 : decide (x8_1 < (x8.length : Int)) = true := decide_eq_true c9
      clear c9
      by_cases c10 : 0 ≤ x8_1
      ·rw [if_pos c10] at H
       have c10b0 : decide (0 ≤ x8_1) = true := decide_eq_true c10
       clear c10
       by_cases c11 : x7_1.length < 17592186044416
       ·rw [if_pos c11] at H
        have LMc11 := Aside0.mk c11
        clear c11
        obtain ⟨y404, hy404⟩ : ∃ y_ : List Int, y_ = (x7_1 ++ [wrap64 (1 + (wrap64 (Int.tmod (IntKind.u64.wrap (rd x8 x8_1)) 50)))]) := ⟨_, rfl⟩
        replace H : (cenotaphlaw02_SpanOrders.l0 k1 x8 l1 y404 (wrap64 (x8_1 + 1)) 0 0) = some r := by first | (rw [hy404]; with_reducible exact H) | (have H2_ := (Option.bind_some _ _).symm.trans H; rw [hy404]; with_reducible exact H2_) | (have H2_ := (Option.bind_some _ _).symm.trans H; with_reducible exact H2_) | with_reducible exact H | (rw [hy404]; exact H) | exact H
        have Ny404 := Aside0.mk hy404
        clear hy404
        have H' := Aside0.mk H
        clear H
        have p403 : 0 ≤ (x8_1 : Int) := of_decide_eq_true zq8_9
        have q403 : x8_1 < (x8.length : Int) := of_decide_eq_true zq8_9
        obtain ⟨ad403, e403, hx403_0⟩ := Kd.at_int HR402.out x8_1 p403 q403
        cases e403
        replace hx403_0 := (HB.out.cell (World.block_lt_of_cell? w _ hx403_0)).trans hx403_0
        replace p403 := eq_true p403
        replace q403 := eq_true q403
        go_wp2_with (first | ((with_reducible refine gate_builtin (b := .append) (xs := #[.tmp 30, .tmp 39]) rfl ?_); (try (refine gate_guard (by rfl) ?_; dsimp only)); at_builtin; refine Kd.R_append (Kd.int .i64) (w0 := w) w.heap.size rfl (.tmp 30) (.tmp 39) 22 3 (.int .i64 0) 8 rfl Try.underlying22 info3 rfl (by decide) (by omega) u7 x7_1 (wrap64 (1 + (wrap64 (Int.tmod (IntKind.u64.wrap (rd x8 x8_1)) 50)))) [.int .i64 (wrap64 (1 + (wrap64 (Int.tmod (IntKind.u64.wrap (rd x8 x8_1)) 50))))] (fun _ => True) (fun _ => False) rfl rfl ?aP (fun _ hk => hk.elim) ?aF ?aO ?aB ?aS ?aL ?_; (case aP => exact rfl); (case aB => exact zq8_0); (case aF => exact (fun _ _ => trivial)); (case aO => exact zq8_8); (case aS => exact (below_size zq8_0)); (case aL => have := LMc11.out; omega); intro v405 w12 ho hb hg hat; rw [← Ny404.out] at ho; have n0_ := Aside0.mk (blk_grown (g := gb400) (o := .cells #[.int .i64 0, .slice none 0 0] 24 (0, 0)) zq8_4 hg (Kd.R_ne HO_7.out BK400.out (by decide))); have n1_ := Aside0.mk (blk_grown (g := gb401) (o := .cells #[.int .i64 0, .slice none 0 0] 24 (0, 0)) zq8_5 hg (Kd.R_ne HO_7.out BK401.out (by decide))); have n2_ := Aside0.mk (hb); have n3_ := Aside0.mk (ho); clear BK400; clear BK401; clear HB; clear HO_7; have BK400 := n0_; have BK401 := n1_; have HB := n2_; have HO406 := n3_; clear n0_ n1_ n2_ n3_; clear ho hb hg hat))
        go_roundg k1
        case measure => have := HK1.out; omega
        case rel => exact ⟨(y404), (wrap64 (x8_1 + 1)), zq8_10, H', ⟨by have := HK1.out; omega⟩, ⟨by (with_reducible repeat (first | apply Kd.R_alloc | apply Kd.R_drewN | apply Kd.R_drew)); exact HO406.out⟩, ⟨by (with_reducible repeat (first | refine blk_drewN ?_ _ | refine blk_drew ?_ | refine blk_alloc ?_ _)); exact BK400.out⟩, ⟨by (with_reducible repeat (first | refine blk_drewN ?_ _ | refine blk_drew ?_ | refine blk_alloc ?_ _)); exact BK401.out⟩, ⟨by repeat (first | (with_reducible first | exact HB.out | apply below_alloc | apply pw_below_drewN | apply below_drew1 | refine below_set ?_ GE400.out | refine below_set ?_ GE401.out) | exact HB.out)⟩⟩
       ·rw [if_neg c11] at H
        exact absurd H (by simp)
      ·rw [if_neg c10] at H
       exact absurd H (by simp)
     ·rw [if_neg c9] at H
      have c9b0 : decide (x8_1 < (x8.length : Int)) = false := decide_eq_false c9
      clear c9
      have H' := Aside0.mk H
      clear H
      go_wp2
      go_loopg [9] k1 (fun kq v9 w' => ∃ (x9_2 : Int) (x401000_2 : Int) (x401001_2 : List Int) (u401001 : Value), v9 = .int .i64 x9_2 ∧ Aside0 (cenotaphlaw02_SpanOrders.l1 kq l1 x7_1 x9_2 x401000_2 x401001_2 0 = some r) ∧ Aside0 (kq ≤ k1) ∧ Aside0 (Kd.R (Kd.int .i64) 3 w' w.heap.size (fun k_ => some k_ ≠ (u401001 : Value).ownBlock) u7 x7_1) ∧ Aside0 (Kd.R (Kd.int .i64) 3 w' w.heap.size (fun k_ => some k_ ≠ (u7 : Value).ownBlock) u401001 x401001_2) ∧ Aside0 (w'.heap[gb400]? = some (.cells #[.int .i64 x401000_2, u401001] 24 (0, 0))) ∧ Aside0 (w'.heap[gb401]? = some (.cells #[.int .i64 0, (.slice none 0 0)] 24 (0, 0))) ∧ Aside0 (Below w.heap.size w w'))
      case atStart => exact ⟨(0), (0), (([] : List Int)), (.slice none 0 0), zq8_10, H', ⟨Nat.le_refl _⟩, ⟨by (with_reducible repeat (first | apply Kd.R_alloc | apply Kd.R_drewN | apply Kd.R_drew)); exact Kd.R_mono HO_7.out (fun _ hk => (by simp [Value.ownBlock]))⟩, ⟨by first | exact Kd.R_nil _ _ _ _ _ | exact Kd.N_nil _ _ _ _ _ | exact Kd.V_nil _ _ _ _ _ | exact Kd.Q_nil _ _ _ _ _ | exact Kd.S_nil _ _ _ _ _⟩, ⟨by (with_reducible repeat (first | refine blk_drewN ?_ _ | refine blk_drew ?_ | refine blk_alloc ?_ _)); exact BK400.out⟩, ⟨by (with_reducible repeat (first | refine blk_drewN ?_ _ | refine blk_drew ?_ | refine blk_alloc ?_ _)); exact BK401.out⟩, ⟨by repeat (first | (with_reducible first | exact HB.out | apply below_alloc | apply pw_below_drewN | apply below_drew1 | refine below_set ?_ GE400.out | refine below_set ?_ GE401.out) | exact HB.out)⟩⟩
      case round =>
       clear H'
       try clear c1
       try clear p2
       try clear c4
       try clear c4b0
       try clear c4b1
       try clear p4
       try clear q4
       try clear hx4
       try clear c5
       try clear c5b0
       try clear c5b1
       try clear p6
       try clear c8
       try clear c9
       try clear c9b0
       try clear c10
       try clear c10b0
       try clear c11
       try clear hx403_0
       try clear p2
       try clear p403
       try clear q403
       obtain ⟨x9_2, x401000_2, x401001_2, u401001, rfl, HA, HK2, HO_7, HO_401001, BK400, BK401, HB⟩ := hrel
       cases gk with
       | zero => exact absurd HA.out (by simp [cenotaphlaw02_SpanOrders.l1])
       | succ k2 =>
        have H := HA.out
        clear HA
        simp only [cenotaphlaw02_SpanOrders.l1] at H
        by_cases c13 : x9_2 < (x7_1.length : Int)
        ·rw [if_pos c13] at H
         have c13b0 : decide (x9_2 < (x7_1.length : Int)) = true := decide_eq_true c13
         clear c13
         by_cases c14 : 0 ≤ x9_2
         ·rw [if_pos c14] at H
          have c14b0 : decide (0 ≤ x9_2) = true := decide_eq_true c14
          clear c14
          replace H := Option.bind_eq_some_iff.mp H
          obtain ⟨⟨t408, t409⟩, A150, H⟩ := H
          replace H : (cenotaphlaw02_SpanOrders.l1 k2 l1 x7_1 (wrap64 (x9_2 + 1)) t408 t409 0) = some r := H
          have A15 := Aside0.mk A150
          clear A150
          have H' := Aside0.mk H
          clear H
          obtain ⟨Ao16, co16, eo16⟩ := Kd.R_slice HO_7.out
          subst eo16
          try go_wp2
          replace HO_7 := Aside0.mk (Kd.R_drew HO_7.out)
          replace HO_401001 := Aside0.mk (Kd.R_drew HO_401001.out)
          replace BK400 := Aside0.mk (blk_drew BK400.out)
          replace BK401 := Aside0.mk (blk_drew BK401.out)
          replace HB := Aside0.mk (below_drew1 HB.out)
          have p407 : 0 ≤ (x9_2 : Int) := of_decide_eq_true zq8_9
          have q407 : x9_2 < (x7_1.length : Int) := of_decide_eq_true zq8_9
          obtain ⟨ad407, e407, hx407_0⟩ := Kd.at_int (Kd.R_reads' HO_7.out).2.2 x9_2 p407 q407
          cases e407
          replace p407 := eq_true p407
          replace q407 := eq_true q407
          obtain ⟨Ao18, co18, eo18⟩ := Kd.R_slice HO_401001.out
          (first | subst eo18 | (injection eo18 with f1_ f2_ f3_; have f4_ := f1_.symm; have f5_ := f3_.symm; clear f1_ f2_ f3_; subst f4_; subst f5_))
          refine start_ (n := 7) (S := fun w' => w'.cell? ⟨gb400, 0, none⟩ = some (.int .i64 x401000_2) ∧ w'.cell? ⟨gb400, 1, none⟩ = some (.slice Ao18 x401001_2.length co18) ∧ w'.cell? (ad407.add (x9_2).toNat) = some (.int .i64 (rd x7_1 x9_2))) (ds := [6]) #[false, false, false, false, false, false, false] (by kernel_rfl) rfl rfl ⟨(blk_cell BK400.out 0).trans rfl, (blk_cell BK400.out 1).trans rfl, hx407_0⟩ (fun hHeld => ?_)
          generalize wr.drew = w17 at HO_7 HO_401001 BK400 BK401 HB hx407_0 hHeld ⊢
          refine pure_ (i := 1) (N := some 48) (v := ?_) (a' := ?_) #[false, true, false, false, false, false, false] rfl rfl (by kernel_rfl) (fun _ _ _ h => h) (Or.inl ⟨by rfl, ?_⟩) ?_ ?_
          rotate_left
          ·intro w'
           go_simp
           with_reducible rfl
          rotate_left
          ·simp only [Act.put, List.setIfInBounds_toArray, List.set_cons_zero, List.set_cons_succ, i64_w, i32_w]
           rfl
          refine pure_ (i := 2) (N := some 49) (v := ?_) (a' := ?_) #[false, true, true, false, false, false, false] rfl rfl (by kernel_rfl) (fun _ _ _ h => h) (Or.inl ⟨by rfl, ?_⟩) ?_ ?_
          rotate_left
          ·intro w'
           go_simp
           with_reducible rfl
          rotate_left
          ·simp only [Act.put, List.setIfInBounds_toArray, List.set_cons_zero, List.set_cons_succ, i64_w, i32_w]
           rfl
          refine pure_ (i := 3) (N := some 50) (v := ?_) (a' := ?_) #[false, true, true, true, false, false, false] rfl rfl (by kernel_rfl) (fun _ _ _ h => h) (Or.inl ⟨by rfl, ?_⟩) ?_ ?_
          rotate_left
          ·intro w'
           go_simp
           with_reducible rfl
          rotate_left
          ·simp only [Act.put, List.setIfInBounds_toArray, List.set_cons_zero, List.set_cons_succ, i64_w, i32_w]
           rfl
          refine take_ (i := 0) (N := some 47) (v := ?_) (a' := ?_) #[true, true, true, true, false, false, false] rfl rfl (by kernel_rfl) (fun _ _ _ h => h) (Or.inl ⟨by rfl, ?_⟩) hHeld ?_ ?_
          rotate_left
          ·rintro w' ⟨s0, s1, s2⟩
           go_simp
           with_reducible rfl
          rotate_left
          ·simp only [Act.put, List.setIfInBounds_toArray, List.set_cons_zero, List.set_cons_succ, i64_w, i32_w]
           rfl
          refine take_ (i := 4) (N := some 51) (v := ?_) (a' := ?_) #[true, true, true, true, true, false, false] rfl rfl (by kernel_rfl) (fun _ _ _ h => h) (Or.inl ⟨by rfl, ?_⟩) hHeld ?_ ?_
          rotate_left
          ·rintro w' ⟨s0, s1, s2⟩
           go_simp
           with_reducible rfl
          rotate_left
          ·simp only [Act.put, List.setIfInBounds_toArray, List.set_cons_zero, List.set_cons_succ, i64_w, i32_w]
           rfl
          refine one_ (i := 5) (N := some 52) #[true, true, true, true, true, true, false] rfl rfl (by kernel_rfl) (by decide) (fun K hK => ?_)
          refine goes_ Try.func18 (by kernel_rfl) rfl #[.agg #[.int .i64 x401000_2, .slice Ao18 x401001_2.length co18], .int .i64 (rd x7_1 x9_2)] (by rfl) rfl rfl zq8_2 ?_
          with_reducible refine (span_Add.calls k2 x401000_2 _ _ x401001_2 (rd x7_1 x9_2) t408 t409 _ ?side1 ?side2 A15.out).mono ?_
          (case side1 => repeat (first | exact (Kd.R_reads' HO_401001.out).2.2 | (with_reducible refine Kd.C_alloc ?_ _) | (with_reducible refine Kd.C_drewN ?_ _) | (with_reducible refine Kd.C_drew ?_)))
          (case side2 => exact (Kd.R_reads' HO_401001.out).2.1)
          rintro e w19 ⟨v410, rfl, ho0, hb⟩
          have HS2_ := (hb.cell (World.block_lt_of_cell? _ _ (hHeld.2.2))).trans (hHeld.2.2)
          refine ⟨_, rfl, ?_⟩
          have HO411 := Aside0.mk (Kd.R_lower (Kd.R_new' (Kd.R_new' ho0 (Kd.R_lt zq8_8)) (Kd.R_lt zq8_6)) (below_size zq8_0))
          replace HO_7 := Aside0.mk (Kd.R_elder' zq8_8 (Kd.R_base ho0) hb)
          replace HO_401001 := Aside0.mk (Kd.R_elder' zq8_6 (Kd.R_base ho0) hb)
          replace BK400 := Aside0.mk (blk_below (g := gb400) (o := .cells #[.int .i64 x401000_2, .slice Ao18 x401001_2.length co18] 24 (0, 0)) zq8_4 hb)
          replace BK401 := Aside0.mk (blk_below (g := gb401) (o := .cells #[.int .i64 0, .slice none 0 0] 24 (0, 0)) zq8_5 hb)
          replace HB := Aside0.mk (below_step zq8_0 hb)
          (try clear hb)
          (try clear hb2)
          (try clear hk)
          (try clear hi)
          (try clear ho0)
          obtain ⟨Ao21, co21, eo21⟩ := Kd.R_slice HO411.out
          (first | subst eo21 | (injection eo21 with f1_ f2_ f3_; have f4_ := f1_.symm; have f5_ := f3_.symm; clear f1_ f2_ f3_; subst f4_; subst f5_))
          refine hK.out _ _ ⟨(blk_cell BK400.out 0).trans rfl, (blk_cell BK400.out 1).trans rfl, HS2_⟩ (fun hHeld => ?_)
          clear hK K
          refine norm_ (a' := ?_) ?_ ?_
          rotate_left
          ·show Act.put _ (some 52) _ = _
           simp only [Act.put, List.setIfInBounds_toArray, List.set_cons_zero, List.set_cons_succ, i64_w, i32_w]
           rfl
          refine last_ (i := 6) (N := none) #[true, true, true, true, true, true, true] rfl rfl (by kernel_rfl) (by decide) (fun K hK => ?_)
          have hs20 : w19.cell? ⟨gb400, 0, none⟩ = some (.int .i64 x401000_2) := (blk_cell BK400.out 0).trans rfl
          have hfs20 := blk_frozen BK400.out 0
          have hns20_1 := NB401_400.out
          have hms20_1 := NB400_401.out
          have hs22 : w19.cell? ⟨gb400, 1, none⟩ = some (.slice Ao18 x401001_2.length co18) := (blk_cell BK400.out 1).trans rfl
          have hfs22 := blk_frozen BK400.out 1
          have hns22_1 := NB401_400.out
          have hms22_1 := NB400_401.out
          refine skip_ (w1 := ?_) (by rfl) rfl ?_ ?_
          rotate_left
          ·go_simp
           rfl
          refine hK.out _ _ ?_
          clear hK K
          refine done_ (by kernel_rfl) ?_
          try go_wp2
          go_roundg k2
          case measure => have := HK1.out; have := HK2.out; omega
          case rel => exact ⟨(wrap64 (x9_2 + 1)), (t408), (t409), (.slice Ao21 t409.length co21), zq8_10, H', ⟨by have := HK1.out; have := HK2.out; omega⟩, ⟨by (with_reducible repeat (first | apply Kd.R_alloc | apply Kd.R_drewN | apply Kd.R_drew)); exact Kd.R_mono (Kd.R_far (p := ⟨gb400, 1, none⟩) (Kd.R_far (p := ⟨gb400, 0, none⟩) (Kd.R_types HO_7.out BK400.out (by decide)) (fun _ hk => hk.2) (.int .i64 t408)) (fun _ hk => hk.2) (.slice Ao21 t409.length co21)) (fun _ hk => hk.1.2)⟩, ⟨by (with_reducible repeat (first | apply Kd.R_alloc | apply Kd.R_drewN | apply Kd.R_drew)); exact Kd.R_mono (Kd.R_far (p := ⟨gb400, 1, none⟩) (Kd.R_far (p := ⟨gb400, 0, none⟩) (Kd.R_types HO411.out BK400.out (by decide)) (fun _ hk => hk.2) (.int .i64 t408)) (fun _ hk => hk.2) (.slice Ao21 t409.length co21)) (fun _ hk => hk.1.1.2)⟩, ⟨by (with_reducible repeat (first | refine blk_drewN ?_ _ | refine blk_drew ?_ | refine blk_alloc ?_ _)); refine blk_put (cs := #[.int .i64 t408, .slice Ao18 x401001_2.length co18]) ?_ 1 _ rfl; (with_reducible repeat (first | refine blk_drewN ?_ _ | refine blk_drew ?_ | refine blk_alloc ?_ _)); refine blk_put (cs := #[.int .i64 x401000_2, .slice Ao18 x401001_2.length co18]) ?_ 0 _ rfl; (with_reducible repeat (first | refine blk_drewN ?_ _ | refine blk_drew ?_ | refine blk_alloc ?_ _)); exact BK400.out⟩, ⟨by (with_reducible repeat (first | refine blk_drewN ?_ _ | refine blk_drew ?_ | refine blk_alloc ?_ _)); refine blk_far ?_ NB401_400.out _; (with_reducible repeat (first | refine blk_drewN ?_ _ | refine blk_drew ?_ | refine blk_alloc ?_ _)); refine blk_far ?_ NB401_400.out _; (with_reducible repeat (first | refine blk_drewN ?_ _ | refine blk_drew ?_ | refine blk_alloc ?_ _)); exact BK401.out⟩, ⟨by repeat (first | (with_reducible first | exact HB.out | apply below_alloc | apply pw_below_drewN | apply below_drew1 | refine below_set ?_ GE400.out | refine below_set ?_ GE401.out) | exact HB.out)⟩⟩
         ·rw [if_neg c14] at H
          exact absurd H (by simp)
        ·rw [if_neg c13] at H
         have c13b0 : decide (x9_2 < (x7_1.length : Int)) = false := decide_eq_false c13
         clear c13
         obtain ⟨y412, hy412⟩ : ∃ y_ : List Int, y_ = (([] : List Int)) := ⟨_, rfl⟩
         replace H : (if y412.length + x7_1.length < 17592186044416 then (cenotaphlaw02_SpanOrders.l2 k2 l1 x7_1 (y412 ++ x7_1) 0 x401000_2 x401001_2 0) else (none)) = some r := by first | (rw [hy412]; with_reducible exact H) | (have H2_ := (Option.bind_some _ _).symm.trans H; rw [hy412]; with_reducible exact H2_) | (have H2_ := (Option.bind_some _ _).symm.trans H; with_reducible exact H2_) | with_reducible exact H | (rw [hy412]; exact H) | exact H
         have Ny412 := Aside0.mk hy412
         clear hy412
         by_cases c23 : y412.length + x7_1.length < 17592186044416
         ·rw [if_pos c23] at H
          have LMc23 := Aside0.mk c23
          clear c23
          obtain ⟨y415, hy415⟩ : ∃ y_ : List Int, y_ = (y412 ++ x7_1) := ⟨_, rfl⟩
          replace H : (cenotaphlaw02_SpanOrders.l2 k2 l1 x7_1 y415 0 x401000_2 x401001_2 0) = some r := by first | (rw [hy415]; with_reducible exact H) | (have H2_ := (Option.bind_some _ _).symm.trans H; rw [hy415]; with_reducible exact H2_) | (have H2_ := (Option.bind_some _ _).symm.trans H; with_reducible exact H2_) | with_reducible exact H | (rw [hy415]; exact H) | exact H
          have Ny415 := Aside0.mk hy415
          clear hy415
          have HC24 := Aside0.mk H
          clear H
          obtain ⟨Ao25, co25, eo25⟩ := Kd.R_slice HO_7.out
          subst eo25
          go_upto_block 4 with (first | ((with_reducible refine gate_dst (N := 53) rfl ?_); (try (refine gate_guard (by rfl) ?_; dsimp only)); refine Kd.R_lit (Kd.int .i64) _ 3 ?hg (N := 53) ?hd (xs := ([] : List Int)) (inner := []) (ok := fun _ => True) (okp := fun _ => True) ?hr ?hp (fun _ hk => hk) trivial (Below.refl _ _) (Nat.le_refl _) (by simp) ?_; (case hd => rfl); (case hg => rfl); (case hr => first | (go_simp; done) | (go_simp; rfl)); (case hp => exact (Reps.none _ _)); intro v413 w26 ho27 hb hg_ hnew_; clear hg_ hnew_; (first | rw [← Ny412.out] at ho27 | (simp only [Int.reduceToNat] at ho27; rw [← Ny412.out] at ho27)); have n0_ := Aside0.mk (Kd.R_elder' zq8_8 (Kd.R_base ho27) hb); have n1_ := Aside0.mk (Kd.R_elder' zq8_6 (Kd.R_base ho27) hb); have n2_ := Aside0.mk (Kd.R_lower (Kd.R_new' (Kd.R_new' ho27 (Kd.R_lt zq8_8)) (Kd.R_lt zq8_6)) (below_size zq8_0)); have n3_ := Aside0.mk (blk_below (g := gb400) (o := .cells #[.int .i64 x401000_2, u401001] 24 (0, 0)) zq8_4 hb); have n4_ := Aside0.mk (blk_below (g := gb401) (o := .cells #[.int .i64 0, .slice none 0 0] 24 (0, 0)) zq8_5 hb); have n5_ := Aside0.mk (below_step zq8_0 hb); clear HO_7; clear HO_401001; clear BK400; clear BK401; clear HB; have HO_7 := n0_; have HO_401001 := n1_; have HO414 := n2_; have BK400 := n3_; have BK401 := n4_; have HB := n5_; clear n0_ n1_ n2_ n3_ n4_ n5_; clear hb ho27) | ((with_reducible refine gate_builtin (b := .append) (xs := #[.tmp 53, .tmp 54]) rfl ?_); (try (refine gate_guard (by rfl) ?_; dsimp only)); at_builtin; refine Kd.R_append_rows (Kd.int .i64) (w0 := w) w.heap.size rfl (.tmp 53) (.tmp 54) 22 3 (.int .i64 0) 8 rfl Try.underlying22 info3 rfl (by decide) (by omega) v413 y412 x7_1 _ _ _ (fun k_ => some k_ ≠ (.slice Ao25 x7_1.length co25 : Value).ownBlock ∧ some k_ ≠ (u401001 : Value).ownBlock) (fun _ => False) rfl rfl ?aO ?aR (fun _ _ h => h) (fun _ h => h.elim) ?aF ?aB ?aS ?aL ?_; (case aR => repeat (first | exact (Kd.R_reads' HO_7.out).2.2 | (with_reducible refine Kd.C_alloc ?_ _) | (with_reducible refine Kd.C_drewN ?_ _) | (with_reducible refine Kd.C_drew ?_))); (case aB => exact zq8_0); (case aF => exact (fun k_ hk => ⟨Kd.fresh' (Kd.R_lt zq8_8) k_ hk, Kd.fresh' (Kd.R_lt zq8_6) k_ hk⟩)); (case aO => exact (by (with_reducible repeat (first | apply Kd.R_alloc | apply Kd.R_drewN | apply Kd.R_drew)); exact Kd.R_mono HO414.out (fun _ hk => ⟨hk.1.2, hk.2⟩))); (case aS => exact (below_size zq8_0)); (case aL => have := LMc23.out; omega); intro v416 w28 ho hb hg hat; rw [← Ny415.out] at ho; have n0_ := Aside0.mk (Kd.R_after (ok := (fun k_ => some k_ ≠ (u401001 : Value).ownBlock)) zq8_8 hg hat); have n1_ := Aside0.mk (Kd.R_after (ok := (fun k_ => some k_ ≠ (.slice Ao25 x7_1.length co25 : Value).ownBlock)) zq8_6 hg hat); have n2_ := Aside0.mk (blk_grown (g := gb400) (o := .cells #[.int .i64 x401000_2, u401001] 24 (0, 0)) zq8_4 hg (Kd.R_ne HO414.out BK400.out (by decide))); have n3_ := Aside0.mk (blk_grown (g := gb401) (o := .cells #[.int .i64 0, .slice none 0 0] 24 (0, 0)) zq8_5 hg (Kd.R_ne HO414.out BK401.out (by decide))); have n4_ := Aside0.mk (hb); have n5_ := Aside0.mk (ho); clear HO_7; clear HO_401001; clear BK400; clear BK401; clear HB; clear HO414; have HO_7 := n0_; have HO_401001 := n1_; have BK400 := n2_; have BK401 := n3_; have HB := n4_; have HO417 := n5_; clear n0_ n1_ n2_ n3_ n4_ n5_; clear ho hb hg hat))
          (try simp only [Act.put, List.setIfInBounds_toArray, List.set_cons_zero, List.set_cons_succ])
          go_cut [] (fun wc => ∃ (kq : Nat) (x10_23 : List Int), Aside0 (cenotaphlaw02_SpanOrders.j3 kq x7_1 x10_23 x401000_2 x401001_2 0 = some r) ∧ Aside0 (kq ≤ k2) ∧ Aside0 (Kd.R (Kd.int .i64) 3 wc w.heap.size (fun k_ => some k_ ≠ (v416 : Value).ownBlock ∧ some k_ ≠ (u401001 : Value).ownBlock) (.slice Ao25 x7_1.length co25) x7_1) ∧ Aside0 (Kd.R (Kd.int .i64) 3 wc w.heap.size (fun k_ => some k_ ≠ ((.slice Ao25 x7_1.length co25) : Value).ownBlock ∧ some k_ ≠ (u401001 : Value).ownBlock) v416 x10_23) ∧ Aside0 (Kd.R (Kd.int .i64) 3 wc w.heap.size (fun k_ => some k_ ≠ ((.slice Ao25 x7_1.length co25) : Value).ownBlock ∧ some k_ ≠ (v416 : Value).ownBlock) u401001 x401001_2) ∧ Aside0 (wc.heap[gb400]? = some (.cells #[.int .i64 x401000_2, u401001] 24 (0, 0))) ∧ Aside0 (wc.heap[gb401]? = some (.cells #[.int .i64 0, (.slice none 0 0)] 24 (0, 0))) ∧ Aside0 (Below w.heap.size w wc))
          case first =>
           have H := HC24.out
           clear HC24
           have H' := Aside0.mk H
           clear H
           go_wp2
           go_loopg [11] k2 (fun kq v11 w' => ∃ (x10_3 : List Int) (x11_3 : Int), v11 = .int .i64 x11_3 ∧ Aside0 (cenotaphlaw02_SpanOrders.l2 kq l1 x7_1 x10_3 x11_3 x401000_2 x401001_2 0 = some r) ∧ Aside0 (kq ≤ k2) ∧ Aside0 (Kd.R (Kd.int .i64) 3 w' w.heap.size (fun k_ => some k_ ≠ (v416 : Value).ownBlock ∧ some k_ ≠ (u401001 : Value).ownBlock) (.slice Ao25 x7_1.length co25) x7_1) ∧ Aside0 (Kd.R (Kd.int .i64) 3 w' w.heap.size (fun k_ => some k_ ≠ ((.slice Ao25 x7_1.length co25) : Value).ownBlock ∧ some k_ ≠ (u401001 : Value).ownBlock) v416 x10_3) ∧ Aside0 (Kd.R (Kd.int .i64) 3 w' w.heap.size (fun k_ => some k_ ≠ ((.slice Ao25 x7_1.length co25) : Value).ownBlock ∧ some k_ ≠ (v416 : Value).ownBlock) u401001 x401001_2) ∧ Aside0 (w'.heap[gb400]? = some (.cells #[.int .i64 x401000_2, u401001] 24 (0, 0))) ∧ Aside0 (w'.heap[gb401]? = some (.cells #[.int .i64 0, (.slice none 0 0)] 24 (0, 0))) ∧ Aside0 (Below w.heap.size w w'))
           case atStart => exact ⟨(y415), (0), zq8_10, H', ⟨Nat.le_refl _⟩, ⟨by (with_reducible repeat (first | apply Kd.R_alloc | apply Kd.R_drewN | apply Kd.R_drew)); exact Kd.R_mono HO_7.out (fun _ hk => ⟨hk.2, hk.1⟩)⟩, ⟨by (with_reducible repeat (first | apply Kd.R_alloc | apply Kd.R_drewN | apply Kd.R_drew)); exact HO417.out⟩, ⟨by (with_reducible repeat (first | apply Kd.R_alloc | apply Kd.R_drewN | apply Kd.R_drew)); exact HO_401001.out⟩, ⟨by (with_reducible repeat (first | refine blk_drewN ?_ _ | refine blk_drew ?_ | refine blk_alloc ?_ _)); exact BK400.out⟩, ⟨by (with_reducible repeat (first | refine blk_drewN ?_ _ | refine blk_drew ?_ | refine blk_alloc ?_ _)); exact BK401.out⟩, ⟨by repeat (first | (with_reducible first | exact HB.out | apply below_alloc | apply pw_below_drewN | apply below_drew1 | refine below_set ?_ GE400.out | refine below_set ?_ GE401.out) | exact HB.out)⟩⟩
           case round =>
            clear H'
            try clear c1
            try clear c2
            try clear p2
            try clear c4
            try clear c4b0
            try clear c4b1
            try clear p4
            try clear q4
            try clear hx4
            try clear c5
            try clear c5b0
            try clear c5b1
            try clear p6
            try clear c8
            try clear c9
            try clear c9b0
            try clear c10
            try clear c10b0
            try clear c11
            try clear c13
            try clear c13b0
            try clear c14
            try clear c14b0
            try clear c18
            try clear c23
            try clear hx403_0
            try clear hx407_0
            try clear p2
            try clear p4
            try clear p403
            try clear p407
            try clear p6
            try clear q4
            try clear q403
            try clear q407
            obtain ⟨x10_3, x11_3, rfl, HA, HK3, HO_7, HO_10, HO_401001, BK400, BK401, HB⟩ := hrel
            cases gk with
            | zero => exact absurd HA.out (by simp [cenotaphlaw02_SpanOrders.l2])
            | succ k3 =>
             have H := HA.out
             clear HA
             simp only [cenotaphlaw02_SpanOrders.l2] at H
             by_cases c29 : x11_3 < (l1.length : Int)
             ·rw [if_pos c29] at H
              have c29b0 : decide (x11_3 < (l1.length : Int)) = true := decide_eq_true c29
              clear c29
              (first | rw [c29b0] | (simp only [i64_w, i32_w]; rw [c29b0]) | skip)
              by_cases c30 : (x10_3.length : Int) > 1
              ·rw [if_pos c30] at H
               have c30b0 : decide (1 < (x10_3.length : Int)) = true := decide_eq_true c30
               have c30b1 : decide (1 < x10_3.length) = true := decide_eq_true (by omega)
               clear c30
               by_cases c31 : x11_3 < 60
               ·rw [if_pos c31] at H
                have c31b0 : decide (x11_3 < 60) = true := decide_eq_true c31
                clear c31
                by_cases c32 : (x10_3.length : Int) = 0
                ·rw [if_pos c32] at H
                 exact absurd H (by simp)
                ·rw [if_neg c32] at H
                 have c32b0 : ((x10_3.length : Int) == 0) = false := beq_eq_false_iff_ne.mpr c32
                 have c32b1 : ((x10_3.length : Int) != 0) = true := bne_iff_ne.mpr c32
                 have c32b2 : ¬ (x10_3 = []) := fun h_ => c32 (by rw [h_]; rfl)
                 by_cases c33 : 0 ≤ x11_3
                 ·rw [if_pos c33] at H
                  have c33b0 : decide (0 ≤ x11_3) = true := decide_eq_true c33
                  clear c33
                  by_cases c34 : (IntKind.u64.wrap ((x10_3.length : Int))) = 0
                  ·rw [if_pos c34] at H
                   exact absurd H (by simp)
                  ·rw [if_neg c34] at H
                   have c34b0 : ((IntKind.u64.wrap ((x10_3.length : Int))) == 0) = false := beq_eq_false_iff_ne.mpr c34
                   have c34b1 : ((IntKind.u64.wrap ((x10_3.length : Int))) != 0) = true := bne_iff_ne.mpr c34
                   obtain ⟨ji35, hji35⟩ : ∃ j_ : Int, (wrap64 (Int.tmod (IntKind.u64.wrap (rd l1 x11_3)) (IntKind.u64.wrap ((x10_3.length : Int))))) = j_ := ⟨_, rfl⟩
                   replace H : (if 0 ≤ (ji35) then (if (ji35) < (x10_3.length : Int) then (if 0 ≤ (Int.tmod x11_3 (x10_3.length : Int)) then (if (Int.tmod x11_3 (x10_3.length : Int)) < (x10_3.length : Int) then (cenotaphlaw02_SpanOrders.l2 k3 l1 x7_1 ((x10_3.set ((Int.tmod x11_3 (x10_3.length : Int)) : Int).toNat (rd x10_3 (ji35))).set ((ji35) : Int).toNat (rd x10_3 (Int.tmod x11_3 (x10_3.length : Int)))) (wrap64 (x11_3 + 1)) x401000_2 x401001_2 0) else (none)) else (none)) else (none)) else (none)) = some r := by first | (rw [hji35] at H; exact H) | (simp only [hji35] at H ⊢; exact H)
                   have hji35w : (IntKind.i64.wrap (Int.tmod (IntKind.u64.wrap (rd l1 x11_3)) (IntKind.u64.wrap ((x10_3.length : Int))))) = ji35 := (i64_w _).trans hji35
                   by_cases c36 : 0 ≤ (ji35)
                   ·rw [if_pos c36] at H
                    have c36b0 : decide (0 ≤ (ji35)) = true := decide_eq_true c36
                    clear c36
                    by_cases c37 : (ji35) < (x10_3.length : Int)
                    ·rw [if_pos c37] at H
                     have c37b0 : decide ((ji35) < (x10_3.length : Int)) = true := decide_eq_true c37
                     clear c37
                     obtain ⟨ji38, hji38⟩ : ∃ j_ : Int, (Int.tmod x11_3 (x10_3.length : Int)) = j_ := ⟨_, rfl⟩
                     replace H : (if 0 ≤ (ji38) then (if (ji38) < (x10_3.length : Int) then (cenotaphlaw02_SpanOrders.l2 k3 l1 x7_1 ((x10_3.set ((ji38) : Int).toNat (rd x10_3 (ji35))).set ((ji35) : Int).toNat (rd x10_3 (ji38))) (wrap64 (x11_3 + 1)) x401000_2 x401001_2 0) else (none)) else (none)) = some r := by first | (rw [hji38] at H; exact H) | (simp only [hji38] at H ⊢; exact H)
                     by_cases c39 : 0 ≤ (ji38)
                     ·rw [if_pos c39] at H
                      have c39b0 : decide (0 ≤ (ji38)) = true := decide_eq_true c39
                      clear c39
                      by_cases c40 : (ji38) < (x10_3.length : Int)
                      ·rw [if_pos c40] at H
                       have c40b0 : decide ((ji38) < (x10_3.length : Int)) = true := decide_eq_true c40
                       clear c40
                       obtain ⟨y421, hy421⟩ : ∃ y_ : List Int, y_ = (x10_3.set ((ji38) : Int).toNat (rd x10_3 (ji35))) := ⟨_, rfl⟩
                       replace H : (cenotaphlaw02_SpanOrders.l2 k3 l1 x7_1 (y421.set ((ji35) : Int).toNat (rd x10_3 (ji38))) (wrap64 (x11_3 + 1)) x401000_2 x401001_2 0) = some r := by first | (rw [hy421]; with_reducible exact H) | (have H2_ := (Option.bind_some _ _).symm.trans H; rw [hy421]; with_reducible exact H2_) | (have H2_ := (Option.bind_some _ _).symm.trans H; with_reducible exact H2_) | with_reducible exact H | (rw [hy421]; exact H) | exact H
                       have Ny421 := Aside0.mk hy421
                       clear hy421
                       obtain ⟨y422, hy422⟩ : ∃ y_ : List Int, y_ = (y421.set ((ji35) : Int).toNat (rd x10_3 (ji38))) := ⟨_, rfl⟩
                       replace H : (cenotaphlaw02_SpanOrders.l2 k3 l1 x7_1 y422 (wrap64 (x11_3 + 1)) x401000_2 x401001_2 0) = some r := by first | (rw [hy422]; with_reducible exact H) | (have H2_ := (Option.bind_some _ _).symm.trans H; rw [hy422]; with_reducible exact H2_) | (have H2_ := (Option.bind_some _ _).symm.trans H; with_reducible exact H2_) | with_reducible exact H | (rw [hy422]; exact H) | exact H
                       have Ny422 := Aside0.mk hy422
                       clear hy422
                       have H' := Aside0.mk H
                       clear H
                       obtain ⟨Ao43, co43, eo43⟩ := Kd.R_slice HO_10.out
                       subst eo43
                       try go_wp2
                       replace HO_7 := Aside0.mk (Kd.R_drew HO_7.out)
                       replace HO_10 := Aside0.mk (Kd.R_drew HO_10.out)
                       replace HO_401001 := Aside0.mk (Kd.R_drew HO_401001.out)
                       replace BK400 := Aside0.mk (blk_drew BK400.out)
                       replace BK401 := Aside0.mk (blk_drew BK401.out)
                       replace HB := Aside0.mk (below_drew1 HB.out)
                       have p418 : 0 ≤ (x11_3 : Int) := of_decide_eq_true zq8_9
                       have q418 : x11_3 < (l1.length : Int) := of_decide_eq_true zq8_9
                       obtain ⟨ad418, e418, hx418_0⟩ := Kd.at_int HR1.out x11_3 p418 q418
                       have hw418_0 := hx418_0
                       cases e418
                       replace hx418_0 := (HB.out.cell (World.block_lt_of_cell? w _ hx418_0)).trans hx418_0
                       replace p418 := eq_true p418
                       replace q418 := eq_true q418
                       refine start_ (n := 16) (S := fun w' => w'.cell? (ad418.add (x11_3).toNat) = some (.int .i64 (rd l1 x11_3))) (ds := []) #[false, false, false, false, false, false, false, false, false, false, false, false, false, false, false, false] (by kernel_rfl) rfl rfl (((HB.out.cell (World.block_lt_of_cell? w _ hw418_0)).trans hw418_0)) (fun hHeld => ?_); refine with_tabW cenotaphlaw02_SpanOrders.tab16 cenotaphlaw02_SpanOrders.bits16 (fun HT_ HW_ => ?_)
                       generalize wr.drew = w44 at HO_7 HO_10 HO_401001 BK400 BK401 HB hx418_0 hHeld ⊢
                       refine pure_ (i := 0) (N := some 71) (v := ?_) (a' := ?_) #[true, false, false, false, false, false, false, false, false, false, false, false, false, false, false, false] rfl rfl (any_of HT_.out (by kernel_rfl)) (fun _ _ _ h => h) (Or.inl ⟨by rfl, ?_⟩) ?_ ?_
                       rotate_left
                       ·intro w'
                        go_simp
                        with_reducible rfl
                       rotate_left
                       ·simp only [Act.put, List.setIfInBounds_toArray, List.set_cons_zero, List.set_cons_succ, i64_w, i32_w]
                        rfl
                       refine pure_ (i := 1) (N := some 72) (v := ?_) (a' := ?_) #[true, true, false, false, false, false, false, false, false, false, false, false, false, false, false, false] rfl rfl (any_of HT_.out (by kernel_rfl)) (fun _ _ _ h => h) (Or.inl ⟨by rfl, ?_⟩) ?_ ?_
                       rotate_left
                       ·intro w'
                        go_simp
                        with_reducible rfl
                       rotate_left
                       ·simp only [Act.put, List.setIfInBounds_toArray, List.set_cons_zero, List.set_cons_succ, i64_w, i32_w]
                        rfl
                       refine pure_ (i := 2) (N := some 73) (v := ?_) (a' := ?_) #[true, true, true, false, false, false, false, false, false, false, false, false, false, false, false, false] rfl rfl (any_of HT_.out (by kernel_rfl)) (fun _ _ _ h => h) (Or.inl ⟨by rfl, ?_⟩) ?_ ?_
                       rotate_left
                       ·intro w'
                        go_simp
                        with_reducible rfl
                       rotate_left
                       ·simp only [Act.put, List.setIfInBounds_toArray, List.set_cons_zero, List.set_cons_succ, i64_w, i32_w]
                        rfl
                       refine pure_ (i := 3) (N := some 74) (v := ?_) (a' := ?_) #[true, true, true, true, false, false, false, false, false, false, false, false, false, false, false, false] rfl rfl (any_of HT_.out (by kernel_rfl)) (fun _ _ _ h => h) (Or.inl ⟨by rfl, ?_⟩) ?_ ?_
                       rotate_left
                       ·intro w'
                        go_simp
                        with_reducible rfl
                       rotate_left
                       ·simp only [Act.put, List.setIfInBounds_toArray, List.set_cons_zero, List.set_cons_succ, i64_w, i32_w]
                        rfl
                       refine pure_ (i := 4) (N := some 75) (v := ?_) (a' := ?_) #[true, true, true, true, true, false, false, false, false, false, false, false, false, false, false, false] rfl rfl (any_of HT_.out (by kernel_rfl)) (fun _ _ _ h => h) (Or.inl ⟨by rfl, ?_⟩) ?_ ?_
                       rotate_left
                       ·intro w'
                        go_simp
                        with_reducible rfl
                       rotate_left
                       ·simp only [Act.put, List.setIfInBounds_toArray, List.set_cons_zero, List.set_cons_succ, i64_w, i32_w]
                        rfl
                       refine pure_ (i := 5) (N := some 76) (v := ?_) (a' := ?_) #[true, true, true, true, true, true, false, false, false, false, false, false, false, false, false, false] rfl rfl (any_of HT_.out (by kernel_rfl)) (fun _ _ _ h => h) (Or.inl ⟨by rfl, ?_⟩) ?_ ?_
                       rotate_left
                       ·intro w'
                        go_simp
                        with_reducible rfl
                       rotate_left
                       ·simp only [Act.put, List.setIfInBounds_toArray, List.set_cons_zero, List.set_cons_succ, i64_w, i32_w]
                        rfl
                       refine pure_ (i := 6) (N := some 77) (v := ?_) (a' := ?_) #[true, true, true, true, true, true, true, false, false, false, false, false, false, false, false, false] rfl rfl (any_of HT_.out (by kernel_rfl)) (fun _ _ _ h => h) (Or.inl ⟨by rfl, ?_⟩) ?_ ?_
                       rotate_left
                       ·intro w'
                        go_simp
                        with_reducible rfl
                       rotate_left
                       ·simp only [Act.put, List.setIfInBounds_toArray, List.set_cons_zero, List.set_cons_succ, i64_w, i32_w]
                        rfl
                       refine pure_ (i := 9) (N := some 80) (v := ?_) (a' := ?_) #[true, true, true, true, true, true, true, false, false, true, false, false, false, false, false, false] rfl rfl (any_of HT_.out (by kernel_rfl)) (fun _ _ _ h => h) (Or.inl ⟨by rfl, ?_⟩) ?_ ?_
                       rotate_left
                       ·intro w'
                        go_simp
                        with_reducible rfl
                       rotate_left
                       ·simp only [Act.put, List.setIfInBounds_toArray, List.set_cons_zero, List.set_cons_succ, i64_w, i32_w]
                        rfl
                       refine pure_ (i := 10) (N := some 81) (v := ?_) (a' := ?_) #[true, true, true, true, true, true, true, false, false, true, true, false, false, false, false, false] rfl rfl (any_of HT_.out (by kernel_rfl)) (fun _ _ _ h => h) (Or.inl ⟨by rfl, ?_⟩) ?_ ?_
                       rotate_left
                       ·intro w'
                        go_simp
                        with_reducible rfl
                       rotate_left
                       ·simp only [Act.put, List.setIfInBounds_toArray, List.set_cons_zero, List.set_cons_succ, i64_w, i32_w]
                        rfl
                       refine pure_ (i := 11) (N := some 82) (v := ?_) (a' := ?_) #[true, true, true, true, true, true, true, false, false, true, true, true, false, false, false, false] rfl rfl (any_of HT_.out (by kernel_rfl)) (fun _ _ _ h => h) (Or.inl ⟨by rfl, ?_⟩) ?_ ?_
                       rotate_left
                       ·intro w'
                        go_simp
                        with_reducible rfl
                       rotate_left
                       ·simp only [Act.put, List.setIfInBounds_toArray, List.set_cons_zero, List.set_cons_succ, i64_w, i32_w]
                        rfl
                       refine pure_ (i := 14) (N := some 12) (v := ?_) (a' := ?_) #[true, true, true, true, true, true, true, false, false, true, true, true, false, false, true, false] rfl rfl (any_of HT_.out (by kernel_rfl)) (fun _ _ _ h => h) (Or.inl ⟨by rfl, ?_⟩) ?_ ?_
                       rotate_left
                       ·intro w'
                        go_simp
                        with_reducible rfl
                       rotate_left
                       ·simp only [Act.put, List.setIfInBounds_toArray, List.set_cons_zero, List.set_cons_succ, i64_w, i32_w]
                        rfl
                       refine take_ (i := 7) (N := some 78) (v := ?_) (a' := ?_) #[true, true, true, true, true, true, true, true, false, true, true, true, false, false, true, false] rfl rfl (take_ofW HT_.out HW_.out (by kernel_rfl)) (fun _ _ _ h => h) (Or.inl ⟨by rfl, ?_⟩) hHeld ?_ ?_
                       rotate_left
                       ·intro w' s0
                        go_simp
                        with_reducible rfl
                       rotate_left
                       ·simp only [Act.put, List.setIfInBounds_toArray, List.set_cons_zero, List.set_cons_succ, i64_w, i32_w]
                        rfl
                       refine pure_ (i := 8) (N := some 79) (v := ?_) (a' := ?_) #[true, true, true, true, true, true, true, true, true, true, true, true, false, false, true, false] rfl rfl (any_of HT_.out (by kernel_rfl)) (fun _ _ _ h => h) (Or.inl ⟨by rfl, ?_⟩) ?_ ?_
                       rotate_left
                       ·intro w'
                        go_simp
                        with_reducible rfl
                       rotate_left
                       ·simp only [Act.put, List.setIfInBounds_toArray, List.set_cons_zero, List.set_cons_succ, i64_w, i32_w]
                        rfl
                       refine pure_ (i := 12) (N := some 83) (v := ?_) (a' := ?_) #[true, true, true, true, true, true, true, true, true, true, true, true, true, false, true, false] rfl rfl (any_of HT_.out (by kernel_rfl)) (fun _ _ _ h => h) (Or.inl ⟨by rfl, ?_⟩) ?_ ?_
                       rotate_left
                       ·intro w'
                        go_simp
                        with_reducible rfl
                       rotate_left
                       ·simp only [Act.put, List.setIfInBounds_toArray, List.set_cons_zero, List.set_cons_succ, i64_w, i32_w]
                        rfl
                       refine pure_ (i := 13) (N := some 84) (v := ?_) (a' := ?_) #[true, true, true, true, true, true, true, true, true, true, true, true, true, true, true, false] rfl rfl (any_of HT_.out (by kernel_rfl)) (fun _ _ _ h => h) (Or.inl ⟨by rfl, ?_⟩) ?_ ?_
                       rotate_left
                       ·intro w'
                        go_simp
                        with_reducible rfl
                       rotate_left
                       ·simp only [Act.put, List.setIfInBounds_toArray, List.set_cons_zero, List.set_cons_succ, i64_w, i32_w]
                        rfl
                       refine pure_ (i := 15) (N := some 13) (v := ?_) (a' := ?_) #[true, true, true, true, true, true, true, true, true, true, true, true, true, true, true, true] rfl rfl (any_of HT_.out (by kernel_rfl)) (fun _ _ _ h => h) (Or.inl ⟨by rfl, ?_⟩) ?_ ?_
                       rotate_left
                       ·intro w'
                        go_simp
                        with_reducible rfl
                       rotate_left
                       ·simp only [Act.put, List.setIfInBounds_toArray, List.set_cons_zero, List.set_cons_succ, i64_w, i32_w]
                        rfl
                       refine done_ (done_of HT_.out (by kernel_rfl)) ?_
                       try go_wp2
                       replace HO_7 := Aside0.mk (Kd.R_drew HO_7.out)
                       replace HO_10 := Aside0.mk (Kd.R_drew HO_10.out)
                       replace HO_401001 := Aside0.mk (Kd.R_drew HO_401001.out)
                       replace BK400 := Aside0.mk (blk_drew BK400.out)
                       replace BK401 := Aside0.mk (blk_drew BK401.out)
                       replace HB := Aside0.mk (below_drew1 HB.out)
                       have p419 : 0 ≤ ((ji35) : Int) := of_decide_eq_true zq8_9
                       have q419 : (ji35) < (x10_3.length : Int) := of_decide_eq_true zq8_9
                       obtain ⟨ad419, e419, hx419_0⟩ := Kd.at_int (Kd.R_reads' HO_10.out).2.2 (ji35) p419 q419
                       cases e419
                       replace p419 := eq_true p419
                       replace q419 := eq_true q419
                       have p420 : 0 ≤ ((ji38) : Int) := of_decide_eq_true zq8_9
                       have q420 : (ji38) < (x10_3.length : Int) := of_decide_eq_true zq8_9
                       obtain ⟨ad420, e420, hx420_0⟩ := Kd.at_int (Kd.R_reads' HO_10.out).2.2 (ji38) p420 q420
                       obtain rfl : ad419 = ad420 := (by injection e420)
                       replace p420 := eq_true p420
                       replace q420 := eq_true q420
                       have p41 : 0 ≤ ((ji38) : Int) := of_decide_eq_true zq8_9
                       have q41 : ((ji38) : Int) < ((x10_3.length : Int) : Int) := of_decide_eq_true zq8_9
                       obtain ⟨go41, co41, eo41, gb41, gl41, cl41, HG41⟩ := Kd.R_form HO_10.out (by omega)
                       (first | cases eo41 | (injection eo41 with ea_ en_ ec_; (first | subst ea_ | (injection ea_ with ea_; subst ea_)); subst ec_; clear en_))
                       have GB41 := Aside0.mk gb41
                       have GG41 := Aside0.mk HG41
                       clear gb41 gl41 HG41
                       (first | simp only [add_plain] at hx419_0 | skip)
                       (first | simp only [add_plain] at hx420_0 | skip)
                       obtain ⟨hx41_0, hf41_0⟩ := Kd.R_celln 0 HO_10.out ((ji38) : Int) p41 q41
                       replace p41 := eq_true p41
                       replace q41 := eq_true q41
                       have HP46 := Kd.R_putn HO_10.out ((ji38) : Int) (rd x10_3 (ji35))
                       rw [← Ny421.out] at HP46
                       have HQ46 := Aside0.mk HP46
                       clear HP46
                       have p42 : 0 ≤ ((ji35) : Int) := of_decide_eq_true zq8_9
                       have q42 : ((ji35) : Int) < ((x10_3.length : Int) : Int) := of_decide_eq_true zq8_9
                       obtain ⟨hx42_0, hf42_0⟩ := Kd.R_celln 0 HQ46.out ((ji35) : Int) p42 q42
                       replace p42 := eq_true p42
                       replace q42 := eq_true q42
                       have HP47 := Kd.R_putn HQ46.out ((ji35) : Int) (rd x10_3 (ji38))
                       rw [← Ny422.out] at HP47
                       have HQ47 := Aside0.mk HP47
                       clear HP47
                       refine start_ (n := 16) (S := fun w' => w'.cell? ⟨go41, ((ji35)).toNat, none⟩ = some (.int .i64 (rd x10_3 (ji35))) ∧ w'.cell? ⟨go41, ((ji38)).toNat, none⟩ = some (.int .i64 (rd x10_3 (ji38)))) (ds := [13, 15]) #[false, false, false, false, false, false, false, false, false, false, false, false, false, false, false, false] (by kernel_rfl) rfl rfl ⟨hx419_0, hx420_0⟩ (fun hHeld => ?_); refine with_tabW cenotaphlaw02_SpanOrders.tab17 cenotaphlaw02_SpanOrders.bits17 (fun HT_ HW_ => ?_)
                       generalize w44.drew = w45 at HO_7 HO_10 HO_401001 BK400 BK401 HB GG41 HQ46 HQ47 hf41_0 hf42_0 hx419_0 hx41_0 hx420_0 hx42_0 hHeld ⊢
                       refine pure_ (i := 0) (N := some 85) (v := ?_) (a' := ?_) #[true, false, false, false, false, false, false, false, false, false, false, false, false, false, false, false] rfl rfl (any_of HT_.out (by kernel_rfl)) (fun _ _ _ h => h) (Or.inl ⟨by rfl, ?_⟩) ?_ ?_
                       rotate_left
                       ·intro w'
                        go_simp
                        with_reducible rfl
                       rotate_left
                       ·simp only [Act.put, List.setIfInBounds_toArray, List.set_cons_zero, List.set_cons_succ, i64_w, i32_w]
                        rfl
                       refine pure_ (i := 1) (N := some 86) (v := ?_) (a' := ?_) #[true, true, false, false, false, false, false, false, false, false, false, false, false, false, false, false] rfl rfl (any_of HT_.out (by kernel_rfl)) (fun _ _ _ h => h) (Or.inl ⟨by rfl, ?_⟩) ?_ ?_
                       rotate_left
                       ·intro w'
                        go_simp
                        with_reducible rfl
                       rotate_left
                       ·simp only [Act.put, List.setIfInBounds_toArray, List.set_cons_zero, List.set_cons_succ, i64_w, i32_w]
                        rfl
                       refine pure_ (i := 2) (N := some 87) (v := ?_) (a' := ?_) #[true, true, true, false, false, false, false, false, false, false, false, false, false, false, false, false] rfl rfl (any_of HT_.out (by kernel_rfl)) (fun _ _ _ h => h) (Or.inl ⟨by rfl, ?_⟩) ?_ ?_
                       rotate_left
                       ·intro w'
                        go_simp
                        with_reducible rfl
                       rotate_left
                       ·simp only [Act.put, List.setIfInBounds_toArray, List.set_cons_zero, List.set_cons_succ, i64_w, i32_w]
                        rfl
                       refine pure_ (i := 3) (N := some 88) (v := ?_) (a' := ?_) #[true, true, true, true, false, false, false, false, false, false, false, false, false, false, false, false] rfl rfl (any_of HT_.out (by kernel_rfl)) (fun _ _ _ h => h) (Or.inl ⟨by rfl, ?_⟩) ?_ ?_
                       rotate_left
                       ·intro w'
                        go_simp
                        with_reducible rfl
                       rotate_left
                       ·simp only [Act.put, List.setIfInBounds_toArray, List.set_cons_zero, List.set_cons_succ, i64_w, i32_w]
                        rfl
                       refine pure_ (i := 4) (N := some 89) (v := ?_) (a' := ?_) #[true, true, true, true, true, false, false, false, false, false, false, false, false, false, false, false] rfl rfl (any_of HT_.out (by kernel_rfl)) (fun _ _ _ h => h) (Or.inl ⟨by rfl, ?_⟩) ?_ ?_
                       rotate_left
                       ·intro w'
                        go_simp
                        with_reducible rfl
                       rotate_left
                       ·simp only [Act.put, List.setIfInBounds_toArray, List.set_cons_zero, List.set_cons_succ, i64_w, i32_w]
                        rfl
                       refine pure_ (i := 5) (N := some 90) (v := ?_) (a' := ?_) #[true, true, true, true, true, true, false, false, false, false, false, false, false, false, false, false] rfl rfl (any_of HT_.out (by kernel_rfl)) (fun _ _ _ h => h) (Or.inl ⟨by rfl, ?_⟩) ?_ ?_
                       rotate_left
                       ·intro w'
                        go_simp
                        with_reducible rfl
                       rotate_left
                       ·simp only [Act.put, List.setIfInBounds_toArray, List.set_cons_zero, List.set_cons_succ, i64_w, i32_w]
                        rfl
                       refine pure_ (i := 6) (N := some 91) (v := ?_) (a' := ?_) #[true, true, true, true, true, true, true, false, false, false, false, false, false, false, false, false] rfl rfl (any_of HT_.out (by kernel_rfl)) (fun _ _ _ h => h) (Or.inl ⟨by rfl, ?_⟩) ?_ ?_
                       rotate_left
                       ·intro w'
                        go_simp
                        with_reducible rfl
                       rotate_left
                       ·simp only [Act.put, List.setIfInBounds_toArray, List.set_cons_zero, List.set_cons_succ, i64_w, i32_w]
                        rfl
                       refine pure_ (i := 8) (N := some 93) (v := ?_) (a' := ?_) #[true, true, true, true, true, true, true, false, true, false, false, false, false, false, false, false] rfl rfl (any_of HT_.out (by kernel_rfl)) (fun _ _ _ h => h) (Or.inl ⟨by rfl, ?_⟩) ?_ ?_
                       rotate_left
                       ·intro w'
                        go_simp
                        with_reducible rfl
                       rotate_left
                       ·simp only [Act.put, List.setIfInBounds_toArray, List.set_cons_zero, List.set_cons_succ, i64_w, i32_w]
                        rfl
                       refine pure_ (i := 9) (N := some 94) (v := ?_) (a' := ?_) #[true, true, true, true, true, true, true, false, true, true, false, false, false, false, false, false] rfl rfl (any_of HT_.out (by kernel_rfl)) (fun _ _ _ h => h) (Or.inl ⟨by rfl, ?_⟩) ?_ ?_
                       rotate_left
                       ·intro w'
                        go_simp
                        with_reducible rfl
                       rotate_left
                       ·simp only [Act.put, List.setIfInBounds_toArray, List.set_cons_zero, List.set_cons_succ, i64_w, i32_w]
                        rfl
                       refine pure_ (i := 10) (N := some 95) (v := ?_) (a' := ?_) #[true, true, true, true, true, true, true, false, true, true, true, false, false, false, false, false] rfl rfl (any_of HT_.out (by kernel_rfl)) (fun _ _ _ h => h) (Or.inl ⟨by rfl, ?_⟩) ?_ ?_
                       rotate_left
                       ·intro w'
                        go_simp
                        with_reducible rfl
                       rotate_left
                       ·simp only [Act.put, List.setIfInBounds_toArray, List.set_cons_zero, List.set_cons_succ, i64_w, i32_w]
                        rfl
                       refine take_ (i := 7) (N := some 92) (v := ?_) (a' := ?_) #[true, true, true, true, true, true, true, true, true, true, true, false, false, false, false, false] rfl rfl (take_ofW HT_.out HW_.out (by kernel_rfl)) (fun _ _ _ h => h) (Or.inl ⟨by rfl, ?_⟩) hHeld ?_ ?_
                       rotate_left
                       ·rintro w' ⟨s0, s1⟩
                        go_simp
                        with_reducible rfl
                       rotate_left
                       ·simp only [Act.put, List.setIfInBounds_toArray, List.set_cons_zero, List.set_cons_succ, i64_w, i32_w]
                        rfl
                       refine take_ (i := 11) (N := some 96) (v := ?_) (a' := ?_) #[true, true, true, true, true, true, true, true, true, true, true, true, false, false, false, false] rfl rfl (take_ofW HT_.out HW_.out (by kernel_rfl)) (fun _ _ _ h => h) (Or.inl ⟨by rfl, ?_⟩) hHeld ?_ ?_
                       rotate_left
                       ·rintro w' ⟨s0, s1⟩
                        go_simp
                        with_reducible rfl
                       rotate_left
                       ·simp only [Act.put, List.setIfInBounds_toArray, List.set_cons_zero, List.set_cons_succ, i64_w, i32_w]
                        rfl
                       refine pure_ (i := 12) (N := some 97) (v := ?_) (a' := ?_) #[true, true, true, true, true, true, true, true, true, true, true, true, true, false, false, false] rfl rfl (any_of HT_.out (by kernel_rfl)) (fun _ _ _ h => h) (Or.inl ⟨by rfl, ?_⟩) ?_ ?_
                       rotate_left
                       ·intro w'
                        go_simp
                        with_reducible rfl
                       rotate_left
                       ·simp only [Act.put, List.setIfInBounds_toArray, List.set_cons_zero, List.set_cons_succ, i64_w, i32_w]
                        rfl
                       refine last_ (i := 13) (N := none) #[true, true, true, true, true, true, true, true, true, true, true, true, true, true, false, false] rfl rfl (one_of HT_.out (by kernel_rfl)) (by decide) (fun K hK => ?_)
                       refine skip_ (w1 := ?_) (by rfl) rfl ?_ ?_
                       rotate_left
                       ·go_simp
                        rfl
                       refine hK.out _ _ ?_
                       clear hK K
                       refine pure_ (i := 14) (N := some 98) (v := ?_) (a' := ?_) #[true, true, true, true, true, true, true, true, true, true, true, true, true, true, true, false] rfl rfl (any_of HT_.out (by kernel_rfl)) (fun _ _ _ h => h) (Or.inl ⟨by rfl, ?_⟩) ?_ ?_
                       rotate_left
                       ·intro w'
                        go_simp
                        with_reducible rfl
                       rotate_left
                       ·simp only [Act.put, List.setIfInBounds_toArray, List.set_cons_zero, List.set_cons_succ, i64_w, i32_w]
                        rfl
                       refine last_ (i := 15) (N := none) #[true, true, true, true, true, true, true, true, true, true, true, true, true, true, true, true] rfl rfl (one_of HT_.out (by kernel_rfl)) (by decide) (fun K hK => ?_)
                       refine skip_ (w1 := ?_) (by rfl) rfl ?_ ?_
                       rotate_left
                       ·go_simp
                        rfl
                       refine hK.out _ _ ?_
                       clear hK K
                       refine done_ (done_of HT_.out (by kernel_rfl)) ?_
                       try go_wp2
                       go_roundg k3
                       case measure => have := HK1.out; have := HK2.out; have := HK3.out; omega
                       case rel => exact ⟨(y422), (wrap64 (x11_3 + 1)), zq8_10, H', ⟨by have := HK1.out; have := HK2.out; have := HK3.out; omega⟩, ⟨by (with_reducible repeat (first | apply Kd.R_alloc | apply Kd.R_drewN | apply Kd.R_drew)); exact Kd.R_mono (Kd.R_far (p := ⟨go41, ((ji35) : Int).toNat, none⟩) (Kd.R_far (p := ⟨go41, ((ji38) : Int).toNat, none⟩) (Kd.R_mono HO_7.out (fun k_ hk => (⟨hk, fun e_ => hk.1 (by rw [e_]; rfl)⟩ : _ ∧ k_ ≠ go41))) (fun _ hk => hk.2) (.int .i64 (rd x10_3 (ji35)))) (fun _ hk => hk.2) (.int .i64 (rd x10_3 (ji38)))) (fun _ hk => ⟨hk.1.1, hk.1.2⟩)⟩, ⟨by (with_reducible repeat (first | apply Kd.R_alloc | apply Kd.R_drewN | apply Kd.R_drew)); exact HQ47.out⟩, ⟨by (with_reducible repeat (first | apply Kd.R_alloc | apply Kd.R_drewN | apply Kd.R_drew)); exact Kd.R_mono (Kd.R_far (p := ⟨go41, ((ji35) : Int).toNat, none⟩) (Kd.R_far (p := ⟨go41, ((ji38) : Int).toNat, none⟩) (Kd.R_mono HO_401001.out (fun k_ hk => (⟨hk, fun e_ => hk.2 (by rw [e_]; rfl)⟩ : _ ∧ k_ ≠ go41))) (fun _ hk => hk.2) (.int .i64 (rd x10_3 (ji35)))) (fun _ hk => hk.2) (.int .i64 (rd x10_3 (ji38)))) (fun _ hk => ⟨hk.1.1, hk.1.2⟩)⟩, ⟨by (with_reducible repeat (first | refine blk_drewN ?_ _ | refine blk_drew ?_ | refine blk_alloc ?_ _)); refine blk_far ?_ (by have h_ := Kd.R_ne HO_10.out BK400.out (by decide); intro e_; exact h_ (by rw [e_]; rfl)) _; (with_reducible repeat (first | refine blk_drewN ?_ _ | refine blk_drew ?_ | refine blk_alloc ?_ _)); refine blk_far ?_ (by have h_ := Kd.R_ne HO_10.out BK400.out (by decide); intro e_; exact h_ (by rw [e_]; rfl)) _; (with_reducible repeat (first | refine blk_drewN ?_ _ | refine blk_drew ?_ | refine blk_alloc ?_ _)); exact BK400.out⟩, ⟨by (with_reducible repeat (first | refine blk_drewN ?_ _ | refine blk_drew ?_ | refine blk_alloc ?_ _)); refine blk_far ?_ (by have h_ := Kd.R_ne HO_10.out BK401.out (by decide); intro e_; exact h_ (by rw [e_]; rfl)) _; (with_reducible repeat (first | refine blk_drewN ?_ _ | refine blk_drew ?_ | refine blk_alloc ?_ _)); refine blk_far ?_ (by have h_ := Kd.R_ne HO_10.out BK401.out (by decide); intro e_; exact h_ (by rw [e_]; rfl)) _; (with_reducible repeat (first | refine blk_drewN ?_ _ | refine blk_drew ?_ | refine blk_alloc ?_ _)); exact BK401.out⟩, ⟨by repeat (first | (with_reducible first | exact HB.out | apply below_alloc | apply pw_below_drewN | apply below_drew1 | refine below_set ?_ GB41.out | refine below_set ?_ GB41.out | refine below_set ?_ GE400.out | refine below_set ?_ GE401.out) | exact HB.out)⟩⟩
                      ·rw [if_neg c40] at H
                       exact absurd H (by simp)
                     ·rw [if_neg c39] at H
                      exact absurd H (by simp)
                    ·rw [if_neg c37] at H
                     exact absurd H (by simp)
                   ·rw [if_neg c36] at H
                    exact absurd H (by simp)
                 ·rw [if_neg c33] at H
                  exact absurd H (by simp)
               ·rw [if_neg c31] at H
                have c31b0 : decide (x11_3 < 60) = false := decide_eq_false c31
                clear c31
                have H' := Aside0.mk H
                clear H
                obtain ⟨Ao48, co48, eo48⟩ := Kd.R_slice HO_10.out
                subst eo48
                go_wp2
                go_meet
                case rel => exact ⟨_, (x10_3), H', ⟨by have := HK1.out; have := HK2.out; have := HK3.out; first | omega | exact Nat.le_refl _⟩, ⟨by (with_reducible repeat (first | apply Kd.R_alloc | apply Kd.R_drewN | apply Kd.R_drew)); exact HO_7.out⟩, ⟨by (with_reducible repeat (first | apply Kd.R_alloc | apply Kd.R_drewN | apply Kd.R_drew)); exact HO_10.out⟩, ⟨by (with_reducible repeat (first | apply Kd.R_alloc | apply Kd.R_drewN | apply Kd.R_drew)); exact HO_401001.out⟩, ⟨by (with_reducible repeat (first | refine blk_drewN ?_ _ | refine blk_drew ?_ | refine blk_alloc ?_ _)); exact BK400.out⟩, ⟨by (with_reducible repeat (first | refine blk_drewN ?_ _ | refine blk_drew ?_ | refine blk_alloc ?_ _)); exact BK401.out⟩, ⟨by repeat (first | (with_reducible first | exact HB.out | apply below_alloc | apply pw_below_drewN | apply below_drew1 | refine below_set ?_ GE400.out | refine below_set ?_ GE401.out) | exact HB.out)⟩⟩
              ·rw [if_neg c30] at H
               have c30b0 : decide (1 < (x10_3.length : Int)) = false := decide_eq_false c30
               have c30b1 : decide (1 < x10_3.length) = false := decide_eq_false (by omega)
               clear c30
               have H' := Aside0.mk H
               clear H
               obtain ⟨Ao49, co49, eo49⟩ := Kd.R_slice HO_10.out
               subst eo49
               go_wp2
               go_meet
               case rel => exact ⟨_, (x10_3), H', ⟨by have := HK1.out; have := HK2.out; have := HK3.out; first | omega | exact Nat.le_refl _⟩, ⟨by (with_reducible repeat (first | apply Kd.R_alloc | apply Kd.R_drewN | apply Kd.R_drew)); exact HO_7.out⟩, ⟨by (with_reducible repeat (first | apply Kd.R_alloc | apply Kd.R_drewN | apply Kd.R_drew)); exact HO_10.out⟩, ⟨by (with_reducible repeat (first | apply Kd.R_alloc | apply Kd.R_drewN | apply Kd.R_drew)); exact HO_401001.out⟩, ⟨by (with_reducible repeat (first | refine blk_drewN ?_ _ | refine blk_drew ?_ | refine blk_alloc ?_ _)); exact BK400.out⟩, ⟨by (with_reducible repeat (first | refine blk_drewN ?_ _ | refine blk_drew ?_ | refine blk_alloc ?_ _)); exact BK401.out⟩, ⟨by repeat (first | (with_reducible first | exact HB.out | apply below_alloc | apply pw_below_drewN | apply below_drew1 | refine below_set ?_ GE400.out | refine below_set ?_ GE401.out) | exact HB.out)⟩⟩
             ·rw [if_neg c29] at H
              have c29b0 : decide (x11_3 < (l1.length : Int)) = false := decide_eq_false c29
              clear c29
              (first | rw [c29b0] | (simp only [i64_w, i32_w]; rw [c29b0]) | skip)
              have H' := Aside0.mk H
              clear H
              go_wp2
              go_meet
              case rel => exact ⟨_, (x10_3), H', ⟨by have := HK1.out; have := HK2.out; have := HK3.out; first | omega | exact Nat.le_refl _⟩, ⟨by (with_reducible repeat (first | apply Kd.R_alloc | apply Kd.R_drewN | apply Kd.R_drew)); exact HO_7.out⟩, ⟨by (with_reducible repeat (first | apply Kd.R_alloc | apply Kd.R_drewN | apply Kd.R_drew)); exact HO_10.out⟩, ⟨by (with_reducible repeat (first | apply Kd.R_alloc | apply Kd.R_drewN | apply Kd.R_drew)); exact HO_401001.out⟩, ⟨by (with_reducible repeat (first | refine blk_drewN ?_ _ | refine blk_drew ?_ | refine blk_alloc ?_ _)); exact BK400.out⟩, ⟨by (with_reducible repeat (first | refine blk_drewN ?_ _ | refine blk_drew ?_ | refine blk_alloc ?_ _)); exact BK401.out⟩, ⟨by repeat (first | (with_reducible first | exact HB.out | apply below_alloc | apply pw_below_drewN | apply below_drew1 | refine below_set ?_ GE400.out | refine below_set ?_ GE401.out) | exact HB.out)⟩⟩
          case rest =>
           clear HC24
           try clear c1
           try clear c2
           try clear p2
           try clear c3
           try clear c4
           try clear c4b0
           try clear c4b1
           try clear p4
           try clear q4
           try clear hx4
           try clear hf4
           try clear c5
           try clear c5b0
           try clear c5b1
           try clear p6
           try clear c8
           try clear c9
           try clear c9b0
           try clear c10
           try clear c10b0
           try clear c11
           try clear c13
           try clear c13b0
           try clear c14
           try clear c14b0
           try clear c18
           try clear c23
           try clear c29
           try clear c29b0
           try clear c30
           try clear c30b0
           try clear c30b1
           try clear c31
           try clear c31b0
           try clear c32
           try clear c32b0
           try clear c32b1
           try clear c32b2
           try clear c33
           try clear c33b0
           try clear c34
           try clear c34b0
           try clear c34b1
           try clear c36
           try clear c36b0
           try clear c37
           try clear c37b0
           try clear c39
           try clear c39b0
           try clear c40
           try clear c40b0
           try clear p40
           try clear q40
           try clear hx40
           try clear p41
           try clear q41
           try clear hx41
           try clear hf41
           try clear p42
           try clear q42
           try clear hx42
           try clear hf42
           try clear hx403_0
           try clear hx407_0
           try clear hx418_0
           try clear hx419_0
           try clear hx41_0
           try clear hx420_0
           try clear hx42_0
           try clear p2
           try clear p4
           try clear p403
           try clear p407
           try clear p41
           try clear p418
           try clear p419
           try clear p42
           try clear p420
           try clear p6
           try clear q4
           try clear q403
           try clear q407
           try clear q41
           try clear q418
           try clear q419
           try clear q42
           try clear q420
           obtain ⟨kq, x10_23, HA, HJ23, HO_7, HO_10, HO_401001, BK400, BK401, HB⟩ := hcut
           cases kq with
           | zero => exact absurd HA.out (by simp [cenotaphlaw02_SpanOrders.j3])
           | succ kj23 =>
            have H := HA.out
            clear HA
            simp only [cenotaphlaw02_SpanOrders.j3] at H
            have H' := Aside0.mk H
            clear H
            go_wp2
            go_loopg [14] kj23 (fun kq v14 w' => ∃ (x14_4 : Int) (x402000_4 : Int) (x402001_4 : List Int) (u402001 : Value), v14 = .int .i64 x14_4 ∧ Aside0 (cenotaphlaw02_SpanOrders.l3 kq x7_1 x10_23 x14_4 x401000_2 x401001_2 x402000_4 x402001_4 = some r) ∧ Aside0 (kq ≤ kj23) ∧ Aside0 (Kd.R (Kd.int .i64) 3 w' w.heap.size (fun k_ => some k_ ≠ (v416 : Value).ownBlock ∧ some k_ ≠ (u401001 : Value).ownBlock ∧ some k_ ≠ (u402001 : Value).ownBlock) (.slice Ao25 x7_1.length co25) x7_1) ∧ Aside0 (Kd.R (Kd.int .i64) 3 w' w.heap.size (fun k_ => some k_ ≠ ((.slice Ao25 x7_1.length co25) : Value).ownBlock ∧ some k_ ≠ (u401001 : Value).ownBlock ∧ some k_ ≠ (u402001 : Value).ownBlock) v416 x10_23) ∧ Aside0 (Kd.R (Kd.int .i64) 3 w' w.heap.size (fun k_ => some k_ ≠ ((.slice Ao25 x7_1.length co25) : Value).ownBlock ∧ some k_ ≠ (v416 : Value).ownBlock ∧ some k_ ≠ (u402001 : Value).ownBlock) u401001 x401001_2) ∧ Aside0 (Kd.R (Kd.int .i64) 3 w' w.heap.size (fun k_ => some k_ ≠ ((.slice Ao25 x7_1.length co25) : Value).ownBlock ∧ some k_ ≠ (v416 : Value).ownBlock ∧ some k_ ≠ (u401001 : Value).ownBlock) u402001 x402001_4) ∧ Aside0 (w'.heap[gb400]? = some (.cells #[.int .i64 x401000_2, u401001] 24 (0, 0))) ∧ Aside0 (w'.heap[gb401]? = some (.cells #[.int .i64 x402000_4, u402001] 24 (0, 0))) ∧ Aside0 (Below w.heap.size w w'))
            case atStart => exact ⟨(0), (0), (([] : List Int)), (.slice none 0 0), zq8_10, H', ⟨Nat.le_refl _⟩, ⟨by (with_reducible repeat (first | apply Kd.R_alloc | apply Kd.R_drewN | apply Kd.R_drew)); exact Kd.R_mono HO_7.out (fun _ hk => ⟨hk.1, ⟨hk.2, (by simp [Value.ownBlock])⟩⟩)⟩, ⟨by (with_reducible repeat (first | apply Kd.R_alloc | apply Kd.R_drewN | apply Kd.R_drew)); exact Kd.R_mono HO_10.out (fun _ hk => ⟨hk.1, ⟨hk.2, (by simp [Value.ownBlock])⟩⟩)⟩, ⟨by (with_reducible repeat (first | apply Kd.R_alloc | apply Kd.R_drewN | apply Kd.R_drew)); exact Kd.R_mono HO_401001.out (fun _ hk => ⟨hk.1, ⟨hk.2, (by simp [Value.ownBlock])⟩⟩)⟩, ⟨by first | exact Kd.R_nil _ _ _ _ _ | exact Kd.N_nil _ _ _ _ _ | exact Kd.V_nil _ _ _ _ _ | exact Kd.Q_nil _ _ _ _ _ | exact Kd.S_nil _ _ _ _ _⟩, ⟨by (with_reducible repeat (first | refine blk_drewN ?_ _ | refine blk_drew ?_ | refine blk_alloc ?_ _)); exact BK400.out⟩, ⟨by (with_reducible repeat (first | refine blk_drewN ?_ _ | refine blk_drew ?_ | refine blk_alloc ?_ _)); exact BK401.out⟩, ⟨by repeat (first | (with_reducible first | exact HB.out | apply below_alloc | apply pw_below_drewN | apply below_drew1 | refine below_set ?_ GE400.out | refine below_set ?_ GE401.out) | exact HB.out)⟩⟩
            case round =>
             clear H'
             try clear c1
             try clear c2
             try clear p2
             try clear c3
             try clear c4
             try clear c4b0
             try clear c4b1
             try clear p4
             try clear q4
             try clear hx4
             try clear hf4
             try clear c5
             try clear c5b0
             try clear c5b1
             try clear p6
             try clear c8
             try clear c9
             try clear c9b0
             try clear c10
             try clear c10b0
             try clear c11
             try clear c13
             try clear c13b0
             try clear c14
             try clear c14b0
             try clear c18
             try clear c23
             try clear c29
             try clear c29b0
             try clear c30
             try clear c30b0
             try clear c30b1
             try clear c31
             try clear c31b0
             try clear c32
             try clear c32b0
             try clear c32b1
             try clear c32b2
             try clear c33
             try clear c33b0
             try clear c34
             try clear c34b0
             try clear c34b1
             try clear c36
             try clear c36b0
             try clear c37
             try clear c37b0
             try clear c39
             try clear c39b0
             try clear c40
             try clear c40b0
             try clear p40
             try clear q40
             try clear hx40
             try clear p41
             try clear q41
             try clear hx41
             try clear hf41
             try clear p42
             try clear q42
             try clear hx42
             try clear hf42
             try clear hx403_0
             try clear hx407_0
             try clear hx418_0
             try clear hx419_0
             try clear hx41_0
             try clear hx420_0
             try clear hx42_0
             try clear p2
             try clear p4
             try clear p40
             try clear p403
             try clear p407
             try clear p41
             try clear p418
             try clear p419
             try clear p42
             try clear p420
             try clear p6
             try clear q4
             try clear q40
             try clear q403
             try clear q407
             try clear q41
             try clear q418
             try clear q419
             try clear q42
             try clear q420
             obtain ⟨x14_4, x402000_4, x402001_4, u402001, rfl, HA, HK4, HO_7, HO_10, HO_401001, HO_402001, BK400, BK401, HB⟩ := hrel
             cases gk with
             | zero => exact absurd HA.out (by simp [cenotaphlaw02_SpanOrders.l3])
             | succ k4 =>
              have H := HA.out
              clear HA
              simp only [cenotaphlaw02_SpanOrders.l3] at H
              by_cases c50 : x14_4 < (x10_23.length : Int)
              ·rw [if_pos c50] at H
               have c50b0 : decide (x14_4 < (x10_23.length : Int)) = true := decide_eq_true c50
               clear c50
               by_cases c51 : 0 ≤ x14_4
               ·rw [if_pos c51] at H
                have c51b0 : decide (0 ≤ x14_4) = true := decide_eq_true c51
                clear c51
                replace H := Option.bind_eq_some_iff.mp H
                obtain ⟨⟨t424, t425⟩, A520, H⟩ := H
                replace H : (cenotaphlaw02_SpanOrders.l3 k4 x7_1 x10_23 (wrap64 (x14_4 + 1)) x401000_2 x401001_2 t424 t425) = some r := H
                have A52 := Aside0.mk A520
                clear A520
                have H' := Aside0.mk H
                clear H
                obtain ⟨Ao53, co53, eo53⟩ := Kd.R_slice HO_10.out
                subst eo53
                try go_wp2
                replace HO_7 := Aside0.mk (Kd.R_drew HO_7.out)
                replace HO_10 := Aside0.mk (Kd.R_drew HO_10.out)
                replace HO_401001 := Aside0.mk (Kd.R_drew HO_401001.out)
                replace HO_402001 := Aside0.mk (Kd.R_drew HO_402001.out)
                replace BK400 := Aside0.mk (blk_drew BK400.out)
                replace BK401 := Aside0.mk (blk_drew BK401.out)
                replace HB := Aside0.mk (below_drew1 HB.out)
                have p423 : 0 ≤ (x14_4 : Int) := of_decide_eq_true zq8_9
                have q423 : x14_4 < (x10_23.length : Int) := of_decide_eq_true zq8_9
                obtain ⟨ad423, e423, hx423_0⟩ := Kd.at_int (Kd.R_reads' HO_10.out).2.2 x14_4 p423 q423
                cases e423
                replace p423 := eq_true p423
                replace q423 := eq_true q423
                obtain ⟨Ao55, co55, eo55⟩ := Kd.R_slice HO_402001.out
                (first | subst eo55 | (injection eo55 with f1_ f2_ f3_; have f4_ := f1_.symm; have f5_ := f3_.symm; clear f1_ f2_ f3_; subst f4_; subst f5_))
                refine start_ (n := 7) (S := fun w' => w'.cell? ⟨gb401, 0, none⟩ = some (.int .i64 x402000_4) ∧ w'.cell? ⟨gb401, 1, none⟩ = some (.slice Ao55 x402001_4.length co55) ∧ w'.cell? (ad423.add (x14_4).toNat) = some (.int .i64 (rd x10_23 x14_4))) (ds := [6]) #[false, false, false, false, false, false, false] (by kernel_rfl) rfl rfl ⟨(blk_cell BK401.out 0).trans rfl, (blk_cell BK401.out 1).trans rfl, hx423_0⟩ (fun hHeld => ?_)
                generalize wr.drew = w54 at HO_7 HO_10 HO_401001 HO_402001 BK400 BK401 HB hx423_0 hHeld ⊢
                refine pure_ (i := 1) (N := some 106) (v := ?_) (a' := ?_) #[false, true, false, false, false, false, false] rfl rfl (by kernel_rfl) (fun _ _ _ h => h) (Or.inl ⟨by rfl, ?_⟩) ?_ ?_
                rotate_left
                ·intro w'
                 go_simp
                 with_reducible rfl
                rotate_left
                ·simp only [Act.put, List.setIfInBounds_toArray, List.set_cons_zero, List.set_cons_succ, i64_w, i32_w]
                 rfl
                refine pure_ (i := 2) (N := some 107) (v := ?_) (a' := ?_) #[false, true, true, false, false, false, false] rfl rfl (by kernel_rfl) (fun _ _ _ h => h) (Or.inl ⟨by rfl, ?_⟩) ?_ ?_
                rotate_left
                ·intro w'
                 go_simp
                 with_reducible rfl
                rotate_left
                ·simp only [Act.put, List.setIfInBounds_toArray, List.set_cons_zero, List.set_cons_succ, i64_w, i32_w]
                 rfl
                refine pure_ (i := 3) (N := some 108) (v := ?_) (a' := ?_) #[false, true, true, true, false, false, false] rfl rfl (by kernel_rfl) (fun _ _ _ h => h) (Or.inl ⟨by rfl, ?_⟩) ?_ ?_
                rotate_left
                ·intro w'
                 go_simp
                 with_reducible rfl
                rotate_left
                ·simp only [Act.put, List.setIfInBounds_toArray, List.set_cons_zero, List.set_cons_succ, i64_w, i32_w]
                 rfl
                refine take_ (i := 0) (N := some 105) (v := ?_) (a' := ?_) #[true, true, true, true, false, false, false] rfl rfl (by kernel_rfl) (fun _ _ _ h => h) (Or.inl ⟨by rfl, ?_⟩) hHeld ?_ ?_
                rotate_left
                ·rintro w' ⟨s0, s1, s2⟩
                 go_simp
                 with_reducible rfl
                rotate_left
                ·simp only [Act.put, List.setIfInBounds_toArray, List.set_cons_zero, List.set_cons_succ, i64_w, i32_w]
                 rfl
                refine take_ (i := 4) (N := some 109) (v := ?_) (a' := ?_) #[true, true, true, true, true, false, false] rfl rfl (by kernel_rfl) (fun _ _ _ h => h) (Or.inl ⟨by rfl, ?_⟩) hHeld ?_ ?_
                rotate_left
                ·rintro w' ⟨s0, s1, s2⟩
                 go_simp
                 with_reducible rfl
                rotate_left
                ·simp only [Act.put, List.setIfInBounds_toArray, List.set_cons_zero, List.set_cons_succ, i64_w, i32_w]
                 rfl
                refine one_ (i := 5) (N := some 110) #[true, true, true, true, true, true, false] rfl rfl (by kernel_rfl) (by decide) (fun K hK => ?_)
                refine goes_ Try.func18 (by kernel_rfl) rfl #[.agg #[.int .i64 x402000_4, .slice Ao55 x402001_4.length co55], .int .i64 (rd x10_23 x14_4)] (by rfl) rfl rfl zq8_2 ?_
                with_reducible refine (span_Add.calls k4 x402000_4 _ _ x402001_4 (rd x10_23 x14_4) t424 t425 _ ?side1 ?side2 A52.out).mono ?_
                (case side1 => repeat (first | exact (Kd.R_reads' HO_402001.out).2.2 | (with_reducible refine Kd.C_alloc ?_ _) | (with_reducible refine Kd.C_drewN ?_ _) | (with_reducible refine Kd.C_drew ?_)))
                (case side2 => exact (Kd.R_reads' HO_402001.out).2.1)
                rintro e w56 ⟨v426, rfl, ho0, hb⟩
                have HS2_ := (hb.cell (World.block_lt_of_cell? _ _ (hHeld.2.2))).trans (hHeld.2.2)
                refine ⟨_, rfl, ?_⟩
                have HO427 := Aside0.mk (Kd.R_lower (Kd.R_new' (Kd.R_new' (Kd.R_new' (Kd.R_new' ho0 (Kd.R_lt zq8_8)) (Kd.R_lt (by (with_reducible repeat (first | apply Kd.R_alloc | apply Kd.R_drewN | apply Kd.R_drew)); exact HO_10.out))) (Kd.R_lt zq8_6)) (Kd.R_lt zq8_7)) (below_size zq8_0))
                replace HO_7 := Aside0.mk (Kd.R_elder' zq8_8 (Kd.R_base ho0) hb)
                replace HO_10 := Aside0.mk (Kd.R_elder' (by (with_reducible repeat (first | apply Kd.R_alloc | apply Kd.R_drewN | apply Kd.R_drew)); exact HO_10.out) (Kd.R_base ho0) hb)
                replace HO_401001 := Aside0.mk (Kd.R_elder' zq8_6 (Kd.R_base ho0) hb)
                replace HO_402001 := Aside0.mk (Kd.R_elder' zq8_7 (Kd.R_base ho0) hb)
                replace BK400 := Aside0.mk (blk_below (g := gb400) (o := .cells #[.int .i64 x401000_2, u401001] 24 (0, 0)) zq8_4 hb)
                replace BK401 := Aside0.mk (blk_below (g := gb401) (o := .cells #[.int .i64 x402000_4, .slice Ao55 x402001_4.length co55] 24 (0, 0)) zq8_5 hb)
                replace HB := Aside0.mk (below_step zq8_0 hb)
                (try clear hb)
                (try clear hb2)
                (try clear hk)
                (try clear hi)
                (try clear ho0)
                obtain ⟨Ao58, co58, eo58⟩ := Kd.R_slice HO427.out
                (first | subst eo58 | (injection eo58 with f1_ f2_ f3_; have f4_ := f1_.symm; have f5_ := f3_.symm; clear f1_ f2_ f3_; subst f4_; subst f5_))
                refine hK.out _ _ ⟨(blk_cell BK401.out 0).trans rfl, (blk_cell BK401.out 1).trans rfl, HS2_⟩ (fun hHeld => ?_)
                clear hK K
                refine norm_ (a' := ?_) ?_ ?_
                rotate_left
                ·show Act.put _ (some 110) _ = _
                 simp only [Act.put, List.setIfInBounds_toArray, List.set_cons_zero, List.set_cons_succ, i64_w, i32_w]
                 rfl
                refine last_ (i := 6) (N := none) #[true, true, true, true, true, true, true] rfl rfl (by kernel_rfl) (by decide) (fun K hK => ?_)
                have hs57 : w56.cell? ⟨gb401, 0, none⟩ = some (.int .i64 x402000_4) := (blk_cell BK401.out 0).trans rfl
                have hfs57 := blk_frozen BK401.out 0
                have hns57_0 := NB400_401.out
                have hms57_0 := NB401_400.out
                have hs59 : w56.cell? ⟨gb401, 1, none⟩ = some (.slice Ao55 x402001_4.length co55) := (blk_cell BK401.out 1).trans rfl
                have hfs59 := blk_frozen BK401.out 1
                have hns59_0 := NB400_401.out
                have hms59_0 := NB401_400.out
                refine skip_ (w1 := ?_) (by rfl) rfl ?_ ?_
                rotate_left
                ·go_simp
                 rfl
                refine hK.out _ _ ?_
                clear hK K
                refine done_ (by kernel_rfl) ?_
                try go_wp2
                go_roundg k4
                case measure => have := HK1.out; have := HK2.out; have := HJ23.out; have := HK4.out; omega
                case rel => exact ⟨(wrap64 (x14_4 + 1)), (t424), (t425), (.slice Ao58 t425.length co58), zq8_10, H', ⟨by have := HK1.out; have := HK2.out; have := HJ23.out; have := HK4.out; omega⟩, ⟨by (with_reducible repeat (first | apply Kd.R_alloc | apply Kd.R_drewN | apply Kd.R_drew)); exact Kd.R_mono (Kd.R_far (p := ⟨gb401, 1, none⟩) (Kd.R_far (p := ⟨gb401, 0, none⟩) (Kd.R_types HO_7.out BK401.out (by decide)) (fun _ hk => hk.2) (.int .i64 t424)) (fun _ hk => hk.2) (.slice Ao58 t425.length co58)) (fun _ hk => ⟨hk.1.1.1, ⟨hk.1.1.2.1, hk.1.2⟩⟩)⟩, ⟨by (with_reducible repeat (first | apply Kd.R_alloc | apply Kd.R_drewN | apply Kd.R_drew)); exact Kd.R_mono (Kd.R_far (p := ⟨gb401, 1, none⟩) (Kd.R_far (p := ⟨gb401, 0, none⟩) (Kd.R_types HO_10.out BK401.out (by decide)) (fun _ hk => hk.2) (.int .i64 t424)) (fun _ hk => hk.2) (.slice Ao58 t425.length co58)) (fun _ hk => ⟨hk.1.1.1, ⟨hk.1.1.2.1, hk.1.2⟩⟩)⟩, ⟨by (with_reducible repeat (first | apply Kd.R_alloc | apply Kd.R_drewN | apply Kd.R_drew)); exact Kd.R_mono (Kd.R_far (p := ⟨gb401, 1, none⟩) (Kd.R_far (p := ⟨gb401, 0, none⟩) (Kd.R_types HO_401001.out BK401.out (by decide)) (fun _ hk => hk.2) (.int .i64 t424)) (fun _ hk => hk.2) (.slice Ao58 t425.length co58)) (fun _ hk => ⟨hk.1.1.1, ⟨hk.1.1.2.1, hk.1.2⟩⟩)⟩, ⟨by (with_reducible repeat (first | apply Kd.R_alloc | apply Kd.R_drewN | apply Kd.R_drew)); exact Kd.R_mono (Kd.R_far (p := ⟨gb401, 1, none⟩) (Kd.R_far (p := ⟨gb401, 0, none⟩) (Kd.R_types HO427.out BK401.out (by decide)) (fun _ hk => hk.2) (.int .i64 t424)) (fun _ hk => hk.2) (.slice Ao58 t425.length co58)) (fun _ hk => ⟨hk.1.1.1.1.2, ⟨hk.1.1.1.2, hk.1.1.2⟩⟩)⟩, ⟨by (with_reducible repeat (first | refine blk_drewN ?_ _ | refine blk_drew ?_ | refine blk_alloc ?_ _)); refine blk_far ?_ NB400_401.out _; (with_reducible repeat (first | refine blk_drewN ?_ _ | refine blk_drew ?_ | refine blk_alloc ?_ _)); refine blk_far ?_ NB400_401.out _; (with_reducible repeat (first | refine blk_drewN ?_ _ | refine blk_drew ?_ | refine blk_alloc ?_ _)); exact BK400.out⟩, ⟨by (with_reducible repeat (first | refine blk_drewN ?_ _ | refine blk_drew ?_ | refine blk_alloc ?_ _)); refine blk_put (cs := #[.int .i64 t424, .slice Ao55 x402001_4.length co55]) ?_ 1 _ rfl; (with_reducible repeat (first | refine blk_drewN ?_ _ | refine blk_drew ?_ | refine blk_alloc ?_ _)); refine blk_put (cs := #[.int .i64 x402000_4, .slice Ao55 x402001_4.length co55]) ?_ 0 _ rfl; (with_reducible repeat (first | refine blk_drewN ?_ _ | refine blk_drew ?_ | refine blk_alloc ?_ _)); exact BK401.out⟩, ⟨by repeat (first | (with_reducible first | exact HB.out | apply below_alloc | apply pw_below_drewN | apply below_drew1 | refine below_set ?_ GE400.out | refine below_set ?_ GE401.out) | exact HB.out)⟩⟩
               ·rw [if_neg c51] at H
                exact absurd H (by simp)
              ·rw [if_neg c50] at H
               have c50b0 : decide (x14_4 < (x10_23.length : Int)) = false := decide_eq_false c50
               clear c50
               have H' := Aside0.mk H
               clear H
               obtain ⟨Ao60, co60, eo60⟩ := Kd.R_slice HO_10.out
               subst eo60
               go_wp2
               go_loopg [15, 16] k4 (fun kq v15 v16 w' => ∃ (x15_5 : Int) (x16_5 : Int), v15 = .int .i64 x15_5 ∧ v16 = .int .i64 x16_5 ∧ Aside0 (cenotaphlaw02_SpanOrders.l4 kq x7_1 x15_5 x16_5 x401000_2 x401001_2 x402000_4 x402001_4 = some r) ∧ Aside0 (kq ≤ k4) ∧ Aside0 (Kd.R (Kd.int .i64) 3 w' w.heap.size (fun k_ => some k_ ≠ (u401001 : Value).ownBlock ∧ some k_ ≠ (u402001 : Value).ownBlock) (.slice Ao25 x7_1.length co25) x7_1) ∧ Aside0 (Kd.R (Kd.int .i64) 3 w' w.heap.size (fun k_ => some k_ ≠ ((.slice Ao25 x7_1.length co25) : Value).ownBlock ∧ some k_ ≠ (u402001 : Value).ownBlock) u401001 x401001_2) ∧ Aside0 (Kd.R (Kd.int .i64) 3 w' w.heap.size (fun k_ => some k_ ≠ ((.slice Ao25 x7_1.length co25) : Value).ownBlock ∧ some k_ ≠ (u401001 : Value).ownBlock) u402001 x402001_4) ∧ Aside0 (w'.heap[gb400]? = some (.cells #[.int .i64 x401000_2, u401001] 24 (0, 0))) ∧ Aside0 (w'.heap[gb401]? = some (.cells #[.int .i64 x402000_4, u402001] 24 (0, 0))) ∧ Aside0 (Below w.heap.size w w'))
               case atStart => exact ⟨(0), (1), zq8_10, zq8_10, H', ⟨Nat.le_refl _⟩, ⟨by (with_reducible repeat (first | apply Kd.R_alloc | apply Kd.R_drewN | apply Kd.R_drew)); exact Kd.R_mono HO_7.out (fun _ hk => ⟨hk.2.1, hk.2.2⟩)⟩, ⟨by (with_reducible repeat (first | apply Kd.R_alloc | apply Kd.R_drewN | apply Kd.R_drew)); exact Kd.R_mono HO_401001.out (fun _ hk => ⟨hk.1, hk.2.2⟩)⟩, ⟨by (with_reducible repeat (first | apply Kd.R_alloc | apply Kd.R_drewN | apply Kd.R_drew)); exact Kd.R_mono HO_402001.out (fun _ hk => ⟨hk.1, hk.2.2⟩)⟩, ⟨by (with_reducible repeat (first | refine blk_drewN ?_ _ | refine blk_drew ?_ | refine blk_alloc ?_ _)); exact BK400.out⟩, ⟨by (with_reducible repeat (first | refine blk_drewN ?_ _ | refine blk_drew ?_ | refine blk_alloc ?_ _)); exact BK401.out⟩, ⟨by repeat (first | (with_reducible first | exact HB.out | apply below_alloc | apply pw_below_drewN | apply below_drew1 | refine below_set ?_ GE400.out | refine below_set ?_ GE401.out) | exact HB.out)⟩⟩
               case round =>
                clear H'
                try clear c1
                try clear c2
                try clear p2
                try clear c3
                try clear c4
                try clear c4b0
                try clear c4b1
                try clear p4
                try clear q4
                try clear hx4
                try clear hf4
                try clear c5
                try clear c5b0
                try clear c5b1
                try clear p6
                try clear c8
                try clear c9
                try clear c9b0
                try clear c10
                try clear c10b0
                try clear c11
                try clear c13
                try clear c13b0
                try clear c14
                try clear c14b0
                try clear c18
                try clear c23
                try clear c29
                try clear c29b0
                try clear c30
                try clear c30b0
                try clear c30b1
                try clear c31
                try clear c31b0
                try clear c32
                try clear c32b0
                try clear c32b1
                try clear c32b2
                try clear c33
                try clear c33b0
                try clear c34
                try clear c34b0
                try clear c34b1
                try clear c36
                try clear c36b0
                try clear c37
                try clear c37b0
                try clear c39
                try clear c39b0
                try clear c40
                try clear c40b0
                try clear p40
                try clear q40
                try clear hx40
                try clear p41
                try clear q41
                try clear hx41
                try clear hf41
                try clear p42
                try clear q42
                try clear hx42
                try clear hf42
                try clear c50
                try clear c50b0
                try clear c51
                try clear c51b0
                try clear hx403_0
                try clear hx407_0
                try clear hx418_0
                try clear hx419_0
                try clear hx41_0
                try clear hx420_0
                try clear hx423_0
                try clear hx42_0
                try clear p2
                try clear p4
                try clear p40
                try clear p403
                try clear p407
                try clear p41
                try clear p418
                try clear p419
                try clear p42
                try clear p420
                try clear p423
                try clear p6
                try clear q4
                try clear q40
                try clear q403
                try clear q407
                try clear q41
                try clear q418
                try clear q419
                try clear q42
                try clear q420
                try clear q423
                obtain ⟨x15_5, x16_5, rfl, rfl, HA, HK5, HO_7, HO_401001, HO_402001, BK400, BK401, HB⟩ := hrel
                cases gk with
                | zero => exact absurd HA.out (by simp [cenotaphlaw02_SpanOrders.l4])
                | succ k5 =>
                 have H := HA.out
                 clear HA
                 simp only [cenotaphlaw02_SpanOrders.l4] at H
                 by_cases c61 : x16_5 ≤ 50
                 ·rw [if_pos c61] at H
                  have c61b0 : decide (x16_5 ≤ 50) = true := decide_eq_true c61
                  clear c61
                  have H' := Aside0.mk H
                  clear H
                  go_wp2
                  go_loopg [17, 18] k5 (fun kq v17 v18 w' => ∃ (x17_6 : Bool) (x18_6 : Int), v17 = .bool x17_6 ∧ v18 = .int .i64 x18_6 ∧ Aside0 (cenotaphlaw02_SpanOrders.l5 kq x7_1 x15_5 x16_5 x17_6 x18_6 x401000_2 x401001_2 x402000_4 x402001_4 = some r) ∧ Aside0 (kq ≤ k5) ∧ Aside0 (Kd.R (Kd.int .i64) 3 w' w.heap.size (fun k_ => some k_ ≠ (u401001 : Value).ownBlock ∧ some k_ ≠ (u402001 : Value).ownBlock) (.slice Ao25 x7_1.length co25) x7_1) ∧ Aside0 (Kd.R (Kd.int .i64) 3 w' w.heap.size (fun k_ => some k_ ≠ ((.slice Ao25 x7_1.length co25) : Value).ownBlock ∧ some k_ ≠ (u402001 : Value).ownBlock) u401001 x401001_2) ∧ Aside0 (Kd.R (Kd.int .i64) 3 w' w.heap.size (fun k_ => some k_ ≠ ((.slice Ao25 x7_1.length co25) : Value).ownBlock ∧ some k_ ≠ (u401001 : Value).ownBlock) u402001 x402001_4) ∧ Aside0 (w'.heap[gb400]? = some (.cells #[.int .i64 x401000_2, u401001] 24 (0, 0))) ∧ Aside0 (w'.heap[gb401]? = some (.cells #[.int .i64 x402000_4, u402001] 24 (0, 0))) ∧ Aside0 (Below w.heap.size w w'))
                  case atStart => exact ⟨(false), (0), zq8_10, zq8_10, H', ⟨Nat.le_refl _⟩, ⟨by (with_reducible repeat (first | apply Kd.R_alloc | apply Kd.R_drewN | apply Kd.R_drew)); exact HO_7.out⟩, ⟨by (with_reducible repeat (first | apply Kd.R_alloc | apply Kd.R_drewN | apply Kd.R_drew)); exact HO_401001.out⟩, ⟨by (with_reducible repeat (first | apply Kd.R_alloc | apply Kd.R_drewN | apply Kd.R_drew)); exact HO_402001.out⟩, ⟨by (with_reducible repeat (first | refine blk_drewN ?_ _ | refine blk_drew ?_ | refine blk_alloc ?_ _)); exact BK400.out⟩, ⟨by (with_reducible repeat (first | refine blk_drewN ?_ _ | refine blk_drew ?_ | refine blk_alloc ?_ _)); exact BK401.out⟩, ⟨by repeat (first | (with_reducible first | exact HB.out | apply below_alloc | apply pw_below_drewN | apply below_drew1 | refine below_set ?_ GE400.out | refine below_set ?_ GE401.out) | exact HB.out)⟩⟩
                  case round =>
                   clear H'
                   try clear c1
                   try clear c2
                   try clear p2
                   try clear c3
                   try clear c4
                   try clear c4b0
                   try clear c4b1
                   try clear p4
                   try clear q4
                   try clear hx4
                   try clear hf4
                   try clear c5
                   try clear c5b0
                   try clear c5b1
                   try clear c6
                   try clear p6
                   try clear c8
                   try clear c9
                   try clear c9b0
                   try clear c10
                   try clear c10b0
                   try clear c11
                   try clear c13
                   try clear c13b0
                   try clear c14
                   try clear c14b0
                   try clear c18
                   try clear c23
                   try clear c29
                   try clear c29b0
                   try clear c30
                   try clear c30b0
                   try clear c30b1
                   try clear c31
                   try clear c31b0
                   try clear c32
                   try clear c32b0
                   try clear c32b1
                   try clear c32b2
                   try clear c33
                   try clear c33b0
                   try clear c34
                   try clear c34b0
                   try clear c34b1
                   try clear c36
                   try clear c36b0
                   try clear c37
                   try clear c37b0
                   try clear c39
                   try clear c39b0
                   try clear c40
                   try clear c40b0
                   try clear p40
                   try clear q40
                   try clear hx40
                   try clear p41
                   try clear q41
                   try clear hx41
                   try clear hf41
                   try clear p42
                   try clear q42
                   try clear hx42
                   try clear hf42
                   try clear c50
                   try clear c50b0
                   try clear c51
                   try clear c51b0
                   try clear c61
                   try clear c61b0
                   try clear hx403_0
                   try clear hx407_0
                   try clear hx418_0
                   try clear hx419_0
                   try clear hx41_0
                   try clear hx420_0
                   try clear hx423_0
                   try clear hx42_0
                   try clear p2
                   try clear p4
                   try clear p40
                   try clear p403
                   try clear p407
                   try clear p41
                   try clear p418
                   try clear p419
                   try clear p42
                   try clear p420
                   try clear p423
                   try clear p6
                   try clear q4
                   try clear q40
                   try clear q403
                   try clear q407
                   try clear q41
                   try clear q418
                   try clear q419
                   try clear q42
                   try clear q420
                   try clear q423
                   obtain ⟨x17_6, x18_6, rfl, rfl, HA, HK6, HO_7, HO_401001, HO_402001, BK400, BK401, HB⟩ := hrel
                   cases gk with
                   | zero => exact absurd HA.out (by simp [cenotaphlaw02_SpanOrders.l5])
                   | succ k6 =>
                    have H := HA.out
                    clear HA
                    simp only [cenotaphlaw02_SpanOrders.l5] at H
                    by_cases c62 : x18_6 < (x7_1.length : Int)
                    ·rw [if_pos c62] at H
                     have c62b0 : decide (x18_6 < (x7_1.length : Int)) = true := decide_eq_true c62
                     clear c62
                     by_cases c63 : x17_6 = true
                     ·subst c63
                      have H1 : (cenotaphlaw02_SpanOrders.l5 k6 x7_1 x15_5 x16_5 true (wrap64 (x18_6 + 1)) x401000_2 x401001_2 x402000_4 x402001_4) = some r := by rw [if_pos rfl] at H; exact H
                      clear H
                      have H := H1
                      clear H1
                      have H' := Aside0.mk H
                      clear H
                      go_wp2
                      go_roundg k6
                      case measure => have := HK1.out; have := HK2.out; have := HJ23.out; have := HK4.out; have := HK5.out; have := HK6.out; omega
                      case rel => exact ⟨(true), (wrap64 (x18_6 + 1)), zq8_10, zq8_10, H', ⟨by have := HK1.out; have := HK2.out; have := HJ23.out; have := HK4.out; have := HK5.out; have := HK6.out; omega⟩, ⟨by (with_reducible repeat (first | apply Kd.R_alloc | apply Kd.R_drewN | apply Kd.R_drew)); exact HO_7.out⟩, ⟨by (with_reducible repeat (first | apply Kd.R_alloc | apply Kd.R_drewN | apply Kd.R_drew)); exact HO_401001.out⟩, ⟨by (with_reducible repeat (first | apply Kd.R_alloc | apply Kd.R_drewN | apply Kd.R_drew)); exact HO_402001.out⟩, ⟨by (with_reducible repeat (first | refine blk_drewN ?_ _ | refine blk_drew ?_ | refine blk_alloc ?_ _)); exact BK400.out⟩, ⟨by (with_reducible repeat (first | refine blk_drewN ?_ _ | refine blk_drew ?_ | refine blk_alloc ?_ _)); exact BK401.out⟩, ⟨by repeat (first | (with_reducible first | exact HB.out | apply below_alloc | apply pw_below_drewN | apply below_drew1 | refine below_set ?_ GE400.out | refine below_set ?_ GE401.out) | exact HB.out)⟩⟩
                     ·replace c63 := Bool.eq_false_iff.mpr c63
                      subst c63
                      have H1 : (if 0 ≤ x18_6 then (cenotaphlaw02_SpanOrders.l5 k6 x7_1 x15_5 x16_5 ((rd x7_1 x18_6) == x16_5) (wrap64 (x18_6 + 1)) x401000_2 x401001_2 x402000_4 x402001_4) else (none)) = some r := by rw [if_neg (show ¬ (false = true) by decide)] at H; exact H
                      clear H
                      have H := H1
                      clear H1
                      by_cases c64 : 0 ≤ x18_6
                      ·rw [if_pos c64] at H
                       have c64b0 : decide (0 ≤ x18_6) = true := decide_eq_true c64
                       clear c64
                       have H' := Aside0.mk H
                       clear H
                       have p428 : 0 ≤ (x18_6 : Int) := of_decide_eq_true zq8_9
                       have q428 : x18_6 < (x7_1.length : Int) := of_decide_eq_true zq8_9
                       obtain ⟨ad428, e428, hx428_0⟩ := Kd.at_int (Kd.R_reads' HO_7.out).2.2 x18_6 p428 q428
                       cases e428
                       replace p428 := eq_true p428
                       replace q428 := eq_true q428
                       go_wp2
                       go_roundg k6
                       case measure => have := HK1.out; have := HK2.out; have := HJ23.out; have := HK4.out; have := HK5.out; have := HK6.out; omega
                       case rel => exact ⟨(((rd x7_1 x18_6) == x16_5)), (wrap64 (x18_6 + 1)), zq8_10, zq8_10, H', ⟨by have := HK1.out; have := HK2.out; have := HJ23.out; have := HK4.out; have := HK5.out; have := HK6.out; omega⟩, ⟨by (with_reducible repeat (first | apply Kd.R_alloc | apply Kd.R_drewN | apply Kd.R_drew)); exact HO_7.out⟩, ⟨by (with_reducible repeat (first | apply Kd.R_alloc | apply Kd.R_drewN | apply Kd.R_drew)); exact HO_401001.out⟩, ⟨by (with_reducible repeat (first | apply Kd.R_alloc | apply Kd.R_drewN | apply Kd.R_drew)); exact HO_402001.out⟩, ⟨by (with_reducible repeat (first | refine blk_drewN ?_ _ | refine blk_drew ?_ | refine blk_alloc ?_ _)); exact BK400.out⟩, ⟨by (with_reducible repeat (first | refine blk_drewN ?_ _ | refine blk_drew ?_ | refine blk_alloc ?_ _)); exact BK401.out⟩, ⟨by repeat (first | (with_reducible first | exact HB.out | apply below_alloc | apply pw_below_drewN | apply below_drew1 | refine below_set ?_ GE400.out | refine below_set ?_ GE401.out) | exact HB.out)⟩⟩
                      ·rw [if_neg c64] at H
                       exact absurd H (by simp)
                    ·rw [if_neg c62] at H
                     have c62b0 : decide (x18_6 < (x7_1.length : Int)) = false := decide_eq_false c62
                     clear c62
                     by_cases c65 : x17_6 = true
                     ·subst c65
                      have H1 : ((span_Has.f k6 x401000_2 x401001_2 x16_5).bind fun t429 => (if (t429 != true) = true then (none) else (cenotaphlaw02_SpanOrders.l4 k6 x7_1 (wrap64 (x15_5 + 1)) (wrap64 (x16_5 + 1)) x401000_2 x401001_2 x402000_4 x402001_4))) = some r := by rw [if_pos rfl] at H; exact H
                      clear H
                      have H := H1
                      clear H1
                      replace H := Option.bind_eq_some_iff.mp H
                      obtain ⟨t429, A660, H⟩ := H
                      replace H : (if (t429 != true) = true then (none) else (cenotaphlaw02_SpanOrders.l4 k6 x7_1 (wrap64 (x15_5 + 1)) (wrap64 (x16_5 + 1)) x401000_2 x401001_2 x402000_4 x402001_4)) = some r := H
                      have A66 := Aside0.mk A660
                      clear A660
                      by_cases c67 : (t429 != true) = true
                      ·rw [if_pos c67] at H
                       exact absurd H (by simp)
                      ·rw [if_neg c67] at H
                       have c67b0 : (t429 != true) = false := by simpa using c67
                       (try (have c67b1 : decide (t429 = true) = true := by simpa using c67))
                       (try (have c67b2 : (t429 == true) = true := by simpa using c67))
                       clear c67
                       have H' := Aside0.mk H
                       clear H
                       have hnb68 := NB400_401.out
                       have hnc68 := NB401_400.out
                       have hcz69_0 : wr.cell? ⟨gb400, 0, none⟩ = some (.int .i64 x401000_2) := (blk_cell BK400.out 0).trans rfl
                       have hcz69_1 : wr.cell? ⟨gb400, 1, none⟩ = some (u401001) := (blk_cell BK400.out 1).trans rfl
                       have hfz69_0 := blk_frozen BK400.out 0
                       have hfz69_1 := blk_frozen BK400.out 1
                       obtain ⟨Ao70, co70, eo70⟩ := Kd.R_slice HO_401001.out
                       subst eo70
                       go_wp2_with (first | ((with_reducible refine gate_callee (f := 13) rfl ?_); refine goesL_ (some 135) rfl rfl Try.func13 (by kernel_rfl) rfl #[.agg #[.int .i64 x401000_2, .slice Ao70 x401001_2.length co70], .int .i64 x16_5] rfl zq8_2 ?_; (with_reducible refine (span_Has.calls k6 x401000_2 _ _ x401001_2 x16_5 t429 _ ?side1 ?side2 A66.out).mono ?_); (case side1 => repeat (first | exact (Kd.R_reads' HO_401001.out).2.2 | (with_reducible refine Kd.C_alloc ?_ _) | (with_reducible refine Kd.C_drewN ?_ _) | (with_reducible refine Kd.C_drew ?_))); (case side2 => exact (Kd.R_reads' HO_401001.out).2.1); rintro e w71 ⟨rfl, hb⟩; refine ⟨_, rfl, ?_⟩; have n0_ := Aside0.mk (Kd.R_below zq8_8 hb); have n1_ := Aside0.mk (Kd.R_below zq8_6 hb); have n2_ := Aside0.mk (Kd.R_below zq8_7 hb); have n3_ := Aside0.mk (blk_below (g := gb400) (o := .cells #[.int .i64 x401000_2, .slice Ao70 x401001_2.length co70] 24 (0, 0)) zq8_4 hb); have n4_ := Aside0.mk (blk_below (g := gb401) (o := .cells #[.int .i64 x402000_4, u402001] 24 (0, 0)) zq8_5 hb); have n5_ := Aside0.mk (below_step zq8_0 hb); clear HO_7; clear HO_401001; clear HO_402001; clear BK400; clear BK401; clear HB; have HO_7 := n0_; have HO_401001 := n1_; have HO_402001 := n2_; have BK400 := n3_; have BK401 := n4_; have HB := n5_; clear n0_ n1_ n2_ n3_ n4_ n5_; (try clear hb); (try clear hb2); (try clear hk); (try clear hi)))
                       go_roundg k6
                       case measure => have := HK1.out; have := HK2.out; have := HJ23.out; have := HK4.out; have := HK5.out; have := HK6.out; omega
                       case rel => exact ⟨(wrap64 (x15_5 + 1)), (wrap64 (x16_5 + 1)), zq8_10, zq8_10, H', ⟨by have := HK1.out; have := HK2.out; have := HJ23.out; have := HK4.out; have := HK5.out; have := HK6.out; omega⟩, ⟨by (with_reducible repeat (first | apply Kd.R_alloc | apply Kd.R_drewN | apply Kd.R_drew)); exact HO_7.out⟩, ⟨by (with_reducible repeat (first | apply Kd.R_alloc | apply Kd.R_drewN | apply Kd.R_drew)); exact HO_401001.out⟩, ⟨by (with_reducible repeat (first | apply Kd.R_alloc | apply Kd.R_drewN | apply Kd.R_drew)); exact HO_402001.out⟩, ⟨by (with_reducible repeat (first | refine blk_drewN ?_ _ | refine blk_drew ?_ | refine blk_alloc ?_ _)); exact BK400.out⟩, ⟨by (with_reducible repeat (first | refine blk_drewN ?_ _ | refine blk_drew ?_ | refine blk_alloc ?_ _)); exact BK401.out⟩, ⟨by repeat (first | (with_reducible first | exact HB.out | apply below_alloc | apply pw_below_drewN | apply below_drew1 | refine below_set ?_ GE400.out | refine below_set ?_ GE401.out) | exact HB.out)⟩⟩
                     ·replace c65 := Bool.eq_false_iff.mpr c65
                      subst c65
                      have H1 : ((span_Has.f k6 x401000_2 x401001_2 x16_5).bind fun t430 => (if (t430 != false) = true then (none) else (cenotaphlaw02_SpanOrders.l4 k6 x7_1 x15_5 (wrap64 (x16_5 + 1)) x401000_2 x401001_2 x402000_4 x402001_4))) = some r := by rw [if_neg (show ¬ (false = true) by decide)] at H; exact H
                      clear H
                      have H := H1
                      clear H1
                      replace H := Option.bind_eq_some_iff.mp H
                      obtain ⟨t430, A720, H⟩ := H
                      replace H : (if (t430 != false) = true then (none) else (cenotaphlaw02_SpanOrders.l4 k6 x7_1 x15_5 (wrap64 (x16_5 + 1)) x401000_2 x401001_2 x402000_4 x402001_4)) = some r := H
                      have A72 := Aside0.mk A720
                      clear A720
                      by_cases c73 : (t430 != false) = true
                      ·rw [if_pos c73] at H
                       exact absurd H (by simp)
                      ·rw [if_neg c73] at H
                       have c73b0 : (t430 != false) = false := by simpa using c73
                       (try (have c73b1 : decide (t430 = false) = true := by simpa using c73))
                       (try (have c73b2 : (t430 == false) = true := by simpa using c73))
                       clear c73
                       have H' := Aside0.mk H
                       clear H
                       have hnb74 := NB400_401.out
                       have hnc74 := NB401_400.out
                       have hcz75_0 : wr.cell? ⟨gb400, 0, none⟩ = some (.int .i64 x401000_2) := (blk_cell BK400.out 0).trans rfl
                       have hcz75_1 : wr.cell? ⟨gb400, 1, none⟩ = some (u401001) := (blk_cell BK400.out 1).trans rfl
                       have hfz75_0 := blk_frozen BK400.out 0
                       have hfz75_1 := blk_frozen BK400.out 1
                       obtain ⟨Ao76, co76, eo76⟩ := Kd.R_slice HO_401001.out
                       subst eo76
                       go_wp2_with (first | ((with_reducible refine gate_callee (f := 13) rfl ?_); refine goesL_ (some 135) rfl rfl Try.func13 (by kernel_rfl) rfl #[.agg #[.int .i64 x401000_2, .slice Ao76 x401001_2.length co76], .int .i64 x16_5] rfl zq8_2 ?_; (with_reducible refine (span_Has.calls k6 x401000_2 _ _ x401001_2 x16_5 t430 _ ?side1 ?side2 A72.out).mono ?_); (case side1 => repeat (first | exact (Kd.R_reads' HO_401001.out).2.2 | (with_reducible refine Kd.C_alloc ?_ _) | (with_reducible refine Kd.C_drewN ?_ _) | (with_reducible refine Kd.C_drew ?_))); (case side2 => exact (Kd.R_reads' HO_401001.out).2.1); rintro e w77 ⟨rfl, hb⟩; refine ⟨_, rfl, ?_⟩; have n0_ := Aside0.mk (Kd.R_below zq8_8 hb); have n1_ := Aside0.mk (Kd.R_below zq8_6 hb); have n2_ := Aside0.mk (Kd.R_below zq8_7 hb); have n3_ := Aside0.mk (blk_below (g := gb400) (o := .cells #[.int .i64 x401000_2, .slice Ao76 x401001_2.length co76] 24 (0, 0)) zq8_4 hb); have n4_ := Aside0.mk (blk_below (g := gb401) (o := .cells #[.int .i64 x402000_4, u402001] 24 (0, 0)) zq8_5 hb); have n5_ := Aside0.mk (below_step zq8_0 hb); clear HO_7; clear HO_401001; clear HO_402001; clear BK400; clear BK401; clear HB; have HO_7 := n0_; have HO_401001 := n1_; have HO_402001 := n2_; have BK400 := n3_; have BK401 := n4_; have HB := n5_; clear n0_ n1_ n2_ n3_ n4_ n5_; (try clear hb); (try clear hb2); (try clear hk); (try clear hi)))
                       go_roundg k6
                       case measure => have := HK1.out; have := HK2.out; have := HJ23.out; have := HK4.out; have := HK5.out; have := HK6.out; omega
                       case rel => exact ⟨(x15_5), (wrap64 (x16_5 + 1)), zq8_10, zq8_10, H', ⟨by have := HK1.out; have := HK2.out; have := HJ23.out; have := HK4.out; have := HK5.out; have := HK6.out; omega⟩, ⟨by (with_reducible repeat (first | apply Kd.R_alloc | apply Kd.R_drewN | apply Kd.R_drew)); exact HO_7.out⟩, ⟨by (with_reducible repeat (first | apply Kd.R_alloc | apply Kd.R_drewN | apply Kd.R_drew)); exact HO_401001.out⟩, ⟨by (with_reducible repeat (first | apply Kd.R_alloc | apply Kd.R_drewN | apply Kd.R_drew)); exact HO_402001.out⟩, ⟨by (with_reducible repeat (first | refine blk_drewN ?_ _ | refine blk_drew ?_ | refine blk_alloc ?_ _)); exact BK400.out⟩, ⟨by (with_reducible repeat (first | refine blk_drewN ?_ _ | refine blk_drew ?_ | refine blk_alloc ?_ _)); exact BK401.out⟩, ⟨by repeat (first | (with_reducible first | exact HB.out | apply below_alloc | apply pw_below_drewN | apply below_drew1 | refine below_set ?_ GE400.out | refine below_set ?_ GE401.out) | exact HB.out)⟩⟩
                 ·rw [if_neg c61] at H
                  have c61b0 : decide (x16_5 ≤ 50) = false := decide_eq_false c61
                  clear c61
                  replace H := Option.bind_eq_some_iff.mp H
                  obtain ⟨t431, A780, H⟩ := H
                  replace H : (if t431 = true then ((span_Same.f k5 x401000_2 x401001_2 x402000_4 x402001_4).bind fun t432 => (if t432 = true then ((span_Count.f x401000_2 x401001_2).bind fun t433 => (if t433 = x15_5 then ((span_Right.f k5 x401000_2 x401001_2).bind fun t434 => (some t434)) else (none))) else (none))) else (none)) = some r := H
                  have A78 := Aside0.mk A780
                  clear A780
                  by_cases c79 : t431 = true
                  ·subst c79
                   have H1 : ((span_Same.f k5 x401000_2 x401001_2 x402000_4 x402001_4).bind fun t432 => (if t432 = true then ((span_Count.f x401000_2 x401001_2).bind fun t433 => (if t433 = x15_5 then ((span_Right.f k5 x401000_2 x401001_2).bind fun t434 => (some t434)) else (none))) else (none))) = some r := by rw [if_pos rfl] at H; exact H
                   clear H
                   have H := H1
                   clear H1
                   replace H := Option.bind_eq_some_iff.mp H
                   obtain ⟨t432, A800, H⟩ := H
                   replace H : (if t432 = true then ((span_Count.f x401000_2 x401001_2).bind fun t433 => (if t433 = x15_5 then ((span_Right.f k5 x401000_2 x401001_2).bind fun t434 => (some t434)) else (none))) else (none)) = some r := H
                   have A80 := Aside0.mk A800
                   clear A800
                   by_cases c81 : t432 = true
                   ·subst c81
                    have H1 : ((span_Count.f x401000_2 x401001_2).bind fun t433 => (if t433 = x15_5 then ((span_Right.f k5 x401000_2 x401001_2).bind fun t434 => (some t434)) else (none))) = some r := by rw [if_pos rfl] at H; exact H
                    clear H
                    have H := H1
                    clear H1
                    replace H := Option.bind_eq_some_iff.mp H
                    obtain ⟨t433, A820, H⟩ := H
                    replace H : (if t433 = x15_5 then ((span_Right.f k5 x401000_2 x401001_2).bind fun t434 => (some t434)) else (none)) = some r := H
                    have A82 := Aside0.mk A820
                    clear A820
                    by_cases c83 : t433 = x15_5
                    ·rw [if_pos c83] at H
                     have c83b0 : (t433 == x15_5) = true := beq_iff_eq.mpr c83
                     have c83b1 : (t433 != x15_5) = false := bne_eq_false_iff_eq.mpr c83
                     clear c83
                     replace H := Option.bind_eq_some_iff.mp H
                     obtain ⟨t434, A840, H⟩ := H
                     replace H : (some t434) = some r := H
                     have A84 := Aside0.mk A840
                     clear A840
                     obtain rfl := Option.some.inj H
                     go_wp2_with (first | ((with_reducible refine gate_callee (f := 11) rfl ?_); refine goesL_ (some 138) rfl rfl Try.func11 (by kernel_rfl) rfl #[] rfl zq8_2 ?_; (with_reducible refine (cenotaphlaw02_told.calls k5  true _ A78.out).mono ?_); rintro e w85 ⟨rfl, hb⟩; refine ⟨_, rfl, ?_⟩; have n0_ := Aside0.mk (Kd.R_below zq8_8 hb); have n1_ := Aside0.mk (Kd.R_below zq8_6 hb); have n2_ := Aside0.mk (Kd.R_below zq8_7 hb); have n3_ := Aside0.mk (blk_below (g := gb400) (o := .cells #[.int .i64 x401000_2, u401001] 24 (0, 0)) zq8_4 hb); have n4_ := Aside0.mk (blk_below (g := gb401) (o := .cells #[.int .i64 x402000_4, u402001] 24 (0, 0)) zq8_5 hb); have n5_ := Aside0.mk (below_step zq8_0 hb); clear HO_7; clear HO_401001; clear HO_402001; clear BK400; clear BK401; clear HB; have HO_7 := n0_; have HO_401001 := n1_; have HO_402001 := n2_; have BK400 := n3_; have BK401 := n4_; have HB := n5_; clear n0_ n1_ n2_ n3_ n4_ n5_; (try clear hb); (try clear hb2); (try clear hk); (try clear hi); have hnb86 := NB400_401.out; have hnc86 := NB401_400.out; have hcz87_0 : w85.cell? ⟨gb400, 0, none⟩ = some (.int .i64 x401000_2) := (blk_cell BK400.out 0).trans rfl; have hcz87_1 : w85.cell? ⟨gb400, 1, none⟩ = some (u401001) := (blk_cell BK400.out 1).trans rfl; have hfz87_0 := blk_frozen BK400.out 0; have hfz87_1 := blk_frozen BK400.out 1; have hcz88_0 : w85.cell? ⟨gb401, 0, none⟩ = some (.int .i64 x402000_4) := (blk_cell BK401.out 0).trans rfl; have hcz88_1 : w85.cell? ⟨gb401, 1, none⟩ = some (u402001) := (blk_cell BK401.out 1).trans rfl; have hfz88_0 := blk_frozen BK401.out 0; have hfz88_1 := blk_frozen BK401.out 1; obtain ⟨Ao89, co89, eo89⟩ := Kd.R_slice HO_401001.out; subst eo89; obtain ⟨Ao90, co90, eo90⟩ := Kd.R_slice HO_402001.out; subst eo90) | (go_at_call 26; (with_reducible refine (span_Same.calls k5 x401000_2 _ _ x401001_2 x402000_4 _ _ x402001_4 true _ ?side1 ?side2 ?side3 ?side4 A80.out).mono ?_); (case side1 => repeat (first | exact (Kd.R_reads' HO_401001.out).2.2 | (with_reducible refine Kd.C_alloc ?_ _) | (with_reducible refine Kd.C_drewN ?_ _) | (with_reducible refine Kd.C_drew ?_))); (case side2 => exact (Kd.R_reads' HO_401001.out).2.1); (case side3 => repeat (first | exact (Kd.R_reads' HO_402001.out).2.2 | (with_reducible refine Kd.C_alloc ?_ _) | (with_reducible refine Kd.C_drewN ?_ _) | (with_reducible refine Kd.C_drew ?_))); (case side4 => exact (Kd.R_reads' HO_402001.out).2.1); rintro e w91 ⟨rfl, hb⟩; have n0_ := Aside0.mk (Kd.R_below zq8_8 hb); have n1_ := Aside0.mk (Kd.R_below zq8_6 hb); have n2_ := Aside0.mk (Kd.R_below zq8_7 hb); have n3_ := Aside0.mk (blk_below (g := gb400) (o := .cells #[.int .i64 x401000_2, .slice Ao89 x401001_2.length co89] 24 (0, 0)) zq8_4 hb); have n4_ := Aside0.mk (blk_below (g := gb401) (o := .cells #[.int .i64 x402000_4, .slice Ao90 x402001_4.length co90] 24 (0, 0)) zq8_5 hb); have n5_ := Aside0.mk (below_step zq8_0 hb); clear HO_7; clear HO_401001; clear HO_402001; clear BK400; clear BK401; clear HB; have HO_7 := n0_; have HO_401001 := n1_; have HO_402001 := n2_; have BK400 := n3_; have BK401 := n4_; have HB := n5_; clear n0_ n1_ n2_ n3_ n4_ n5_; (try clear hb); (try clear hb2); (try clear hk); (try clear hi); have hcz92_0 : w91.cell? ⟨gb400, 0, none⟩ = some (.int .i64 x401000_2) := (blk_cell BK400.out 0).trans rfl; have hcz92_1 : w91.cell? ⟨gb400, 1, none⟩ = some (.slice Ao89 x401001_2.length co89) := (blk_cell BK400.out 1).trans rfl; have hfz92_0 := blk_frozen BK400.out 0; have hfz92_1 := blk_frozen BK400.out 1) | (go_at_call 12; (with_reducible refine (span_Count.calls x401000_2 _ _ x401001_2 t433 _ ?side1 ?side2 A82.out).mono ?_); (case side1 => repeat (first | exact (Kd.R_reads' HO_401001.out).2.2 | (with_reducible refine Kd.C_alloc ?_ _) | (with_reducible refine Kd.C_drewN ?_ _) | (with_reducible refine Kd.C_drew ?_))); (case side2 => exact (Kd.R_reads' HO_401001.out).2.1); rintro e w93 ⟨rfl, hb⟩; have n0_ := Aside0.mk (Kd.R_below zq8_8 hb); have n1_ := Aside0.mk (Kd.R_below zq8_6 hb); have n2_ := Aside0.mk (Kd.R_below zq8_7 hb); have n3_ := Aside0.mk (blk_below (g := gb400) (o := .cells #[.int .i64 x401000_2, .slice Ao89 x401001_2.length co89] 24 (0, 0)) zq8_4 hb); have n4_ := Aside0.mk (blk_below (g := gb401) (o := .cells #[.int .i64 x402000_4, .slice Ao90 x402001_4.length co90] 24 (0, 0)) zq8_5 hb); have n5_ := Aside0.mk (below_step zq8_0 hb); clear HO_7; clear HO_401001; clear HO_402001; clear BK400; clear BK401; clear HB; have HO_7 := n0_; have HO_401001 := n1_; have HO_402001 := n2_; have BK400 := n3_; have BK401 := n4_; have HB := n5_; clear n0_ n1_ n2_ n3_ n4_ n5_; (try clear hb); (try clear hb2); (try clear hk); (try clear hi); have hcz94_0 : w93.cell? ⟨gb400, 0, none⟩ = some (.int .i64 x401000_2) := (blk_cell BK400.out 0).trans rfl; have hcz94_1 : w93.cell? ⟨gb400, 1, none⟩ = some (.slice Ao89 x401001_2.length co89) := (blk_cell BK400.out 1).trans rfl; have hfz94_0 := blk_frozen BK400.out 0; have hfz94_1 := blk_frozen BK400.out 1) | (go_at_call 14; (with_reducible refine (span_Right.calls k5 x401000_2 _ _ x401001_2 t434 _ ?side1 ?side2 A84.out).mono ?_); (case side1 => repeat (first | exact (Kd.R_reads' HO_401001.out).2.2 | (with_reducible refine Kd.C_alloc ?_ _) | (with_reducible refine Kd.C_drewN ?_ _) | (with_reducible refine Kd.C_drew ?_))); (case side2 => exact (Kd.R_reads' HO_401001.out).2.1); rintro e w95 ⟨rfl, hb⟩; have n0_ := Aside0.mk (Kd.R_below zq8_8 hb); have n1_ := Aside0.mk (Kd.R_below zq8_6 hb); have n2_ := Aside0.mk (Kd.R_below zq8_7 hb); have n3_ := Aside0.mk (blk_below (g := gb400) (o := .cells #[.int .i64 x401000_2, .slice Ao89 x401001_2.length co89] 24 (0, 0)) zq8_4 hb); have n4_ := Aside0.mk (blk_below (g := gb401) (o := .cells #[.int .i64 x402000_4, .slice Ao90 x402001_4.length co90] 24 (0, 0)) zq8_5 hb); have n5_ := Aside0.mk (below_step zq8_0 hb); clear HO_7; clear HO_401001; clear HO_402001; clear BK400; clear BK401; clear HB; have HO_7 := n0_; have HO_401001 := n1_; have HO_402001 := n2_; have BK400 := n3_; have BK401 := n4_; have HB := n5_; clear n0_ n1_ n2_ n3_ n4_ n5_; (try clear hb); (try clear hb2); (try clear hk); (try clear hi)))
                     go_ret
                     exact ⟨by first | rfl | (simp [errW_none, errW_some] <;> rfl) | (simp only [← hji3]; first | rfl | (simp [errW_none, errW_some] <;> rfl)) | (simp [*, errW_none, errW_some] <;> rfl), by repeat (first | (with_reducible first | exact HB.out | apply below_alloc | apply pw_below_drewN | apply below_drew1 | refine below_set ?_ GE400.out | refine below_set ?_ GE401.out) | exact HB.out)⟩
                    ·rw [if_neg c83] at H
                     exact absurd H (by simp)
                   ·replace c81 := Bool.eq_false_iff.mpr c81
                    subst c81
                    have H1 : (none) = some r := by rw [if_neg (show ¬ (false = true) by decide)] at H; exact H
                    clear H
                    have H := H1
                    clear H1
                    exact absurd H (by simp)
                  ·replace c79 := Bool.eq_false_iff.mpr c79
                   subst c79
                   have H1 : (none) = some r := by rw [if_neg (show ¬ (false = true) by decide)] at H; exact H
                   clear H
                   have H := H1
                   clear H1
                   exact absurd H (by simp)
         ·rw [if_neg c23] at H
          exact absurd H (by simp)
  ·rw [if_neg c5] at H
   exact absurd H (by simp)
 ·rw [if_neg c4] at H
  exact absurd H (by simp)

/-- THE ONE PURE STATEMENT of cenotaphlaw02_SpanOrders: yours. -/
def cenotaphlaw02_SpanOrders.Pure : Prop := ∀ (l0 : List Int) (l1 : List Int), l0.length ≤ maxLen → l0.length * 8 ≤ 140737488351232 → (∀ x ∈ l0, (Lit.int .i64 x).wf = true) → l1.length ≤ maxLen → l1.length * 8 ≤ 140737488351232 → (∀ x ∈ l1, (Lit.int .i64 x).wf = true) → ∃ k, cenotaphlaw02_SpanOrders.f k l0 l1 = some true
theorem cenotaphlaw02_SpanOrders.walk (P : cenotaphlaw02_SpanOrders.Pure) (a0 : Option Addr) (len0 cap0 : Nat) (z0 : List Int) (a1 : Option Addr) (len1 cap1 : Nat) (z1 : List Int) (w : World) (w0 : (a0 = none ∧ len0 = 0 ∧ cap0 = 0 ∧ z0 = []) ∨ ∃ x, a0 = some x ∧ len0 ≤ cap0 ∧ cap0 ≤ maxLen ∧ z0.length = cap0 ∧ (∀ i, i < z0.length → w.cell? (x.add i) = some (.int .i64 (z0.getD i 0))) ∧ ∀ n ∈ z0, (Lit.int .i64 n).wf = true) (y0 : len0 * 8 ≤ 140737488351232) (w1 : (a1 = none ∧ len1 = 0 ∧ cap1 = 0 ∧ z1 = []) ∨ ∃ x, a1 = some x ∧ len1 ≤ cap1 ∧ cap1 ≤ maxLen ∧ z1.length = cap1 ∧ (∀ i, i < z1.length → w.cell? (x.add i) = some (.int .i64 (z1.getD i 0))) ∧ ∀ n ∈ z1, (Lit.int .i64 n).wf = true) (y1 : len1 * 8 ≤ 140737488351232) :
  Calls Try.prog 8 #[.slice a0 len0 cap0, .slice a1 len1 cap1] w fun e w' => e = .returned (.bool true) ∧ Below w.heap.size w w' := by
 obtain ⟨l0, rfl, hr0, hm0, hw0, hc0⟩ := ReadsInt.ofRowC w0
 obtain ⟨l1, rfl, hr1, hm1, hw1, hc1⟩ := ReadsInt.ofRowC w1
 obtain ⟨k, h⟩ := P l0 l1 hm0 y0 hw0 hm1 y1 hw1
 refine (cenotaphlaw02_SpanOrders.calls k _ _ l0 _ _ l1 true w (Kd.C_of_reads (d := (0 : Int)) (h1 := fun _ => rfl) hr0) hc0 (Kd.C_of_reads (d := (0 : Int)) (h1 := fun _ => rfl) hr1) hc1 h).mono ?_
 rintro e w' ⟨rfl, hd⟩
 exact ⟨rfl, hd⟩

end Go.Proofs.Ytejoofeigeoboaa.P
