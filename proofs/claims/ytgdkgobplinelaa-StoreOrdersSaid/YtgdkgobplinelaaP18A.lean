-- Written by a program of this session (wip/pp.py over the kit's printer, with our own texts put in).
import Derived.Test.YtgdkgobplinelaaP0
import Derived.Test.YtgdkgobplinelaaP1
import Derived.Test.YtgdkgobplinelaaP4
import Derived.Test.YtgdkgobplinelaaP6
import Derived.Test.YtgdkgobplinelaaP7
import Derived.Test.YtgdkgobplinelaaP9
import Derived.Test.YtgdkgobplinelaaP13
import Derived.Test.YtgdkgobplinelaaP17
namespace Go.Proofs.Ytgdkgobplinelaa.P
open Go.RowKit Go.Proofs.YtgdkgobplinelaaW.PrintWords Go.Proofs.YtgdkgobplinelaaW.PrintLast Go.Proofs.YtgdkgobplinelaaW.PrintMore
attribute [local go_sem] run_store_complex max2_int min2_int max_two min_two max_three min_three max_four min_four   -- for this text's walks alone
set_option linter.unusedVariables false
set_option linter.unusedSimpArgs false

attribute [local go_sem high] eqA24 eqA38
mutual
def cenotaphlaw08_StoreOrders.l0 : Nat → List (S28) → List Int → List (S28) → Int → Option (Bool)
 | 0, _, _, _, _ => none
 | k + 1, x0, x1, x5, x6 => if x6 < (x0.length : Int) then (cenotaphlaw08_StoreOrders.j1 k x0 x1 x5 x6 (decide (x6 < 14))) else (cenotaphlaw08_StoreOrders.j1 k x0 x1 x5 x6 false)
def cenotaphlaw08_StoreOrders.j1 : Nat → List (S28) → List Int → List (S28) → Int → Bool → Option (Bool)
 | 0, _, _, _, _, _ => none
 | k + 1, x0, x1, x5, x6, x28 => if x28 = true then (if 0 ≤ x6 then (if x6 < (x0.length : Int) then ((cenotaphref07_Fix.f k ((rd_T28 x0 x6).f0) ((rd_T28 x0 x6).f1.f0) ((rd_T28 x0 x6).f1.f1) ((rd_T28 x0 x6).f1.f2) ((rd_T28 x0 x6).f2) ((rd_T28 x0 x6).f3.f0) ((rd_T28 x0 x6).f3.f1) ((rd_T28 x0 x6).f4) ((rd_T28 x0 x6).f5)).bind fun bt362 => (cenotaphlaw08_StoreOrders.l1 k x0 x1 x5 x6 0 bt362.1 bt362.2.1 bt362.2.2.1 bt362.2.2.2.1 bt362.2.2.2.2.1 bt362.2.2.2.2.2.1 bt362.2.2.2.2.2.2.1 bt362.2.2.2.2.2.2.2.1 bt362.2.2.2.2.2.2.2.2)) else (none)) else (none)) else ((some (([] : List (S28)) : List (S28))).bind fun y387 => (if y387.length + x5.length < 1599289640401 then (cenotaphlaw08_StoreOrders.l2 k x1 x5 (y387 ++ x5) 0) else (none)))
def cenotaphlaw08_StoreOrders.l1 : Nat → List (S28) → List Int → List (S28) → Int → Int → Int → ByteArray → Int → Int → Bool → Int → Int → ByteArray → Bool → Option (Bool)
 | 0, _, _, _, _, _, _, _, _, _, _, _, _, _, _ => none
 | k + 1, x0, x1, x5, x6, x8, x372000, x372001, x372002, x372003, x372004, x372005, x372006, x372007, x372008 => if x8 < (x5.length : Int) then (if 0 ≤ x8 then (if ((rd_T28 x5 x8).f1.f2) = x372003 then (cenotaphlaw08_StoreOrders.j3 k x0 x1 x5 x6 x8 (((rd_T28 x5 x8).f1.f0).toList == x372001.toList) x372000 x372001 x372002 x372003 x372004 x372005 x372006 x372007 x372008) else (cenotaphlaw08_StoreOrders.j3 k x0 x1 x5 x6 x8 false x372000 x372001 x372002 x372003 x372004 x372005 x372006 x372007 x372008)) else (none)) else (if x5.length < 1599289640401 then (cenotaphlaw08_StoreOrders.l0 k x0 x1 (x5 ++ [(⟨x372000, (⟨x372001, x372002, x372003⟩ : S24), x372004, (⟨x372005, x372006⟩ : S26), x372007, x372008⟩ : S28)]) (wrap64 (x6 + 1))) else (none))
def cenotaphlaw08_StoreOrders.j3 : Nat → List (S28) → List Int → List (S28) → Int → Int → Bool → Int → ByteArray → Int → Int → Bool → Int → Int → ByteArray → Bool → Option (Bool)
 | 0, _, _, _, _, _, _, _, _, _, _, _, _, _, _, _ => none
 | k + 1, x0, x1, x5, x6, x8, x63, x372000, x372001, x372002, x372003, x372004, x372005, x372006, x372007, x372008 => if x63 = true then (if 0 ≤ x8 then (if x8 < (x5.length : Int) then (if x372008 = true then (cenotaphlaw08_StoreOrders.l1 k x0 x1 x5 x6 (wrap64 (x8 + 1)) ((rd_T28 x5 x8).f0) ((rd_T28 x5 x8).f1.f0) ((rd_T28 x5 x8).f1.f1) ((rd_T28 x5 x8).f1.f2) ((rd_T28 x5 x8).f2) ((rd_T28 x5 x8).f3.f0) ((rd_T28 x5 x8).f3.f1) ((rd_T28 x5 x8).f4) ((rd_T28 x5 x8).f5)) else ((cenotaphref07_Stub.f ((rd_T28 x5 x8).f0) ((rd_T28 x5 x8).f1.f0) ((rd_T28 x5 x8).f1.f1) ((rd_T28 x5 x8).f1.f2) ((rd_T28 x5 x8).f2) ((rd_T28 x5 x8).f3.f0) ((rd_T28 x5 x8).f3.f1) ((rd_T28 x5 x8).f4) ((rd_T28 x5 x8).f5)).bind fun bt378 => (cenotaphlaw08_StoreOrders.l1 k x0 x1 x5 x6 (wrap64 (x8 + 1)) bt378.1 bt378.2.1 bt378.2.2.1 bt378.2.2.2.1 bt378.2.2.2.2.1 bt378.2.2.2.2.2.1 bt378.2.2.2.2.2.2.1 bt378.2.2.2.2.2.2.2.1 bt378.2.2.2.2.2.2.2.2))) else (none)) else (none)) else (cenotaphlaw08_StoreOrders.l1 k x0 x1 x5 x6 (wrap64 (x8 + 1)) x372000 x372001 x372002 x372003 x372004 x372005 x372006 x372007 x372008)
def cenotaphlaw08_StoreOrders.j5 : Nat → List (S28) → List (S28) → Option (Bool)
 | 0, _, _ => none
 | k + 1, x5, x10 => cenotaphlaw08_StoreOrders.l3 k x5 x10 ([] : List (S41)) ([] : List (S41)) 0
def cenotaphlaw08_StoreOrders.l3 : Nat → List (S28) → List (S28) → List (S41) → List (S41) → Int → Option (Bool)
 | 0, _, _, _, _, _ => none
 | k + 1, x5, x10, x14, x15, x16 => if x16 < (x5.length : Int) then (if 0 ≤ x16 then ((cenotaphlaw07_To.f ((rd_T28 x5 x16).f0) ((rd_T28 x5 x16).f1.f0) ((rd_T28 x5 x16).f1.f1) ((rd_T28 x5 x16).f1.f2) ((rd_T28 x5 x16).f2) ((rd_T28 x5 x16).f3.f0) ((rd_T28 x5 x16).f3.f1) ((rd_T28 x5 x16).f4) ((rd_T28 x5 x16).f5)).bind fun bt399 => ((store_Put.f x14 bt399.1 bt399.2.1 bt399.2.2.1 bt399.2.2.2.1 bt399.2.2.2.2.1 bt399.2.2.2.2.2.1 bt399.2.2.2.2.2.2.1 bt399.2.2.2.2.2.2.2).bind fun bt407 => (if x16 < (x10.length : Int) then ((cenotaphlaw07_To.f ((rd_T28 x10 x16).f0) ((rd_T28 x10 x16).f1.f0) ((rd_T28 x10 x16).f1.f1) ((rd_T28 x10 x16).f1.f2) ((rd_T28 x10 x16).f2) ((rd_T28 x10 x16).f3.f0) ((rd_T28 x10 x16).f3.f1) ((rd_T28 x10 x16).f4) ((rd_T28 x10 x16).f5)).bind fun bt412 => ((store_Put.f x15 bt412.1 bt412.2.1 bt412.2.2.1 bt412.2.2.2.1 bt412.2.2.2.2.1 bt412.2.2.2.2.2.1 bt412.2.2.2.2.2.2.1 bt412.2.2.2.2.2.2.2).bind fun bt420 => (cenotaphlaw08_StoreOrders.l3 k x5 x10 bt407.1 bt420.1 (wrap64 (x16 + 1))))) else (none)))) else (none)) else ((cenotaphlaw08_told.f k).bind fun t424 => (if t424 = true then (cenotaphlaw08_StoreOrders.j7 k x5 x14 x15 ((x14.length : Int) != (x15.length : Int))) else (cenotaphlaw08_StoreOrders.j7 k x5 x14 x15 true)))
def cenotaphlaw08_StoreOrders.j7 : Nat → List (S28) → List (S41) → List (S41) → Bool → Option (Bool)
 | 0, _, _, _, _ => none
 | k + 1, x5, x14, x15, x158 => if x158 = true then (none) else (cenotaphlaw08_StoreOrders.l4 k x5 x14 x15 0)
def cenotaphlaw08_StoreOrders.l4 : Nat → List (S28) → List (S41) → List (S41) → Int → Option (Bool)
 | 0, _, _, _, _ => none
 | k + 1, x5, x14, x15, x17 => if x17 < (x14.length : Int) then (if 0 ≤ x17 then (if x17 < (x15.length : Int) then (if ((rd_T41 x14 x17).f0) = ((rd_T41 x15 x17).f0) then (if (!((((rd_T41 x14 x17).f1.f0).toList) == (((rd_T41 x15 x17).f1.f0).toList)) || (!(((rd_T41 x14 x17).f1.f1) == ((rd_T41 x15 x17).f1.f1)) || (!(((rd_T41 x14 x17).f1.f2) == ((rd_T41 x15 x17).f1.f2))))) = true then (none) else (if (((rd_T41 x14 x17).f5) != ((rd_T41 x15 x17).f5)) = true then (none) else (if (((rd_T41 x14 x17).f2) != ((rd_T41 x15 x17).f2)) = true then (none) else (cenotaphlaw08_StoreOrders.l4 k x5 x14 x15 (wrap64 (x17 + 1)))))) else (none)) else (none)) else (none)) else (cenotaphlaw08_StoreOrders.l5 k x5 x14 0)
def cenotaphlaw08_StoreOrders.l5 : Nat → List (S28) → List (S41) → Int → Option (Bool)
 | 0, _, _, _ => none
 | k + 1, x5, x14, x18 => if x18 < (x5.length : Int) then (if 0 ≤ x18 then ((store_Get.f x14 ((rd_T28 x5 x18).f0)).bind fun bt434 => (if bt434.2.2.2.2.2.2.2.2 = true then ((cenotaphlaw07_From.f bt434.1 bt434.2.1 bt434.2.2.1 bt434.2.2.2.1 bt434.2.2.2.2.1 bt434.2.2.2.2.2.1 bt434.2.2.2.2.2.2.1 bt434.2.2.2.2.2.2.2.1).bind fun bt445 => ((cenotaphref07_Newer.f k ((rd_T28 x5 x18).f1.f0) ((rd_T28 x5 x18).f1.f1) ((rd_T28 x5 x18).f1.f2) bt445.2.1 bt445.2.2.1 bt445.2.2.2.1).bind fun t454 => (if t454 = true then (none) else ((cenotaphlaw07_From.f bt434.1 bt434.2.1 bt434.2.2.1 bt434.2.2.2.1 bt434.2.2.2.2.1 bt434.2.2.2.2.2.1 bt434.2.2.2.2.2.2.1 bt434.2.2.2.2.2.2.2.1).bind fun bt456 => (if ((((rd_T28 x5 x18).f1.f0).toList) == bt456.2.1.toList && (((rd_T28 x5 x18).f1.f1) == bt456.2.2.1 && (((rd_T28 x5 x18).f1.f2) == bt456.2.2.2.1))) = true then (if (rd_T28 x5 x18).f5 = true then (if bt434.2.2.2.2.2.2.2.1 = true then (cenotaphlaw08_StoreOrders.l5 k x5 x14 (wrap64 (x18 + 1))) else (none)) else (cenotaphlaw08_StoreOrders.l5 k x5 x14 (wrap64 (x18 + 1)))) else (cenotaphlaw08_StoreOrders.l5 k x5 x14 (wrap64 (x18 + 1)))))))) else (none))) else (none)) else (some true)
def cenotaphlaw08_StoreOrders.l2 : Nat → List Int → List (S28) → List (S28) → Int → Option (Bool)
 | 0, _, _, _, _ => none
 | k + 1, x1, x5, x10, x11 => if x11 < (x1.length : Int) then (if (x10.length : Int) > 1 then (if x11 < 40 then (if (x10.length : Int) = 0 then (none) else (if 0 ≤ x11 then (if (IntKind.u64.wrap ((x10.length : Int))) = 0 then (none) else (if 0 ≤ (wrap64 (Int.tmod (IntKind.u64.wrap (rd x1 x11)) (IntKind.u64.wrap ((x10.length : Int))))) then (if (wrap64 (Int.tmod (IntKind.u64.wrap (rd x1 x11)) (IntKind.u64.wrap ((x10.length : Int))))) < (x10.length : Int) then (if 0 ≤ (Int.tmod x11 (x10.length : Int)) then (if (Int.tmod x11 (x10.length : Int)) < (x10.length : Int) then (cenotaphlaw08_StoreOrders.l2 k x1 x5 ((x10.set ((Int.tmod x11 (x10.length : Int)) : Int).toNat (⟨(rd_T28 x10 (wrap64 (Int.tmod (IntKind.u64.wrap (rd x1 x11)) (IntKind.u64.wrap ((x10.length : Int)))))).f0, (⟨(rd_T28 x10 (wrap64 (Int.tmod (IntKind.u64.wrap (rd x1 x11)) (IntKind.u64.wrap ((x10.length : Int)))))).f1.f0, (rd_T28 x10 (wrap64 (Int.tmod (IntKind.u64.wrap (rd x1 x11)) (IntKind.u64.wrap ((x10.length : Int)))))).f1.f1, (rd_T28 x10 (wrap64 (Int.tmod (IntKind.u64.wrap (rd x1 x11)) (IntKind.u64.wrap ((x10.length : Int)))))).f1.f2⟩ : S24), (rd_T28 x10 (wrap64 (Int.tmod (IntKind.u64.wrap (rd x1 x11)) (IntKind.u64.wrap ((x10.length : Int)))))).f2, (⟨(rd_T28 x10 (wrap64 (Int.tmod (IntKind.u64.wrap (rd x1 x11)) (IntKind.u64.wrap ((x10.length : Int)))))).f3.f0, (rd_T28 x10 (wrap64 (Int.tmod (IntKind.u64.wrap (rd x1 x11)) (IntKind.u64.wrap ((x10.length : Int)))))).f3.f1⟩ : S26), (rd_T28 x10 (wrap64 (Int.tmod (IntKind.u64.wrap (rd x1 x11)) (IntKind.u64.wrap ((x10.length : Int)))))).f4, (rd_T28 x10 (wrap64 (Int.tmod (IntKind.u64.wrap (rd x1 x11)) (IntKind.u64.wrap ((x10.length : Int)))))).f5⟩ : S28)).set ((wrap64 (Int.tmod (IntKind.u64.wrap (rd x1 x11)) (IntKind.u64.wrap ((x10.length : Int))))) : Int).toNat (⟨(rd_T28 x10 (Int.tmod x11 (x10.length : Int))).f0, (⟨(rd_T28 x10 (Int.tmod x11 (x10.length : Int))).f1.f0, (rd_T28 x10 (Int.tmod x11 (x10.length : Int))).f1.f1, (rd_T28 x10 (Int.tmod x11 (x10.length : Int))).f1.f2⟩ : S24), (rd_T28 x10 (Int.tmod x11 (x10.length : Int))).f2, (⟨(rd_T28 x10 (Int.tmod x11 (x10.length : Int))).f3.f0, (rd_T28 x10 (Int.tmod x11 (x10.length : Int))).f3.f1⟩ : S26), (rd_T28 x10 (Int.tmod x11 (x10.length : Int))).f4, (rd_T28 x10 (Int.tmod x11 (x10.length : Int))).f5⟩ : S28)) (wrap64 (x11 + 1))) else (none)) else (none)) else (none)) else (none))) else (none))) else (cenotaphlaw08_StoreOrders.j5 k x5 x10)) else (cenotaphlaw08_StoreOrders.j5 k x5 x10)) else (cenotaphlaw08_StoreOrders.j5 k x5 x10)
end
def cenotaphlaw08_StoreOrders.f (k : Nat) (l0 : List (S28)) (l1 : List Int) : Option (Bool) := cenotaphlaw08_StoreOrders.l0 k l0 l1 ([] : List (S28)) 0
theorem cenotaphlaw08_StoreOrders.mono_l : ∀ k, (∀ y0 y1 y2 y3, LeO (cenotaphlaw08_StoreOrders.l0 k y0 y1 y2 y3) (cenotaphlaw08_StoreOrders.l0 (k + 1) y0 y1 y2 y3)) ∧ (∀ y0 y1 y2 y3 y4, LeO (cenotaphlaw08_StoreOrders.j1 k y0 y1 y2 y3 y4) (cenotaphlaw08_StoreOrders.j1 (k + 1) y0 y1 y2 y3 y4)) ∧ (∀ y0 y1 y2 y3 y4 y5 y6 y7 y8 y9 y10 y11 y12 y13, LeO (cenotaphlaw08_StoreOrders.l1 k y0 y1 y2 y3 y4 y5 y6 y7 y8 y9 y10 y11 y12 y13) (cenotaphlaw08_StoreOrders.l1 (k + 1) y0 y1 y2 y3 y4 y5 y6 y7 y8 y9 y10 y11 y12 y13)) ∧ (∀ y0 y1 y2 y3 y4 y5 y6 y7 y8 y9 y10 y11 y12 y13 y14, LeO (cenotaphlaw08_StoreOrders.j3 k y0 y1 y2 y3 y4 y5 y6 y7 y8 y9 y10 y11 y12 y13 y14) (cenotaphlaw08_StoreOrders.j3 (k + 1) y0 y1 y2 y3 y4 y5 y6 y7 y8 y9 y10 y11 y12 y13 y14)) ∧ (∀ y0 y1, LeO (cenotaphlaw08_StoreOrders.j5 k y0 y1) (cenotaphlaw08_StoreOrders.j5 (k + 1) y0 y1)) ∧ (∀ y0 y1 y2 y3 y4, LeO (cenotaphlaw08_StoreOrders.l3 k y0 y1 y2 y3 y4) (cenotaphlaw08_StoreOrders.l3 (k + 1) y0 y1 y2 y3 y4)) ∧ (∀ y0 y1 y2 y3, LeO (cenotaphlaw08_StoreOrders.j7 k y0 y1 y2 y3) (cenotaphlaw08_StoreOrders.j7 (k + 1) y0 y1 y2 y3)) ∧ (∀ y0 y1 y2 y3, LeO (cenotaphlaw08_StoreOrders.l4 k y0 y1 y2 y3) (cenotaphlaw08_StoreOrders.l4 (k + 1) y0 y1 y2 y3)) ∧ (∀ y0 y1 y2, LeO (cenotaphlaw08_StoreOrders.l5 k y0 y1 y2) (cenotaphlaw08_StoreOrders.l5 (k + 1) y0 y1 y2)) ∧ (∀ y0 y1 y2 y3, LeO (cenotaphlaw08_StoreOrders.l2 k y0 y1 y2 y3) (cenotaphlaw08_StoreOrders.l2 (k + 1) y0 y1 y2 y3))
 | 0 => ⟨fun _ _ _ _ r h => by simp [cenotaphlaw08_StoreOrders.l0] at h, fun _ _ _ _ _ r h => by simp [cenotaphlaw08_StoreOrders.j1] at h, fun _ _ _ _ _ _ _ _ _ _ _ _ _ _ r h => by simp [cenotaphlaw08_StoreOrders.l1] at h, fun _ _ _ _ _ _ _ _ _ _ _ _ _ _ _ r h => by simp [cenotaphlaw08_StoreOrders.j3] at h, fun _ _ r h => by simp [cenotaphlaw08_StoreOrders.j5] at h, fun _ _ _ _ _ r h => by simp [cenotaphlaw08_StoreOrders.l3] at h, fun _ _ _ _ r h => by simp [cenotaphlaw08_StoreOrders.j7] at h, fun _ _ _ _ r h => by simp [cenotaphlaw08_StoreOrders.l4] at h, fun _ _ _ r h => by simp [cenotaphlaw08_StoreOrders.l5] at h, fun _ _ _ _ r h => by simp [cenotaphlaw08_StoreOrders.l2] at h⟩
 | k + 1 => by
  obtain ⟨ih0, ih1, ih2, ih3, ih4, ih5, ih6, ih7, ih8, ih9⟩ := cenotaphlaw08_StoreOrders.mono_l k
  refine ⟨?_, ?_, ?_, ?_, ?_, ?_, ?_, ?_, ?_, ?_⟩
  ·intro y0 y1 y2 y3
   unfold cenotaphlaw08_StoreOrders.l0
   repeat' first
   | (with_reducible exact ih0 _ _ _ _)
   | (with_reducible exact ih1 _ _ _ _ _)
   | (with_reducible exact ih2 _ _ _ _ _ _ _ _ _ _ _ _ _ _)
   | (with_reducible exact ih3 _ _ _ _ _ _ _ _ _ _ _ _ _ _ _)
   | (with_reducible exact ih4 _ _)
   | (with_reducible exact ih5 _ _ _ _ _)
   | (with_reducible exact ih6 _ _ _ _)
   | (with_reducible exact ih7 _ _ _ _)
   | (with_reducible exact ih8 _ _ _)
   | (with_reducible exact ih9 _ _ _ _)
   | (with_reducible exact cenotaphlaw08_told.mono _)
   | (with_reducible exact cenotaphref07_Fix.mono _ _ _ _ _ _ _ _ _ _)
   | (with_reducible exact cenotaphref07_Newer.mono _ _ _ _ _ _ _)
   | (with_reducible exact LeO.refl _)
   | (with_reducible exact LeO.none _)
   | (with_reducible refine LeO.ite ?_ ?_)
   | (with_reducible refine LeO.bind ?_ (fun _ => ?_))
   | exact ih0 _ _ _ _
   | exact ih1 _ _ _ _ _
   | exact ih2 _ _ _ _ _ _ _ _ _ _ _ _ _ _
   | exact ih3 _ _ _ _ _ _ _ _ _ _ _ _ _ _ _
   | exact ih4 _ _
   | exact ih5 _ _ _ _ _
   | exact ih6 _ _ _ _
   | exact ih7 _ _ _ _
   | exact ih8 _ _ _
   | exact ih9 _ _ _ _
   | exact cenotaphlaw08_told.mono _
   | exact cenotaphref07_Fix.mono _ _ _ _ _ _ _ _ _ _
   | exact cenotaphref07_Newer.mono _ _ _ _ _ _ _
   | exact LeO.none _
   | refine LeO.ite ?_ ?_
   | refine LeO.bind ?_ (fun _ => ?_)
  ·intro y0 y1 y2 y3 y4
   unfold cenotaphlaw08_StoreOrders.j1
   repeat' first
   | (with_reducible exact ih0 _ _ _ _)
   | (with_reducible exact ih1 _ _ _ _ _)
   | (with_reducible exact ih2 _ _ _ _ _ _ _ _ _ _ _ _ _ _)
   | (with_reducible exact ih3 _ _ _ _ _ _ _ _ _ _ _ _ _ _ _)
   | (with_reducible exact ih4 _ _)
   | (with_reducible exact ih5 _ _ _ _ _)
   | (with_reducible exact ih6 _ _ _ _)
   | (with_reducible exact ih7 _ _ _ _)
   | (with_reducible exact ih8 _ _ _)
   | (with_reducible exact ih9 _ _ _ _)
   | (with_reducible exact cenotaphlaw08_told.mono _)
   | (with_reducible exact cenotaphref07_Fix.mono _ _ _ _ _ _ _ _ _ _)
   | (with_reducible exact cenotaphref07_Newer.mono _ _ _ _ _ _ _)
   | (with_reducible exact LeO.refl _)
   | (with_reducible exact LeO.none _)
   | (with_reducible refine LeO.ite ?_ ?_)
   | (with_reducible refine LeO.bind ?_ (fun _ => ?_))
   | exact ih0 _ _ _ _
   | exact ih1 _ _ _ _ _
   | exact ih2 _ _ _ _ _ _ _ _ _ _ _ _ _ _
   | exact ih3 _ _ _ _ _ _ _ _ _ _ _ _ _ _ _
   | exact ih4 _ _
   | exact ih5 _ _ _ _ _
   | exact ih6 _ _ _ _
   | exact ih7 _ _ _ _
   | exact ih8 _ _ _
   | exact ih9 _ _ _ _
   | exact cenotaphlaw08_told.mono _
   | exact cenotaphref07_Fix.mono _ _ _ _ _ _ _ _ _ _
   | exact cenotaphref07_Newer.mono _ _ _ _ _ _ _
   | exact LeO.none _
   | refine LeO.ite ?_ ?_
   | refine LeO.bind ?_ (fun _ => ?_)
  ·intro y0 y1 y2 y3 y4 y5 y6 y7 y8 y9 y10 y11 y12 y13
   unfold cenotaphlaw08_StoreOrders.l1
   repeat' first
   | (with_reducible exact ih0 _ _ _ _)
   | (with_reducible exact ih1 _ _ _ _ _)
   | (with_reducible exact ih2 _ _ _ _ _ _ _ _ _ _ _ _ _ _)
   | (with_reducible exact ih3 _ _ _ _ _ _ _ _ _ _ _ _ _ _ _)
   | (with_reducible exact ih4 _ _)
   | (with_reducible exact ih5 _ _ _ _ _)
   | (with_reducible exact ih6 _ _ _ _)
   | (with_reducible exact ih7 _ _ _ _)
   | (with_reducible exact ih8 _ _ _)
   | (with_reducible exact ih9 _ _ _ _)
   | (with_reducible exact cenotaphlaw08_told.mono _)
   | (with_reducible exact cenotaphref07_Fix.mono _ _ _ _ _ _ _ _ _ _)
   | (with_reducible exact cenotaphref07_Newer.mono _ _ _ _ _ _ _)
   | (with_reducible exact LeO.refl _)
   | (with_reducible exact LeO.none _)
   | (with_reducible refine LeO.ite ?_ ?_)
   | (with_reducible refine LeO.bind ?_ (fun _ => ?_))
   | exact ih0 _ _ _ _
   | exact ih1 _ _ _ _ _
   | exact ih2 _ _ _ _ _ _ _ _ _ _ _ _ _ _
   | exact ih3 _ _ _ _ _ _ _ _ _ _ _ _ _ _ _
   | exact ih4 _ _
   | exact ih5 _ _ _ _ _
   | exact ih6 _ _ _ _
   | exact ih7 _ _ _ _
   | exact ih8 _ _ _
   | exact ih9 _ _ _ _
   | exact cenotaphlaw08_told.mono _
   | exact cenotaphref07_Fix.mono _ _ _ _ _ _ _ _ _ _
   | exact cenotaphref07_Newer.mono _ _ _ _ _ _ _
   | exact LeO.none _
   | refine LeO.ite ?_ ?_
   | refine LeO.bind ?_ (fun _ => ?_)
  ·intro y0 y1 y2 y3 y4 y5 y6 y7 y8 y9 y10 y11 y12 y13 y14
   unfold cenotaphlaw08_StoreOrders.j3
   repeat' first
   | (with_reducible exact ih0 _ _ _ _)
   | (with_reducible exact ih1 _ _ _ _ _)
   | (with_reducible exact ih2 _ _ _ _ _ _ _ _ _ _ _ _ _ _)
   | (with_reducible exact ih3 _ _ _ _ _ _ _ _ _ _ _ _ _ _ _)
   | (with_reducible exact ih4 _ _)
   | (with_reducible exact ih5 _ _ _ _ _)
   | (with_reducible exact ih6 _ _ _ _)
   | (with_reducible exact ih7 _ _ _ _)
   | (with_reducible exact ih8 _ _ _)
   | (with_reducible exact ih9 _ _ _ _)
   | (with_reducible exact cenotaphlaw08_told.mono _)
   | (with_reducible exact cenotaphref07_Fix.mono _ _ _ _ _ _ _ _ _ _)
   | (with_reducible exact cenotaphref07_Newer.mono _ _ _ _ _ _ _)
   | (with_reducible exact LeO.refl _)
   | (with_reducible exact LeO.none _)
   | (with_reducible refine LeO.ite ?_ ?_)
   | (with_reducible refine LeO.bind ?_ (fun _ => ?_))
   | exact ih0 _ _ _ _
   | exact ih1 _ _ _ _ _
   | exact ih2 _ _ _ _ _ _ _ _ _ _ _ _ _ _
   | exact ih3 _ _ _ _ _ _ _ _ _ _ _ _ _ _ _
   | exact ih4 _ _
   | exact ih5 _ _ _ _ _
   | exact ih6 _ _ _ _
   | exact ih7 _ _ _ _
   | exact ih8 _ _ _
   | exact ih9 _ _ _ _
   | exact cenotaphlaw08_told.mono _
   | exact cenotaphref07_Fix.mono _ _ _ _ _ _ _ _ _ _
   | exact cenotaphref07_Newer.mono _ _ _ _ _ _ _
   | exact LeO.none _
   | refine LeO.ite ?_ ?_
   | refine LeO.bind ?_ (fun _ => ?_)
  ·intro y0 y1
   unfold cenotaphlaw08_StoreOrders.j5
   repeat' first
   | (with_reducible exact ih0 _ _ _ _)
   | (with_reducible exact ih1 _ _ _ _ _)
   | (with_reducible exact ih2 _ _ _ _ _ _ _ _ _ _ _ _ _ _)
   | (with_reducible exact ih3 _ _ _ _ _ _ _ _ _ _ _ _ _ _ _)
   | (with_reducible exact ih4 _ _)
   | (with_reducible exact ih5 _ _ _ _ _)
   | (with_reducible exact ih6 _ _ _ _)
   | (with_reducible exact ih7 _ _ _ _)
   | (with_reducible exact ih8 _ _ _)
   | (with_reducible exact ih9 _ _ _ _)
   | (with_reducible exact cenotaphlaw08_told.mono _)
   | (with_reducible exact cenotaphref07_Fix.mono _ _ _ _ _ _ _ _ _ _)
   | (with_reducible exact cenotaphref07_Newer.mono _ _ _ _ _ _ _)
   | (with_reducible exact LeO.refl _)
   | (with_reducible exact LeO.none _)
   | (with_reducible refine LeO.ite ?_ ?_)
   | (with_reducible refine LeO.bind ?_ (fun _ => ?_))
   | exact ih0 _ _ _ _
   | exact ih1 _ _ _ _ _
   | exact ih2 _ _ _ _ _ _ _ _ _ _ _ _ _ _
   | exact ih3 _ _ _ _ _ _ _ _ _ _ _ _ _ _ _
   | exact ih4 _ _
   | exact ih5 _ _ _ _ _
   | exact ih6 _ _ _ _
   | exact ih7 _ _ _ _
   | exact ih8 _ _ _
   | exact ih9 _ _ _ _
   | exact cenotaphlaw08_told.mono _
   | exact cenotaphref07_Fix.mono _ _ _ _ _ _ _ _ _ _
   | exact cenotaphref07_Newer.mono _ _ _ _ _ _ _
   | exact LeO.none _
   | refine LeO.ite ?_ ?_
   | refine LeO.bind ?_ (fun _ => ?_)
  ·intro y0 y1 y2 y3 y4
   unfold cenotaphlaw08_StoreOrders.l3
   repeat' first
   | (with_reducible exact ih0 _ _ _ _)
   | (with_reducible exact ih1 _ _ _ _ _)
   | (with_reducible exact ih2 _ _ _ _ _ _ _ _ _ _ _ _ _ _)
   | (with_reducible exact ih3 _ _ _ _ _ _ _ _ _ _ _ _ _ _ _)
   | (with_reducible exact ih4 _ _)
   | (with_reducible exact ih5 _ _ _ _ _)
   | (with_reducible exact ih6 _ _ _ _)
   | (with_reducible exact ih7 _ _ _ _)
   | (with_reducible exact ih8 _ _ _)
   | (with_reducible exact ih9 _ _ _ _)
   | (with_reducible exact cenotaphlaw08_told.mono _)
   | (with_reducible exact cenotaphref07_Fix.mono _ _ _ _ _ _ _ _ _ _)
   | (with_reducible exact cenotaphref07_Newer.mono _ _ _ _ _ _ _)
   | (with_reducible exact LeO.refl _)
   | (with_reducible exact LeO.none _)
   | (with_reducible refine LeO.ite ?_ ?_)
   | (with_reducible refine LeO.bind ?_ (fun _ => ?_))
   | exact ih0 _ _ _ _
   | exact ih1 _ _ _ _ _
   | exact ih2 _ _ _ _ _ _ _ _ _ _ _ _ _ _
   | exact ih3 _ _ _ _ _ _ _ _ _ _ _ _ _ _ _
   | exact ih4 _ _
   | exact ih5 _ _ _ _ _
   | exact ih6 _ _ _ _
   | exact ih7 _ _ _ _
   | exact ih8 _ _ _
   | exact ih9 _ _ _ _
   | exact cenotaphlaw08_told.mono _
   | exact cenotaphref07_Fix.mono _ _ _ _ _ _ _ _ _ _
   | exact cenotaphref07_Newer.mono _ _ _ _ _ _ _
   | exact LeO.none _
   | refine LeO.ite ?_ ?_
   | refine LeO.bind ?_ (fun _ => ?_)
  ·intro y0 y1 y2 y3
   unfold cenotaphlaw08_StoreOrders.j7
   repeat' first
   | (with_reducible exact ih0 _ _ _ _)
   | (with_reducible exact ih1 _ _ _ _ _)
   | (with_reducible exact ih2 _ _ _ _ _ _ _ _ _ _ _ _ _ _)
   | (with_reducible exact ih3 _ _ _ _ _ _ _ _ _ _ _ _ _ _ _)
   | (with_reducible exact ih4 _ _)
   | (with_reducible exact ih5 _ _ _ _ _)
   | (with_reducible exact ih6 _ _ _ _)
   | (with_reducible exact ih7 _ _ _ _)
   | (with_reducible exact ih8 _ _ _)
   | (with_reducible exact ih9 _ _ _ _)
   | (with_reducible exact cenotaphlaw08_told.mono _)
   | (with_reducible exact cenotaphref07_Fix.mono _ _ _ _ _ _ _ _ _ _)
   | (with_reducible exact cenotaphref07_Newer.mono _ _ _ _ _ _ _)
   | (with_reducible exact LeO.refl _)
   | (with_reducible exact LeO.none _)
   | (with_reducible refine LeO.ite ?_ ?_)
   | (with_reducible refine LeO.bind ?_ (fun _ => ?_))
   | exact ih0 _ _ _ _
   | exact ih1 _ _ _ _ _
   | exact ih2 _ _ _ _ _ _ _ _ _ _ _ _ _ _
   | exact ih3 _ _ _ _ _ _ _ _ _ _ _ _ _ _ _
   | exact ih4 _ _
   | exact ih5 _ _ _ _ _
   | exact ih6 _ _ _ _
   | exact ih7 _ _ _ _
   | exact ih8 _ _ _
   | exact ih9 _ _ _ _
   | exact cenotaphlaw08_told.mono _
   | exact cenotaphref07_Fix.mono _ _ _ _ _ _ _ _ _ _
   | exact cenotaphref07_Newer.mono _ _ _ _ _ _ _
   | exact LeO.none _
   | refine LeO.ite ?_ ?_
   | refine LeO.bind ?_ (fun _ => ?_)
  ·intro y0 y1 y2 y3
   unfold cenotaphlaw08_StoreOrders.l4
   repeat' first
   | (with_reducible exact ih0 _ _ _ _)
   | (with_reducible exact ih1 _ _ _ _ _)
   | (with_reducible exact ih2 _ _ _ _ _ _ _ _ _ _ _ _ _ _)
   | (with_reducible exact ih3 _ _ _ _ _ _ _ _ _ _ _ _ _ _ _)
   | (with_reducible exact ih4 _ _)
   | (with_reducible exact ih5 _ _ _ _ _)
   | (with_reducible exact ih6 _ _ _ _)
   | (with_reducible exact ih7 _ _ _ _)
   | (with_reducible exact ih8 _ _ _)
   | (with_reducible exact ih9 _ _ _ _)
   | (with_reducible exact cenotaphlaw08_told.mono _)
   | (with_reducible exact cenotaphref07_Fix.mono _ _ _ _ _ _ _ _ _ _)
   | (with_reducible exact cenotaphref07_Newer.mono _ _ _ _ _ _ _)
   | (with_reducible exact LeO.refl _)
   | (with_reducible exact LeO.none _)
   | (with_reducible refine LeO.ite ?_ ?_)
   | (with_reducible refine LeO.bind ?_ (fun _ => ?_))
   | exact ih0 _ _ _ _
   | exact ih1 _ _ _ _ _
   | exact ih2 _ _ _ _ _ _ _ _ _ _ _ _ _ _
   | exact ih3 _ _ _ _ _ _ _ _ _ _ _ _ _ _ _
   | exact ih4 _ _
   | exact ih5 _ _ _ _ _
   | exact ih6 _ _ _ _
   | exact ih7 _ _ _ _
   | exact ih8 _ _ _
   | exact ih9 _ _ _ _
   | exact cenotaphlaw08_told.mono _
   | exact cenotaphref07_Fix.mono _ _ _ _ _ _ _ _ _ _
   | exact cenotaphref07_Newer.mono _ _ _ _ _ _ _
   | exact LeO.none _
   | refine LeO.ite ?_ ?_
   | refine LeO.bind ?_ (fun _ => ?_)
  ·intro y0 y1 y2
   unfold cenotaphlaw08_StoreOrders.l5
   repeat' first
   | (with_reducible exact ih0 _ _ _ _)
   | (with_reducible exact ih1 _ _ _ _ _)
   | (with_reducible exact ih2 _ _ _ _ _ _ _ _ _ _ _ _ _ _)
   | (with_reducible exact ih3 _ _ _ _ _ _ _ _ _ _ _ _ _ _ _)
   | (with_reducible exact ih4 _ _)
   | (with_reducible exact ih5 _ _ _ _ _)
   | (with_reducible exact ih6 _ _ _ _)
   | (with_reducible exact ih7 _ _ _ _)
   | (with_reducible exact ih8 _ _ _)
   | (with_reducible exact ih9 _ _ _ _)
   | (with_reducible exact cenotaphlaw08_told.mono _)
   | (with_reducible exact cenotaphref07_Fix.mono _ _ _ _ _ _ _ _ _ _)
   | (with_reducible exact cenotaphref07_Newer.mono _ _ _ _ _ _ _)
   | (with_reducible exact LeO.refl _)
   | (with_reducible exact LeO.none _)
   | (with_reducible refine LeO.ite ?_ ?_)
   | (with_reducible refine LeO.bind ?_ (fun _ => ?_))
   | exact ih0 _ _ _ _
   | exact ih1 _ _ _ _ _
   | exact ih2 _ _ _ _ _ _ _ _ _ _ _ _ _ _
   | exact ih3 _ _ _ _ _ _ _ _ _ _ _ _ _ _ _
   | exact ih4 _ _
   | exact ih5 _ _ _ _ _
   | exact ih6 _ _ _ _
   | exact ih7 _ _ _ _
   | exact ih8 _ _ _
   | exact ih9 _ _ _ _
   | exact cenotaphlaw08_told.mono _
   | exact cenotaphref07_Fix.mono _ _ _ _ _ _ _ _ _ _
   | exact cenotaphref07_Newer.mono _ _ _ _ _ _ _
   | exact LeO.none _
   | refine LeO.ite ?_ ?_
   | refine LeO.bind ?_ (fun _ => ?_)
  ·intro y0 y1 y2 y3
   unfold cenotaphlaw08_StoreOrders.l2
   repeat' first
   | (with_reducible exact ih0 _ _ _ _)
   | (with_reducible exact ih1 _ _ _ _ _)
   | (with_reducible exact ih2 _ _ _ _ _ _ _ _ _ _ _ _ _ _)
   | (with_reducible exact ih3 _ _ _ _ _ _ _ _ _ _ _ _ _ _ _)
   | (with_reducible exact ih4 _ _)
   | (with_reducible exact ih5 _ _ _ _ _)
   | (with_reducible exact ih6 _ _ _ _)
   | (with_reducible exact ih7 _ _ _ _)
   | (with_reducible exact ih8 _ _ _)
   | (with_reducible exact ih9 _ _ _ _)
   | (with_reducible exact cenotaphlaw08_told.mono _)
   | (with_reducible exact cenotaphref07_Fix.mono _ _ _ _ _ _ _ _ _ _)
   | (with_reducible exact cenotaphref07_Newer.mono _ _ _ _ _ _ _)
   | (with_reducible exact LeO.refl _)
   | (with_reducible exact LeO.none _)
   | (with_reducible refine LeO.ite ?_ ?_)
   | (with_reducible refine LeO.bind ?_ (fun _ => ?_))
   | exact ih0 _ _ _ _
   | exact ih1 _ _ _ _ _
   | exact ih2 _ _ _ _ _ _ _ _ _ _ _ _ _ _
   | exact ih3 _ _ _ _ _ _ _ _ _ _ _ _ _ _ _
   | exact ih4 _ _
   | exact ih5 _ _ _ _ _
   | exact ih6 _ _ _ _
   | exact ih7 _ _ _ _
   | exact ih8 _ _ _
   | exact ih9 _ _ _ _
   | exact cenotaphlaw08_told.mono _
   | exact cenotaphref07_Fix.mono _ _ _ _ _ _ _ _ _ _
   | exact cenotaphref07_Newer.mono _ _ _ _ _ _ _
   | exact LeO.none _
   | refine LeO.ite ?_ ?_
   | refine LeO.bind ?_ (fun _ => ?_)
theorem cenotaphlaw08_StoreOrders.mono : ∀ a0 a1 k, LeO (cenotaphlaw08_StoreOrders.f k a0 a1) (cenotaphlaw08_StoreOrders.f (k + 1) a0 a1) := by
 intro a0 a1 k
 obtain ⟨ih0, ih1, ih2, ih3, ih4, ih5, ih6, ih7, ih8, ih9⟩ := cenotaphlaw08_StoreOrders.mono_l k
 unfold cenotaphlaw08_StoreOrders.f
 repeat' first
   | (with_reducible exact ih0 _ _ _ _)
   | (with_reducible exact ih1 _ _ _ _ _)
   | (with_reducible exact ih2 _ _ _ _ _ _ _ _ _ _ _ _ _ _)
   | (with_reducible exact ih3 _ _ _ _ _ _ _ _ _ _ _ _ _ _ _)
   | (with_reducible exact ih4 _ _)
   | (with_reducible exact ih5 _ _ _ _ _)
   | (with_reducible exact ih6 _ _ _ _)
   | (with_reducible exact ih7 _ _ _ _)
   | (with_reducible exact ih8 _ _ _)
   | (with_reducible exact ih9 _ _ _ _)
   | (with_reducible exact cenotaphlaw08_told.mono _)
   | (with_reducible exact cenotaphref07_Fix.mono _ _ _ _ _ _ _ _ _ _)
   | (with_reducible exact cenotaphref07_Newer.mono _ _ _ _ _ _ _)
   | (with_reducible exact LeO.refl _)
   | (with_reducible exact LeO.none _)
   | (with_reducible refine LeO.ite ?_ ?_)
   | (with_reducible refine LeO.bind ?_ (fun _ => ?_))
   | exact ih0 _ _ _ _
   | exact ih1 _ _ _ _ _
   | exact ih2 _ _ _ _ _ _ _ _ _ _ _ _ _ _
   | exact ih3 _ _ _ _ _ _ _ _ _ _ _ _ _ _ _
   | exact ih4 _ _
   | exact ih5 _ _ _ _ _
   | exact ih6 _ _ _ _
   | exact ih7 _ _ _ _
   | exact ih8 _ _ _
   | exact ih9 _ _ _ _
   | exact cenotaphlaw08_told.mono _
   | exact cenotaphref07_Fix.mono _ _ _ _ _ _ _ _ _ _
   | exact cenotaphref07_Newer.mono _ _ _ _ _ _ _
   | exact LeO.none _
   | refine LeO.ite ?_ ?_
   | refine LeO.bind ?_ (fun _ => ?_)
def cenotaphlaw08_StoreOrders.T9 : Bool × List (List Nat × List Nat) := (true, [([], []), ([], []), ([0, 1], [0, 1]), ([2], [2]), ([3], [3]), ([4], [4]), ([], []), ([6], [6]), ([7], [7]), ([5, 8], [5, 8]), ([9], [9]), ([10], [10]), ([10], [10]), ([11, 12, 10], [10, 11, 12]), ([13, 10], [10, 13]), ([14, 10], [10, 14]), ([15, 10], [10, 15]), ([10], [10]), ([17, 10], [10, 17]), ([18, 10], [10, 18]), ([16, 19, 10], [10, 16, 19]), ([10, 20], [10, 20])])
def cenotaphlaw08_StoreOrders.B9 : List Nat := [0, 0, 3, 7, 15, 31, 0, 64, 192, 511, 1023, 2047, 2047, 8191, 16383, 32767, 65535, 2047, 133119, 395263, 1048575, 2097151]
theorem cenotaphlaw08_StoreOrders.tab9 : rtab .any (opsOf Try.f4 9) = cenotaphlaw08_StoreOrders.T9 := by kernel_rfl
theorem cenotaphlaw08_StoreOrders.bits9 : waitsOk cenotaphlaw08_StoreOrders.T9.2 cenotaphlaw08_StoreOrders.B9 = true := by kernel_rfl
def cenotaphlaw08_StoreOrders.T19 : Bool × List (List Nat × List Nat) := (true, [([], []), ([], []), ([1], [1]), ([0, 2], [0, 2]), ([], []), ([], []), ([4, 5], [4, 5]), ([6], [6]), ([7], [7]), ([], []), ([9], [9]), ([10], [10]), ([8, 11], [8, 11]), ([12], [12]), ([3, 0, 1, 2, 3], [3]), ([13, 14, 0, 1, 2, 3, 4, 5, 6, 7, 8, 9, 10, 11, 12, 13, 14], [13])])
def cenotaphlaw08_StoreOrders.B19 : List Nat := [0, 0, 2, 7, 0, 0, 48, 112, 240, 0, 512, 1536, 4080, 8176, 15, 32767]
theorem cenotaphlaw08_StoreOrders.tab19 : rtab .any (opsOf Try.f4 19) = cenotaphlaw08_StoreOrders.T19 := by kernel_rfl
theorem cenotaphlaw08_StoreOrders.bits19 : waitsOk cenotaphlaw08_StoreOrders.T19.2 cenotaphlaw08_StoreOrders.B19 = true := by kernel_rfl
def cenotaphlaw08_StoreOrders.T20 : Bool × List (List Nat × List Nat) := (true, [([], []), ([], []), ([], []), ([], []), ([], []), ([], []), ([4, 5], [4, 5]), ([6], [6]), ([], []), ([], []), ([8, 9], [8, 9]), ([10], [10]), ([0, 1, 0, 1, 4, 5, 6, 7, 11], [0, 1]), ([12, 7, 0, 1, 4, 5, 6, 7, 11], [7, 12]), ([2, 3, 0, 1, 2, 3, 4, 5, 6, 7, 8, 9, 10, 11, 12, 13], [2, 3]), ([14, 11, 13, 0, 1, 2, 3, 4, 5, 6, 7, 8, 9, 10, 11, 12, 13], [11, 14])])
def cenotaphlaw08_StoreOrders.B20 : List Nat := [0, 0, 0, 0, 0, 0, 48, 112, 0, 0, 768, 1792, 4083, 8179, 16383, 32767]
theorem cenotaphlaw08_StoreOrders.tab20 : rtab .any (opsOf Try.f4 20) = cenotaphlaw08_StoreOrders.T20 := by kernel_rfl
theorem cenotaphlaw08_StoreOrders.bits20 : waitsOk cenotaphlaw08_StoreOrders.T20.2 cenotaphlaw08_StoreOrders.B20 = true := by kernel_rfl
def cenotaphlaw08_StoreOrders.T32 : Bool × List (List Nat × List Nat) := (true, [([], []), ([], []), ([0, 1], [0, 1]), ([2], [2]), ([3], [3]), ([], []), ([], []), ([5, 6], [5, 6]), ([7], [7]), ([8], [8]), ([4, 9], [4, 9]), ([10], [10]), ([11], [11]), ([11], [11]), ([12, 13, 11], [11, 12, 13]), ([14, 11], [11, 14]), ([15, 11], [11, 15]), ([11], [11]), ([11], [11]), ([17, 18, 11], [11, 17, 18]), ([19, 11], [11, 19]), ([20, 11], [11, 20]), ([16, 21, 11], [11, 16, 21]), ([11, 22], [11, 22]), ([23, 11], [23]), ([24], [24]), ([24], [24]), ([25, 26, 24], [24, 25, 26]), ([27, 24], [24, 27]), ([28, 24], [24, 28]), ([24], [24]), ([24], [24]), ([30, 31, 24], [24, 30, 31]), ([32, 24], [24, 32]), ([33, 24], [24, 33]), ([29, 34, 24], [24, 29, 34]), ([24, 35], [24, 35]), ([36, 24], [36]), ([37], [37]), ([37], [37]), ([38, 39, 37], [37, 38, 39]), ([40, 37], [37, 40]), ([41, 37], [37, 41]), ([37], [37]), ([37], [37]), ([43, 44, 37], [37, 43, 44]), ([45, 37], [37, 45]), ([46, 37], [37, 46]), ([42, 47, 37], [37, 42, 47]), ([37, 48], [37, 48])])
def cenotaphlaw08_StoreOrders.B32 : List Nat := [0, 0, 3, 7, 15, 0, 0, 96, 224, 480, 1023, 2047, 4095, 4095, 16383, 32767, 65535, 4095, 4095, 397311, 921599, 1970175, 4194303, 8388607, 16777215, 33554431, 33554431, 134217727, 268435455, 536870911, 33554431, 33554431, 3254779903, 7549747199, 16139681791, 34359738367, 68719476735, 137438953471, 274877906943, 274877906943, 1099511627775, 2199023255551, 4398046511103, 274877906943, 274877906943, 26663156973567, 61847529062399, 132216273240063, 281474976710655, 562949953421311]
theorem cenotaphlaw08_StoreOrders.tab32 : rtab .any (opsOf Try.f4 32) = cenotaphlaw08_StoreOrders.T32 := by kernel_rfl
theorem cenotaphlaw08_StoreOrders.bits32 : waitsOk cenotaphlaw08_StoreOrders.T32.2 cenotaphlaw08_StoreOrders.B32 = true := by kernel_rfl
def cenotaphlaw08_StoreOrders.T38 : Bool × List (List Nat × List Nat) := (true, [([], []), ([0], [0]), ([1], [1]), ([2], [2]), ([2], [2]), ([3, 4, 2], [2, 3, 4]), ([5, 2], [2, 5]), ([6, 2], [2, 6]), ([2], [2]), ([8, 2, 2], [2, 8]), ([9, 2], [2, 9]), ([7, 10, 9, 2], [2, 7, 10]), ([2, 11], [2, 11]), ([12, 11], [12]), ([13], [13]), ([13], [13]), ([14, 15, 13], [13, 14, 15]), ([16, 13], [13, 16]), ([17, 13], [13, 17]), ([13], [13]), ([19, 13, 13], [13, 19]), ([20, 13], [13, 20]), ([18, 21, 13], [13, 18, 21]), ([22, 20, 13], [13, 22]), ([23], [23]), ([23], [23]), ([24, 25, 23], [23, 24, 25]), ([26, 23], [23, 26]), ([27, 23], [23, 27]), ([23, 28, 13], [13, 23, 28]), ([29, 23, 13], [13, 29]), ([30], [30]), ([31, 30], [30, 31]), ([32, 30], [30, 32]), ([30, 33, 13], [13, 30, 33]), ([13, 34], [13, 34])])
def cenotaphlaw08_StoreOrders.B38 : List Nat := [0, 1, 3, 7, 7, 31, 63, 127, 7, 263, 775, 2047, 4095, 8191, 16383, 16383, 65535, 131071, 262143, 16383, 540671, 1589247, 4194303, 8388607, 16777215, 16777215, 67108863, 134217727, 268435455, 536870911, 1073741823, 2147483647, 4294967295, 8589934591, 17179869183, 34359738367]
theorem cenotaphlaw08_StoreOrders.tab38 : rtab .any (opsOf Try.f4 38) = cenotaphlaw08_StoreOrders.T38 := by kernel_rfl
theorem cenotaphlaw08_StoreOrders.bits38 : waitsOk cenotaphlaw08_StoreOrders.T38.2 cenotaphlaw08_StoreOrders.B38 = true := by kernel_rfl
end Go.Proofs.Ytgdkgobplinelaa.P
