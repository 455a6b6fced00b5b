import Derived.Test.YtgdkgobplinelaaP0
import Derived.Test.YtgdkgobplinelaaP1
import Derived.Test.YtgdkgobplinelaaP6
import Derived.Test.YtgdkgobplinelaaP10
namespace Go.Proofs.Ytgdkgobplinelaa.P
open Go.RowKit Go.Proofs.YtgdkgobplinelaaW.PrintWords Go.Proofs.YtgdkgobplinelaaW.PrintLast Go.Proofs.YtgdkgobplinelaaW.PrintMore
set_option maxHeartbeats 8000000
set_option maxRecDepth 100000
attribute [local go_sem] run_store_complex max2_int min2_int max_two min_two max_three min_three max_four min_four
set_option linter.unusedVariables false
set_option linter.unusedSimpArgs false
attribute [local go_sem high] eqA24
theorem zq13_0 {p_ : Prop} (h_ : p_ := by repeat (first | (with_reducible first | exact HB.out | apply bA | apply pB | apply bW | refine below_set ?_ GE114.out | refine below_set ?_ GE125.out) | exact HB.out)) : p_ := h_
theorem zq13_1 {p_ : Prop} (h_ : p_ := by repeat (first | (with_reducible first | exact HB.out | apply bA | apply pB | apply bW | refine below_set ?_ GE114.out) | exact HB.out)) : p_ := h_
theorem zq13_2 {p_ : Prop} (h_ : p_ := by (try simp only [List.map_toArray, List.map_cons, List.map_nil]); first | done | rfl | (simp only [List.length_drop, List.length_take]; rfl)) : p_ := h_
theorem zq13_3 {p_ : Prop} (h_ : p_ := by repeat (first | (with_reducible first | exact HB.out | apply bA | apply pB | apply bW) | exact HB.out)) : p_ := h_
theorem zq13_4 {p_ : Prop} (h_ : p_ := by (with_reducible repeat (first | refine blk_drewN ?_ _ | refine blk_drew ?_ | refine blk_alloc ?_ _)); exact BK114.out) : p_ := h_
theorem zq13_5 {p_ : Prop} (h_ : p_ := by (with_reducible repeat (first | refine blk_drewN ?_ _ | refine blk_drew ?_ | refine blk_alloc ?_ _)); exact BK125.out) : p_ := h_
theorem zq13_6 {p_ : Prop} (h_ : p_ := by (with_reducible repeat (first | apply Kd.R_alloc | apply Kd.R_drewN | apply Kd.R_drew)); exact HO136.out) : p_ := h_
theorem zq13_7 {p_ : Prop} (h_ : p_ := by (with_reducible repeat (first | apply Kd.R_alloc | apply Kd.R_drewN | apply Kd.R_drew)); exact HO139.out) : p_ := h_
theorem zq13_8 {p_ : Prop} (h_ : p_ := by first | (with_reducible assumption) | assumption) : p_ := h_
theorem zq13_9 {p_ : Prop} (h_ : p_ := by first | rfl | (simp; done) | (simp [*]; done)) : p_ := h_
mutual
def cenotaphref08_Put.j0 : Nat → List (S28) → Bool → Int → ByteArray → Int → Int → Bool → Int → Int → ByteArray → Bool → Option ((List (S28)) × Bool)
 | 0, _, _, _, _, _, _, _, _, _, _, _ => none
 | k + 1, x0, x47, x115000, x115001, x115002, x115003, x115004, x115005, x115006, x115007, x115008 => if x47 = true then ((some (([] : List (S28)) : List (S28))).bind fun y128 => (if y128.length + x0.length < 1599289640401 then (some ((y128 ++ x0), false)) else (none))) else ((cenotaphref08_Drop.f k x0 x115000).bind fun t134 => ((some (([(⟨x115000, (⟨x115001, x115002, x115003⟩ : S24), x115004, (⟨x115005, x115006⟩ : S26), x115007, x115008⟩ : S28)] : List (S28)) : List (S28))).bind fun y137 => (if t134.length + y137.length < 1599289640401 then ((some (t134 ++ y137 : List (S28))).bind fun y140 => (cenotaphref08_Put.l0 k y140 (wrap64 ((y140.length : Int) - 1)))) else (none))))
def cenotaphref08_Put.l0 : Nat → List (S28) → Int → Option ((List (S28)) × Bool)
 | 0, _, _ => none
 | k + 1, x8, x9 => if x9 > 0 then (if 0 ≤ (wrap64 (x9 - 1)) then (if (wrap64 (x9 - 1)) < (x8.length : Int) then (if 0 ≤ x9 then (if x9 < (x8.length : Int) then (if ((rd_T28 x8 (wrap64 (x9 - 1))).f0) > ((rd_T28 x8 x9).f0) then (cenotaphref08_Put.l0 k ((x8.set ((wrap64 (x9 - 1)) : Int).toNat (⟨(rd_T28 x8 x9).f0, (⟨(rd_T28 x8 x9).f1.f0, (rd_T28 x8 x9).f1.f1, (rd_T28 x8 x9).f1.f2⟩ : S24), (rd_T28 x8 x9).f2, (⟨(rd_T28 x8 x9).f3.f0, (rd_T28 x8 x9).f3.f1⟩ : S26), (rd_T28 x8 x9).f4, (rd_T28 x8 x9).f5⟩ : S28)).set (x9 : Int).toNat (⟨(rd_T28 x8 (wrap64 (x9 - 1))).f0, (⟨(rd_T28 x8 (wrap64 (x9 - 1))).f1.f0, (rd_T28 x8 (wrap64 (x9 - 1))).f1.f1, (rd_T28 x8 (wrap64 (x9 - 1))).f1.f2⟩ : S24), (rd_T28 x8 (wrap64 (x9 - 1))).f2, (⟨(rd_T28 x8 (wrap64 (x9 - 1))).f3.f0, (rd_T28 x8 (wrap64 (x9 - 1))).f3.f1⟩ : S26), (rd_T28 x8 (wrap64 (x9 - 1))).f4, (rd_T28 x8 (wrap64 (x9 - 1))).f5⟩ : S28)) (wrap64 (x9 - 1))) else (some (x8, true))) else (none)) else (none)) else (none)) else (none)) else (some (x8, true))
end
def cenotaphref08_Put.f (k : Nat) (l0 : List (S28)) (a1_0 : Int) (a1_1 : ByteArray) (a1_2 : Int) (a1_3 : Int) (a1_4 : Bool) (a1_5 : Int) (a1_6 : Int) (a1_7 : ByteArray) (a1_8 : Bool) : Option ((List (S28)) × Bool) := (cenotaphref08_Get.f k l0 a1_0).bind fun bt115 => (if bt115.2.2.2.2.2.2.2.2.2 = true then (if (bt115.2.1.toList == a1_1.toList && (bt115.2.2.1 == a1_2 && (bt115.2.2.2.1 == a1_3))) = true then (if bt115.2.2.2.2.2.2.2.2.1 = true then (cenotaphref08_Put.j0 k l0 true a1_0 a1_1 a1_2 a1_3 a1_4 a1_5 a1_6 a1_7 a1_8) else (if a1_8 = true then (if (!(bt115.2.1.toList == a1_1.toList) || (!(bt115.2.2.1 == a1_2) || (!(bt115.2.2.2.1 == a1_3)))) = true then ((cenotaphref07_Newer.f k bt115.2.1 bt115.2.2.1 bt115.2.2.2.1 a1_1 a1_2 a1_3).bind fun t126 => (cenotaphref08_Put.j0 k l0 t126 a1_0 a1_1 a1_2 a1_3 a1_4 a1_5 a1_6 a1_7 a1_8)) else (cenotaphref08_Put.j0 k l0 false a1_0 a1_1 a1_2 a1_3 a1_4 a1_5 a1_6 a1_7 a1_8)) else (cenotaphref08_Put.j0 k l0 true a1_0 a1_1 a1_2 a1_3 a1_4 a1_5 a1_6 a1_7 a1_8))) else (if (!(bt115.2.1.toList == a1_1.toList) || (!(bt115.2.2.1 == a1_2) || (!(bt115.2.2.2.1 == a1_3)))) = true then ((cenotaphref07_Newer.f k bt115.2.1 bt115.2.2.1 bt115.2.2.2.1 a1_1 a1_2 a1_3).bind fun t127 => (cenotaphref08_Put.j0 k l0 t127 a1_0 a1_1 a1_2 a1_3 a1_4 a1_5 a1_6 a1_7 a1_8)) else (cenotaphref08_Put.j0 k l0 false a1_0 a1_1 a1_2 a1_3 a1_4 a1_5 a1_6 a1_7 a1_8))) else (cenotaphref08_Put.j0 k l0 false a1_0 a1_1 a1_2 a1_3 a1_4 a1_5 a1_6 a1_7 a1_8))
theorem cenotaphref08_Put.mono_l : ∀ k, (∀ y0 y1 y2 y3 y4 y5 y6 y7 y8 y9 y10, LeO (cenotaphref08_Put.j0 k y0 y1 y2 y3 y4 y5 y6 y7 y8 y9 y10) (cenotaphref08_Put.j0 (k + 1) y0 y1 y2 y3 y4 y5 y6 y7 y8 y9 y10)) ∧ (∀ y0 y1, LeO (cenotaphref08_Put.l0 k y0 y1) (cenotaphref08_Put.l0 (k + 1) y0 y1))
 | 0 => ⟨fun _ _ _ _ _ _ _ _ _ _ _ r h => by simp [cenotaphref08_Put.j0] at h, fun _ _ r h => by simp [cenotaphref08_Put.l0] at h⟩
 | k + 1 => by
  obtain ⟨ih0, ih1⟩ := cenotaphref08_Put.mono_l k
  refine ⟨?_, ?_⟩
  ·intro y0 y1 y2 y3 y4 y5 y6 y7 y8 y9 y10
   unfold cenotaphref08_Put.j0
   repeat' first
   | (with_reducible exact ih0 _ _ _ _ _ _ _ _ _ _ _)
   | (with_reducible exact ih1 _ _)
   | (with_reducible exact cenotaphref07_Newer.mono _ _ _ _ _ _ _)
   | (with_reducible exact cenotaphref08_Drop.mono _ _ _)
   | (with_reducible exact cenotaphref08_Get.mono _ _ _)
   | (with_reducible exact LeO.refl _)
   | (with_reducible exact LeO.none _)
   | (with_reducible refine LeO.ite ?_ ?_)
   | (with_reducible refine LeO.bind ?_ (fun _ => ?_))
   | exact ih0 _ _ _ _ _ _ _ _ _ _ _
   | exact ih1 _ _
   | exact cenotaphref07_Newer.mono _ _ _ _ _ _ _
   | exact cenotaphref08_Drop.mono _ _ _
   | exact cenotaphref08_Get.mono _ _ _
   | exact LeO.none _
   | refine LeO.ite ?_ ?_
   | refine LeO.bind ?_ (fun _ => ?_)
  ·intro y0 y1
   unfold cenotaphref08_Put.l0
   repeat' first
   | (with_reducible exact ih0 _ _ _ _ _ _ _ _ _ _ _)
   | (with_reducible exact ih1 _ _)
   | (with_reducible exact cenotaphref07_Newer.mono _ _ _ _ _ _ _)
   | (with_reducible exact cenotaphref08_Drop.mono _ _ _)
   | (with_reducible exact cenotaphref08_Get.mono _ _ _)
   | (with_reducible exact LeO.refl _)
   | (with_reducible exact LeO.none _)
   | (with_reducible refine LeO.ite ?_ ?_)
   | (with_reducible refine LeO.bind ?_ (fun _ => ?_))
   | exact ih0 _ _ _ _ _ _ _ _ _ _ _
   | exact ih1 _ _
   | exact cenotaphref07_Newer.mono _ _ _ _ _ _ _
   | exact cenotaphref08_Drop.mono _ _ _
   | exact cenotaphref08_Get.mono _ _ _
   | exact LeO.none _
   | refine LeO.ite ?_ ?_
   | refine LeO.bind ?_ (fun _ => ?_)
theorem cenotaphref08_Put.mono : ∀ a0 a1 a2 a3 a4 a5 a6 a7 a8 a9 k, LeO (cenotaphref08_Put.f k a0 a1 a2 a3 a4 a5 a6 a7 a8 a9) (cenotaphref08_Put.f (k + 1) a0 a1 a2 a3 a4 a5 a6 a7 a8 a9) := by
 intro a0 a1 a2 a3 a4 a5 a6 a7 a8 a9 k
 obtain ⟨ih0, ih1⟩ := cenotaphref08_Put.mono_l k
 unfold cenotaphref08_Put.f
 repeat' first
   | (with_reducible exact ih0 _ _ _ _ _ _ _ _ _ _ _)
   | (with_reducible exact ih1 _ _)
   | (with_reducible exact cenotaphref07_Newer.mono _ _ _ _ _ _ _)
   | (with_reducible exact cenotaphref08_Drop.mono _ _ _)
   | (with_reducible exact cenotaphref08_Get.mono _ _ _)
   | (with_reducible exact LeO.refl _)
   | (with_reducible exact LeO.none _)
   | (with_reducible refine LeO.ite ?_ ?_)
   | (with_reducible refine LeO.bind ?_ (fun _ => ?_))
   | exact ih0 _ _ _ _ _ _ _ _ _ _ _
   | exact ih1 _ _
   | exact cenotaphref07_Newer.mono _ _ _ _ _ _ _
   | exact cenotaphref08_Drop.mono _ _ _
   | exact cenotaphref08_Get.mono _ _ _
   | exact LeO.none _
   | refine LeO.ite ?_ ?_
   | refine LeO.bind ?_ (fun _ => ?_)
def cenotaphref08_Put.T4 : Bool × List (List Nat × List Nat) := (true, [([], []), ([], []), ([1], [1]), ([0, 2], [0, 2]), ([], []), ([4], [4]), ([3, 5, 3], [3, 5]), ([6, 6, 0, 1, 2, 3, 4, 5, 6], [6])])
def cenotaphref08_Put.B4 : List Nat := [0, 0, 2, 7, 0, 16, 63, 127]
theorem cenotaphref08_Put.tab4 : rtab .any (opsOf Try.f13 4) = cenotaphref08_Put.T4 := by kernel_rfl
theorem cenotaphref08_Put.bits4 : waitsOk cenotaphref08_Put.T4.2 cenotaphref08_Put.B4 = true := by kernel_rfl
def cenotaphref08_Put.T6 : Bool × List (List Nat × List Nat) := (true, [([], []), ([0], [0]), ([1], [1]), ([2], [2]), ([2], [2]), ([4, 2], [2, 4]), ([3, 5, 2], [2, 3, 5]), ([6, 2], [2, 6]), ([7, 2], [2, 7]), ([2], [2]), ([2], [2]), ([9, 10, 2], [2, 9, 10]), ([11, 2], [2, 11]), ([12, 2], [2, 12]), ([8, 13, 2], [2, 8, 13]), ([2, 14], [2, 14])])
def cenotaphref08_Put.B6 : List Nat := [0, 1, 3, 7, 7, 23, 63, 127, 255, 7, 7, 1543, 3591, 7687, 16383, 32767]
theorem cenotaphref08_Put.tab6 : rtab .any (opsOf Try.f13 6) = cenotaphref08_Put.T6 := by kernel_rfl
theorem cenotaphref08_Put.bits6 : waitsOk cenotaphref08_Put.T6.2 cenotaphref08_Put.B6 = true := by kernel_rfl
def cenotaphref08_Put.T8 : Bool × List (List Nat × List Nat) := (true, [([], []), ([], []), ([1], [1]), ([], []), ([], []), ([], []), ([], []), ([5, 6], [5, 6]), ([7], [7]), ([], []), ([], []), ([10], [10]), ([9, 11], [9, 11]), ([12], [12]), ([0, 2, 0, 1, 2, 5, 6, 7, 8, 13], [0, 2]), ([14, 8, 0, 1, 2, 5, 6, 7, 8, 13], [8, 14]), ([3, 4, 0, 1, 2, 3, 4, 5, 6, 7, 8, 9, 10, 11, 12, 13, 14, 15], [3, 4]), ([16, 13, 15, 0, 1, 2, 3, 4, 5, 6, 7, 8, 9, 10, 11, 12, 13, 14, 15], [13, 16])])
def cenotaphref08_Put.B8 : List Nat := [0, 0, 2, 0, 0, 0, 0, 96, 224, 0, 0, 1024, 3584, 7680, 16359, 32743, 65535, 131071]
theorem cenotaphref08_Put.tab8 : rtab .any (opsOf Try.f13 8) = cenotaphref08_Put.T8 := by kernel_rfl
theorem cenotaphref08_Put.bits8 : waitsOk cenotaphref08_Put.T8.2 cenotaphref08_Put.B8 = true := by kernel_rfl
theorem cenotaphref08_Put.calls (k : Nat) (A0 : Option Addr) (c0 : Nat) (l0 : List (S28)) (a1_0 : Int) (a1_1 : ByteArray) (a1_2 : Int) (a1_3 : Int) (a1_4 : Bool) (a1_5 : Int) (a1_6 : Int) (a1_7 : ByteArray) (a1_8 : Bool) (r1 : List (S28)) (r2 : Bool) (w : World) (hr0 : Kd.C k28 w A0 l0.length l0) (hc0 : l0.length ≤ c0) (h : cenotaphref08_Put.f k l0 a1_0 a1_1 a1_2 a1_3 a1_4 a1_5 a1_6 a1_7 a1_8 = some (r1, r2)) :
  Calls Try.prog 13 #[.slice A0 l0.length c0, .agg #[.int .i64 a1_0, .string a1_1, .int .i64 a1_2, .int .i64 a1_3, .bool a1_4, .int .i64 a1_5, .int .i64 a1_6, .string a1_7, .bool a1_8]] w fun e w' => ∃ v0_ : Value, e = .returned (.tuple #[v0_, .bool r2]) ∧ Kd.R k28 28 w' w.heap.size (fun _ => True) v0_ r1 ∧ Below w.heap.size w w' := by
 have hu28 := Try.underlying28
 have hu24 := Try.underlying24
 have HR0 := aK hr0
 have HC0 := aK hc0
 clear hr0 hc0
 have HB := aK (Below.refl w.heap.size w)
 have H : ((cenotaphref08_Get.f k l0 a1_0).bind fun bt115 => (if bt115.2.2.2.2.2.2.2.2.2 = true then (if (bt115.2.1.toList == a1_1.toList && (bt115.2.2.1 == a1_2 && (bt115.2.2.2.1 == a1_3))) = true then (if bt115.2.2.2.2.2.2.2.2.1 = true then (cenotaphref08_Put.j0 k l0 true a1_0 a1_1 a1_2 a1_3 a1_4 a1_5 a1_6 a1_7 a1_8) else (if a1_8 = true then (if (!(bt115.2.1.toList == a1_1.toList) || (!(bt115.2.2.1 == a1_2) || (!(bt115.2.2.2.1 == a1_3)))) = true then ((cenotaphref07_Newer.f k bt115.2.1 bt115.2.2.1 bt115.2.2.2.1 a1_1 a1_2 a1_3).bind fun t126 => (cenotaphref08_Put.j0 k l0 t126 a1_0 a1_1 a1_2 a1_3 a1_4 a1_5 a1_6 a1_7 a1_8)) else (cenotaphref08_Put.j0 k l0 false a1_0 a1_1 a1_2 a1_3 a1_4 a1_5 a1_6 a1_7 a1_8)) else (cenotaphref08_Put.j0 k l0 true a1_0 a1_1 a1_2 a1_3 a1_4 a1_5 a1_6 a1_7 a1_8))) else (if (!(bt115.2.1.toList == a1_1.toList) || (!(bt115.2.2.1 == a1_2) || (!(bt115.2.2.2.1 == a1_3)))) = true then ((cenotaphref07_Newer.f k bt115.2.1 bt115.2.2.1 bt115.2.2.2.1 a1_1 a1_2 a1_3).bind fun t127 => (cenotaphref08_Put.j0 k l0 t127 a1_0 a1_1 a1_2 a1_3 a1_4 a1_5 a1_6 a1_7 a1_8)) else (cenotaphref08_Put.j0 k l0 false a1_0 a1_1 a1_2 a1_3 a1_4 a1_5 a1_6 a1_7 a1_8))) else (cenotaphref08_Put.j0 k l0 false a1_0 a1_1 a1_2 a1_3 a1_4 a1_5 a1_6 a1_7 a1_8))) = some (r1, r2) := h
 clear h
 replace H := bM H
 obtain ⟨⟨t115, t116, t117, t118, t119, t120, t121, t122, t123, t124⟩, A30, H⟩ := H
 replace H : (if t124 = true then (if (t116.toList == a1_1.toList && (t117 == a1_2 && (t118 == a1_3))) = true then (if t123 = true then (cenotaphref08_Put.j0 k l0 true a1_0 a1_1 a1_2 a1_3 a1_4 a1_5 a1_6 a1_7 a1_8) else (if a1_8 = true then (if (!(t116.toList == a1_1.toList) || (!(t117 == a1_2) || (!(t118 == a1_3)))) = true then ((cenotaphref07_Newer.f k t116 t117 t118 a1_1 a1_2 a1_3).bind fun t126 => (cenotaphref08_Put.j0 k l0 t126 a1_0 a1_1 a1_2 a1_3 a1_4 a1_5 a1_6 a1_7 a1_8)) else (cenotaphref08_Put.j0 k l0 false a1_0 a1_1 a1_2 a1_3 a1_4 a1_5 a1_6 a1_7 a1_8)) else (cenotaphref08_Put.j0 k l0 true a1_0 a1_1 a1_2 a1_3 a1_4 a1_5 a1_6 a1_7 a1_8))) else (if (!(t116.toList == a1_1.toList) || (!(t117 == a1_2) || (!(t118 == a1_3)))) = true then ((cenotaphref07_Newer.f k t116 t117 t118 a1_1 a1_2 a1_3).bind fun t127 => (cenotaphref08_Put.j0 k l0 t127 a1_0 a1_1 a1_2 a1_3 a1_4 a1_5 a1_6 a1_7 a1_8)) else (cenotaphref08_Put.j0 k l0 false a1_0 a1_1 a1_2 a1_3 a1_4 a1_5 a1_6 a1_7 a1_8))) else (cenotaphref08_Put.j0 k l0 false a1_0 a1_1 a1_2 a1_3 a1_4 a1_5 a1_6 a1_7 a1_8)) = some (r1, r2) := H
 have A3 := aK A30
 clear A30
 have HC4 := aK H
 clear H
 go_enter Try.func13, Try.ntmps13
 go_upto_region 2 with (first | ((with_reducible refine gate_dst (N := 3) rfl ?_); refine box_event ?hg (N := 3) ?hd (cs := #[.int .i64 a1_0, .string a1_1, .int .i64 a1_2, .int .i64 a1_3, .bool a1_4, .int .i64 a1_5, .int .i64 a1_6, .string a1_7, .bool a1_8]) (t := 28) ?hr ?_; (case hd => rfl); (case hg => rfl); (case hr => first | (go_simp; done) | (go_simp; rfl)); intro gb114 hg w5 hbox hb; have BK114 := aK (hbox); have GW114 := aK (((by rw [hg]; exact (below_size zq13_3)) : w.heap.size ≤ gb114)); have GE114 := aK (((by rw [hg]; exact (below_size zq13_3)) : w.heap.size ≤ gb114)); replace HB := aK (bS zq13_3 hb); clear hb hbox hg; have hcz6_0 : w5.cell? ⟨gb114, 0, none⟩ = some (.int .i64 a1_0) := (bC BK114.out 0).trans rfl; have hcz6_1 : w5.cell? ⟨gb114, 1, none⟩ = some (.string a1_1) := (bC BK114.out 1).trans rfl; have hcz6_2 : w5.cell? ⟨gb114, 2, none⟩ = some (.int .i64 a1_2) := (bC BK114.out 2).trans rfl; have hcz6_3 : w5.cell? ⟨gb114, 3, none⟩ = some (.int .i64 a1_3) := (bC BK114.out 3).trans rfl; have hcz6_4 : w5.cell? ⟨gb114, 4, none⟩ = some (.bool a1_4) := (bC BK114.out 4).trans rfl; have hcz6_5 : w5.cell? ⟨gb114, 5, none⟩ = some (.int .i64 a1_5) := (bC BK114.out 5).trans rfl; have hcz6_6 : w5.cell? ⟨gb114, 6, none⟩ = some (.int .i64 a1_6) := (bC BK114.out 6).trans rfl; have hcz6_7 : w5.cell? ⟨gb114, 7, none⟩ = some (.string a1_7) := (bC BK114.out 7).trans rfl; have hcz6_8 : w5.cell? ⟨gb114, 8, none⟩ = some (.bool a1_8) := (bC BK114.out 8).trans rfl; have hfz6_0 := bF_ BK114.out 0; have hfz6_1 := bF_ BK114.out 1; have hfz6_2 := bF_ BK114.out 2; have hfz6_3 := bF_ BK114.out 3; have hfz6_4 := bF_ BK114.out 4; have hfz6_5 := bF_ BK114.out 5; have hfz6_6 := bF_ BK114.out 6; have hfz6_7 := bF_ BK114.out 7; have hfz6_8 := bF_ BK114.out 8) | ((with_reducible refine gate_callee (f := 15) rfl ?_); refine goesL_ (some 14) rfl rfl Try.func15 (by kernel_rfl) rfl #[.slice A0 l0.length c0, .int .i64 a1_0] rfl zq13_2 ?_; (with_reducible refine (cenotaphref08_Get.calls k _ _ l0 a1_0 t115 t116 t117 t118 t119 t120 t121 t122 t123 t124 _ ?side1 ?side2 A3.out).mono ?_); (case side1 => repeat (first | exact (cB HR0.out HB.out) | (with_reducible refine Kd.C_alloc ?_ _) | (with_reducible refine Kd.C_drewN ?_ _) | (with_reducible refine Kd.C_drew ?_))); (case side2 => exact HC0.out); rintro e w7 ⟨rfl, hb⟩; refine ⟨_, rfl, ?_⟩; replace BK114 := aK (bB (g := gb114) (o := .cells #[.int .i64 a1_0, .string a1_1, .int .i64 a1_2, .int .i64 a1_3, .bool a1_4, .int .i64 a1_5, .int .i64 a1_6, .string a1_7, .bool a1_8] 28 (0, 0)) zq13_4 hb); replace HB := aK (bS zq13_1 hb); (try clear hb); (try clear hb2); (try clear hk); (try clear hi)) | ((with_reducible refine gate_dst (N := 6) rfl ?_); refine box_event ?hg (N := 6) ?hd (cs := #[.int .i64 0, .string (⟨#[]⟩ : ByteArray), .int .i64 0, .int .i64 0, .bool false, .int .i64 0, .int .i64 0, .string (⟨#[]⟩ : ByteArray), .bool false]) (t := 28) ?hr ?_; (case hd => rfl); (case hg => rfl); (case hr => first | (go_simp; done) | (go_simp; rfl)); intro gb125 hg w8 hbox hb; have BK125 := aK (hbox); have GW125 := aK (((by rw [hg]; exact (below_size zq13_1)) : w.heap.size ≤ gb125)); have GE125 := aK (((by rw [hg]; exact (below_size zq13_1)) : w.heap.size ≤ gb125)); replace HB := aK (bS zq13_1 hb); have NB114_125 := aK (((by rw [hg]; exact Nat.ne_of_lt (blk_lt (g := gb114) (o := .cells #[.int .i64 a1_0, .string a1_1, .int .i64 a1_2, .int .i64 a1_3, .bool a1_4, .int .i64 a1_5, .int .i64 a1_6, .string a1_7, .bool a1_8] 28 (0, 0)) zq13_4)) : gb114 ≠ gb125)); have NB125_114 := aK (((by rw [hg]; exact Nat.ne_of_gt (blk_lt (g := gb114) (o := .cells #[.int .i64 a1_0, .string a1_1, .int .i64 a1_2, .int .i64 a1_3, .bool a1_4, .int .i64 a1_5, .int .i64 a1_6, .string a1_7, .bool a1_8] 28 (0, 0)) zq13_4)) : gb125 ≠ gb114)); replace BK114 := aK (bB (g := gb114) (o := .cells #[.int .i64 a1_0, .string a1_1, .int .i64 a1_2, .int .i64 a1_3, .bool a1_4, .int .i64 a1_5, .int .i64 a1_6, .string a1_7, .bool a1_8] 28 (0, 0)) zq13_4 hb); clear hb hbox hg; have hnb9 := NB125_114.out; have hnc9 := NB114_125.out; have hcz10_0 : w8.cell? ⟨gb125, 0, none⟩ = some (.int .i64 0) := (bC BK125.out 0).trans rfl; have hcz10_1 : w8.cell? ⟨gb125, 1, none⟩ = some (.string (⟨#[]⟩ : ByteArray)) := (bC BK125.out 1).trans rfl; have hcz10_2 : w8.cell? ⟨gb125, 2, none⟩ = some (.int .i64 0) := (bC BK125.out 2).trans rfl; have hcz10_3 : w8.cell? ⟨gb125, 3, none⟩ = some (.int .i64 0) := (bC BK125.out 3).trans rfl; have hcz10_4 : w8.cell? ⟨gb125, 4, none⟩ = some (.bool false) := (bC BK125.out 4).trans rfl; have hcz10_5 : w8.cell? ⟨gb125, 5, none⟩ = some (.int .i64 0) := (bC BK125.out 5).trans rfl; have hcz10_6 : w8.cell? ⟨gb125, 6, none⟩ = some (.int .i64 0) := (bC BK125.out 6).trans rfl; have hcz10_7 : w8.cell? ⟨gb125, 7, none⟩ = some (.string (⟨#[]⟩ : ByteArray)) := (bC BK125.out 7).trans rfl; have hcz10_8 : w8.cell? ⟨gb125, 8, none⟩ = some (.bool false) := (bC BK125.out 8).trans rfl; have hfz10_0 := bF_ BK125.out 0; have hfz10_1 := bF_ BK125.out 1; have hfz10_2 := bF_ BK125.out 2; have hfz10_3 := bF_ BK125.out 3; have hfz10_4 := bF_ BK125.out 4; have hfz10_5 := bF_ BK125.out 5; have hfz10_6 := bF_ BK125.out 6; have hfz10_7 := bF_ BK125.out 7; have hfz10_8 := bF_ BK125.out 8))
 (try simp only [Act.put, lA, lB, lC])
 go_cut [47] (fun v47 wc => ∃ (kq : Nat) (x47_3 : Bool), v47 = .bool x47_3 ∧ Aside0 (cenotaphref08_Put.j0 kq l0 x47_3 a1_0 a1_1 a1_2 a1_3 a1_4 a1_5 a1_6 a1_7 a1_8 = some (r1, r2)) ∧ Aside0 (kq ≤ k) ∧ Aside0 (wc.heap[gb114]? = some (.cells #[.int .i64 a1_0, .string a1_1, .int .i64 a1_2, .int .i64 a1_3, .bool a1_4, .int .i64 a1_5, .int .i64 a1_6, .string a1_7, .bool a1_8] 28 (0, 0))) ∧ Aside0 (wc.heap[gb125]? = some (.cells #[.int .i64 t115, .string t116, .int .i64 t117, .int .i64 t118, .bool t119, .int .i64 t120, .int .i64 t121, .string t122, .bool t123] 28 (0, 0))) ∧ Aside0 (Below w.heap.size w wc))
 case first =>
  have H := HC4.out
  clear HC4
  by_cases c11 : t124 = true
  ·subst c11
   have H1 : (if (t116.toList == a1_1.toList && (t117 == a1_2 && (t118 == a1_3))) = true then (if t123 = true then (cenotaphref08_Put.j0 k l0 true a1_0 a1_1 a1_2 a1_3 a1_4 a1_5 a1_6 a1_7 a1_8) else (if a1_8 = true then (if (!(t116.toList == a1_1.toList) || (!(t117 == a1_2) || (!(t118 == a1_3)))) = true then ((cenotaphref07_Newer.f k t116 t117 t118 a1_1 a1_2 a1_3).bind fun t126 => (cenotaphref08_Put.j0 k l0 t126 a1_0 a1_1 a1_2 a1_3 a1_4 a1_5 a1_6 a1_7 a1_8)) else (cenotaphref08_Put.j0 k l0 false a1_0 a1_1 a1_2 a1_3 a1_4 a1_5 a1_6 a1_7 a1_8)) else (cenotaphref08_Put.j0 k l0 true a1_0 a1_1 a1_2 a1_3 a1_4 a1_5 a1_6 a1_7 a1_8))) else (if (!(t116.toList == a1_1.toList) || (!(t117 == a1_2) || (!(t118 == a1_3)))) = true then ((cenotaphref07_Newer.f k t116 t117 t118 a1_1 a1_2 a1_3).bind fun t127 => (cenotaphref08_Put.j0 k l0 t127 a1_0 a1_1 a1_2 a1_3 a1_4 a1_5 a1_6 a1_7 a1_8)) else (cenotaphref08_Put.j0 k l0 false a1_0 a1_1 a1_2 a1_3 a1_4 a1_5 a1_6 a1_7 a1_8))) = some (r1, r2) := by rw [if_pos rfl] at H; exact H
   clear H
   have H := H1
   clear H1
   by_cases c12 : (t116.toList == a1_1.toList && (t117 == a1_2 && (t118 == a1_3))) = true
   ·rw [if_pos c12] at H
    have c12b0 : (t116.toList == a1_1.toList && (t117 == a1_2 && (t118 == a1_3))) = true := c12
    (try (have c12b1 : decide (t116.toList = a1_1.toList && (t117 == a1_2 && (t118 == a1_3))) = true := by simpa using c12))
    (try (have c12b2 : (t116.toList == a1_1.toList && (t117 == a1_2 && (t118 == a1_3))) = true := by simpa using c12))
    clear c12
    (first | rw [c12b0] | (simp only [i64_w, i32_w]; rw [c12b0]) | skip)
    by_cases c13 : t123 = true
    ·subst c13
     have H1 : (cenotaphref08_Put.j0 k l0 true a1_0 a1_1 a1_2 a1_3 a1_4 a1_5 a1_6 a1_7 a1_8) = some (r1, r2) := by rw [if_pos rfl] at H; exact H
     clear H
     have H := H1
     clear H1
     have H' := aK H
     clear H
     have hnb14 := NB125_114.out
     have hnc14 := NB114_125.out
     have hcz15_0 : w8.cell? ⟨gb125, 0, none⟩ = some (.int .i64 0) := (bC BK125.out 0).trans rfl
     have hcz15_1 : w8.cell? ⟨gb125, 1, none⟩ = some (.string (⟨#[]⟩ : ByteArray)) := (bC BK125.out 1).trans rfl
     have hcz15_2 : w8.cell? ⟨gb125, 2, none⟩ = some (.int .i64 0) := (bC BK125.out 2).trans rfl
     have hcz15_3 : w8.cell? ⟨gb125, 3, none⟩ = some (.int .i64 0) := (bC BK125.out 3).trans rfl
     have hcz15_4 : w8.cell? ⟨gb125, 4, none⟩ = some (.bool false) := (bC BK125.out 4).trans rfl
     have hcz15_5 : w8.cell? ⟨gb125, 5, none⟩ = some (.int .i64 0) := (bC BK125.out 5).trans rfl
     have hcz15_6 : w8.cell? ⟨gb125, 6, none⟩ = some (.int .i64 0) := (bC BK125.out 6).trans rfl
     have hcz15_7 : w8.cell? ⟨gb125, 7, none⟩ = some (.string (⟨#[]⟩ : ByteArray)) := (bC BK125.out 7).trans rfl
     have hcz15_8 : w8.cell? ⟨gb125, 8, none⟩ = some (.bool false) := (bC BK125.out 8).trans rfl
     have hfz15_0 := bF_ BK125.out 0
     have hfz15_1 := bF_ BK125.out 1
     have hfz15_2 := bF_ BK125.out 2
     have hfz15_3 := bF_ BK125.out 3
     have hfz15_4 := bF_ BK125.out 4
     have hfz15_5 := bF_ BK125.out 5
     have hfz15_6 := bF_ BK125.out 6
     have hfz15_7 := bF_ BK125.out 7
     have hfz15_8 := bF_ BK125.out 8
     have hcz16_0 : w8.cell? ⟨gb114, 0, none⟩ = some (.int .i64 a1_0) := (bC BK114.out 0).trans rfl
     have hcz16_1 : w8.cell? ⟨gb114, 1, none⟩ = some (.string a1_1) := (bC BK114.out 1).trans rfl
     have hcz16_2 : w8.cell? ⟨gb114, 2, none⟩ = some (.int .i64 a1_2) := (bC BK114.out 2).trans rfl
     have hcz16_3 : w8.cell? ⟨gb114, 3, none⟩ = some (.int .i64 a1_3) := (bC BK114.out 3).trans rfl
     have hcz16_4 : w8.cell? ⟨gb114, 4, none⟩ = some (.bool a1_4) := (bC BK114.out 4).trans rfl
     have hcz16_5 : w8.cell? ⟨gb114, 5, none⟩ = some (.int .i64 a1_5) := (bC BK114.out 5).trans rfl
     have hcz16_6 : w8.cell? ⟨gb114, 6, none⟩ = some (.int .i64 a1_6) := (bC BK114.out 6).trans rfl
     have hcz16_7 : w8.cell? ⟨gb114, 7, none⟩ = some (.string a1_7) := (bC BK114.out 7).trans rfl
     have hcz16_8 : w8.cell? ⟨gb114, 8, none⟩ = some (.bool a1_8) := (bC BK114.out 8).trans rfl
     have hfz16_0 := bF_ BK114.out 0
     have hfz16_1 := bF_ BK114.out 1
     have hfz16_2 := bF_ BK114.out 2
     have hfz16_3 := bF_ BK114.out 3
     have hfz16_4 := bF_ BK114.out 4
     have hfz16_5 := bF_ BK114.out 5
     have hfz16_6 := bF_ BK114.out 6
     have hfz16_7 := bF_ BK114.out 7
     have hfz16_8 := bF_ BK114.out 8
     go_wp2
     go_meet
     case rel => exact ⟨_, (true), zq13_9, H', ⟨by first | omega | exact Nat.le_refl _⟩, ⟨by (with_reducible repeat (first | refine blk_drewN ?_ _ | refine blk_drew ?_ | refine blk_alloc ?_ _)); refine blk_far ?_ NB114_125.out _; (with_reducible repeat (first | refine blk_drewN ?_ _ | refine blk_drew ?_ | refine blk_alloc ?_ _)); refine blk_far ?_ NB114_125.out _; (with_reducible repeat (first | refine blk_drewN ?_ _ | refine blk_drew ?_ | refine blk_alloc ?_ _)); refine blk_far ?_ NB114_125.out _; (with_reducible repeat (first | refine blk_drewN ?_ _ | refine blk_drew ?_ | refine blk_alloc ?_ _)); refine blk_far ?_ NB114_125.out _; (with_reducible repeat (first | refine blk_drewN ?_ _ | refine blk_drew ?_ | refine blk_alloc ?_ _)); refine blk_far ?_ NB114_125.out _; (with_reducible repeat (first | refine blk_drewN ?_ _ | refine blk_drew ?_ | refine blk_alloc ?_ _)); refine blk_far ?_ NB114_125.out _; (with_reducible repeat (first | refine blk_drewN ?_ _ | refine blk_drew ?_ | refine blk_alloc ?_ _)); refine blk_far ?_ NB114_125.out _; (with_reducible repeat (first | refine blk_drewN ?_ _ | refine blk_drew ?_ | refine blk_alloc ?_ _)); refine blk_far ?_ NB114_125.out _; (with_reducible repeat (first | refine blk_drewN ?_ _ | refine blk_drew ?_ | refine blk_alloc ?_ _)); refine blk_far ?_ NB114_125.out _; (with_reducible repeat (first | refine blk_drewN ?_ _ | refine blk_drew ?_ | refine blk_alloc ?_ _)); exact BK114.out⟩, ⟨by (with_reducible repeat (first | refine blk_drewN ?_ _ | refine blk_drew ?_ | refine blk_alloc ?_ _)); refine blk_put (cs := #[.int .i64 t115, .string t116, .int .i64 t117, .int .i64 t118, .bool t119, .int .i64 t120, .int .i64 t121, .string t122, .bool false]) ?_ 8 _ rfl; (with_reducible repeat (first | refine blk_drewN ?_ _ | refine blk_drew ?_ | refine blk_alloc ?_ _)); refine blk_put (cs := #[.int .i64 t115, .string t116, .int .i64 t117, .int .i64 t118, .bool t119, .int .i64 t120, .int .i64 t121, .string (⟨#[]⟩ : ByteArray), .bool false]) ?_ 7 _ rfl; (with_reducible repeat (first | refine blk_drewN ?_ _ | refine blk_drew ?_ | refine blk_alloc ?_ _)); refine blk_put (cs := #[.int .i64 t115, .string t116, .int .i64 t117, .int .i64 t118, .bool t119, .int .i64 t120, .int .i64 0, .string (⟨#[]⟩ : ByteArray), .bool false]) ?_ 6 _ rfl; (with_reducible repeat (first | refine blk_drewN ?_ _ | refine blk_drew ?_ | refine blk_alloc ?_ _)); refine blk_put (cs := #[.int .i64 t115, .string t116, .int .i64 t117, .int .i64 t118, .bool t119, .int .i64 0, .int .i64 0, .string (⟨#[]⟩ : ByteArray), .bool false]) ?_ 5 _ rfl; (with_reducible repeat (first | refine blk_drewN ?_ _ | refine blk_drew ?_ | refine blk_alloc ?_ _)); refine blk_put (cs := #[.int .i64 t115, .string t116, .int .i64 t117, .int .i64 t118, .bool false, .int .i64 0, .int .i64 0, .string (⟨#[]⟩ : ByteArray), .bool false]) ?_ 4 _ rfl; (with_reducible repeat (first | refine blk_drewN ?_ _ | refine blk_drew ?_ | refine blk_alloc ?_ _)); refine blk_put (cs := #[.int .i64 t115, .string t116, .int .i64 t117, .int .i64 0, .bool false, .int .i64 0, .int .i64 0, .string (⟨#[]⟩ : ByteArray), .bool false]) ?_ 3 _ rfl; (with_reducible repeat (first | refine blk_drewN ?_ _ | refine blk_drew ?_ | refine blk_alloc ?_ _)); refine blk_put (cs := #[.int .i64 t115, .string t116, .int .i64 0, .int .i64 0, .bool false, .int .i64 0, .int .i64 0, .string (⟨#[]⟩ : ByteArray), .bool false]) ?_ 2 _ rfl; (with_reducible repeat (first | refine blk_drewN ?_ _ | refine blk_drew ?_ | refine blk_alloc ?_ _)); refine blk_put (cs := #[.int .i64 t115, .string (⟨#[]⟩ : ByteArray), .int .i64 0, .int .i64 0, .bool false, .int .i64 0, .int .i64 0, .string (⟨#[]⟩ : ByteArray), .bool false]) ?_ 1 _ rfl; (with_reducible repeat (first | refine blk_drewN ?_ _ | refine blk_drew ?_ | refine blk_alloc ?_ _)); refine blk_put (cs := #[.int .i64 0, .string (⟨#[]⟩ : ByteArray), .int .i64 0, .int .i64 0, .bool false, .int .i64 0, .int .i64 0, .string (⟨#[]⟩ : ByteArray), .bool false]) ?_ 0 _ rfl; (with_reducible repeat (first | refine blk_drewN ?_ _ | refine blk_drew ?_ | refine blk_alloc ?_ _)); exact BK125.out⟩, ⟨by repeat (first | (with_reducible first | exact HB.out | apply bA | apply pB | apply bW | refine below_set ?_ GE114.out | refine below_set ?_ GE125.out) | exact HB.out)⟩⟩
    ·replace c13 := Bool.eq_false_iff.mpr c13
     subst c13
     have H1 : (if a1_8 = true then (if (!(t116.toList == a1_1.toList) || (!(t117 == a1_2) || (!(t118 == a1_3)))) = true then ((cenotaphref07_Newer.f k t116 t117 t118 a1_1 a1_2 a1_3).bind fun t126 => (cenotaphref08_Put.j0 k l0 t126 a1_0 a1_1 a1_2 a1_3 a1_4 a1_5 a1_6 a1_7 a1_8)) else (cenotaphref08_Put.j0 k l0 false a1_0 a1_1 a1_2 a1_3 a1_4 a1_5 a1_6 a1_7 a1_8)) else (cenotaphref08_Put.j0 k l0 true a1_0 a1_1 a1_2 a1_3 a1_4 a1_5 a1_6 a1_7 a1_8)) = some (r1, r2) := by rw [if_neg (show ¬ (false = true) by decide)] at H; exact H
     clear H
     have H := H1
     clear H1
     by_cases c17 : a1_8 = true
     ·subst c17
      have H1 : (if (!(t116.toList == a1_1.toList) || (!(t117 == a1_2) || (!(t118 == a1_3)))) = true then ((cenotaphref07_Newer.f k t116 t117 t118 a1_1 a1_2 a1_3).bind fun t126 => (cenotaphref08_Put.j0 k l0 t126 a1_0 a1_1 a1_2 a1_3 a1_4 a1_5 a1_6 a1_7 true)) else (cenotaphref08_Put.j0 k l0 false a1_0 a1_1 a1_2 a1_3 a1_4 a1_5 a1_6 a1_7 true)) = some (r1, r2) := by rw [if_pos rfl] at H; exact H
      clear H
      have H := H1
      clear H1
      by_cases c18 : (!(t116.toList == a1_1.toList) || (!(t117 == a1_2) || (!(t118 == a1_3)))) = true
      ·exact absurd c18 (by revert c12b0; generalize (t116.toList == a1_1.toList) = p_; generalize (t117 == a1_2) = q_; generalize (t118 == a1_3) = r_; revert p_ q_ r_; decide)
      ·rw [if_neg c18] at H
       have c18b0 : (!(t116.toList == a1_1.toList) || (!(t117 == a1_2) || (!(t118 == a1_3)))) = false := by simpa using c18
       clear c18
       have H' := aK H
       clear H
       have hnb24 := NB125_114.out
       have hnc24 := NB114_125.out
       have hcz25_0 : w8.cell? ⟨gb125, 0, none⟩ = some (.int .i64 0) := (bC BK125.out 0).trans rfl
       have hcz25_1 : w8.cell? ⟨gb125, 1, none⟩ = some (.string (⟨#[]⟩ : ByteArray)) := (bC BK125.out 1).trans rfl
       have hcz25_2 : w8.cell? ⟨gb125, 2, none⟩ = some (.int .i64 0) := (bC BK125.out 2).trans rfl
       have hcz25_3 : w8.cell? ⟨gb125, 3, none⟩ = some (.int .i64 0) := (bC BK125.out 3).trans rfl
       have hcz25_4 : w8.cell? ⟨gb125, 4, none⟩ = some (.bool false) := (bC BK125.out 4).trans rfl
       have hcz25_5 : w8.cell? ⟨gb125, 5, none⟩ = some (.int .i64 0) := (bC BK125.out 5).trans rfl
       have hcz25_6 : w8.cell? ⟨gb125, 6, none⟩ = some (.int .i64 0) := (bC BK125.out 6).trans rfl
       have hcz25_7 : w8.cell? ⟨gb125, 7, none⟩ = some (.string (⟨#[]⟩ : ByteArray)) := (bC BK125.out 7).trans rfl
       have hcz25_8 : w8.cell? ⟨gb125, 8, none⟩ = some (.bool false) := (bC BK125.out 8).trans rfl
       have hfz25_0 := bF_ BK125.out 0
       have hfz25_1 := bF_ BK125.out 1
       have hfz25_2 := bF_ BK125.out 2
       have hfz25_3 := bF_ BK125.out 3
       have hfz25_4 := bF_ BK125.out 4
       have hfz25_5 := bF_ BK125.out 5
       have hfz25_6 := bF_ BK125.out 6
       have hfz25_7 := bF_ BK125.out 7
       have hfz25_8 := bF_ BK125.out 8
       have hcz26_0 : w8.cell? ⟨gb114, 0, none⟩ = some (.int .i64 a1_0) := (bC BK114.out 0).trans rfl
       have hcz26_1 : w8.cell? ⟨gb114, 1, none⟩ = some (.string a1_1) := (bC BK114.out 1).trans rfl
       have hcz26_2 : w8.cell? ⟨gb114, 2, none⟩ = some (.int .i64 a1_2) := (bC BK114.out 2).trans rfl
       have hcz26_3 : w8.cell? ⟨gb114, 3, none⟩ = some (.int .i64 a1_3) := (bC BK114.out 3).trans rfl
       have hcz26_4 : w8.cell? ⟨gb114, 4, none⟩ = some (.bool a1_4) := (bC BK114.out 4).trans rfl
       have hcz26_5 : w8.cell? ⟨gb114, 5, none⟩ = some (.int .i64 a1_5) := (bC BK114.out 5).trans rfl
       have hcz26_6 : w8.cell? ⟨gb114, 6, none⟩ = some (.int .i64 a1_6) := (bC BK114.out 6).trans rfl
       have hcz26_7 : w8.cell? ⟨gb114, 7, none⟩ = some (.string a1_7) := (bC BK114.out 7).trans rfl
       have hcz26_8 : w8.cell? ⟨gb114, 8, none⟩ = some (.bool true) := (bC BK114.out 8).trans rfl
       have hfz26_0 := bF_ BK114.out 0
       have hfz26_1 := bF_ BK114.out 1
       have hfz26_2 := bF_ BK114.out 2
       have hfz26_3 := bF_ BK114.out 3
       have hfz26_4 := bF_ BK114.out 4
       have hfz26_5 := bF_ BK114.out 5
       have hfz26_6 := bF_ BK114.out 6
       have hfz26_7 := bF_ BK114.out 7
       have hfz26_8 := bF_ BK114.out 8
       go_wp2
       go_meet
       case rel => exact ⟨_, (false), zq13_9, H', ⟨by first | omega | exact Nat.le_refl _⟩, ⟨by (with_reducible repeat (first | refine blk_drewN ?_ _ | refine blk_drew ?_ | refine blk_alloc ?_ _)); refine blk_far ?_ NB114_125.out _; (with_reducible repeat (first | refine blk_drewN ?_ _ | refine blk_drew ?_ | refine blk_alloc ?_ _)); refine blk_far ?_ NB114_125.out _; (with_reducible repeat (first | refine blk_drewN ?_ _ | refine blk_drew ?_ | refine blk_alloc ?_ _)); refine blk_far ?_ NB114_125.out _; (with_reducible repeat (first | refine blk_drewN ?_ _ | refine blk_drew ?_ | refine blk_alloc ?_ _)); refine blk_far ?_ NB114_125.out _; (with_reducible repeat (first | refine blk_drewN ?_ _ | refine blk_drew ?_ | refine blk_alloc ?_ _)); refine blk_far ?_ NB114_125.out _; (with_reducible repeat (first | refine blk_drewN ?_ _ | refine blk_drew ?_ | refine blk_alloc ?_ _)); refine blk_far ?_ NB114_125.out _; (with_reducible repeat (first | refine blk_drewN ?_ _ | refine blk_drew ?_ | refine blk_alloc ?_ _)); refine blk_far ?_ NB114_125.out _; (with_reducible repeat (first | refine blk_drewN ?_ _ | refine blk_drew ?_ | refine blk_alloc ?_ _)); refine blk_far ?_ NB114_125.out _; (with_reducible repeat (first | refine blk_drewN ?_ _ | refine blk_drew ?_ | refine blk_alloc ?_ _)); refine blk_far ?_ NB114_125.out _; (with_reducible repeat (first | refine blk_drewN ?_ _ | refine blk_drew ?_ | refine blk_alloc ?_ _)); exact BK114.out⟩, ⟨by (with_reducible repeat (first | refine blk_drewN ?_ _ | refine blk_drew ?_ | refine blk_alloc ?_ _)); refine blk_put (cs := #[.int .i64 t115, .string t116, .int .i64 t117, .int .i64 t118, .bool t119, .int .i64 t120, .int .i64 t121, .string t122, .bool false]) ?_ 8 _ rfl; (with_reducible repeat (first | refine blk_drewN ?_ _ | refine blk_drew ?_ | refine blk_alloc ?_ _)); refine blk_put (cs := #[.int .i64 t115, .string t116, .int .i64 t117, .int .i64 t118, .bool t119, .int .i64 t120, .int .i64 t121, .string (⟨#[]⟩ : ByteArray), .bool false]) ?_ 7 _ rfl; (with_reducible repeat (first | refine blk_drewN ?_ _ | refine blk_drew ?_ | refine blk_alloc ?_ _)); refine blk_put (cs := #[.int .i64 t115, .string t116, .int .i64 t117, .int .i64 t118, .bool t119, .int .i64 t120, .int .i64 0, .string (⟨#[]⟩ : ByteArray), .bool false]) ?_ 6 _ rfl; (with_reducible repeat (first | refine blk_drewN ?_ _ | refine blk_drew ?_ | refine blk_alloc ?_ _)); refine blk_put (cs := #[.int .i64 t115, .string t116, .int .i64 t117, .int .i64 t118, .bool t119, .int .i64 0, .int .i64 0, .string (⟨#[]⟩ : ByteArray), .bool false]) ?_ 5 _ rfl; (with_reducible repeat (first | refine blk_drewN ?_ _ | refine blk_drew ?_ | refine blk_alloc ?_ _)); refine blk_put (cs := #[.int .i64 t115, .string t116, .int .i64 t117, .int .i64 t118, .bool false, .int .i64 0, .int .i64 0, .string (⟨#[]⟩ : ByteArray), .bool false]) ?_ 4 _ rfl; (with_reducible repeat (first | refine blk_drewN ?_ _ | refine blk_drew ?_ | refine blk_alloc ?_ _)); refine blk_put (cs := #[.int .i64 t115, .string t116, .int .i64 t117, .int .i64 0, .bool false, .int .i64 0, .int .i64 0, .string (⟨#[]⟩ : ByteArray), .bool false]) ?_ 3 _ rfl; (with_reducible repeat (first | refine blk_drewN ?_ _ | refine blk_drew ?_ | refine blk_alloc ?_ _)); refine blk_put (cs := #[.int .i64 t115, .string t116, .int .i64 0, .int .i64 0, .bool false, .int .i64 0, .int .i64 0, .string (⟨#[]⟩ : ByteArray), .bool false]) ?_ 2 _ rfl; (with_reducible repeat (first | refine blk_drewN ?_ _ | refine blk_drew ?_ | refine blk_alloc ?_ _)); refine blk_put (cs := #[.int .i64 t115, .string (⟨#[]⟩ : ByteArray), .int .i64 0, .int .i64 0, .bool false, .int .i64 0, .int .i64 0, .string (⟨#[]⟩ : ByteArray), .bool false]) ?_ 1 _ rfl; (with_reducible repeat (first | refine blk_drewN ?_ _ | refine blk_drew ?_ | refine blk_alloc ?_ _)); refine blk_put (cs := #[.int .i64 0, .string (⟨#[]⟩ : ByteArray), .int .i64 0, .int .i64 0, .bool false, .int .i64 0, .int .i64 0, .string (⟨#[]⟩ : ByteArray), .bool false]) ?_ 0 _ rfl; (with_reducible repeat (first | refine blk_drewN ?_ _ | refine blk_drew ?_ | refine blk_alloc ?_ _)); exact BK125.out⟩, ⟨by repeat (first | (with_reducible first | exact HB.out | apply bA | apply pB | apply bW | refine below_set ?_ GE114.out | refine below_set ?_ GE125.out) | exact HB.out)⟩⟩
     ·replace c17 := Bool.eq_false_iff.mpr c17
      subst c17
      have H1 : (cenotaphref08_Put.j0 k l0 true a1_0 a1_1 a1_2 a1_3 a1_4 a1_5 a1_6 a1_7 false) = some (r1, r2) := by rw [if_neg (show ¬ (false = true) by decide)] at H; exact H
      clear H
      have H := H1
      clear H1
      have H' := aK H
      clear H
      have hnb27 := NB125_114.out
      have hnc27 := NB114_125.out
      have hcz28_0 : w8.cell? ⟨gb125, 0, none⟩ = some (.int .i64 0) := (bC BK125.out 0).trans rfl
      have hcz28_1 : w8.cell? ⟨gb125, 1, none⟩ = some (.string (⟨#[]⟩ : ByteArray)) := (bC BK125.out 1).trans rfl
      have hcz28_2 : w8.cell? ⟨gb125, 2, none⟩ = some (.int .i64 0) := (bC BK125.out 2).trans rfl
      have hcz28_3 : w8.cell? ⟨gb125, 3, none⟩ = some (.int .i64 0) := (bC BK125.out 3).trans rfl
      have hcz28_4 : w8.cell? ⟨gb125, 4, none⟩ = some (.bool false) := (bC BK125.out 4).trans rfl
      have hcz28_5 : w8.cell? ⟨gb125, 5, none⟩ = some (.int .i64 0) := (bC BK125.out 5).trans rfl
      have hcz28_6 : w8.cell? ⟨gb125, 6, none⟩ = some (.int .i64 0) := (bC BK125.out 6).trans rfl
      have hcz28_7 : w8.cell? ⟨gb125, 7, none⟩ = some (.string (⟨#[]⟩ : ByteArray)) := (bC BK125.out 7).trans rfl
      have hcz28_8 : w8.cell? ⟨gb125, 8, none⟩ = some (.bool false) := (bC BK125.out 8).trans rfl
      have hfz28_0 := bF_ BK125.out 0
      have hfz28_1 := bF_ BK125.out 1
      have hfz28_2 := bF_ BK125.out 2
      have hfz28_3 := bF_ BK125.out 3
      have hfz28_4 := bF_ BK125.out 4
      have hfz28_5 := bF_ BK125.out 5
      have hfz28_6 := bF_ BK125.out 6
      have hfz28_7 := bF_ BK125.out 7
      have hfz28_8 := bF_ BK125.out 8
      have hcz29_0 : w8.cell? ⟨gb114, 0, none⟩ = some (.int .i64 a1_0) := (bC BK114.out 0).trans rfl
      have hcz29_1 : w8.cell? ⟨gb114, 1, none⟩ = some (.string a1_1) := (bC BK114.out 1).trans rfl
      have hcz29_2 : w8.cell? ⟨gb114, 2, none⟩ = some (.int .i64 a1_2) := (bC BK114.out 2).trans rfl
      have hcz29_3 : w8.cell? ⟨gb114, 3, none⟩ = some (.int .i64 a1_3) := (bC BK114.out 3).trans rfl
      have hcz29_4 : w8.cell? ⟨gb114, 4, none⟩ = some (.bool a1_4) := (bC BK114.out 4).trans rfl
      have hcz29_5 : w8.cell? ⟨gb114, 5, none⟩ = some (.int .i64 a1_5) := (bC BK114.out 5).trans rfl
      have hcz29_6 : w8.cell? ⟨gb114, 6, none⟩ = some (.int .i64 a1_6) := (bC BK114.out 6).trans rfl
      have hcz29_7 : w8.cell? ⟨gb114, 7, none⟩ = some (.string a1_7) := (bC BK114.out 7).trans rfl
      have hcz29_8 : w8.cell? ⟨gb114, 8, none⟩ = some (.bool false) := (bC BK114.out 8).trans rfl
      have hfz29_0 := bF_ BK114.out 0
      have hfz29_1 := bF_ BK114.out 1
      have hfz29_2 := bF_ BK114.out 2
      have hfz29_3 := bF_ BK114.out 3
      have hfz29_4 := bF_ BK114.out 4
      have hfz29_5 := bF_ BK114.out 5
      have hfz29_6 := bF_ BK114.out 6
      have hfz29_7 := bF_ BK114.out 7
      have hfz29_8 := bF_ BK114.out 8
      go_wp2
      go_meet
      case rel => exact ⟨_, (true), zq13_9, H', ⟨by first | omega | exact Nat.le_refl _⟩, ⟨by (with_reducible repeat (first | refine blk_drewN ?_ _ | refine blk_drew ?_ | refine blk_alloc ?_ _)); refine blk_far ?_ NB114_125.out _; (with_reducible repeat (first | refine blk_drewN ?_ _ | refine blk_drew ?_ | refine blk_alloc ?_ _)); refine blk_far ?_ NB114_125.out _; (with_reducible repeat (first | refine blk_drewN ?_ _ | refine blk_drew ?_ | refine blk_alloc ?_ _)); refine blk_far ?_ NB114_125.out _; (with_reducible repeat (first | refine blk_drewN ?_ _ | refine blk_drew ?_ | refine blk_alloc ?_ _)); refine blk_far ?_ NB114_125.out _; (with_reducible repeat (first | refine blk_drewN ?_ _ | refine blk_drew ?_ | refine blk_alloc ?_ _)); refine blk_far ?_ NB114_125.out _; (with_reducible repeat (first | refine blk_drewN ?_ _ | refine blk_drew ?_ | refine blk_alloc ?_ _)); refine blk_far ?_ NB114_125.out _; (with_reducible repeat (first | refine blk_drewN ?_ _ | refine blk_drew ?_ | refine blk_alloc ?_ _)); refine blk_far ?_ NB114_125.out _; (with_reducible repeat (first | refine blk_drewN ?_ _ | refine blk_drew ?_ | refine blk_alloc ?_ _)); refine blk_far ?_ NB114_125.out _; (with_reducible repeat (first | refine blk_drewN ?_ _ | refine blk_drew ?_ | refine blk_alloc ?_ _)); refine blk_far ?_ NB114_125.out _; (with_reducible repeat (first | refine blk_drewN ?_ _ | refine blk_drew ?_ | refine blk_alloc ?_ _)); exact BK114.out⟩, ⟨by (with_reducible repeat (first | refine blk_drewN ?_ _ | refine blk_drew ?_ | refine blk_alloc ?_ _)); refine blk_put (cs := #[.int .i64 t115, .string t116, .int .i64 t117, .int .i64 t118, .bool t119, .int .i64 t120, .int .i64 t121, .string t122, .bool false]) ?_ 8 _ rfl; (with_reducible repeat (first | refine blk_drewN ?_ _ | refine blk_drew ?_ | refine blk_alloc ?_ _)); refine blk_put (cs := #[.int .i64 t115, .string t116, .int .i64 t117, .int .i64 t118, .bool t119, .int .i64 t120, .int .i64 t121, .string (⟨#[]⟩ : ByteArray), .bool false]) ?_ 7 _ rfl; (with_reducible repeat (first | refine blk_drewN ?_ _ | refine blk_drew ?_ | refine blk_alloc ?_ _)); refine blk_put (cs := #[.int .i64 t115, .string t116, .int .i64 t117, .int .i64 t118, .bool t119, .int .i64 t120, .int .i64 0, .string (⟨#[]⟩ : ByteArray), .bool false]) ?_ 6 _ rfl; (with_reducible repeat (first | refine blk_drewN ?_ _ | refine blk_drew ?_ | refine blk_alloc ?_ _)); refine blk_put (cs := #[.int .i64 t115, .string t116, .int .i64 t117, .int .i64 t118, .bool t119, .int .i64 0, .int .i64 0, .string (⟨#[]⟩ : ByteArray), .bool false]) ?_ 5 _ rfl; (with_reducible repeat (first | refine blk_drewN ?_ _ | refine blk_drew ?_ | refine blk_alloc ?_ _)); refine blk_put (cs := #[.int .i64 t115, .string t116, .int .i64 t117, .int .i64 t118, .bool false, .int .i64 0, .int .i64 0, .string (⟨#[]⟩ : ByteArray), .bool false]) ?_ 4 _ rfl; (with_reducible repeat (first | refine blk_drewN ?_ _ | refine blk_drew ?_ | refine blk_alloc ?_ _)); refine blk_put (cs := #[.int .i64 t115, .string t116, .int .i64 t117, .int .i64 0, .bool false, .int .i64 0, .int .i64 0, .string (⟨#[]⟩ : ByteArray), .bool false]) ?_ 3 _ rfl; (with_reducible repeat (first | refine blk_drewN ?_ _ | refine blk_drew ?_ | refine blk_alloc ?_ _)); refine blk_put (cs := #[.int .i64 t115, .string t116, .int .i64 0, .int .i64 0, .bool false, .int .i64 0, .int .i64 0, .string (⟨#[]⟩ : ByteArray), .bool false]) ?_ 2 _ rfl; (with_reducible repeat (first | refine blk_drewN ?_ _ | refine blk_drew ?_ | refine blk_alloc ?_ _)); refine blk_put (cs := #[.int .i64 t115, .string (⟨#[]⟩ : ByteArray), .int .i64 0, .int .i64 0, .bool false, .int .i64 0, .int .i64 0, .string (⟨#[]⟩ : ByteArray), .bool false]) ?_ 1 _ rfl; (with_reducible repeat (first | refine blk_drewN ?_ _ | refine blk_drew ?_ | refine blk_alloc ?_ _)); refine blk_put (cs := #[.int .i64 0, .string (⟨#[]⟩ : ByteArray), .int .i64 0, .int .i64 0, .bool false, .int .i64 0, .int .i64 0, .string (⟨#[]⟩ : ByteArray), .bool false]) ?_ 0 _ rfl; (with_reducible repeat (first | refine blk_drewN ?_ _ | refine blk_drew ?_ | refine blk_alloc ?_ _)); exact BK125.out⟩, ⟨by repeat (first | (with_reducible first | exact HB.out | apply bA | apply pB | apply bW | refine below_set ?_ GE114.out | refine below_set ?_ GE125.out) | exact HB.out)⟩⟩
   ·rw [if_neg c12] at H
    have c12b0 : (t116.toList == a1_1.toList && (t117 == a1_2 && (t118 == a1_3))) = false := by simpa using c12
    (try (have c12b1 : decide (t116.toList = a1_1.toList && (t117 == a1_2 && (t118 == a1_3))) = false := by simpa using c12))
    (try (have c12b2 : (t116.toList == a1_1.toList && (t117 == a1_2 && (t118 == a1_3))) = false := by simpa using c12))
    (try (have c12b3 : ¬ (t116.toList = a1_1.toList && (t117 == a1_2 && (t118 == a1_3))) := by simpa using c12))
    clear c12
    (first | rw [c12b0] | (simp only [i64_w, i32_w]; rw [c12b0]) | skip)
    by_cases c30 : (!(t116.toList == a1_1.toList) || (!(t117 == a1_2) || (!(t118 == a1_3)))) = true
    ·rw [if_pos c30] at H
     have c30b0 : (!(t116.toList == a1_1.toList) || (!(t117 == a1_2) || (!(t118 == a1_3)))) = true := c30
     clear c30
     replace H := bM H
     obtain ⟨t127, A310, H⟩ := H
     replace H : (cenotaphref08_Put.j0 k l0 t127 a1_0 a1_1 a1_2 a1_3 a1_4 a1_5 a1_6 a1_7 a1_8) = some (r1, r2) := H
     have A31 := aK A310
     clear A310
     have H' := aK H
     clear H
     have hnb32 := NB125_114.out
     have hnc32 := NB114_125.out
     have hcz33_0 : w8.cell? ⟨gb125, 0, none⟩ = some (.int .i64 0) := (bC BK125.out 0).trans rfl
     have hcz33_1 : w8.cell? ⟨gb125, 1, none⟩ = some (.string (⟨#[]⟩ : ByteArray)) := (bC BK125.out 1).trans rfl
     have hcz33_2 : w8.cell? ⟨gb125, 2, none⟩ = some (.int .i64 0) := (bC BK125.out 2).trans rfl
     have hcz33_3 : w8.cell? ⟨gb125, 3, none⟩ = some (.int .i64 0) := (bC BK125.out 3).trans rfl
     have hcz33_4 : w8.cell? ⟨gb125, 4, none⟩ = some (.bool false) := (bC BK125.out 4).trans rfl
     have hcz33_5 : w8.cell? ⟨gb125, 5, none⟩ = some (.int .i64 0) := (bC BK125.out 5).trans rfl
     have hcz33_6 : w8.cell? ⟨gb125, 6, none⟩ = some (.int .i64 0) := (bC BK125.out 6).trans rfl
     have hcz33_7 : w8.cell? ⟨gb125, 7, none⟩ = some (.string (⟨#[]⟩ : ByteArray)) := (bC BK125.out 7).trans rfl
     have hcz33_8 : w8.cell? ⟨gb125, 8, none⟩ = some (.bool false) := (bC BK125.out 8).trans rfl
     have hfz33_0 := bF_ BK125.out 0
     have hfz33_1 := bF_ BK125.out 1
     have hfz33_2 := bF_ BK125.out 2
     have hfz33_3 := bF_ BK125.out 3
     have hfz33_4 := bF_ BK125.out 4
     have hfz33_5 := bF_ BK125.out 5
     have hfz33_6 := bF_ BK125.out 6
     have hfz33_7 := bF_ BK125.out 7
     have hfz33_8 := bF_ BK125.out 8
     have hcz34_0 : w8.cell? ⟨gb114, 0, none⟩ = some (.int .i64 a1_0) := (bC BK114.out 0).trans rfl
     have hcz34_1 : w8.cell? ⟨gb114, 1, none⟩ = some (.string a1_1) := (bC BK114.out 1).trans rfl
     have hcz34_2 : w8.cell? ⟨gb114, 2, none⟩ = some (.int .i64 a1_2) := (bC BK114.out 2).trans rfl
     have hcz34_3 : w8.cell? ⟨gb114, 3, none⟩ = some (.int .i64 a1_3) := (bC BK114.out 3).trans rfl
     have hcz34_4 : w8.cell? ⟨gb114, 4, none⟩ = some (.bool a1_4) := (bC BK114.out 4).trans rfl
     have hcz34_5 : w8.cell? ⟨gb114, 5, none⟩ = some (.int .i64 a1_5) := (bC BK114.out 5).trans rfl
     have hcz34_6 : w8.cell? ⟨gb114, 6, none⟩ = some (.int .i64 a1_6) := (bC BK114.out 6).trans rfl
     have hcz34_7 : w8.cell? ⟨gb114, 7, none⟩ = some (.string a1_7) := (bC BK114.out 7).trans rfl
     have hcz34_8 : w8.cell? ⟨gb114, 8, none⟩ = some (.bool a1_8) := (bC BK114.out 8).trans rfl
     have hfz34_0 := bF_ BK114.out 0
     have hfz34_1 := bF_ BK114.out 1
     have hfz34_2 := bF_ BK114.out 2
     have hfz34_3 := bF_ BK114.out 3
     have hfz34_4 := bF_ BK114.out 4
     have hfz34_5 := bF_ BK114.out 5
     have hfz34_6 := bF_ BK114.out 6
     have hfz34_7 := bF_ BK114.out 7
     have hfz34_8 := bF_ BK114.out 8
     go_wp2_with (first | (go_at_call 24; (with_reducible refine (cenotaphref07_Newer.calls k t116 t117 t118 a1_1 a1_2 a1_3 t127 _ A31.out).mono ?_); rintro e w35 ⟨rfl, hb⟩; replace BK114 := aK (bB (g := gb114) (o := .cells #[.int .i64 a1_0, .string a1_1, .int .i64 a1_2, .int .i64 a1_3, .bool a1_4, .int .i64 a1_5, .int .i64 a1_6, .string a1_7, .bool a1_8] 28 (0, 0)) (by (with_reducible repeat (first | refine blk_drewN ?_ _ | refine blk_drew ?_ | refine blk_alloc ?_ _)); refine blk_far ?_ NB114_125.out _; (with_reducible repeat (first | refine blk_drewN ?_ _ | refine blk_drew ?_ | refine blk_alloc ?_ _)); refine blk_far ?_ NB114_125.out _; (with_reducible repeat (first | refine blk_drewN ?_ _ | refine blk_drew ?_ | refine blk_alloc ?_ _)); refine blk_far ?_ NB114_125.out _; (with_reducible repeat (first | refine blk_drewN ?_ _ | refine blk_drew ?_ | refine blk_alloc ?_ _)); refine blk_far ?_ NB114_125.out _; (with_reducible repeat (first | refine blk_drewN ?_ _ | refine blk_drew ?_ | refine blk_alloc ?_ _)); refine blk_far ?_ NB114_125.out _; (with_reducible repeat (first | refine blk_drewN ?_ _ | refine blk_drew ?_ | refine blk_alloc ?_ _)); refine blk_far ?_ NB114_125.out _; (with_reducible repeat (first | refine blk_drewN ?_ _ | refine blk_drew ?_ | refine blk_alloc ?_ _)); refine blk_far ?_ NB114_125.out _; (with_reducible repeat (first | refine blk_drewN ?_ _ | refine blk_drew ?_ | refine blk_alloc ?_ _)); refine blk_far ?_ NB114_125.out _; (with_reducible repeat (first | refine blk_drewN ?_ _ | refine blk_drew ?_ | refine blk_alloc ?_ _)); refine blk_far ?_ NB114_125.out _; (with_reducible repeat (first | refine blk_drewN ?_ _ | refine blk_drew ?_ | refine blk_alloc ?_ _)); exact BK114.out) hb); replace BK125 := aK (bB (g := gb125) (o := .cells #[.int .i64 t115, .string t116, .int .i64 t117, .int .i64 t118, .bool t119, .int .i64 t120, .int .i64 t121, .string t122, .bool t123] 28 (0, 0)) (by (with_reducible repeat (first | refine blk_drewN ?_ _ | refine blk_drew ?_ | refine blk_alloc ?_ _)); refine blk_put (cs := #[.int .i64 t115, .string t116, .int .i64 t117, .int .i64 t118, .bool t119, .int .i64 t120, .int .i64 t121, .string t122, .bool false]) ?_ 8 _ rfl; (with_reducible repeat (first | refine blk_drewN ?_ _ | refine blk_drew ?_ | refine blk_alloc ?_ _)); refine blk_put (cs := #[.int .i64 t115, .string t116, .int .i64 t117, .int .i64 t118, .bool t119, .int .i64 t120, .int .i64 t121, .string (⟨#[]⟩ : ByteArray), .bool false]) ?_ 7 _ rfl; (with_reducible repeat (first | refine blk_drewN ?_ _ | refine blk_drew ?_ | refine blk_alloc ?_ _)); refine blk_put (cs := #[.int .i64 t115, .string t116, .int .i64 t117, .int .i64 t118, .bool t119, .int .i64 t120, .int .i64 0, .string (⟨#[]⟩ : ByteArray), .bool false]) ?_ 6 _ rfl; (with_reducible repeat (first | refine blk_drewN ?_ _ | refine blk_drew ?_ | refine blk_alloc ?_ _)); refine blk_put (cs := #[.int .i64 t115, .string t116, .int .i64 t117, .int .i64 t118, .bool t119, .int .i64 0, .int .i64 0, .string (⟨#[]⟩ : ByteArray), .bool false]) ?_ 5 _ rfl; (with_reducible repeat (first | refine blk_drewN ?_ _ | refine blk_drew ?_ | refine blk_alloc ?_ _)); refine blk_put (cs := #[.int .i64 t115, .string t116, .int .i64 t117, .int .i64 t118, .bool false, .int .i64 0, .int .i64 0, .string (⟨#[]⟩ : ByteArray), .bool false]) ?_ 4 _ rfl; (with_reducible repeat (first | refine blk_drewN ?_ _ | refine blk_drew ?_ | refine blk_alloc ?_ _)); refine blk_put (cs := #[.int .i64 t115, .string t116, .int .i64 t117, .int .i64 0, .bool false, .int .i64 0, .int .i64 0, .string (⟨#[]⟩ : ByteArray), .bool false]) ?_ 3 _ rfl; (with_reducible repeat (first | refine blk_drewN ?_ _ | refine blk_drew ?_ | refine blk_alloc ?_ _)); refine blk_put (cs := #[.int .i64 t115, .string t116, .int .i64 0, .int .i64 0, .bool false, .int .i64 0, .int .i64 0, .string (⟨#[]⟩ : ByteArray), .bool false]) ?_ 2 _ rfl; (with_reducible repeat (first | refine blk_drewN ?_ _ | refine blk_drew ?_ | refine blk_alloc ?_ _)); refine blk_put (cs := #[.int .i64 t115, .string (⟨#[]⟩ : ByteArray), .int .i64 0, .int .i64 0, .bool false, .int .i64 0, .int .i64 0, .string (⟨#[]⟩ : ByteArray), .bool false]) ?_ 1 _ rfl; (with_reducible repeat (first | refine blk_drewN ?_ _ | refine blk_drew ?_ | refine blk_alloc ?_ _)); refine blk_put (cs := #[.int .i64 0, .string (⟨#[]⟩ : ByteArray), .int .i64 0, .int .i64 0, .bool false, .int .i64 0, .int .i64 0, .string (⟨#[]⟩ : ByteArray), .bool false]) ?_ 0 _ rfl; (with_reducible repeat (first | refine blk_drewN ?_ _ | refine blk_drew ?_ | refine blk_alloc ?_ _)); exact BK125.out) hb); replace HB := aK (bS zq13_0 hb); (try clear hb); (try clear hb2); (try clear hk); (try clear hi)))
     go_meet
     case rel => exact ⟨_, (t127), zq13_9, H', ⟨by first | omega | exact Nat.le_refl _⟩, ⟨by (with_reducible repeat (first | refine blk_drewN ?_ _ | refine blk_drew ?_ | refine blk_alloc ?_ _)); exact BK114.out⟩, ⟨by (with_reducible repeat (first | refine blk_drewN ?_ _ | refine blk_drew ?_ | refine blk_alloc ?_ _)); exact BK125.out⟩, ⟨by repeat (first | (with_reducible first | exact HB.out | apply bA | apply pB | apply bW | refine below_set ?_ GE114.out | refine below_set ?_ GE125.out) | exact HB.out)⟩⟩
    ·exact absurd (show (!(t116.toList == a1_1.toList) || (!(t117 == a1_2) || (!(t118 == a1_3)))) = true by revert c12b0; generalize (t116.toList == a1_1.toList) = p_; generalize (t117 == a1_2) = q_; generalize (t118 == a1_3) = r_; revert p_ q_ r_; decide) c30
  ·replace c11 := Bool.eq_false_iff.mpr c11
   subst c11
   have H1 : (cenotaphref08_Put.j0 k l0 false a1_0 a1_1 a1_2 a1_3 a1_4 a1_5 a1_6 a1_7 a1_8) = some (r1, r2) := by rw [if_neg (show ¬ (false = true) by decide)] at H; exact H
   clear H
   have H := H1
   clear H1
   have H' := aK H
   clear H
   go_wp2
   go_meet
   case rel => exact ⟨_, (false), zq13_9, H', ⟨by first | omega | exact Nat.le_refl _⟩, ⟨by (with_reducible repeat (first | refine blk_drewN ?_ _ | refine blk_drew ?_ | refine blk_alloc ?_ _)); refine blk_far ?_ NB114_125.out _; (with_reducible repeat (first | refine blk_drewN ?_ _ | refine blk_drew ?_ | refine blk_alloc ?_ _)); refine blk_far ?_ NB114_125.out _; (with_reducible repeat (first | refine blk_drewN ?_ _ | refine blk_drew ?_ | refine blk_alloc ?_ _)); refine blk_far ?_ NB114_125.out _; (with_reducible repeat (first | refine blk_drewN ?_ _ | refine blk_drew ?_ | refine blk_alloc ?_ _)); refine blk_far ?_ NB114_125.out _; (with_reducible repeat (first | refine blk_drewN ?_ _ | refine blk_drew ?_ | refine blk_alloc ?_ _)); refine blk_far ?_ NB114_125.out _; (with_reducible repeat (first | refine blk_drewN ?_ _ | refine blk_drew ?_ | refine blk_alloc ?_ _)); refine blk_far ?_ NB114_125.out _; (with_reducible repeat (first | refine blk_drewN ?_ _ | refine blk_drew ?_ | refine blk_alloc ?_ _)); refine blk_far ?_ NB114_125.out _; (with_reducible repeat (first | refine blk_drewN ?_ _ | refine blk_drew ?_ | refine blk_alloc ?_ _)); refine blk_far ?_ NB114_125.out _; (with_reducible repeat (first | refine blk_drewN ?_ _ | refine blk_drew ?_ | refine blk_alloc ?_ _)); refine blk_far ?_ NB114_125.out _; (with_reducible repeat (first | refine blk_drewN ?_ _ | refine blk_drew ?_ | refine blk_alloc ?_ _)); exact BK114.out⟩, ⟨by (with_reducible repeat (first | refine blk_drewN ?_ _ | refine blk_drew ?_ | refine blk_alloc ?_ _)); refine blk_put (cs := #[.int .i64 t115, .string t116, .int .i64 t117, .int .i64 t118, .bool t119, .int .i64 t120, .int .i64 t121, .string t122, .bool false]) ?_ 8 _ rfl; (with_reducible repeat (first | refine blk_drewN ?_ _ | refine blk_drew ?_ | refine blk_alloc ?_ _)); refine blk_put (cs := #[.int .i64 t115, .string t116, .int .i64 t117, .int .i64 t118, .bool t119, .int .i64 t120, .int .i64 t121, .string (⟨#[]⟩ : ByteArray), .bool false]) ?_ 7 _ rfl; (with_reducible repeat (first | refine blk_drewN ?_ _ | refine blk_drew ?_ | refine blk_alloc ?_ _)); refine blk_put (cs := #[.int .i64 t115, .string t116, .int .i64 t117, .int .i64 t118, .bool t119, .int .i64 t120, .int .i64 0, .string (⟨#[]⟩ : ByteArray), .bool false]) ?_ 6 _ rfl; (with_reducible repeat (first | refine blk_drewN ?_ _ | refine blk_drew ?_ | refine blk_alloc ?_ _)); refine blk_put (cs := #[.int .i64 t115, .string t116, .int .i64 t117, .int .i64 t118, .bool t119, .int .i64 0, .int .i64 0, .string (⟨#[]⟩ : ByteArray), .bool false]) ?_ 5 _ rfl; (with_reducible repeat (first | refine blk_drewN ?_ _ | refine blk_drew ?_ | refine blk_alloc ?_ _)); refine blk_put (cs := #[.int .i64 t115, .string t116, .int .i64 t117, .int .i64 t118, .bool false, .int .i64 0, .int .i64 0, .string (⟨#[]⟩ : ByteArray), .bool false]) ?_ 4 _ rfl; (with_reducible repeat (first | refine blk_drewN ?_ _ | refine blk_drew ?_ | refine blk_alloc ?_ _)); refine blk_put (cs := #[.int .i64 t115, .string t116, .int .i64 t117, .int .i64 0, .bool false, .int .i64 0, .int .i64 0, .string (⟨#[]⟩ : ByteArray), .bool false]) ?_ 3 _ rfl; (with_reducible repeat (first | refine blk_drewN ?_ _ | refine blk_drew ?_ | refine blk_alloc ?_ _)); refine blk_put (cs := #[.int .i64 t115, .string t116, .int .i64 0, .int .i64 0, .bool false, .int .i64 0, .int .i64 0, .string (⟨#[]⟩ : ByteArray), .bool false]) ?_ 2 _ rfl; (with_reducible repeat (first | refine blk_drewN ?_ _ | refine blk_drew ?_ | refine blk_alloc ?_ _)); refine blk_put (cs := #[.int .i64 t115, .string (⟨#[]⟩ : ByteArray), .int .i64 0, .int .i64 0, .bool false, .int .i64 0, .int .i64 0, .string (⟨#[]⟩ : ByteArray), .bool false]) ?_ 1 _ rfl; (with_reducible repeat (first | refine blk_drewN ?_ _ | refine blk_drew ?_ | refine blk_alloc ?_ _)); refine blk_put (cs := #[.int .i64 0, .string (⟨#[]⟩ : ByteArray), .int .i64 0, .int .i64 0, .bool false, .int .i64 0, .int .i64 0, .string (⟨#[]⟩ : ByteArray), .bool false]) ?_ 0 _ rfl; (with_reducible repeat (first | refine blk_drewN ?_ _ | refine blk_drew ?_ | refine blk_alloc ?_ _)); exact BK125.out⟩, ⟨by repeat (first | (with_reducible first | exact HB.out | apply bA | apply pB | apply bW | refine below_set ?_ GE114.out | refine below_set ?_ GE125.out) | exact HB.out)⟩⟩
 case rest =>
  clear HC4
  try clear c1
  try clear c2
  try clear p2
  try clear c3
  try clear c9
  try clear c11
  try clear c12
  try clear c12b0
  try clear c12b1
  try clear c12b2
  try clear c13
  try clear c14
  try clear c15
  try clear c17
  try clear c18
  try clear c18b0
  try clear c20
  try clear c24
  try clear c27
  try clear c30
  try clear c30b0
  try clear c32
  try clear c36
  try clear hcz10_0
  try clear hcz10_1
  try clear hcz10_2
  try clear hcz10_3
  try clear hcz10_4
  try clear hcz10_5
  try clear hcz10_6
  try clear hcz10_7
  try clear hcz10_8
  try clear hcz15_0
  try clear hcz15_1
  try clear hcz15_2
  try clear hcz15_3
  try clear hcz15_4
  try clear hcz15_5
  try clear hcz15_6
  try clear hcz15_7
  try clear hcz15_8
  try clear hcz16_0
  try clear hcz16_1
  try clear hcz16_2
  try clear hcz16_3
  try clear hcz16_4
  try clear hcz16_5
  try clear hcz16_6
  try clear hcz16_7
  try clear hcz16_8
  try clear hcz21_0
  try clear hcz21_1
  try clear hcz21_2
  try clear hcz21_3
  try clear hcz21_4
  try clear hcz21_5
  try clear hcz21_6
  try clear hcz21_7
  try clear hcz21_8
  try clear hcz22_0
  try clear hcz22_1
  try clear hcz22_2
  try clear hcz22_3
  try clear hcz22_4
  try clear hcz22_5
  try clear hcz22_6
  try clear hcz22_7
  try clear hcz22_8
  try clear hcz25_0
  try clear hcz25_1
  try clear hcz25_2
  try clear hcz25_3
  try clear hcz25_4
  try clear hcz25_5
  try clear hcz25_6
  try clear hcz25_7
  try clear hcz25_8
  try clear hcz26_0
  try clear hcz26_1
  try clear hcz26_2
  try clear hcz26_3
  try clear hcz26_4
  try clear hcz26_5
  try clear hcz26_6
  try clear hcz26_7
  try clear hcz26_8
  try clear hcz28_0
  try clear hcz28_1
  try clear hcz28_2
  try clear hcz28_3
  try clear hcz28_4
  try clear hcz28_5
  try clear hcz28_6
  try clear hcz28_7
  try clear hcz28_8
  try clear hcz29_0
  try clear hcz29_1
  try clear hcz29_2
  try clear hcz29_3
  try clear hcz29_4
  try clear hcz29_5
  try clear hcz29_6
  try clear hcz29_7
  try clear hcz29_8
  try clear hcz33_0
  try clear hcz33_1
  try clear hcz33_2
  try clear hcz33_3
  try clear hcz33_4
  try clear hcz33_5
  try clear hcz33_6
  try clear hcz33_7
  try clear hcz33_8
  try clear hcz34_0
  try clear hcz34_1
  try clear hcz34_2
  try clear hcz34_3
  try clear hcz34_4
  try clear hcz34_5
  try clear hcz34_6
  try clear hcz34_7
  try clear hcz34_8
  try clear hcz37_0
  try clear hcz37_1
  try clear hcz37_2
  try clear hcz37_3
  try clear hcz37_4
  try clear hcz37_5
  try clear hcz37_6
  try clear hcz37_7
  try clear hcz37_8
  try clear hcz38_0
  try clear hcz38_1
  try clear hcz38_2
  try clear hcz38_3
  try clear hcz38_4
  try clear hcz38_5
  try clear hcz38_6
  try clear hcz38_7
  try clear hcz38_8
  try clear hcz6_0
  try clear hcz6_1
  try clear hcz6_2
  try clear hcz6_3
  try clear hcz6_4
  try clear hcz6_5
  try clear hcz6_6
  try clear hcz6_7
  try clear hcz6_8
  try clear hfz10_0
  try clear hfz10_1
  try clear hfz10_2
  try clear hfz10_3
  try clear hfz10_4
  try clear hfz10_5
  try clear hfz10_6
  try clear hfz10_7
  try clear hfz10_8
  try clear hfz15_0
  try clear hfz15_1
  try clear hfz15_2
  try clear hfz15_3
  try clear hfz15_4
  try clear hfz15_5
  try clear hfz15_6
  try clear hfz15_7
  try clear hfz15_8
  try clear hfz16_0
  try clear hfz16_1
  try clear hfz16_2
  try clear hfz16_3
  try clear hfz16_4
  try clear hfz16_5
  try clear hfz16_6
  try clear hfz16_7
  try clear hfz16_8
  try clear hfz21_0
  try clear hfz21_1
  try clear hfz21_2
  try clear hfz21_3
  try clear hfz21_4
  try clear hfz21_5
  try clear hfz21_6
  try clear hfz21_7
  try clear hfz21_8
  try clear hfz22_0
  try clear hfz22_1
  try clear hfz22_2
  try clear hfz22_3
  try clear hfz22_4
  try clear hfz22_5
  try clear hfz22_6
  try clear hfz22_7
  try clear hfz22_8
  try clear hfz25_0
  try clear hfz25_1
  try clear hfz25_2
  try clear hfz25_3
  try clear hfz25_4
  try clear hfz25_5
  try clear hfz25_6
  try clear hfz25_7
  try clear hfz25_8
  try clear hfz26_0
  try clear hfz26_1
  try clear hfz26_2
  try clear hfz26_3
  try clear hfz26_4
  try clear hfz26_5
  try clear hfz26_6
  try clear hfz26_7
  try clear hfz26_8
  try clear hfz28_0
  try clear hfz28_1
  try clear hfz28_2
  try clear hfz28_3
  try clear hfz28_4
  try clear hfz28_5
  try clear hfz28_6
  try clear hfz28_7
  try clear hfz28_8
  try clear hfz29_0
  try clear hfz29_1
  try clear hfz29_2
  try clear hfz29_3
  try clear hfz29_4
  try clear hfz29_5
  try clear hfz29_6
  try clear hfz29_7
  try clear hfz29_8
  try clear hfz33_0
  try clear hfz33_1
  try clear hfz33_2
  try clear hfz33_3
  try clear hfz33_4
  try clear hfz33_5
  try clear hfz33_6
  try clear hfz33_7
  try clear hfz33_8
  try clear hfz34_0
  try clear hfz34_1
  try clear hfz34_2
  try clear hfz34_3
  try clear hfz34_4
  try clear hfz34_5
  try clear hfz34_6
  try clear hfz34_7
  try clear hfz34_8
  try clear hfz37_0
  try clear hfz37_1
  try clear hfz37_2
  try clear hfz37_3
  try clear hfz37_4
  try clear hfz37_5
  try clear hfz37_6
  try clear hfz37_7
  try clear hfz37_8
  try clear hfz38_0
  try clear hfz38_1
  try clear hfz38_2
  try clear hfz38_3
  try clear hfz38_4
  try clear hfz38_5
  try clear hfz38_6
  try clear hfz38_7
  try clear hfz38_8
  try clear hfz6_0
  try clear hfz6_1
  try clear hfz6_2
  try clear hfz6_3
  try clear hfz6_4
  try clear hfz6_5
  try clear hfz6_6
  try clear hfz6_7
  try clear hfz6_8
  obtain ⟨kq, x47_3, rfl, HA, HJ3, BK114, BK125, HB⟩ := hcut
  cases kq with
  | zero => exact absurd HA.out (by simp [cenotaphref08_Put.j0])
  | succ kj3 =>
   have H := HA.out
   clear HA
   simp only [cenotaphref08_Put.j0] at H
   by_cases c39 : x47_3 = true
   ·subst c39
    have H1 : ((some (([] : List (S28)) : List (S28))).bind fun y128 => (if y128.length + l0.length < 1599289640401 then (some ((y128 ++ l0), false)) else (none))) = some (r1, r2) := by rw [if_pos rfl] at H; exact H
    clear H
    have H := H1
    clear H1
    obtain ⟨y128, hy128⟩ : ∃ y_ : List (S28), y_ = (([] : List (S28))) := ⟨_, rfl⟩
    replace H : (if y128.length + l0.length < 1599289640401 then (some ((y128 ++ l0), false)) else (none)) = some (r1, r2) := by first | (rw [hy128]; with_reducible exact H) | (have H2_ := (Option.bind_some _ _).symm.trans H; rw [hy128]; with_reducible exact H2_) | (have H2_ := (Option.bind_some _ _).symm.trans H; with_reducible exact H2_) | with_reducible exact H | (rw [hy128]; exact H) | exact H
    have Ny128 := aK hy128
    clear hy128
    by_cases c40 : y128.length + l0.length < 1599289640401
    ·rw [if_pos c40] at H
     have LMc40 := aK c40
     clear c40
     obtain ⟨y131, hy131⟩ : ∃ y_ : List (S28), y_ = (y128 ++ l0) := ⟨_, rfl⟩
     replace H : (some (y131, false)) = some (r1, r2) := by first | (rw [hy131]; with_reducible exact H) | (have H2_ := (Option.bind_some _ _).symm.trans H; rw [hy131]; with_reducible exact H2_) | (have H2_ := (Option.bind_some _ _).symm.trans H; with_reducible exact H2_) | with_reducible exact H | (rw [hy131]; exact H) | exact H
     have Ny131 := aK hy131
     clear hy131
     simp only [Option.some.injEq, Prod.mk.injEq] at H
     obtain ⟨rfl, rfl⟩ := H
     go_wp2_with (first | ((with_reducible refine gate_dst (N := 48) rfl ?_); refine Kd.R_lit k28 _ 28 ?hg (N := 48) ?hd (xs := ([] : List (S28))) (inner := []) (ok := fun _ => True) (okp := fun _ => True) ?hr ?hp (fun _ hk => hk) trivial (Below.refl _ _) (Nat.le_refl _) (by simp) ?_; (case hd => rfl); (case hg => rfl); (case hr => first | (go_simp; done) | (go_simp; rfl)); (case hp => exact (Reps.none _ _)); intro v129 w41 ho42 hb hg_ hnew_; clear hg_ hnew_; (first | rw [← Ny128.out] at ho42 | (simp only [Int.reduceToNat] at ho42; rw [← Ny128.out] at ho42)); have HO130 := aK (Kd.R_lower (Kd.R_newB (Kd.R_newB ho42 (g := gb114) (o := .cells #[.int .i64 a1_0, .string a1_1, .int .i64 a1_2, .int .i64 a1_3, .bool a1_4, .int .i64 a1_5, .int .i64 a1_6, .string a1_7, .bool a1_8] 28 (0, 0)) zq13_4) (g := gb125) (o := .cells #[.int .i64 t115, .string t116, .int .i64 t117, .int .i64 t118, .bool t119, .int .i64 t120, .int .i64 t121, .string t122, .bool t123] 28 (0, 0)) zq13_5) (below_size zq13_0)); replace BK114 := aK (bB (g := gb114) (o := .cells #[.int .i64 a1_0, .string a1_1, .int .i64 a1_2, .int .i64 a1_3, .bool a1_4, .int .i64 a1_5, .int .i64 a1_6, .string a1_7, .bool a1_8] 28 (0, 0)) zq13_4 hb); replace BK125 := aK (bB (g := gb125) (o := .cells #[.int .i64 t115, .string t116, .int .i64 t117, .int .i64 t118, .bool t119, .int .i64 t120, .int .i64 t121, .string t122, .bool t123] 28 (0, 0)) zq13_5 hb); replace HB := aK (bS zq13_0 hb); clear hb ho42) | ((with_reducible refine gate_builtin (b := .append) (xs := #[.tmp 48, .tmp 49]) rfl ?_); at_builtin; refine Kd.R_append_rows k28 (w0 := w) w.heap.size rfl (.tmp 48) (.tmp 49) 22 28 (.agg #[(.int .i64 0), (.string ⟨#[]⟩), (.int .i64 0), (.int .i64 0), (.bool false), (.int .i64 0), (.int .i64 0), (.string ⟨#[]⟩), (.bool false)]) 88 rfl Try.underlying22 info28 rfl (by decide) (by omega) v129 y128 l0 _ _ _ (fun k_ => k_ ≠ gb114 ∧ k_ ≠ gb125) (fun _ => False) rfl rfl ?aO ?aR (fun _ _ h => h) (fun _ h => h.elim) ?aF ?aB ?aS ?aL ?_; (case aR => repeat (first | exact (cB HR0.out HB.out) | (with_reducible refine Kd.C_alloc ?_ _) | (with_reducible refine Kd.C_drewN ?_ _) | (with_reducible refine Kd.C_drew ?_))); (case aB => exact zq13_0); (case aF => exact (fun k_ hk => ⟨Kd.freshB (g := gb114) (o := .cells #[.int .i64 a1_0, .string a1_1, .int .i64 a1_2, .int .i64 a1_3, .bool a1_4, .int .i64 a1_5, .int .i64 a1_6, .string a1_7, .bool a1_8] 28 (0, 0)) zq13_4 k_ hk, Kd.freshB (g := gb125) (o := .cells #[.int .i64 t115, .string t116, .int .i64 t117, .int .i64 t118, .bool t119, .int .i64 t120, .int .i64 t121, .string t122, .bool t123] 28 (0, 0)) zq13_5 k_ hk⟩)); (case aO => exact (by (with_reducible repeat (first | apply Kd.R_alloc | apply Kd.R_drewN | apply Kd.R_drew)); exact Kd.R_mono HO130.out (fun _ hk => ⟨hk.1.2, hk.2⟩))); (case aS => exact (below_size zq13_0)); (case aL => have := LMc40.out; omega); intro v132 w43 ho hb hg hat; rw [← Ny131.out] at ho; replace BK114 := aK (blk_grown (g := gb114) (o := .cells #[.int .i64 a1_0, .string a1_1, .int .i64 a1_2, .int .i64 a1_3, .bool a1_4, .int .i64 a1_5, .int .i64 a1_6, .string a1_7, .bool a1_8] 28 (0, 0)) zq13_4 hg (Kd.R_away HO130.out (fun _ hk => hk.1.2))); replace BK125 := aK (blk_grown (g := gb125) (o := .cells #[.int .i64 t115, .string t116, .int .i64 t117, .int .i64 t118, .bool t119, .int .i64 t120, .int .i64 t121, .string t122, .bool t123] 28 (0, 0)) zq13_5 hg (Kd.R_away HO130.out (fun _ hk => hk.2))); replace HB := aK (hb); have HO133 := aK (ho); clear HO130; clear ho hb hg hat))
     go_ret2
     exact ⟨_, by first | rfl | (simp [errW_none, errW_some] <;> rfl) | (simp [*, errW_none, errW_some] <;> rfl), by (with_reducible repeat (first | apply Kd.R_alloc | apply Kd.R_drewN | apply Kd.R_drew)); exact Kd.R_mono HO133.out (fun _ hk => trivial), by repeat (first | (with_reducible first | exact HB.out | apply bA | apply pB | apply bW | refine below_set ?_ GE114.out | refine below_set ?_ GE125.out) | exact HB.out)⟩
    ·rw [if_neg c40] at H
     exact absurd H (by simp)
   ·replace c39 := Bool.eq_false_iff.mpr c39
    subst c39
    have H1 : ((cenotaphref08_Drop.f kj3 l0 a1_0).bind fun t134 => ((some (([(⟨a1_0, (⟨a1_1, a1_2, a1_3⟩ : S24), a1_4, (⟨a1_5, a1_6⟩ : S26), a1_7, a1_8⟩ : S28)] : List (S28)) : List (S28))).bind fun y137 => (if t134.length + y137.length < 1599289640401 then ((some (t134 ++ y137 : List (S28))).bind fun y140 => (cenotaphref08_Put.l0 kj3 y140 (wrap64 ((y140.length : Int) - 1)))) else (none)))) = some (r1, r2) := by rw [if_neg (show ¬ (false = true) by decide)] at H; exact H
    clear H
    have H := H1
    clear H1
    replace H := bM H
    obtain ⟨t134, A440, H⟩ := H
    replace H : ((some (([(⟨a1_0, (⟨a1_1, a1_2, a1_3⟩ : S24), a1_4, (⟨a1_5, a1_6⟩ : S26), a1_7, a1_8⟩ : S28)] : List (S28)) : List (S28))).bind fun y137 => (if t134.length + y137.length < 1599289640401 then ((some (t134 ++ y137 : List (S28))).bind fun y140 => (cenotaphref08_Put.l0 kj3 y140 (wrap64 ((y140.length : Int) - 1)))) else (none))) = some (r1, r2) := H
    have A44 := aK A440
    clear A440
    obtain ⟨y137, hy137⟩ : ∃ y_ : List (S28), y_ = (([(⟨a1_0, (⟨a1_1, a1_2, a1_3⟩ : S24), a1_4, (⟨a1_5, a1_6⟩ : S26), a1_7, a1_8⟩ : S28)] : List (S28))) := ⟨_, rfl⟩
    replace H : (if t134.length + y137.length < 1599289640401 then ((some (t134 ++ y137 : List (S28))).bind fun y140 => (cenotaphref08_Put.l0 kj3 y140 (wrap64 ((y140.length : Int) - 1)))) else (none)) = some (r1, r2) := by first | (rw [hy137]; with_reducible exact H) | (have H2_ := (Option.bind_some _ _).symm.trans H; rw [hy137]; with_reducible exact H2_) | (have H2_ := (Option.bind_some _ _).symm.trans H; with_reducible exact H2_) | with_reducible exact H | (rw [hy137]; exact H) | exact H
    have Ny137 := aK hy137
    clear hy137
    by_cases c45 : t134.length + y137.length < 1599289640401
    ·rw [if_pos c45] at H
     have LMc45 := aK c45
     clear c45
     obtain ⟨y140, hy140⟩ : ∃ y_ : List (S28), y_ = (t134 ++ y137) := ⟨_, rfl⟩
     replace H : (cenotaphref08_Put.l0 kj3 y140 (wrap64 ((y140.length : Int) - 1))) = some (r1, r2) := by first | (rw [hy140]; with_reducible exact H) | (have H2_ := (Option.bind_some _ _).symm.trans H; rw [hy140]; with_reducible exact H2_) | (have H2_ := (Option.bind_some _ _).symm.trans H; with_reducible exact H2_) | with_reducible exact H | (rw [hy140]; exact H) | exact H
     have Ny140 := aK hy140
     clear hy140
     have H' := aK H
     clear H
     try go_wp2
     replace BK114 := aK (blk_drew BK114.out)
     replace BK125 := aK (blk_drew BK125.out)
     replace HB := aK (bW HB.out)
     refine start_ (n := 8) (S := fun w' => w'.cell? ⟨gb114, 0, none⟩ = some (.int .i64 a1_0) ∧ w'.cell? ⟨gb114, 1, none⟩ = some (.string a1_1) ∧ w'.cell? ⟨gb114, 2, none⟩ = some (.int .i64 a1_2) ∧ w'.cell? ⟨gb114, 3, none⟩ = some (.int .i64 a1_3) ∧ w'.cell? ⟨gb114, 4, none⟩ = some (.bool a1_4) ∧ w'.cell? ⟨gb114, 5, none⟩ = some (.int .i64 a1_5) ∧ w'.cell? ⟨gb114, 6, none⟩ = some (.int .i64 a1_6) ∧ w'.cell? ⟨gb114, 7, none⟩ = some (.string a1_7) ∧ w'.cell? ⟨gb114, 8, none⟩ = some (.bool a1_8)) (ds := []) #[false, false, false, false, false, false, false, false] (by kernel_rfl) rfl rfl ⟨(bC BK114.out 0).trans rfl, (bC BK114.out 1).trans rfl, (bC BK114.out 2).trans rfl, (bC BK114.out 3).trans rfl, (bC BK114.out 4).trans rfl, (bC BK114.out 5).trans rfl, (bC BK114.out 6).trans rfl, (bC BK114.out 7).trans rfl, (bC BK114.out 8).trans rfl⟩ (fun hHeld => ?_); refine with_tabW cenotaphref08_Put.tab4 cenotaphref08_Put.bits4 (fun HT_ HW_ => ?_)
     generalize wc.drew = w46 at BK114 BK125 HB hHeld ⊢
     refine p_ 0 51 (mk_ 8 0x1) ?_
     refine p_ 1 52 (mk_ 8 0x3) ?_
     refine t_ 2 53 (mk_ 8 0x7) hHeld ?_
     refine t_ 4 55 (mk_ 8 0x17) hHeld ?_
     refine join_ (σ := Value × Value) 2 #[true, true, true, true, true, true, false, false] (fun s_ => [(54, s_.1), (56, s_.2)]) (fun s_ w' => (w'.cell? ⟨gb114, 0, none⟩ = some (.int .i64 a1_0) ∧ w'.cell? ⟨gb114, 1, none⟩ = some (.string a1_1) ∧ w'.cell? ⟨gb114, 2, none⟩ = some (.int .i64 a1_2) ∧ w'.cell? ⟨gb114, 3, none⟩ = some (.int .i64 a1_3) ∧ w'.cell? ⟨gb114, 4, none⟩ = some (.bool a1_4) ∧ w'.cell? ⟨gb114, 5, none⟩ = some (.int .i64 a1_5) ∧ w'.cell? ⟨gb114, 6, none⟩ = some (.int .i64 a1_6) ∧ w'.cell? ⟨gb114, 7, none⟩ = some (.string a1_7) ∧ w'.cell? ⟨gb114, 8, none⟩ = some (.bool a1_8)) ∧ (Kd.R k28 28 w' w.heap.size (fun k_ => some k_ ≠ (s_.2 : Value).ownBlock ∧ k_ ≠ gb114 ∧ k_ ≠ gb125) s_.1 t134) ∧ (Kd.R k28 28 w' w.heap.size (fun k_ => some k_ ≠ (s_.1 : Value).ownBlock ∧ k_ ≠ gb114 ∧ k_ ≠ gb125) s_.2 y137) ∧ (w'.heap[gb114]? = some (.cells #[.int .i64 a1_0, .string a1_1, .int .i64 a1_2, .int .i64 a1_3, .bool a1_4, .int .i64 a1_5, .int .i64 a1_6, .string a1_7, .bool a1_8] 28 (0, 0))) ∧ (w'.heap[gb125]? = some (.cells #[.int .i64 t115, .string t116, .int .i64 t117, .int .i64 t118, .bool t119, .int .i64 t120, .int .i64 t121, .string t122, .bool t123] 28 (0, 0))) ∧ (Below w.heap.size w w')) ?_ ?_
     rotate_left
     ·intro hCont
      refine two_ (i := 3) (j := 5) (Ni := some 54) (Nj := some 56) #[true, true, true, true, true, false, false, false] #[true, true, true, false, true, true, false, false] rfl rfl rfl rfl (two_of HT_.out (by kernel_rfl)) (by decide) (by decide) (fun K hK => ?_) (fun K hK => ?_)
      ·skip
       refine goes_ Try.func22 (by kernel_rfl) rfl #[.slice A0 l0.length c0, .int .i64 a1_0] (by rfl) rfl rfl zq13_2 ?_
       with_reducible refine (cenotaphref08_Drop.calls kj3 _ _ l0 a1_0 t134 _ ?side1 ?side2 A44.out).mono ?_
       (case side1 => repeat (first | exact (cB HR0.out HB.out) | (with_reducible refine Kd.C_alloc ?_ _) | (with_reducible refine Kd.C_drewN ?_ _) | (with_reducible refine Kd.C_drew ?_)))
       (case side2 => exact HC0.out)
       rintro e w47 ⟨v135, rfl, ho0, hb⟩
       refine ⟨_, rfl, ?_⟩
       have HO136 := aK (Kd.R_lower (Kd.R_newB (Kd.R_newB ho0 (g := gb114) (o := .cells #[.int .i64 a1_0, .string a1_1, .int .i64 a1_2, .int .i64 a1_3, .bool a1_4, .int .i64 a1_5, .int .i64 a1_6, .string a1_7, .bool a1_8] 28 (0, 0)) zq13_4) (g := gb125) (o := .cells #[.int .i64 t115, .string t116, .int .i64 t117, .int .i64 t118, .bool t119, .int .i64 t120, .int .i64 t121, .string t122, .bool t123] 28 (0, 0)) zq13_5) (below_size zq13_0))
       replace BK114 := aK (bB (g := gb114) (o := .cells #[.int .i64 a1_0, .string a1_1, .int .i64 a1_2, .int .i64 a1_3, .bool a1_4, .int .i64 a1_5, .int .i64 a1_6, .string a1_7, .bool a1_8] 28 (0, 0)) zq13_4 hb)
       replace BK125 := aK (bB (g := gb125) (o := .cells #[.int .i64 t115, .string t116, .int .i64 t117, .int .i64 t118, .bool t119, .int .i64 t120, .int .i64 t121, .string t122, .bool t123] 28 (0, 0)) zq13_5 hb)
       replace HB := aK (bS zq13_0 hb)
       (try clear hb)
       (try clear hb2)
       (try clear hk)
       (try clear hi)
       (try clear ho0)
       refine hK.out _ _ ⟨(bC BK114.out 0).trans rfl, (bC BK114.out 1).trans rfl, (bC BK114.out 2).trans rfl, (bC BK114.out 3).trans rfl, (bC BK114.out 4).trans rfl, (bC BK114.out 5).trans rfl, (bC BK114.out 6).trans rfl, (bC BK114.out 7).trans rfl, (bC BK114.out 8).trans rfl⟩ (fun hHeld => ?_)
       clear hK K
       refine norm_ (a' := ?_) ?_ ?_
       rotate_left
       ·show Act.put _ (some 54) _ = _
        simp only [Act.put, lA, lB, lC, i64_w, i32_w]
        rfl
       refine one_ (i := 5) (N := some 56) #[true, true, true, true, true, true, false, false] rfl rfl (one_of HT_.out (by kernel_rfl)) (by decide) (fun K hK => ?_)
       refine Kd.R_lit_step k28 _ 28 ?hg (N := 56) ?hd (xs := ([(⟨a1_0, (⟨a1_1, a1_2, a1_3⟩ : S24), a1_4, (⟨a1_5, a1_6⟩ : S26), a1_7, a1_8⟩ : S28)] : List (S28))) (inner := [.int .i64 a1_0, .string a1_1, .int .i64 a1_2, .int .i64 a1_3, .bool a1_4, .int .i64 a1_5, .int .i64 a1_6, .string a1_7, .bool a1_8]) (ok := fun _ => True) (okp := fun _ => True) ?hr ?hp (fun _ hk => hk) trivial (Below.refl _ _) (Nat.le_refl _) (by simp) ?_; (case hd => rfl); (case hg => rfl); (case hr => first | (go_simp; done) | (go_simp; rfl)); (case hp => exact (Reps.c9 (show Kd.M k28 _ _ _ (⟨a1_0, (⟨a1_1, a1_2, a1_3⟩ : S24), a1_4, (⟨a1_5, a1_6⟩ : S26), a1_7, a1_8⟩ : S28) [.int .i64 a1_0, .string a1_1, .int .i64 a1_2, .int .i64 a1_3, .bool a1_4, .int .i64 a1_5, .int .i64 a1_6, .string a1_7, .bool a1_8] from (k28_mkM _ _ _ (⟨a1_0, (⟨a1_1, a1_2, a1_3⟩ : S24), a1_4, (⟨a1_5, a1_6⟩ : S26), a1_7, a1_8⟩ : S28) )) (Reps.none _ _)))
       intro v138 w48 ho49 hb hg_ hnew_
       clear hg_ hnew_
       (first | rw [← Ny137.out] at ho49 | (simp only [Int.reduceToNat] at ho49; rw [← Ny137.out] at ho49))
       have HO139 := aK (Kd.R_lower (Kd.R_newB (Kd.R_newB (Kd.R_new' ho49 (Kd.R_lt zq13_6)) (g := gb114) (o := .cells #[.int .i64 a1_0, .string a1_1, .int .i64 a1_2, .int .i64 a1_3, .bool a1_4, .int .i64 a1_5, .int .i64 a1_6, .string a1_7, .bool a1_8] 28 (0, 0)) zq13_4) (g := gb125) (o := .cells #[.int .i64 t115, .string t116, .int .i64 t117, .int .i64 t118, .bool t119, .int .i64 t120, .int .i64 t121, .string t122, .bool t123] 28 (0, 0)) zq13_5) (below_size zq13_0))
       replace HO136 := aK (Kd.R_elder' zq13_6 (Kd.R_base ho49) hb)
       replace BK114 := aK (bB (g := gb114) (o := .cells #[.int .i64 a1_0, .string a1_1, .int .i64 a1_2, .int .i64 a1_3, .bool a1_4, .int .i64 a1_5, .int .i64 a1_6, .string a1_7, .bool a1_8] 28 (0, 0)) zq13_4 hb)
       replace BK125 := aK (bB (g := gb125) (o := .cells #[.int .i64 t115, .string t116, .int .i64 t117, .int .i64 t118, .bool t119, .int .i64 t120, .int .i64 t121, .string t122, .bool t123] 28 (0, 0)) zq13_5 hb)
       replace HB := aK (bS zq13_0 hb)
       clear hb ho49
       refine hK.out _ _ ⟨(bC BK114.out 0).trans rfl, (bC BK114.out 1).trans rfl, (bC BK114.out 2).trans rfl, (bC BK114.out 3).trans rfl, (bC BK114.out 4).trans rfl, (bC BK114.out 5).trans rfl, (bC BK114.out 6).trans rfl, (bC BK114.out 7).trans rfl, (bC BK114.out 8).trans rfl⟩ (fun hHeld => ?_)
       clear hK K
       refine norm_ (a' := ?_) ?_ ?_
       rotate_left
       ·show Act.put _ (some 56) _ = _
        simp only [Act.put, lA, lB, lC, i64_w, i32_w]
        rfl
       exact norm_ (by simp only [putAll, Act.put, lA, lB, lC]) (hCont (v135, v138) _ ⟨hHeld, (by (with_reducible repeat (first | apply Kd.R_alloc | apply Kd.R_drewN | apply Kd.R_drew)); exact Kd.R_mono HO136.out (fun _ hk => ⟨hk.2, ⟨hk.1.1.2, hk.1.2⟩⟩)), (by (with_reducible repeat (first | apply Kd.R_alloc | apply Kd.R_drewN | apply Kd.R_drew)); exact Kd.R_mono HO139.out (fun _ hk => ⟨hk.1.1.2, ⟨hk.1.2, hk.2⟩⟩)), zq13_4, zq13_5, zq13_0⟩)
      ·skip
       refine Kd.R_lit_step k28 _ 28 ?hg (N := 56) ?hd (xs := ([(⟨a1_0, (⟨a1_1, a1_2, a1_3⟩ : S24), a1_4, (⟨a1_5, a1_6⟩ : S26), a1_7, a1_8⟩ : S28)] : List (S28))) (inner := [.int .i64 a1_0, .string a1_1, .int .i64 a1_2, .int .i64 a1_3, .bool a1_4, .int .i64 a1_5, .int .i64 a1_6, .string a1_7, .bool a1_8]) (ok := fun _ => True) (okp := fun _ => True) ?hr ?hp (fun _ hk => hk) trivial (Below.refl _ _) (Nat.le_refl _) (by simp) ?_; (case hd => rfl); (case hg => rfl); (case hr => first | (go_simp; done) | (go_simp; rfl)); (case hp => exact (Reps.c9 (show Kd.M k28 _ _ _ (⟨a1_0, (⟨a1_1, a1_2, a1_3⟩ : S24), a1_4, (⟨a1_5, a1_6⟩ : S26), a1_7, a1_8⟩ : S28) [.int .i64 a1_0, .string a1_1, .int .i64 a1_2, .int .i64 a1_3, .bool a1_4, .int .i64 a1_5, .int .i64 a1_6, .string a1_7, .bool a1_8] from (k28_mkM _ _ _ (⟨a1_0, (⟨a1_1, a1_2, a1_3⟩ : S24), a1_4, (⟨a1_5, a1_6⟩ : S26), a1_7, a1_8⟩ : S28) )) (Reps.none _ _)))
       intro v138 w47 ho48 hb hg_ hnew_
       clear hg_ hnew_
       (first | rw [← Ny137.out] at ho48 | (simp only [Int.reduceToNat] at ho48; rw [← Ny137.out] at ho48))
       have HO139 := aK (Kd.R_lower (Kd.R_newB (Kd.R_newB ho48 (g := gb114) (o := .cells #[.int .i64 a1_0, .string a1_1, .int .i64 a1_2, .int .i64 a1_3, .bool a1_4, .int .i64 a1_5, .int .i64 a1_6, .string a1_7, .bool a1_8] 28 (0, 0)) zq13_4) (g := gb125) (o := .cells #[.int .i64 t115, .string t116, .int .i64 t117, .int .i64 t118, .bool t119, .int .i64 t120, .int .i64 t121, .string t122, .bool t123] 28 (0, 0)) zq13_5) (below_size zq13_0))
       replace BK114 := aK (bB (g := gb114) (o := .cells #[.int .i64 a1_0, .string a1_1, .int .i64 a1_2, .int .i64 a1_3, .bool a1_4, .int .i64 a1_5, .int .i64 a1_6, .string a1_7, .bool a1_8] 28 (0, 0)) zq13_4 hb)
       replace BK125 := aK (bB (g := gb125) (o := .cells #[.int .i64 t115, .string t116, .int .i64 t117, .int .i64 t118, .bool t119, .int .i64 t120, .int .i64 t121, .string t122, .bool t123] 28 (0, 0)) zq13_5 hb)
       replace HB := aK (bS zq13_0 hb)
       clear hb ho48
       refine hK.out _ _ ⟨(bC BK114.out 0).trans rfl, (bC BK114.out 1).trans rfl, (bC BK114.out 2).trans rfl, (bC BK114.out 3).trans rfl, (bC BK114.out 4).trans rfl, (bC BK114.out 5).trans rfl, (bC BK114.out 6).trans rfl, (bC BK114.out 7).trans rfl, (bC BK114.out 8).trans rfl⟩ (fun hHeld => ?_)
       clear hK K
       refine norm_ (a' := ?_) ?_ ?_
       rotate_left
       ·show Act.put _ (some 56) _ = _
        simp only [Act.put, lA, lB, lC, i64_w, i32_w]
        rfl
       refine one_ (i := 3) (N := some 54) #[true, true, true, true, true, true, false, false] rfl rfl (one_of HT_.out (by kernel_rfl)) (by decide) (fun K hK => ?_)
       refine goes_ Try.func22 (by kernel_rfl) rfl #[.slice A0 l0.length c0, .int .i64 a1_0] (by rfl) rfl rfl zq13_2 ?_
       with_reducible refine (cenotaphref08_Drop.calls kj3 _ _ l0 a1_0 t134 _ ?side1 ?side2 A44.out).mono ?_
       (case side1 => repeat (first | exact (cB HR0.out HB.out) | (with_reducible refine Kd.C_alloc ?_ _) | (with_reducible refine Kd.C_drewN ?_ _) | (with_reducible refine Kd.C_drew ?_)))
       (case side2 => exact HC0.out)
       rintro e w49 ⟨v135, rfl, ho0, hb⟩
       refine ⟨_, rfl, ?_⟩
       have HO136 := aK (Kd.R_lower (Kd.R_newB (Kd.R_newB (Kd.R_new' ho0 (Kd.R_lt zq13_7)) (g := gb114) (o := .cells #[.int .i64 a1_0, .string a1_1, .int .i64 a1_2, .int .i64 a1_3, .bool a1_4, .int .i64 a1_5, .int .i64 a1_6, .string a1_7, .bool a1_8] 28 (0, 0)) zq13_4) (g := gb125) (o := .cells #[.int .i64 t115, .string t116, .int .i64 t117, .int .i64 t118, .bool t119, .int .i64 t120, .int .i64 t121, .string t122, .bool t123] 28 (0, 0)) zq13_5) (below_size zq13_0))
       replace HO139 := aK (Kd.R_elder' zq13_7 (Kd.R_base ho0) hb)
       replace BK114 := aK (bB (g := gb114) (o := .cells #[.int .i64 a1_0, .string a1_1, .int .i64 a1_2, .int .i64 a1_3, .bool a1_4, .int .i64 a1_5, .int .i64 a1_6, .string a1_7, .bool a1_8] 28 (0, 0)) zq13_4 hb)
       replace BK125 := aK (bB (g := gb125) (o := .cells #[.int .i64 t115, .string t116, .int .i64 t117, .int .i64 t118, .bool t119, .int .i64 t120, .int .i64 t121, .string t122, .bool t123] 28 (0, 0)) zq13_5 hb)
       replace HB := aK (bS zq13_0 hb)
       (try clear hb)
       (try clear hb2)
       (try clear hk)
       (try clear hi)
       (try clear ho0)
       refine hK.out _ _ ⟨(bC BK114.out 0).trans rfl, (bC BK114.out 1).trans rfl, (bC BK114.out 2).trans rfl, (bC BK114.out 3).trans rfl, (bC BK114.out 4).trans rfl, (bC BK114.out 5).trans rfl, (bC BK114.out 6).trans rfl, (bC BK114.out 7).trans rfl, (bC BK114.out 8).trans rfl⟩ (fun hHeld => ?_)
       clear hK K
       refine norm_ (a' := ?_) ?_ ?_
       rotate_left
       ·show Act.put _ (some 54) _ = _
        simp only [Act.put, lA, lB, lC, i64_w, i32_w]
        rfl
       exact norm_ (by simp only [putAll, Act.put, lA, lB, lC]) (hCont (v135, v138) _ ⟨hHeld, (by (with_reducible repeat (first | apply Kd.R_alloc | apply Kd.R_drewN | apply Kd.R_drew)); exact Kd.R_mono HO136.out (fun _ hk => ⟨hk.1.1.2, ⟨hk.1.2, hk.2⟩⟩)), (by (with_reducible repeat (first | apply Kd.R_alloc | apply Kd.R_drewN | apply Kd.R_drew)); exact Kd.R_mono HO139.out (fun _ hk => ⟨hk.2, ⟨hk.1.1.2, hk.1.2⟩⟩)), zq13_4, zq13_5, zq13_0⟩)
     rintro ⟨v135, v138⟩ w50 ⟨hS_, h0_, h1_, h2_, h3_, h4_⟩
     have n0_ : Aside0 (Kd.R k28 28 w50 w.heap.size (fun k_ => some k_ ≠ (v138 : Value).ownBlock ∧ k_ ≠ gb114 ∧ k_ ≠ gb125) v135 t134) := ⟨h0_⟩
     have n1_ : Aside0 (Kd.R k28 28 w50 w.heap.size (fun k_ => some k_ ≠ (v135 : Value).ownBlock ∧ k_ ≠ gb114 ∧ k_ ≠ gb125) v138 y137) := ⟨h1_⟩
     have n2_ : Aside0 (w50.heap[gb114]? = some (.cells #[.int .i64 a1_0, .string a1_1, .int .i64 a1_2, .int .i64 a1_3, .bool a1_4, .int .i64 a1_5, .int .i64 a1_6, .string a1_7, .bool a1_8] 28 (0, 0))) := ⟨h2_⟩
     have n3_ : Aside0 (w50.heap[gb125]? = some (.cells #[.int .i64 t115, .string t116, .int .i64 t117, .int .i64 t118, .bool t119, .int .i64 t120, .int .i64 t121, .string t122, .bool t123] 28 (0, 0))) := ⟨h3_⟩
     have n4_ : Aside0 (Below w.heap.size w w50) := ⟨h4_⟩
     clear BK114
     clear BK125
     clear HB
     clear h0_ h1_ h2_ h3_ h4_
     have HO136 := n0_
     have HO139 := n1_
     have BK114 := n2_
     have BK125 := n3_
     have HB := n4_
     clear n0_ n1_ n2_ n3_ n4_
     have hHeld : w50.cell? ⟨gb114, 0, none⟩ = some (.int .i64 a1_0) ∧ w50.cell? ⟨gb114, 1, none⟩ = some (.string a1_1) ∧ w50.cell? ⟨gb114, 2, none⟩ = some (.int .i64 a1_2) ∧ w50.cell? ⟨gb114, 3, none⟩ = some (.int .i64 a1_3) ∧ w50.cell? ⟨gb114, 4, none⟩ = some (.bool a1_4) ∧ w50.cell? ⟨gb114, 5, none⟩ = some (.int .i64 a1_5) ∧ w50.cell? ⟨gb114, 6, none⟩ = some (.int .i64 a1_6) ∧ w50.cell? ⟨gb114, 7, none⟩ = some (.string a1_7) ∧ w50.cell? ⟨gb114, 8, none⟩ = some (.bool a1_8) := hS_
     obtain ⟨Ao52, co52, eo52⟩ := Kd.R_slice HO139.out
     (first | subst eo52 | (injection eo52 with f1_ f2_ f3_; have f4_ := f1_.symm; have f5_ := f3_.symm; clear f1_ f2_ f3_; subst f4_; subst f5_))
     refine norm_ (a' := ?_) ?_ ?_
     rotate_left
     ·simp only [putAll, Act.put, lA, lB, lC]
      rfl
     refine one_ (i := 6) (N := some 57) #[true, true, true, true, true, true, true, false] rfl rfl (one_of HT_.out (by kernel_rfl)) (by decide) (fun K hK => ?_)
     refine Kd.R_append_rows_step k28 (w0 := w) w.heap.size (by rfl) (.tmp 54) (.tmp 56) 22 28 (.agg #[(.int .i64 0), (.string ⟨#[]⟩), (.int .i64 0), (.int .i64 0), (.bool false), (.int .i64 0), (.int .i64 0), (.string ⟨#[]⟩), (.bool false)]) 88 rfl Try.underlying22 info28 rfl (by decide) (by omega) v135 t134 y137 _ _ _ (fun k_ => some k_ ≠ (.slice Ao52 y137.length co52 : Value).ownBlock ∧ k_ ≠ gb114 ∧ k_ ≠ gb125) (fun _ => False) rfl rfl ?aO ?aR (fun _ _ h => h) (fun _ h => h.elim) ?aF ?aB ?aS ?aL ?_
     (case aR => repeat (first | exact (Kd.R_reads' HO139.out).2.2 | (with_reducible refine Kd.C_alloc ?_ _) | (with_reducible refine Kd.C_drewN ?_ _) | (with_reducible refine Kd.C_drew ?_)))
     (case aB => exact zq13_0)
     (case aF => exact (fun k_ hk => ⟨Kd.fresh' (Kd.R_lt zq13_7) k_ hk, Kd.freshB (g := gb114) (o := .cells #[.int .i64 a1_0, .string a1_1, .int .i64 a1_2, .int .i64 a1_3, .bool a1_4, .int .i64 a1_5, .int .i64 a1_6, .string a1_7, .bool a1_8] 28 (0, 0)) zq13_4 k_ hk, Kd.freshB (g := gb125) (o := .cells #[.int .i64 t115, .string t116, .int .i64 t117, .int .i64 t118, .bool t119, .int .i64 t120, .int .i64 t121, .string t122, .bool t123] 28 (0, 0)) zq13_5 k_ hk⟩))
     (case aO => exact zq13_6)
     (case aS => exact (below_size zq13_0))
     (case aL => have := LMc45.out; omega)
     intro v141 w51 ho hb hg hat
     rw [← Ny140.out] at ho
     replace BK114 := aK (blk_grown (g := gb114) (o := .cells #[.int .i64 a1_0, .string a1_1, .int .i64 a1_2, .int .i64 a1_3, .bool a1_4, .int .i64 a1_5, .int .i64 a1_6, .string a1_7, .bool a1_8] 28 (0, 0)) zq13_4 hg (Kd.R_away HO136.out (fun _ hk => hk.2.1)))
     replace BK125 := aK (blk_grown (g := gb125) (o := .cells #[.int .i64 t115, .string t116, .int .i64 t117, .int .i64 t118, .bool t119, .int .i64 t120, .int .i64 t121, .string t122, .bool t123] 28 (0, 0)) zq13_5 hg (Kd.R_away HO136.out (fun _ hk => hk.2.2)))
     replace HO139 := aK (Kd.R_after (ok := (fun k_ => k_ ≠ gb114 ∧ k_ ≠ gb125)) (by (with_reducible repeat (first | apply Kd.R_alloc | apply Kd.R_drewN | apply Kd.R_drew)); exact Kd.R_mono HO139.out (fun _ hk => ⟨⟨hk.2.1, hk.2.2⟩, hk.1⟩)) hg hat)
     replace HB := aK (hb)
     have HO142 := aK (ho)
     clear HO136
     clear ho hb hg hat
     refine hK.out _ _ ⟨(bC BK114.out 0).trans rfl, (bC BK114.out 1).trans rfl, (bC BK114.out 2).trans rfl, (bC BK114.out 3).trans rfl, (bC BK114.out 4).trans rfl, (bC BK114.out 5).trans rfl, (bC BK114.out 6).trans rfl, (bC BK114.out 7).trans rfl, (bC BK114.out 8).trans rfl⟩ (fun hHeld => ?_)
     clear hK K
     refine norm_ (a' := ?_) ?_ ?_
     rotate_left
     ·show Act.put _ (some 57) _ = _
      simp only [Act.put, lA, lB, lC, i64_w, i32_w]
      rfl
     refine p_ 7 8 (mk_ 8 0xff) ?_
     refine done_ (done_of HT_.out (by kernel_rfl)) ?_
     obtain ⟨Ao53, co53, eo53⟩ := Kd.R_slice HO142.out
     subst eo53
     try go_wp2
     go_loopg [9] kj3 (fun kq v9 w' => ∃ (x8_2 : List (S28)) (x9_2 : Int) (x115000_2 : Int) (x115001_2 : ByteArray) (x115002_2 : Int) (x115003_2 : Int) (x115004_2 : Bool) (x115005_2 : Int) (x115006_2 : Int) (x115007_2 : ByteArray) (x115008_2 : Bool) (x126000_2 : Int) (x126001_2 : ByteArray) (x126002_2 : Int) (x126003_2 : Int) (x126004_2 : Bool) (x126005_2 : Int) (x126006_2 : Int) (x126007_2 : ByteArray) (x126008_2 : Bool), v9 = .int .i64 x9_2 ∧ Aside0 (cenotaphref08_Put.l0 kq x8_2 x9_2 = some (r1, r2)) ∧ Aside0 (kq ≤ kj3) ∧ Aside0 (Kd.R k28 28 w' w.heap.size (fun k_ => k_ ≠ gb114 ∧ k_ ≠ gb125) (.slice Ao53 y140.length co53) x8_2) ∧ Aside0 (w'.heap[gb114]? = some (.cells #[.int .i64 x115000_2, .string x115001_2, .int .i64 x115002_2, .int .i64 x115003_2, .bool x115004_2, .int .i64 x115005_2, .int .i64 x115006_2, .string x115007_2, .bool x115008_2] 28 (0, 0))) ∧ Aside0 (w'.heap[gb125]? = some (.cells #[.int .i64 x126000_2, .string x126001_2, .int .i64 x126002_2, .int .i64 x126003_2, .bool x126004_2, .int .i64 x126005_2, .int .i64 x126006_2, .string x126007_2, .bool x126008_2] 28 (0, 0))) ∧ Aside0 (Below w.heap.size w w'))
     case atStart => exact ⟨(y140), (wrap64 ((y140.length : Int) - 1)), (a1_0), (a1_1), (a1_2), (a1_3), (a1_4), (a1_5), (a1_6), (a1_7), (a1_8), (t115), (t116), (t117), (t118), (t119), (t120), (t121), (t122), (t123), zq13_9, H', ⟨Nat.le_refl _⟩, ⟨by (with_reducible repeat (first | apply Kd.R_alloc | apply Kd.R_drewN | apply Kd.R_drew)); exact Kd.R_mono HO142.out (fun _ hk => ⟨hk.2.1, hk.2.2⟩)⟩, ⟨by (with_reducible repeat (first | refine blk_drewN ?_ _ | refine blk_drew ?_ | refine blk_alloc ?_ _)); exact BK114.out⟩, ⟨by (with_reducible repeat (first | refine blk_drewN ?_ _ | refine blk_drew ?_ | refine blk_alloc ?_ _)); exact BK125.out⟩, ⟨by repeat (first | (with_reducible first | exact HB.out | apply bA | apply pB | apply bW | refine below_set ?_ GE114.out | refine below_set ?_ GE125.out) | exact HB.out)⟩⟩
     case round =>
      clear H'
      try clear c1
      try clear c2
      try clear p2
      try clear c3
      try clear c4
      try clear p6
      try clear c9
      try clear c11
      try clear c12
      try clear c12b0
      try clear c12b1
      try clear c12b2
      try clear c13
      try clear c14
      try clear c15
      try clear c17
      try clear c18
      try clear c18b0
      try clear c20
      try clear c22
      try clear c24
      try clear c27
      try clear c30
      try clear c30b0
      try clear c32
      try clear c36
      try clear c39
      try clear c40
      try clear c45
      try clear hcz10_0
      try clear hcz10_1
      try clear hcz10_2
      try clear hcz10_3
      try clear hcz10_4
      try clear hcz10_5
      try clear hcz10_6
      try clear hcz10_7
      try clear hcz10_8
      try clear hcz15_0
      try clear hcz15_1
      try clear hcz15_2
      try clear hcz15_3
      try clear hcz15_4
      try clear hcz15_5
      try clear hcz15_6
      try clear hcz15_7
      try clear hcz15_8
      try clear hcz16_0
      try clear hcz16_1
      try clear hcz16_2
      try clear hcz16_3
      try clear hcz16_4
      try clear hcz16_5
      try clear hcz16_6
      try clear hcz16_7
      try clear hcz16_8
      try clear hcz21_0
      try clear hcz21_1
      try clear hcz21_2
      try clear hcz21_3
      try clear hcz21_4
      try clear hcz21_5
      try clear hcz21_6
      try clear hcz21_7
      try clear hcz21_8
      try clear hcz22_0
      try clear hcz22_1
      try clear hcz22_2
      try clear hcz22_3
      try clear hcz22_4
      try clear hcz22_5
      try clear hcz22_6
      try clear hcz22_7
      try clear hcz22_8
      try clear hcz25_0
      try clear hcz25_1
      try clear hcz25_2
      try clear hcz25_3
      try clear hcz25_4
      try clear hcz25_5
      try clear hcz25_6
      try clear hcz25_7
      try clear hcz25_8
      try clear hcz26_0
      try clear hcz26_1
      try clear hcz26_2
      try clear hcz26_3
      try clear hcz26_4
      try clear hcz26_5
      try clear hcz26_6
      try clear hcz26_7
      try clear hcz26_8
      try clear hcz28_0
      try clear hcz28_1
      try clear hcz28_2
      try clear hcz28_3
      try clear hcz28_4
      try clear hcz28_5
      try clear hcz28_6
      try clear hcz28_7
      try clear hcz28_8
      try clear hcz29_0
      try clear hcz29_1
      try clear hcz29_2
      try clear hcz29_3
      try clear hcz29_4
      try clear hcz29_5
      try clear hcz29_6
      try clear hcz29_7
      try clear hcz29_8
      try clear hcz33_0
      try clear hcz33_1
      try clear hcz33_2
      try clear hcz33_3
      try clear hcz33_4
      try clear hcz33_5
      try clear hcz33_6
      try clear hcz33_7
      try clear hcz33_8
      try clear hcz34_0
      try clear hcz34_1
      try clear hcz34_2
      try clear hcz34_3
      try clear hcz34_4
      try clear hcz34_5
      try clear hcz34_6
      try clear hcz34_7
      try clear hcz34_8
      try clear hcz37_0
      try clear hcz37_1
      try clear hcz37_2
      try clear hcz37_3
      try clear hcz37_4
      try clear hcz37_5
      try clear hcz37_6
      try clear hcz37_7
      try clear hcz37_8
      try clear hcz38_0
      try clear hcz38_1
      try clear hcz38_2
      try clear hcz38_3
      try clear hcz38_4
      try clear hcz38_5
      try clear hcz38_6
      try clear hcz38_7
      try clear hcz38_8
      try clear hcz6_0
      try clear hcz6_1
      try clear hcz6_2
      try clear hcz6_3
      try clear hcz6_4
      try clear hcz6_5
      try clear hcz6_6
      try clear hcz6_7
      try clear hcz6_8
      try clear hfz10_0
      try clear hfz10_1
      try clear hfz10_2
      try clear hfz10_3
      try clear hfz10_4
      try clear hfz10_5
      try clear hfz10_6
      try clear hfz10_7
      try clear hfz10_8
      try clear hfz15_0
      try clear hfz15_1
      try clear hfz15_2
      try clear hfz15_3
      try clear hfz15_4
      try clear hfz15_5
      try clear hfz15_6
      try clear hfz15_7
      try clear hfz15_8
      try clear hfz16_0
      try clear hfz16_1
      try clear hfz16_2
      try clear hfz16_3
      try clear hfz16_4
      try clear hfz16_5
      try clear hfz16_6
      try clear hfz16_7
      try clear hfz16_8
      try clear hfz21_0
      try clear hfz21_1
      try clear hfz21_2
      try clear hfz21_3
      try clear hfz21_4
      try clear hfz21_5
      try clear hfz21_6
      try clear hfz21_7
      try clear hfz21_8
      try clear hfz22_0
      try clear hfz22_1
      try clear hfz22_2
      try clear hfz22_3
      try clear hfz22_4
      try clear hfz22_5
      try clear hfz22_6
      try clear hfz22_7
      try clear hfz22_8
      try clear hfz25_0
      try clear hfz25_1
      try clear hfz25_2
      try clear hfz25_3
      try clear hfz25_4
      try clear hfz25_5
      try clear hfz25_6
      try clear hfz25_7
      try clear hfz25_8
      try clear hfz26_0
      try clear hfz26_1
      try clear hfz26_2
      try clear hfz26_3
      try clear hfz26_4
      try clear hfz26_5
      try clear hfz26_6
      try clear hfz26_7
      try clear hfz26_8
      try clear hfz28_0
      try clear hfz28_1
      try clear hfz28_2
      try clear hfz28_3
      try clear hfz28_4
      try clear hfz28_5
      try clear hfz28_6
      try clear hfz28_7
      try clear hfz28_8
      try clear hfz29_0
      try clear hfz29_1
      try clear hfz29_2
      try clear hfz29_3
      try clear hfz29_4
      try clear hfz29_5
      try clear hfz29_6
      try clear hfz29_7
      try clear hfz29_8
      try clear hfz33_0
      try clear hfz33_1
      try clear hfz33_2
      try clear hfz33_3
      try clear hfz33_4
      try clear hfz33_5
      try clear hfz33_6
      try clear hfz33_7
      try clear hfz33_8
      try clear hfz34_0
      try clear hfz34_1
      try clear hfz34_2
      try clear hfz34_3
      try clear hfz34_4
      try clear hfz34_5
      try clear hfz34_6
      try clear hfz34_7
      try clear hfz34_8
      try clear hfz37_0
      try clear hfz37_1
      try clear hfz37_2
      try clear hfz37_3
      try clear hfz37_4
      try clear hfz37_5
      try clear hfz37_6
      try clear hfz37_7
      try clear hfz37_8
      try clear hfz38_0
      try clear hfz38_1
      try clear hfz38_2
      try clear hfz38_3
      try clear hfz38_4
      try clear hfz38_5
      try clear hfz38_6
      try clear hfz38_7
      try clear hfz38_8
      try clear hfz6_0
      try clear hfz6_1
      try clear hfz6_2
      try clear hfz6_3
      try clear hfz6_4
      try clear hfz6_5
      try clear hfz6_6
      try clear hfz6_7
      try clear hfz6_8
      try clear p2
      obtain ⟨x8_2, x9_2, x115000_2, x115001_2, x115002_2, x115003_2, x115004_2, x115005_2, x115006_2, x115007_2, x115008_2, x126000_2, x126001_2, x126002_2, x126003_2, x126004_2, x126005_2, x126006_2, x126007_2, x126008_2, rfl, HA, HK2, HO_8, BK114, BK125, HB⟩ := hrel
      have hl8_2 := (Kd.R_reads' HO_8.out).1
      rw [hl8_2] at HO_8
      (try simp only [hl8_2])
      (try simp only [hl8_2] at BK114)
      (try simp only [hl8_2] at BK125)
      cases gk with
      | zero => exact absurd HA.out (by simp [cenotaphref08_Put.l0])
      | succ k2 =>
       have H := HA.out
       clear HA
       simp only [cenotaphref08_Put.l0] at H
       by_cases c54 : x9_2 > 0
       ·rw [if_pos c54] at H
        have c54b0 : decide (0 < x9_2) = true := dT c54
        clear c54
        obtain ⟨ji55, hji55⟩ : ∃ j_ : Int, (wrap64 (x9_2 - 1)) = j_ := ⟨_, rfl⟩
        replace H : (if 0 ≤ (ji55) then (if (ji55) < (x8_2.length : Int) then (if 0 ≤ x9_2 then (if x9_2 < (x8_2.length : Int) then (if ((rd_T28 x8_2 (ji55)).f0) > ((rd_T28 x8_2 x9_2).f0) then (cenotaphref08_Put.l0 k2 ((x8_2.set ((ji55) : Int).toNat (⟨(rd_T28 x8_2 x9_2).f0, (⟨(rd_T28 x8_2 x9_2).f1.f0, (rd_T28 x8_2 x9_2).f1.f1, (rd_T28 x8_2 x9_2).f1.f2⟩ : S24), (rd_T28 x8_2 x9_2).f2, (⟨(rd_T28 x8_2 x9_2).f3.f0, (rd_T28 x8_2 x9_2).f3.f1⟩ : S26), (rd_T28 x8_2 x9_2).f4, (rd_T28 x8_2 x9_2).f5⟩ : S28)).set (x9_2 : Int).toNat (⟨(rd_T28 x8_2 (ji55)).f0, (⟨(rd_T28 x8_2 (ji55)).f1.f0, (rd_T28 x8_2 (ji55)).f1.f1, (rd_T28 x8_2 (ji55)).f1.f2⟩ : S24), (rd_T28 x8_2 (ji55)).f2, (⟨(rd_T28 x8_2 (ji55)).f3.f0, (rd_T28 x8_2 (ji55)).f3.f1⟩ : S26), (rd_T28 x8_2 (ji55)).f4, (rd_T28 x8_2 (ji55)).f5⟩ : S28)) ji55) else (some (x8_2, true))) else (none)) else (none)) else (none)) else (none)) = some (r1, r2) := by first | (rw [hji55] at H; exact H) | (simp only [hji55] at H ⊢; exact H)
        have hji55w : (IntKind.i64.wrap (x9_2 - 1)) = ji55 := (i64_w _).trans hji55
        by_cases c56 : 0 ≤ (ji55)
        ·rw [if_pos c56] at H
         have c56b0 : decide (0 ≤ (ji55)) = true := dT c56
         clear c56
         by_cases c57 : (ji55) < (x8_2.length : Int)
         ·rw [if_pos c57] at H
          have c57b0 : decide ((ji55) < (x8_2.length : Int)) = true := dT c57
          clear c57
          by_cases c58 : 0 ≤ x9_2
          ·rw [if_pos c58] at H
           have c58b0 : decide (0 ≤ x9_2) = true := dT c58
           clear c58
           by_cases c59 : x9_2 < (x8_2.length : Int)
           ·rw [if_pos c59] at H
            have c59b0 : decide (x9_2 < (x8_2.length : Int)) = true := dT c59
            clear c59
            by_cases c60 : ((rd_T28 x8_2 (ji55)).f0) > ((rd_T28 x8_2 x9_2).f0)
            ·rw [if_pos c60] at H
             have c60b0 : decide (((rd_T28 x8_2 x9_2).f0) < ((rd_T28 x8_2 (ji55)).f0)) = true := dT c60
             clear c60
             obtain ⟨y147, hy147⟩ : ∃ y_ : List (S28), y_ = (x8_2.set ((ji55) : Int).toNat (⟨(rd_T28 x8_2 x9_2).f0, (⟨(rd_T28 x8_2 x9_2).f1.f0, (rd_T28 x8_2 x9_2).f1.f1, (rd_T28 x8_2 x9_2).f1.f2⟩ : S24), (rd_T28 x8_2 x9_2).f2, (⟨(rd_T28 x8_2 x9_2).f3.f0, (rd_T28 x8_2 x9_2).f3.f1⟩ : S26), (rd_T28 x8_2 x9_2).f4, (rd_T28 x8_2 x9_2).f5⟩ : S28)) := ⟨_, rfl⟩
             replace H : (cenotaphref08_Put.l0 k2 (y147.set (x9_2 : Int).toNat (⟨(rd_T28 x8_2 (ji55)).f0, (⟨(rd_T28 x8_2 (ji55)).f1.f0, (rd_T28 x8_2 (ji55)).f1.f1, (rd_T28 x8_2 (ji55)).f1.f2⟩ : S24), (rd_T28 x8_2 (ji55)).f2, (⟨(rd_T28 x8_2 (ji55)).f3.f0, (rd_T28 x8_2 (ji55)).f3.f1⟩ : S26), (rd_T28 x8_2 (ji55)).f4, (rd_T28 x8_2 (ji55)).f5⟩ : S28)) ji55) = some (r1, r2) := by first | (rw [hy147]; with_reducible exact H) | (have H2_ := (Option.bind_some _ _).symm.trans H; rw [hy147]; with_reducible exact H2_) | (have H2_ := (Option.bind_some _ _).symm.trans H; with_reducible exact H2_) | with_reducible exact H | (rw [hy147]; exact H) | exact H
             have Ny147 := aK hy147
             clear hy147
             obtain ⟨y148, hy148⟩ : ∃ y_ : List (S28), y_ = (y147.set (x9_2 : Int).toNat (⟨(rd_T28 x8_2 (ji55)).f0, (⟨(rd_T28 x8_2 (ji55)).f1.f0, (rd_T28 x8_2 (ji55)).f1.f1, (rd_T28 x8_2 (ji55)).f1.f2⟩ : S24), (rd_T28 x8_2 (ji55)).f2, (⟨(rd_T28 x8_2 (ji55)).f3.f0, (rd_T28 x8_2 (ji55)).f3.f1⟩ : S26), (rd_T28 x8_2 (ji55)).f4, (rd_T28 x8_2 (ji55)).f5⟩ : S28)) := ⟨_, rfl⟩
             replace H : (cenotaphref08_Put.l0 k2 y148 ji55) = some (r1, r2) := by first | (rw [hy148]; with_reducible exact H) | (have H2_ := (Option.bind_some _ _).symm.trans H; rw [hy148]; with_reducible exact H2_) | (have H2_ := (Option.bind_some _ _).symm.trans H; with_reducible exact H2_) | with_reducible exact H | (rw [hy148]; exact H) | exact H
             have Ny148 := aK hy148
             clear hy148
             have H' := aK H
             clear H
             try go_wp2
             replace HO_8 := aK (Kd.R_drew HO_8.out)
             replace BK114 := aK (blk_drew BK114.out)
             replace BK125 := aK (blk_drew BK125.out)
             replace HB := aK (bW HB.out)
             have p143 : 0 ≤ ((ji55) : Int) := oD zq13_8
             have q143 : (ji55) < (x8_2.length : Int) := oD zq13_8
             obtain ⟨ad143, e143, hx143_0, hx143_1, hx143_2, hx143_3, hx143_4, hx143_5, hx143_6, hx143_7, hx143_8⟩ := at_T28 (Kd.R_reads' HO_8.out).2.2 (ji55) p143 q143
             cases e143
             replace p143 := eT p143
             replace q143 := eT q143
             have p144 : 0 ≤ (x9_2 : Int) := oD zq13_8
             have q144 : x9_2 < (x8_2.length : Int) := oD zq13_8
             obtain ⟨ad144, e144, hx144_0, hx144_1, hx144_2, hx144_3, hx144_4, hx144_5, hx144_6, hx144_7, hx144_8⟩ := at_T28 (Kd.R_reads' HO_8.out).2.2 x9_2 p144 q144
             obtain rfl : ad143 = ad144 := (by injection e144)
             replace p144 := eT p144
             replace q144 := eT q144
             refine start_ (n := 16) (S := fun w' => w'.cell? (ad143.add (((ji55)).toNat * 9)) = some (.int .i64 ((rd_T28 x8_2 (ji55)).f0)) ∧ w'.cell? ⟨(ad143.add (((ji55)).toNat * 9)).block, (ad143.add (((ji55)).toNat * 9)).off + 1, none⟩ = some (.string ((rd_T28 x8_2 (ji55)).f1.f0)) ∧ w'.cell? ⟨(ad143.add (((ji55)).toNat * 9)).block, (ad143.add (((ji55)).toNat * 9)).off + 2, none⟩ = some (.int .i64 ((rd_T28 x8_2 (ji55)).f1.f1)) ∧ w'.cell? ⟨(ad143.add (((ji55)).toNat * 9)).block, (ad143.add (((ji55)).toNat * 9)).off + 3, none⟩ = some (.int .i64 ((rd_T28 x8_2 (ji55)).f1.f2)) ∧ w'.cell? ⟨(ad143.add (((ji55)).toNat * 9)).block, (ad143.add (((ji55)).toNat * 9)).off + 4, none⟩ = some (.bool ((rd_T28 x8_2 (ji55)).f2)) ∧ w'.cell? ⟨(ad143.add (((ji55)).toNat * 9)).block, (ad143.add (((ji55)).toNat * 9)).off + 5, none⟩ = some (.int .i64 ((rd_T28 x8_2 (ji55)).f3.f0)) ∧ w'.cell? ⟨(ad143.add (((ji55)).toNat * 9)).block, (ad143.add (((ji55)).toNat * 9)).off + 6, none⟩ = some (.int .i64 ((rd_T28 x8_2 (ji55)).f3.f1)) ∧ w'.cell? ⟨(ad143.add (((ji55)).toNat * 9)).block, (ad143.add (((ji55)).toNat * 9)).off + 7, none⟩ = some (.string ((rd_T28 x8_2 (ji55)).f4)) ∧ w'.cell? ⟨(ad143.add (((ji55)).toNat * 9)).block, (ad143.add (((ji55)).toNat * 9)).off + 8, none⟩ = some (.bool ((rd_T28 x8_2 (ji55)).f5)) ∧ w'.cell? (ad143.add ((x9_2).toNat * 9)) = some (.int .i64 ((rd_T28 x8_2 x9_2).f0)) ∧ w'.cell? ⟨(ad143.add ((x9_2).toNat * 9)).block, (ad143.add ((x9_2).toNat * 9)).off + 1, none⟩ = some (.string ((rd_T28 x8_2 x9_2).f1.f0)) ∧ w'.cell? ⟨(ad143.add ((x9_2).toNat * 9)).block, (ad143.add ((x9_2).toNat * 9)).off + 2, none⟩ = some (.int .i64 ((rd_T28 x8_2 x9_2).f1.f1)) ∧ w'.cell? ⟨(ad143.add ((x9_2).toNat * 9)).block, (ad143.add ((x9_2).toNat * 9)).off + 3, none⟩ = some (.int .i64 ((rd_T28 x8_2 x9_2).f1.f2)) ∧ w'.cell? ⟨(ad143.add ((x9_2).toNat * 9)).block, (ad143.add ((x9_2).toNat * 9)).off + 4, none⟩ = some (.bool ((rd_T28 x8_2 x9_2).f2)) ∧ w'.cell? ⟨(ad143.add ((x9_2).toNat * 9)).block, (ad143.add ((x9_2).toNat * 9)).off + 5, none⟩ = some (.int .i64 ((rd_T28 x8_2 x9_2).f3.f0)) ∧ w'.cell? ⟨(ad143.add ((x9_2).toNat * 9)).block, (ad143.add ((x9_2).toNat * 9)).off + 6, none⟩ = some (.int .i64 ((rd_T28 x8_2 x9_2).f3.f1)) ∧ w'.cell? ⟨(ad143.add ((x9_2).toNat * 9)).block, (ad143.add ((x9_2).toNat * 9)).off + 7, none⟩ = some (.string ((rd_T28 x8_2 x9_2).f4)) ∧ w'.cell? ⟨(ad143.add ((x9_2).toNat * 9)).block, (ad143.add ((x9_2).toNat * 9)).off + 8, none⟩ = some (.bool ((rd_T28 x8_2 x9_2).f5))) (ds := []) #[false, false, false, false, false, false, false, false, false, false, false, false, false, false, false, false] (by kernel_rfl) rfl rfl ⟨hx143_0, hx143_1, hx143_2, hx143_3, hx143_4, hx143_5, hx143_6, hx143_7, hx143_8, hx144_0, hx144_1, hx144_2, hx144_3, hx144_4, hx144_5, hx144_6, hx144_7, hx144_8⟩ (fun hHeld => ?_); refine with_tabW cenotaphref08_Put.tab6 cenotaphref08_Put.bits6 (fun HT_ HW_ => ?_)
             generalize wr.drew = w63 at HO_8 BK114 BK125 HB hx143_0 hx143_1 hx143_2 hx143_3 hx143_4 hx143_5 hx143_6 hx143_7 hx143_8 hx144_0 hx144_1 hx144_2 hx144_3 hx144_4 hx144_5 hx144_6 hx144_7 hx144_8 hHeld ⊢
             refine p_ 0 61 (mk_ 16 0x1) ?_
             refine p_ 1 62 (mk_ 16 0x3) ?_
             refine p_ 2 63 (mk_ 16 0x7) ?_
             refine p_ 3 64 (mk_ 16 0xf) ?_
             refine p_ 4 65 (mk_ 16 0x1f) ?_
             refine p_ 5 66 (mk_ 16 0x3f) ?_
             refine p_ 6 67 (mk_ 16 0x7f) ?_
             refine p_ 7 68 (mk_ 16 0xff) ?_
             refine p_ 9 70 (mk_ 16 0x2ff) ?_
             refine p_ 10 71 (mk_ 16 0x6ff) ?_
             refine p_ 11 72 (mk_ 16 0xeff) ?_
             refine p_ 12 73 (mk_ 16 0x1eff) ?_
             refine t_ 8 69 (mk_ 16 0x1fff) hHeld ?_
             refine t_ 13 74 (mk_ 16 0x3fff) hHeld ?_
             refine p_ 14 75 (mk_ 16 0x7fff) ?_
             refine p_ 15 76 (mk_ 16 0xffff) ?_
             refine done_ (done_of HT_.out (by kernel_rfl)) ?_
             try go_wp2
             replace HO_8 := aK (Kd.R_drew HO_8.out)
             replace BK114 := aK (blk_drew BK114.out)
             replace BK125 := aK (blk_drew BK125.out)
             replace HB := aK (bW HB.out)
             have p145 : 0 ≤ (x9_2 : Int) := oD zq13_8
             have q145 : x9_2 < (x8_2.length : Int) := oD zq13_8
             obtain ⟨ad145, e145, hx145_0, hx145_1, hx145_2, hx145_3, hx145_4, hx145_5, hx145_6, hx145_7, hx145_8⟩ := at_T28 (Kd.R_reads' HO_8.out).2.2 x9_2 p145 q145
             obtain rfl : ad143 = ad145 := (by injection e145)
             replace p145 := eT p145
             replace q145 := eT q145
             have p146 : 0 ≤ ((ji55) : Int) := oD zq13_8
             have q146 : (ji55) < (x8_2.length : Int) := oD zq13_8
             obtain ⟨ad146, e146, hx146_0, hx146_1, hx146_2, hx146_3, hx146_4, hx146_5, hx146_6, hx146_7, hx146_8⟩ := at_T28 (Kd.R_reads' HO_8.out).2.2 (ji55) p146 q146
             obtain rfl : ad143 = ad146 := (by injection e146)
             replace p146 := eT p146
             replace q146 := eT q146
             have p61 : 0 ≤ ((ji55) : Int) := oD zq13_8
             have q61 : ((ji55) : Int) < ((x8_2.length : Int) : Int) := oD zq13_8
             obtain ⟨go61, co61, eo61, gb61, gl61, cl61, HG61⟩ := Kd.R_form HO_8.out (by omega)
             (first | cases eo61 | (injection eo61 with ea_ en_ ec_; (first | subst ea_ | (injection ea_ with ea_; subst ea_)); subst ec_; clear en_))
             have GB61 := aK gb61
             have GG61 := aK HG61
             clear gb61 gl61 HG61
             (first | simp only [add_plain] at hx143_0 | skip)
             (first | simp only [add_plain] at hx143_1 | skip)
             (first | simp only [add_plain] at hx143_2 | skip)
             (first | simp only [add_plain] at hx143_3 | skip)
             (first | simp only [add_plain] at hx143_4 | skip)
             (first | simp only [add_plain] at hx143_5 | skip)
             (first | simp only [add_plain] at hx143_6 | skip)
             (first | simp only [add_plain] at hx143_7 | skip)
             (first | simp only [add_plain] at hx143_8 | skip)
             (first | simp only [add_plain] at hx144_0 | skip)
             (first | simp only [add_plain] at hx144_1 | skip)
             (first | simp only [add_plain] at hx144_2 | skip)
             (first | simp only [add_plain] at hx144_3 | skip)
             (first | simp only [add_plain] at hx144_4 | skip)
             (first | simp only [add_plain] at hx144_5 | skip)
             (first | simp only [add_plain] at hx144_6 | skip)
             (first | simp only [add_plain] at hx144_7 | skip)
             (first | simp only [add_plain] at hx144_8 | skip)
             (first | simp only [add_plain] at hx145_0 | skip)
             (first | simp only [add_plain] at hx145_1 | skip)
             (first | simp only [add_plain] at hx145_2 | skip)
             (first | simp only [add_plain] at hx145_3 | skip)
             (first | simp only [add_plain] at hx145_4 | skip)
             (first | simp only [add_plain] at hx145_5 | skip)
             (first | simp only [add_plain] at hx145_6 | skip)
             (first | simp only [add_plain] at hx145_7 | skip)
             (first | simp only [add_plain] at hx145_8 | skip)
             (first | simp only [add_plain] at hx146_0 | skip)
             (first | simp only [add_plain] at hx146_1 | skip)
             (first | simp only [add_plain] at hx146_2 | skip)
             (first | simp only [add_plain] at hx146_3 | skip)
             (first | simp only [add_plain] at hx146_4 | skip)
             (first | simp only [add_plain] at hx146_5 | skip)
             (first | simp only [add_plain] at hx146_6 | skip)
             (first | simp only [add_plain] at hx146_7 | skip)
             (first | simp only [add_plain] at hx146_8 | skip)
             obtain ⟨ce61, hcl61, hM61, hcc61, hfr61⟩ := Kd.R_elem HO_8.out z28 ((ji55) : Int) p61 q61
             obtain rfl := k28_openM hM61
             have hx61_0 : World.cell? _ ⟨go61, ((ji55) : Int).toNat * 9, none⟩ = some (.int .i64 ((rd_T28 x8_2 (ji55)).f0)) := hcc61 0 _ rfl
             have hx61_1 : World.cell? _ ⟨go61, ((ji55) : Int).toNat * 9 + 1, none⟩ = some (.string ((rd_T28 x8_2 (ji55)).f1.f0)) := hcc61 1 _ rfl
             have hx61_2 : World.cell? _ ⟨go61, ((ji55) : Int).toNat * 9 + 2, none⟩ = some (.int .i64 ((rd_T28 x8_2 (ji55)).f1.f1)) := hcc61 2 _ rfl
             have hx61_3 : World.cell? _ ⟨go61, ((ji55) : Int).toNat * 9 + 3, none⟩ = some (.int .i64 ((rd_T28 x8_2 (ji55)).f1.f2)) := hcc61 3 _ rfl
             have hx61_4 : World.cell? _ ⟨go61, ((ji55) : Int).toNat * 9 + 4, none⟩ = some (.bool ((rd_T28 x8_2 (ji55)).f2)) := hcc61 4 _ rfl
             have hx61_5 : World.cell? _ ⟨go61, ((ji55) : Int).toNat * 9 + 5, none⟩ = some (.int .i64 ((rd_T28 x8_2 (ji55)).f3.f0)) := hcc61 5 _ rfl
             have hx61_6 : World.cell? _ ⟨go61, ((ji55) : Int).toNat * 9 + 6, none⟩ = some (.int .i64 ((rd_T28 x8_2 (ji55)).f3.f1)) := hcc61 6 _ rfl
             have hx61_7 : World.cell? _ ⟨go61, ((ji55) : Int).toNat * 9 + 7, none⟩ = some (.string ((rd_T28 x8_2 (ji55)).f4)) := hcc61 7 _ rfl
             have hx61_8 : World.cell? _ ⟨go61, ((ji55) : Int).toNat * 9 + 8, none⟩ = some (.bool ((rd_T28 x8_2 (ji55)).f5)) := hcc61 8 _ rfl
             have hf61_0 : World.frozen? _ ⟨go61, ((ji55) : Int).toNat * 9, none⟩ = false := hfr61 0
             have hf61_1 : World.frozen? _ ⟨go61, ((ji55) : Int).toNat * 9 + 1, none⟩ = false := hfr61 1
             have hf61_2 : World.frozen? _ ⟨go61, ((ji55) : Int).toNat * 9 + 2, none⟩ = false := hfr61 2
             have hf61_3 : World.frozen? _ ⟨go61, ((ji55) : Int).toNat * 9 + 3, none⟩ = false := hfr61 3
             have hf61_4 : World.frozen? _ ⟨go61, ((ji55) : Int).toNat * 9 + 4, none⟩ = false := hfr61 4
             have hf61_5 : World.frozen? _ ⟨go61, ((ji55) : Int).toNat * 9 + 5, none⟩ = false := hfr61 5
             have hf61_6 : World.frozen? _ ⟨go61, ((ji55) : Int).toNat * 9 + 6, none⟩ = false := hfr61 6
             have hf61_7 : World.frozen? _ ⟨go61, ((ji55) : Int).toNat * 9 + 7, none⟩ = false := hfr61 7
             have hf61_8 : World.frozen? _ ⟨go61, ((ji55) : Int).toNat * 9 + 8, none⟩ = false := hfr61 8
             clear hcl61 hcc61 hfr61 hM61
             replace p61 := eT p61
             replace q61 := eT q61
             have hnA_ : (ji55).toNat ≠ (x9_2).toNat := by have h1_ := of_eq_true p61; have h2_ := of_eq_true p145; first | omega | (have hj0_ := hji55; unfold wrap64 at hj0_; omega)
             have hnB_ := hnA_.symm
             (try simp only [World.frozen?_setCells, World.frozen?_setCell] at hf61_0)
             (try simp only [World.frozen?_setCells, World.frozen?_setCell] at hf61_1)
             (try simp only [World.frozen?_setCells, World.frozen?_setCell] at hf61_2)
             (try simp only [World.frozen?_setCells, World.frozen?_setCell] at hf61_3)
             (try simp only [World.frozen?_setCells, World.frozen?_setCell] at hf61_4)
             (try simp only [World.frozen?_setCells, World.frozen?_setCell] at hf61_5)
             (try simp only [World.frozen?_setCells, World.frozen?_setCell] at hf61_6)
             (try simp only [World.frozen?_setCells, World.frozen?_setCell] at hf61_7)
             (try simp only [World.frozen?_setCells, World.frozen?_setCell] at hf61_8)
             refine start_ (n := 18) (S := fun w' => w'.cell? ⟨go61, ((x9_2).toNat * 9), none⟩ = some (.int .i64 ((rd_T28 x8_2 x9_2).f0)) ∧ w'.cell? ⟨go61, ((x9_2).toNat * 9) + 1, none⟩ = some (.string ((rd_T28 x8_2 x9_2).f1.f0)) ∧ w'.cell? ⟨go61, ((x9_2).toNat * 9) + 2, none⟩ = some (.int .i64 ((rd_T28 x8_2 x9_2).f1.f1)) ∧ w'.cell? ⟨go61, ((x9_2).toNat * 9) + 3, none⟩ = some (.int .i64 ((rd_T28 x8_2 x9_2).f1.f2)) ∧ w'.cell? ⟨go61, ((x9_2).toNat * 9) + 4, none⟩ = some (.bool ((rd_T28 x8_2 x9_2).f2)) ∧ w'.cell? ⟨go61, ((x9_2).toNat * 9) + 5, none⟩ = some (.int .i64 ((rd_T28 x8_2 x9_2).f3.f0)) ∧ w'.cell? ⟨go61, ((x9_2).toNat * 9) + 6, none⟩ = some (.int .i64 ((rd_T28 x8_2 x9_2).f3.f1)) ∧ w'.cell? ⟨go61, ((x9_2).toNat * 9) + 7, none⟩ = some (.string ((rd_T28 x8_2 x9_2).f4)) ∧ w'.cell? ⟨go61, ((x9_2).toNat * 9) + 8, none⟩ = some (.bool ((rd_T28 x8_2 x9_2).f5)) ∧ w'.cell? ⟨go61, (((ji55)).toNat * 9), none⟩ = some (.int .i64 ((rd_T28 x8_2 (ji55)).f0)) ∧ w'.cell? ⟨go61, (((ji55)).toNat * 9) + 1, none⟩ = some (.string ((rd_T28 x8_2 (ji55)).f1.f0)) ∧ w'.cell? ⟨go61, (((ji55)).toNat * 9) + 2, none⟩ = some (.int .i64 ((rd_T28 x8_2 (ji55)).f1.f1)) ∧ w'.cell? ⟨go61, (((ji55)).toNat * 9) + 3, none⟩ = some (.int .i64 ((rd_T28 x8_2 (ji55)).f1.f2)) ∧ w'.cell? ⟨go61, (((ji55)).toNat * 9) + 4, none⟩ = some (.bool ((rd_T28 x8_2 (ji55)).f2)) ∧ w'.cell? ⟨go61, (((ji55)).toNat * 9) + 5, none⟩ = some (.int .i64 ((rd_T28 x8_2 (ji55)).f3.f0)) ∧ w'.cell? ⟨go61, (((ji55)).toNat * 9) + 6, none⟩ = some (.int .i64 ((rd_T28 x8_2 (ji55)).f3.f1)) ∧ w'.cell? ⟨go61, (((ji55)).toNat * 9) + 7, none⟩ = some (.string ((rd_T28 x8_2 (ji55)).f4)) ∧ w'.cell? ⟨go61, (((ji55)).toNat * 9) + 8, none⟩ = some (.bool ((rd_T28 x8_2 (ji55)).f5))) (ds := [15, 17]) #[false, false, false, false, false, false, false, false, false, false, false, false, false, false, false, false, false, false] (by kernel_rfl) rfl rfl ⟨hx145_0, hx145_1, hx145_2, hx145_3, hx145_4, hx145_5, hx145_6, hx145_7, hx145_8, hx146_0, hx146_1, hx146_2, hx146_3, hx146_4, hx146_5, hx146_6, hx146_7, hx146_8⟩ (fun hHeld => ?_); refine with_tabW cenotaphref08_Put.tab8 cenotaphref08_Put.bits8 (fun HT_ HW_ => ?_)
             generalize w63.drew = w64 at HO_8 BK114 BK125 HB GG61 hf61_0 hf61_1 hf61_2 hf61_3 hf61_4 hf61_5 hf61_6 hf61_7 hf61_8 hx143_0 hx143_1 hx143_2 hx143_3 hx143_4 hx143_5 hx143_6 hx143_7 hx143_8 hx144_0 hx144_1 hx144_2 hx144_3 hx144_4 hx144_5 hx144_6 hx144_7 hx144_8 hx145_0 hx145_1 hx145_2 hx145_3 hx145_4 hx145_5 hx145_6 hx145_7 hx145_8 hx146_0 hx146_1 hx146_2 hx146_3 hx146_4 hx146_5 hx146_6 hx146_7 hx146_8 hx61_0 hx61_1 hx61_2 hx61_3 hx61_4 hx61_5 hx61_6 hx61_7 hx61_8 hHeld ⊢
             refine p_ 0 79 (mk_ 18 0x1) ?_
             refine p_ 1 80 (mk_ 18 0x3) ?_
             refine p_ 2 81 (mk_ 18 0x7) ?_
             refine p_ 3 82 (mk_ 18 0xf) ?_
             refine p_ 4 83 (mk_ 18 0x1f) ?_
             refine p_ 5 84 (mk_ 18 0x3f) ?_
             refine p_ 6 85 (mk_ 18 0x7f) ?_
             refine p_ 7 86 (mk_ 18 0xff) ?_
             refine p_ 9 88 (mk_ 18 0x2ff) ?_
             refine p_ 10 89 (mk_ 18 0x6ff) ?_
             refine p_ 11 90 (mk_ 18 0xeff) ?_
             refine p_ 12 91 (mk_ 18 0x1eff) ?_
             refine t_ 8 87 (mk_ 18 0x1fff) hHeld ?_
             refine t_ 13 92 (mk_ 18 0x3fff) hHeld ?_
             refine p_ 14 93 (mk_ 18 0x7fff) ?_
             refine last_ (i := 15) (N := none) #[true, true, true, true, true, true, true, true, true, true, true, true, true, true, true, true, false, false] rfl rfl (one_of HT_.out (by kernel_rfl)) (by decide) (fun K hK => ?_)
             refine ev_ (p := ?p65) (x := ?x65) (o' := ?o65) k28 z28 28 ((ji55) : Int) (⟨(rd_T28 x8_2 x9_2).f0, (⟨(rd_T28 x8_2 x9_2).f1.f0, (rd_T28 x8_2 x9_2).f1.f1, (rd_T28 x8_2 x9_2).f1.f2⟩ : S24), (rd_T28 x8_2 x9_2).f2, (⟨(rd_T28 x8_2 x9_2).f3.f0, (rd_T28 x8_2 x9_2).f3.f1⟩ : S26), (rd_T28 x8_2 x9_2).f4, (rd_T28 x8_2 x9_2).f5⟩ : S28) #[.int .i64 ((rd_T28 x8_2 x9_2).f0), .string ((rd_T28 x8_2 x9_2).f1.f0), .int .i64 ((rd_T28 x8_2 x9_2).f1.f1), .int .i64 ((rd_T28 x8_2 x9_2).f1.f2), .bool ((rd_T28 x8_2 x9_2).f2), .int .i64 ((rd_T28 x8_2 x9_2).f3.f0), .int .i64 ((rd_T28 x8_2 x9_2).f3.f1), .string ((rd_T28 x8_2 x9_2).f4), .bool ((rd_T28 x8_2 x9_2).f5)] HO_8.out HB.out (oD zq13_8) (by have h_ : ((ji55) : Int) < ((x8_2.length : Int) : Int) := oD zq13_8; first | exact h_ | (have e_ := (Kd.R_reads' HO_8.out).1; omega) | simpa using h_) (k28_mkM _ _ _ (⟨(rd_T28 x8_2 x9_2).f0, (⟨(rd_T28 x8_2 x9_2).f1.f0, (rd_T28 x8_2 x9_2).f1.f1, (rd_T28 x8_2 x9_2).f1.f2⟩ : S24), (rd_T28 x8_2 x9_2).f2, (⟨(rd_T28 x8_2 x9_2).f3.f0, (rd_T28 x8_2 x9_2).f3.f1⟩ : S26), (rd_T28 x8_2 x9_2).f4, (rd_T28 x8_2 x9_2).f5⟩ : S28) ) (fun _ hk => hk) rfl rfl (by kernel_rfl) ?hw65 ?hN65 ?ho65 ?ha65 ?hf65 ?hx65 ?_; (case hw65 => rfl); (case hN65 => rfl); (case ho65 => rfl); (case ha65 => rfl); (case hf65 => rfl); (case hx65 => rfl)
             intro w65_ HS65_ HT65_ HG65_
             rw [← Ny147.out] at HS65_
             have nBK114_ := aK (blk_grown BK114.out HG65_ (by have h_ : gb114 ≠ go61 := (by have h_ := Kd.R_away HO_8.out (fun _ hk => hk.1); intro e_; exact h_ (by rw [e_]; rfl)); exact fun e_ => h_ (sI e_)))
             have nBK125_ := aK (blk_grown BK125.out HG65_ (by have h_ : gb125 ≠ go61 := (by have h_ := Kd.R_away HO_8.out (fun _ hk => hk.2); intro e_; exact h_ (by rw [e_]; rfl)); exact fun e_ => h_ (sI e_)))
             clear HO_8 HB BK114 BK125
             have HO_8 := aK HS65_
             have HB := aK HT65_
             have BK114 := nBK114_
             have BK125 := nBK125_
             clear HS65_ HT65_ HG65_ nBK114_ nBK125_
             refine hK.out _ _ ?_
             clear hK K
             refine p_ 16 94 (mk_ 18 0x1ffff) ?_
             refine last_ (i := 17) (N := none) #[true, true, true, true, true, true, true, true, true, true, true, true, true, true, true, true, true, true] rfl rfl (one_of HT_.out (by kernel_rfl)) (by decide) (fun K hK => ?_)
             refine ev_ (p := ?p66) (x := ?x66) (o' := ?o66) k28 z28 28 (x9_2 : Int) (⟨(rd_T28 x8_2 (ji55)).f0, (⟨(rd_T28 x8_2 (ji55)).f1.f0, (rd_T28 x8_2 (ji55)).f1.f1, (rd_T28 x8_2 (ji55)).f1.f2⟩ : S24), (rd_T28 x8_2 (ji55)).f2, (⟨(rd_T28 x8_2 (ji55)).f3.f0, (rd_T28 x8_2 (ji55)).f3.f1⟩ : S26), (rd_T28 x8_2 (ji55)).f4, (rd_T28 x8_2 (ji55)).f5⟩ : S28) #[.int .i64 ((rd_T28 x8_2 (ji55)).f0), .string ((rd_T28 x8_2 (ji55)).f1.f0), .int .i64 ((rd_T28 x8_2 (ji55)).f1.f1), .int .i64 ((rd_T28 x8_2 (ji55)).f1.f2), .bool ((rd_T28 x8_2 (ji55)).f2), .int .i64 ((rd_T28 x8_2 (ji55)).f3.f0), .int .i64 ((rd_T28 x8_2 (ji55)).f3.f1), .string ((rd_T28 x8_2 (ji55)).f4), .bool ((rd_T28 x8_2 (ji55)).f5)] HO_8.out HB.out (oD zq13_8) (by have h_ : (x9_2 : Int) < ((x8_2.length : Int) : Int) := oD zq13_8; first | exact h_ | (have e_ := (Kd.R_reads' HO_8.out).1; omega) | simpa using h_) (k28_mkM _ _ _ (⟨(rd_T28 x8_2 (ji55)).f0, (⟨(rd_T28 x8_2 (ji55)).f1.f0, (rd_T28 x8_2 (ji55)).f1.f1, (rd_T28 x8_2 (ji55)).f1.f2⟩ : S24), (rd_T28 x8_2 (ji55)).f2, (⟨(rd_T28 x8_2 (ji55)).f3.f0, (rd_T28 x8_2 (ji55)).f3.f1⟩ : S26), (rd_T28 x8_2 (ji55)).f4, (rd_T28 x8_2 (ji55)).f5⟩ : S28) ) (fun _ hk => hk) rfl rfl (by kernel_rfl) ?hw66 ?hN66 ?ho66 ?ha66 ?hf66 ?hx66 ?_; (case hw66 => rfl); (case hN66 => rfl); (case ho66 => rfl); (case ha66 => rfl); (case hf66 => rfl); (case hx66 => rfl)
             intro w66_ HS66_ HT66_ HG66_
             rw [← Ny148.out] at HS66_
             have nBK114_ := aK (blk_grown BK114.out HG66_ (by have h_ : gb114 ≠ go61 := (by have h_ := Kd.R_away HO_8.out (fun _ hk => hk.1); intro e_; exact h_ (by rw [e_]; rfl)); exact fun e_ => h_ (sI e_)))
             have nBK125_ := aK (blk_grown BK125.out HG66_ (by have h_ : gb125 ≠ go61 := (by have h_ := Kd.R_away HO_8.out (fun _ hk => hk.2); intro e_; exact h_ (by rw [e_]; rfl)); exact fun e_ => h_ (sI e_)))
             clear HO_8 HB BK114 BK125
             have HO_8 := aK HS66_
             have HB := aK HT66_
             have BK114 := nBK114_
             have BK125 := nBK125_
             clear HS66_ HT66_ HG66_ nBK114_ nBK125_
             refine hK.out _ _ ?_
             clear hK K
             refine done_ (done_of HT_.out (by kernel_rfl)) ?_
             try go_wp2
             (try simp only [← hl8_2])
             go_roundg k2
             case measure => have := HJ3.out; have := HK2.out; omega
             case rel => exact ⟨(y148), (ji55), (x115000_2), (x115001_2), (x115002_2), (x115003_2), (x115004_2), (x115005_2), (x115006_2), (x115007_2), (x115008_2), (x126000_2), (x126001_2), (x126002_2), (x126003_2), (x126004_2), (x126005_2), (x126006_2), (x126007_2), (x126008_2), (by first | rfl | (simp; done) | (simp only [← hji55] <;> (first | rfl | simp)) | (simp [*]; done)), H', ⟨by have := HJ3.out; have := HK2.out; omega⟩, ⟨by (try simp only [hl8_2]); (with_reducible repeat (first | apply Kd.R_alloc | apply Kd.R_drewN | apply Kd.R_drew)); exact HO_8.out⟩, ⟨by (try simp only [hl8_2]); (with_reducible repeat (first | refine blk_drewN ?_ _ | refine blk_drew ?_ | refine blk_alloc ?_ _)); (with_reducible repeat (first | refine blk_drewN ?_ _ | refine blk_drew ?_ | refine blk_alloc ?_ _)); (with_reducible repeat (first | refine blk_drewN ?_ _ | refine blk_drew ?_ | refine blk_alloc ?_ _)); (with_reducible repeat (first | refine blk_drewN ?_ _ | refine blk_drew ?_ | refine blk_alloc ?_ _)); (with_reducible repeat (first | refine blk_drewN ?_ _ | refine blk_drew ?_ | refine blk_alloc ?_ _)); (with_reducible repeat (first | refine blk_drewN ?_ _ | refine blk_drew ?_ | refine blk_alloc ?_ _)); (with_reducible repeat (first | refine blk_drewN ?_ _ | refine blk_drew ?_ | refine blk_alloc ?_ _)); (with_reducible repeat (first | refine blk_drewN ?_ _ | refine blk_drew ?_ | refine blk_alloc ?_ _)); (with_reducible repeat (first | refine blk_drewN ?_ _ | refine blk_drew ?_ | refine blk_alloc ?_ _)); (with_reducible repeat (first | refine blk_drewN ?_ _ | refine blk_drew ?_ | refine blk_alloc ?_ _)); (with_reducible repeat (first | refine blk_drewN ?_ _ | refine blk_drew ?_ | refine blk_alloc ?_ _)); (with_reducible repeat (first | refine blk_drewN ?_ _ | refine blk_drew ?_ | refine blk_alloc ?_ _)); (with_reducible repeat (first | refine blk_drewN ?_ _ | refine blk_drew ?_ | refine blk_alloc ?_ _)); (with_reducible repeat (first | refine blk_drewN ?_ _ | refine blk_drew ?_ | refine blk_alloc ?_ _)); (with_reducible repeat (first | refine blk_drewN ?_ _ | refine blk_drew ?_ | refine blk_alloc ?_ _)); (with_reducible repeat (first | refine blk_drewN ?_ _ | refine blk_drew ?_ | refine blk_alloc ?_ _)); (with_reducible repeat (first | refine blk_drewN ?_ _ | refine blk_drew ?_ | refine blk_alloc ?_ _)); (with_reducible repeat (first | refine blk_drewN ?_ _ | refine blk_drew ?_ | refine blk_alloc ?_ _)); (with_reducible repeat (first | refine blk_drewN ?_ _ | refine blk_drew ?_ | refine blk_alloc ?_ _)); exact BK114.out⟩, ⟨by (try simp only [hl8_2]); (with_reducible repeat (first | refine blk_drewN ?_ _ | refine blk_drew ?_ | refine blk_alloc ?_ _)); (with_reducible repeat (first | refine blk_drewN ?_ _ | refine blk_drew ?_ | refine blk_alloc ?_ _)); (with_reducible repeat (first | refine blk_drewN ?_ _ | refine blk_drew ?_ | refine blk_alloc ?_ _)); (with_reducible repeat (first | refine blk_drewN ?_ _ | refine blk_drew ?_ | refine blk_alloc ?_ _)); (with_reducible repeat (first | refine blk_drewN ?_ _ | refine blk_drew ?_ | refine blk_alloc ?_ _)); (with_reducible repeat (first | refine blk_drewN ?_ _ | refine blk_drew ?_ | refine blk_alloc ?_ _)); (with_reducible repeat (first | refine blk_drewN ?_ _ | refine blk_drew ?_ | refine blk_alloc ?_ _)); (with_reducible repeat (first | refine blk_drewN ?_ _ | refine blk_drew ?_ | refine blk_alloc ?_ _)); (with_reducible repeat (first | refine blk_drewN ?_ _ | refine blk_drew ?_ | refine blk_alloc ?_ _)); (with_reducible repeat (first | refine blk_drewN ?_ _ | refine blk_drew ?_ | refine blk_alloc ?_ _)); (with_reducible repeat (first | refine blk_drewN ?_ _ | refine blk_drew ?_ | refine blk_alloc ?_ _)); (with_reducible repeat (first | refine blk_drewN ?_ _ | refine blk_drew ?_ | refine blk_alloc ?_ _)); (with_reducible repeat (first | refine blk_drewN ?_ _ | refine blk_drew ?_ | refine blk_alloc ?_ _)); (with_reducible repeat (first | refine blk_drewN ?_ _ | refine blk_drew ?_ | refine blk_alloc ?_ _)); (with_reducible repeat (first | refine blk_drewN ?_ _ | refine blk_drew ?_ | refine blk_alloc ?_ _)); (with_reducible repeat (first | refine blk_drewN ?_ _ | refine blk_drew ?_ | refine blk_alloc ?_ _)); (with_reducible repeat (first | refine blk_drewN ?_ _ | refine blk_drew ?_ | refine blk_alloc ?_ _)); (with_reducible repeat (first | refine blk_drewN ?_ _ | refine blk_drew ?_ | refine blk_alloc ?_ _)); (with_reducible repeat (first | refine blk_drewN ?_ _ | refine blk_drew ?_ | refine blk_alloc ?_ _)); exact BK125.out⟩, ⟨by repeat (first | (with_reducible first | exact HB.out | apply bA | apply pB | apply bW | refine below_set ?_ GB61.out | refine below_set ?_ GB61.out | refine below_set ?_ GB61.out | refine below_set ?_ GB61.out | refine below_set ?_ GB61.out | refine below_set ?_ GB61.out | refine below_set ?_ GB61.out | refine below_set ?_ GB61.out | refine below_set ?_ GB61.out | refine below_set ?_ GB61.out | refine below_set ?_ GB61.out | refine below_set ?_ GB61.out | refine below_set ?_ GB61.out | refine below_set ?_ GB61.out | refine below_set ?_ GB61.out | refine below_set ?_ GB61.out | refine below_set ?_ GB61.out | refine below_set ?_ GB61.out | refine below_set ?_ GE114.out | refine below_set ?_ GE125.out) | exact HB.out)⟩⟩
            ·rw [if_neg c60] at H
             have c60b0 : decide (((rd_T28 x8_2 x9_2).f0) < ((rd_T28 x8_2 (ji55)).f0)) = false := decide_eq_false c60
             clear c60
             simp only [Option.some.injEq, Prod.mk.injEq] at H
             obtain ⟨rfl, rfl⟩ := H
             try go_wp2
             replace HO_8 := aK (Kd.R_drew HO_8.out)
             replace BK114 := aK (blk_drew BK114.out)
             replace BK125 := aK (blk_drew BK125.out)
             replace HB := aK (bW HB.out)
             have p143 : 0 ≤ ((ji55) : Int) := oD zq13_8
             have q143 : (ji55) < (x8_2.length : Int) := oD zq13_8
             obtain ⟨ad143, e143, hx143_0, hx143_1, hx143_2, hx143_3, hx143_4, hx143_5, hx143_6, hx143_7, hx143_8⟩ := at_T28 (Kd.R_reads' HO_8.out).2.2 (ji55) p143 q143
             cases e143
             replace p143 := eT p143
             replace q143 := eT q143
             have p144 : 0 ≤ (x9_2 : Int) := oD zq13_8
             have q144 : x9_2 < (x8_2.length : Int) := oD zq13_8
             obtain ⟨ad144, e144, hx144_0, hx144_1, hx144_2, hx144_3, hx144_4, hx144_5, hx144_6, hx144_7, hx144_8⟩ := at_T28 (Kd.R_reads' HO_8.out).2.2 x9_2 p144 q144
             obtain rfl : ad143 = ad144 := (by injection e144)
             replace p144 := eT p144
             replace q144 := eT q144
             refine start_ (n := 16) (S := fun w' => w'.cell? (ad143.add (((ji55)).toNat * 9)) = some (.int .i64 ((rd_T28 x8_2 (ji55)).f0)) ∧ w'.cell? ⟨(ad143.add (((ji55)).toNat * 9)).block, (ad143.add (((ji55)).toNat * 9)).off + 1, none⟩ = some (.string ((rd_T28 x8_2 (ji55)).f1.f0)) ∧ w'.cell? ⟨(ad143.add (((ji55)).toNat * 9)).block, (ad143.add (((ji55)).toNat * 9)).off + 2, none⟩ = some (.int .i64 ((rd_T28 x8_2 (ji55)).f1.f1)) ∧ w'.cell? ⟨(ad143.add (((ji55)).toNat * 9)).block, (ad143.add (((ji55)).toNat * 9)).off + 3, none⟩ = some (.int .i64 ((rd_T28 x8_2 (ji55)).f1.f2)) ∧ w'.cell? ⟨(ad143.add (((ji55)).toNat * 9)).block, (ad143.add (((ji55)).toNat * 9)).off + 4, none⟩ = some (.bool ((rd_T28 x8_2 (ji55)).f2)) ∧ w'.cell? ⟨(ad143.add (((ji55)).toNat * 9)).block, (ad143.add (((ji55)).toNat * 9)).off + 5, none⟩ = some (.int .i64 ((rd_T28 x8_2 (ji55)).f3.f0)) ∧ w'.cell? ⟨(ad143.add (((ji55)).toNat * 9)).block, (ad143.add (((ji55)).toNat * 9)).off + 6, none⟩ = some (.int .i64 ((rd_T28 x8_2 (ji55)).f3.f1)) ∧ w'.cell? ⟨(ad143.add (((ji55)).toNat * 9)).block, (ad143.add (((ji55)).toNat * 9)).off + 7, none⟩ = some (.string ((rd_T28 x8_2 (ji55)).f4)) ∧ w'.cell? ⟨(ad143.add (((ji55)).toNat * 9)).block, (ad143.add (((ji55)).toNat * 9)).off + 8, none⟩ = some (.bool ((rd_T28 x8_2 (ji55)).f5)) ∧ w'.cell? (ad143.add ((x9_2).toNat * 9)) = some (.int .i64 ((rd_T28 x8_2 x9_2).f0)) ∧ w'.cell? ⟨(ad143.add ((x9_2).toNat * 9)).block, (ad143.add ((x9_2).toNat * 9)).off + 1, none⟩ = some (.string ((rd_T28 x8_2 x9_2).f1.f0)) ∧ w'.cell? ⟨(ad143.add ((x9_2).toNat * 9)).block, (ad143.add ((x9_2).toNat * 9)).off + 2, none⟩ = some (.int .i64 ((rd_T28 x8_2 x9_2).f1.f1)) ∧ w'.cell? ⟨(ad143.add ((x9_2).toNat * 9)).block, (ad143.add ((x9_2).toNat * 9)).off + 3, none⟩ = some (.int .i64 ((rd_T28 x8_2 x9_2).f1.f2)) ∧ w'.cell? ⟨(ad143.add ((x9_2).toNat * 9)).block, (ad143.add ((x9_2).toNat * 9)).off + 4, none⟩ = some (.bool ((rd_T28 x8_2 x9_2).f2)) ∧ w'.cell? ⟨(ad143.add ((x9_2).toNat * 9)).block, (ad143.add ((x9_2).toNat * 9)).off + 5, none⟩ = some (.int .i64 ((rd_T28 x8_2 x9_2).f3.f0)) ∧ w'.cell? ⟨(ad143.add ((x9_2).toNat * 9)).block, (ad143.add ((x9_2).toNat * 9)).off + 6, none⟩ = some (.int .i64 ((rd_T28 x8_2 x9_2).f3.f1)) ∧ w'.cell? ⟨(ad143.add ((x9_2).toNat * 9)).block, (ad143.add ((x9_2).toNat * 9)).off + 7, none⟩ = some (.string ((rd_T28 x8_2 x9_2).f4)) ∧ w'.cell? ⟨(ad143.add ((x9_2).toNat * 9)).block, (ad143.add ((x9_2).toNat * 9)).off + 8, none⟩ = some (.bool ((rd_T28 x8_2 x9_2).f5))) (ds := []) #[false, false, false, false, false, false, false, false, false, false, false, false, false, false, false, false] (by kernel_rfl) rfl rfl ⟨hx143_0, hx143_1, hx143_2, hx143_3, hx143_4, hx143_5, hx143_6, hx143_7, hx143_8, hx144_0, hx144_1, hx144_2, hx144_3, hx144_4, hx144_5, hx144_6, hx144_7, hx144_8⟩ (fun hHeld => ?_); refine with_tabW cenotaphref08_Put.tab6 cenotaphref08_Put.bits6 (fun HT_ HW_ => ?_)
             generalize wr.drew = w67 at HO_8 BK114 BK125 HB hx143_0 hx143_1 hx143_2 hx143_3 hx143_4 hx143_5 hx143_6 hx143_7 hx143_8 hx144_0 hx144_1 hx144_2 hx144_3 hx144_4 hx144_5 hx144_6 hx144_7 hx144_8 hHeld ⊢
             refine p_ 0 61 (mk_ 16 0x1) ?_
             refine p_ 1 62 (mk_ 16 0x3) ?_
             refine p_ 2 63 (mk_ 16 0x7) ?_
             refine p_ 3 64 (mk_ 16 0xf) ?_
             refine p_ 4 65 (mk_ 16 0x1f) ?_
             refine p_ 5 66 (mk_ 16 0x3f) ?_
             refine p_ 6 67 (mk_ 16 0x7f) ?_
             refine p_ 7 68 (mk_ 16 0xff) ?_
             refine p_ 9 70 (mk_ 16 0x2ff) ?_
             refine p_ 10 71 (mk_ 16 0x6ff) ?_
             refine p_ 11 72 (mk_ 16 0xeff) ?_
             refine p_ 12 73 (mk_ 16 0x1eff) ?_
             refine t_ 8 69 (mk_ 16 0x1fff) hHeld ?_
             refine t_ 13 74 (mk_ 16 0x3fff) hHeld ?_
             refine p_ 14 75 (mk_ 16 0x7fff) ?_
             refine p_ 15 76 (mk_ 16 0xffff) ?_
             refine done_ (done_of HT_.out (by kernel_rfl)) ?_
             try go_wp2
             go_ret2
             exact ⟨_, by first | rfl | (simp [errW_none, errW_some] <;> rfl) | (simp only [← hji55]; first | rfl | (simp [errW_none, errW_some] <;> rfl)) | (simp [*, errW_none, errW_some] <;> rfl), by (with_reducible repeat (first | apply Kd.R_alloc | apply Kd.R_drewN | apply Kd.R_drew)); exact Kd.R_mono HO_8.out (fun _ hk => trivial), by repeat (first | (with_reducible first | exact HB.out | apply bA | apply pB | apply bW | refine below_set ?_ GE114.out | refine below_set ?_ GE125.out) | exact HB.out)⟩
           ·rw [if_neg c59] at H
            exact absurd H (by simp)
          ·rw [if_neg c58] at H
           exact absurd H (by simp)
         ·rw [if_neg c57] at H
          exact absurd H (by simp)
        ·rw [if_neg c56] at H
         exact absurd H (by simp)
       ·rw [if_neg c54] at H
        have c54b0 : decide (0 < x9_2) = false := decide_eq_false c54
        clear c54
        simp only [Option.some.injEq, Prod.mk.injEq] at H
        obtain ⟨rfl, rfl⟩ := H
        try go_wp2
        replace HO_8 := aK (Kd.R_drew HO_8.out)
        replace BK114 := aK (blk_drew BK114.out)
        replace BK125 := aK (blk_drew BK125.out)
        replace HB := aK (bW HB.out)
        refine start_ (n := 16) (S := fun w' => True) (ds := []) #[false, false, false, false, false, false, false, false, false, false, false, false, false, false, false, false] (by kernel_rfl) rfl rfl trivial (fun hHeld => ?_); refine with_tabW cenotaphref08_Put.tab6 cenotaphref08_Put.bits6 (fun HT_ HW_ => ?_)
        generalize wr.drew = w68 at HO_8 BK114 BK125 HB hHeld ⊢
        refine p_ 0 61 (mk_ 16 0x1) ?_
        refine p_ 1 62 (mk_ 16 0x3) ?_
        refine p_ 2 63 (mk_ 16 0x7) ?_
        refine u_ 3 64 (mk_ 16 0xf) ?_
        refine u_ 4 65 (mk_ 16 0x1f) ?_
        refine u_ 5 66 (mk_ 16 0x3f) ?_
        refine u_ 6 67 (mk_ 16 0x7f) ?_
        refine u_ 7 68 (mk_ 16 0xff) ?_
        refine u_ 8 69 (mk_ 16 0x1ff) ?_
        refine u_ 9 70 (mk_ 16 0x3ff) ?_
        refine u_ 10 71 (mk_ 16 0x7ff) ?_
        refine u_ 11 72 (mk_ 16 0xfff) ?_
        refine u_ 12 73 (mk_ 16 0x1fff) ?_
        refine u_ 13 74 (mk_ 16 0x3fff) ?_
        refine u_ 14 75 (mk_ 16 0x7fff) ?_
        refine p_ 15 76 (mk_ 16 0xffff) ?_
        refine done_ (done_of HT_.out (by kernel_rfl)) ?_
        try go_wp2
        go_ret2
        exact ⟨_, by first | rfl | (simp [errW_none, errW_some] <;> rfl) | (simp [*, errW_none, errW_some] <;> rfl), by (with_reducible repeat (first | apply Kd.R_alloc | apply Kd.R_drewN | apply Kd.R_drew)); exact Kd.R_mono HO_8.out (fun _ hk => trivial), by repeat (first | (with_reducible first | exact HB.out | apply bA | apply pB | apply bW | refine below_set ?_ GE114.out | refine below_set ?_ GE125.out) | exact HB.out)⟩
    ·rw [if_neg c45] at H
     exact absurd H (by simp)
end Go.Proofs.Ytgdkgobplinelaa.P
