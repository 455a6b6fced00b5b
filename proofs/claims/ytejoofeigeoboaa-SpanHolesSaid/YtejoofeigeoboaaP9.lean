-- Written by a program of this session (wip/pp.py over the kit's printer, with our own texts put in).
import Derived.Test.YtejoofeigeoboaaP0
import Derived.Test.YtejoofeigeoboaaP1
import Derived.Test.YtejoofeigeoboaaP2
import Derived.Test.YtejoofeigeoboaaP3
import Derived.Test.YtejoofeigeoboaaP6
import Derived.Test.YtejoofeigeoboaaP8
namespace Go.Proofs.Ytejoofeigeoboaa.P
open Go.RowKit Go.Proofs.YtejoofeigeoboaaW.PrintWords Go.Proofs.YtejoofeigeoboaaW.PrintLast Go.Proofs.YtejoofeigeoboaaW.PrintMore
attribute [local go_sem] max2_int min2_int max_two min_two max_three min_three max_four min_four   -- for this text's walks alone
set_option linter.unusedVariables false
set_option linter.unusedSimpArgs false

/-! ### cenotaphlaw02_SpanHoles: function 7 -/
theorem zq7_0 {p_ : Prop} (h_ : p_ := by repeat (first | (with_reducible first | exact HB.out | apply below_alloc | apply pw_below_drewN | apply below_drew1 | refine below_set ?_ GE379.out | refine below_set ?_ GE388.out) | exact HB.out)) : p_ := h_
theorem zq7_1 {p_ : Prop} (h_ : p_ := by repeat (first | (with_reducible first | exact HB.out | apply below_alloc | apply pw_below_drewN | apply below_drew1 | refine below_set ?_ GE379.out) | exact HB.out)) : p_ := h_
theorem zq7_2 {p_ : Prop} (h_ : p_ := by (try simp only [List.map_toArray, List.map_cons, List.map_nil]); first | done | rfl | (simp only [List.length_drop, List.length_take]; rfl)) : p_ := h_
theorem zq7_3 {p_ : Prop} (h_ : p_ := by repeat (first | (with_reducible first | exact HB.out | apply below_alloc | apply pw_below_drewN | apply below_drew1) | exact HB.out)) : p_ := h_
theorem zq7_4 {p_ : Prop} (h_ : p_ := by (with_reducible repeat (first | refine blk_drewN ?_ _ | refine blk_drew ?_ | refine blk_alloc ?_ _)); exact BK379.out) : p_ := h_
theorem zq7_5 {p_ : Prop} (h_ : p_ := by (with_reducible repeat (first | refine blk_drewN ?_ _ | refine blk_drew ?_ | refine blk_alloc ?_ _)); exact BK388.out) : p_ := h_
theorem zq7_6 {p_ : Prop} (h_ : p_ := by (with_reducible repeat (first | apply Kd.R_alloc | apply Kd.R_drewN | apply Kd.R_drew)); exact HO_389001.out) : p_ := h_
theorem zq7_7 {p_ : Prop} (h_ : p_ := by (with_reducible repeat (first | apply Kd.R_alloc | apply Kd.R_drewN | apply Kd.R_drew)); exact HO383.out) : p_ := h_
theorem zq7_8 {p_ : Prop} (h_ : p_ := by (with_reducible repeat (first | apply Kd.R_alloc | apply Kd.R_drewN | apply Kd.R_drew)); exact HO397.out) : p_ := h_
theorem zq7_9 {p_ : Prop} (h_ : p_ := by first | rfl | (simp; done) | (simp [*]; done)) : p_ := h_
def cenotaphlaw02_SpanHoles.l0 : Nat → Int → Int → Int → List Int → Option (Bool)
 | 0, _, _, _, _ => none
 | k + 1, x4, x5, x389000, x389001 => (span_Top.f x389000 x389001).bind fun t389 => (if x5 ≤ t389 then ((span_Has.f k x389000 x389001 x5).bind fun t390 => (if t390 = true then (cenotaphlaw02_SpanHoles.l0 k x4 (wrap64 (x5 + 1)) x389000 x389001) else (cenotaphlaw02_SpanHoles.l0 k (wrap64 (x4 + 1)) (wrap64 (x5 + 1)) x389000 x389001))) else ((cenotaphlaw02_told.f k).bind fun t391 => (if t391 = true then ((span_Top.f x389000 x389001).bind fun t392 => ((span_Count.f x389000 x389001).bind fun t393 => (if x4 = (wrap64 (t392 - t393)) then (if (((x389001.length : Int) == 0) == (x4 == 0)) = true then ((span_First.f x389000).bind fun bt394 => ((span_Within.f k bt394.1 bt394.2 x389000 x389001).bind fun t398 => (if t398 = true then (if (x389001.length : Int) = 0 then (some true) else ((span_Has.f k x389000 x389001 (wrap64 (x389000 + 1))).bind fun t399 => (some (!t399)))) else (none)))) else (none)) else (none)))) else (none))))
def cenotaphlaw02_SpanHoles.f (k : Nat) (a0_0 : Int) (l0_1 : List Int) : Option (Bool) := (cenotaphref02_Fix.f k a0_0 l0_1).bind fun bt380 => ((cenotaphlaw02_To.f bt380.1 bt380.2).bind fun bt384 => (cenotaphlaw02_SpanHoles.l0 k 0 1 bt384.1 bt384.2))
theorem cenotaphlaw02_SpanHoles.mono_l : ∀ k, (∀ y0 y1 y2 y3, LeO (cenotaphlaw02_SpanHoles.l0 k y0 y1 y2 y3) (cenotaphlaw02_SpanHoles.l0 (k + 1) y0 y1 y2 y3))
 | 0 => fun _ _ _ _ r h => by simp [cenotaphlaw02_SpanHoles.l0] at h
 | k + 1 => by
  have ih0 := cenotaphlaw02_SpanHoles.mono_l k
  ·intro y0 y1 y2 y3
   unfold cenotaphlaw02_SpanHoles.l0
   repeat' first
   | (with_reducible exact ih0 _ _ _ _)
   | (with_reducible exact cenotaphlaw02_told.mono _)
   | (with_reducible exact cenotaphref02_Fix.mono _ _ _)
   | (with_reducible exact span_Has.mono _ _ _ _)
   | (with_reducible exact span_Within.mono _ _ _ _ _)
   | (with_reducible exact LeO.refl _)
   | (with_reducible exact LeO.none _)
   | (with_reducible refine LeO.ite ?_ ?_)
   | (with_reducible refine LeO.bind ?_ (fun _ => ?_))
   | exact ih0 _ _ _ _
   | exact cenotaphlaw02_told.mono _
   | exact cenotaphref02_Fix.mono _ _ _
   | exact span_Has.mono _ _ _ _
   | exact span_Within.mono _ _ _ _ _
   | exact LeO.none _
   | refine LeO.ite ?_ ?_
   | refine LeO.bind ?_ (fun _ => ?_)
theorem cenotaphlaw02_SpanHoles.mono : ∀ a0 a1 k, LeO (cenotaphlaw02_SpanHoles.f k a0 a1) (cenotaphlaw02_SpanHoles.f (k + 1) a0 a1) := by
 intro a0 a1 k
 have ih0 := cenotaphlaw02_SpanHoles.mono_l k
 unfold cenotaphlaw02_SpanHoles.f
 repeat' first
   | (with_reducible exact ih0 _ _ _ _)
   | (with_reducible exact cenotaphlaw02_told.mono _)
   | (with_reducible exact cenotaphref02_Fix.mono _ _ _)
   | (with_reducible exact span_Has.mono _ _ _ _)
   | (with_reducible exact span_Within.mono _ _ _ _ _)
   | (with_reducible exact LeO.refl _)
   | (with_reducible exact LeO.none _)
   | (with_reducible refine LeO.ite ?_ ?_)
   | (with_reducible refine LeO.bind ?_ (fun _ => ?_))
   | exact ih0 _ _ _ _
   | exact cenotaphlaw02_told.mono _
   | exact cenotaphref02_Fix.mono _ _ _
   | exact span_Has.mono _ _ _ _
   | exact span_Within.mono _ _ _ _ _
   | exact LeO.none _
   | refine LeO.ite ?_ ?_
   | refine LeO.bind ?_ (fun _ => ?_)
def cenotaphlaw02_SpanHoles.T8 : Bool × List (List Nat × List Nat) := (true, [([], []), ([0, 0], [0]), ([1], [1]), ([1], [1]), ([3, 1, 1], [1, 3]), ([1], [1]), ([5, 4, 1], [1, 5]), ([4, 6, 1], [1, 4, 6]), ([2, 7, 1], [1, 2, 7]), ([1, 8], [1, 8]), ([9, 6], [9]), ([10], [10]), ([11, 10], [10, 11]), ([12, 10], [10, 12]), ([13, 10], [10, 13]), ([10], [10]), ([15, 10], [10, 15]), ([14, 16, 10], [10, 14, 16]), ([10, 17], [10, 17]), ([18, 10], [18]), ([19], [19]), ([20, 19], [19, 20]), ([21, 19, 19], [19, 21]), ([19], [19]), ([22, 23, 22, 19], [19, 22, 23]), ([19, 24], [19, 24]), ([25, 24], [25]), ([26], [26]), ([27, 26], [26, 27]), ([28, 26], [26, 28]), ([29, 26], [26, 29]), ([30, 26, 26], [26, 30]), ([31], [31]), ([31], [31]), ([33, 31], [31, 33]), ([34, 31], [31, 34]), ([32, 35, 31, 31], [31, 32, 35]), ([36, 31], [31, 36]), ([31, 37, 26], [26, 31, 37]), ([26, 38], [26, 38]), ([39, 36, 0, 1, 2, 3, 4, 5, 6, 7, 8, 9, 10, 11, 12, 13, 14, 15, 16, 17, 18, 19, 20, 21, 22, 23, 24, 25, 26, 27, 28, 29, 30, 31, 32, 33, 34, 35, 36, 37, 38, 39], [39])])
def cenotaphlaw02_SpanHoles.B8 : List Nat := [0, 1, 3, 3, 11, 3, 59, 123, 255, 511, 1023, 2047, 4095, 8191, 16383, 2047, 34815, 131071, 262143, 524287, 1048575, 2097151, 4194303, 1048575, 16777215, 33554431, 67108863, 134217727, 268435455, 536870911, 1073741823, 2147483647, 4294967295, 4294967295, 12884901887, 30064771071, 68719476735, 137438953471, 274877906943, 549755813887, 1099511627775]
theorem cenotaphlaw02_SpanHoles.tab8 : rtab .any (opsOf Try.f7 8) = cenotaphlaw02_SpanHoles.T8 := by kernel_rfl
theorem cenotaphlaw02_SpanHoles.bits8 : waitsOk cenotaphlaw02_SpanHoles.T8.2 cenotaphlaw02_SpanHoles.B8 = true := by kernel_rfl
set_option maxHeartbeats 8000000 in
set_option maxRecDepth 100000 in
theorem cenotaphlaw02_SpanHoles.calls (k : Nat) (a0_0 : Int) (A0_1 : Option Addr) (c0_1 : Nat) (l0_1 : List Int) (r : Bool) (w : World) (hr0_1 : Kd.C (Kd.int .i64) w A0_1 l0_1.length l0_1) (hc0_1 : l0_1.length ≤ c0_1) (h : cenotaphlaw02_SpanHoles.f k a0_0 l0_1 = some r) :
  Calls Try.prog 7 #[.agg #[.int .i64 a0_0, .slice A0_1 l0_1.length c0_1]] w fun e w' => e = .returned (.bool r) ∧ Below w.heap.size w w' := by
 have hu30 := Try.underlying30
 have hu24 := Try.underlying24
 have HR0_1 := Aside0.mk hr0_1
 have HC0_1 := Aside0.mk hc0_1
 clear hr0_1 hc0_1
 have HB := Aside0.mk (Below.refl w.heap.size w)
 have H : ((cenotaphref02_Fix.f k a0_0 l0_1).bind fun bt380 => ((cenotaphlaw02_To.f bt380.1 bt380.2).bind fun bt384 => (cenotaphlaw02_SpanHoles.l0 k 0 1 bt384.1 bt384.2))) = some r := h
 clear h
 replace H := Option.bind_eq_some_iff.mp H
 obtain ⟨⟨t380, t381⟩, A20, H⟩ := H
 replace H : ((cenotaphlaw02_To.f t380 t381).bind fun bt384 => (cenotaphlaw02_SpanHoles.l0 k 0 1 bt384.1 bt384.2)) = some r := H
 have A2 := Aside0.mk A20
 clear A20
 replace H := Option.bind_eq_some_iff.mp H
 obtain ⟨⟨t384, t385⟩, A30, H⟩ := H
 replace H : (cenotaphlaw02_SpanHoles.l0 k 0 1 t384 t385) = some r := H
 have A3 := Aside0.mk A30
 clear A30
 have H' := Aside0.mk H
 clear H
 go_enter Try.func7, Try.ntmps7
 go_wp2_with (first | ((with_reducible refine gate_dst (N := 1) rfl ?_); (try (refine gate_guard (by rfl) ?_; dsimp only)); refine box_event ?hg (N := 1) ?hd (cs := #[.int .i64 a0_0, .slice A0_1 l0_1.length c0_1]) (t := 30) ?hr ?_; (case hd => rfl); (case hg => rfl); (case hr => first | (go_simp; done) | (go_simp; rfl)); intro gb379 hg w4 hbox hb; have n0_ := Aside0.mk (below_step zq7_3 hb); have n1_ := Aside0.mk (hbox); have n2_ := Aside0.mk (((by rw [hg]; exact (below_size zq7_3)) : w.heap.size ≤ gb379)); have n3_ := Aside0.mk (((by rw [hg]; exact (below_size zq7_3)) : w.heap.size ≤ gb379)); clear HB; have HB := n0_; have BK379 := n1_; have GW379 := n2_; have GE379 := n3_; clear n0_ n1_ n2_ n3_; clear hb hbox hg; have hcz5_0 : w4.cell? ⟨gb379, 0, none⟩ = some (.int .i64 a0_0) := (blk_cell BK379.out 0).trans rfl; have hcz5_1 : w4.cell? ⟨gb379, 1, none⟩ = some (.slice A0_1 l0_1.length c0_1) := (blk_cell BK379.out 1).trans rfl; have hfz5_0 := blk_frozen BK379.out 0; have hfz5_1 := blk_frozen BK379.out 1) | ((with_reducible refine gate_callee (f := 17) rfl ?_); refine goesL_ (some 7) rfl rfl Try.func17 (by kernel_rfl) rfl #[.agg #[.int .i64 a0_0, .slice A0_1 l0_1.length c0_1]] rfl zq7_2 ?_; (with_reducible refine (cenotaphref02_Fix.calls k a0_0 _ _ l0_1 t380 t381 _ ?side1 ?side2 A2.out).mono ?_); (case side1 => repeat (first | exact (Kd.C_below HR0_1.out HB.out) | (with_reducible refine Kd.C_alloc ?_ _) | (with_reducible refine Kd.C_drewN ?_ _) | (with_reducible refine Kd.C_drew ?_))); (case side2 => exact HC0_1.out); rintro e w6 ⟨v382, rfl, ho0, hb⟩; refine ⟨_, rfl, ?_⟩; have n0_ := Aside0.mk (Kd.R_lower ho0 (below_size zq7_1)); have n1_ := Aside0.mk (blk_below (g := gb379) (o := .cells #[.int .i64 a0_0, .slice A0_1 l0_1.length c0_1] 30 (0, 0)) zq7_4 hb); have n2_ := Aside0.mk (below_step zq7_1 hb); clear BK379; clear HB; have HO383 := n0_; have BK379 := n1_; have HB := n2_; clear n0_ n1_ n2_; (try clear hb); (try clear hb2); (try clear hk); (try clear hi); (try clear ho0); obtain ⟨Ao7, co7, eo7⟩ := Kd.R_slice HO383.out; subst eo7) | ((with_reducible refine gate_callee (f := 15) rfl ?_); refine goesL_ (some 8) rfl rfl Try.func15 (by kernel_rfl) rfl #[.agg #[.int .i64 t380, .slice Ao7 t381.length co7]] rfl zq7_2 ?_; (with_reducible refine (cenotaphlaw02_To.calls t380 _ _ t381 t384 t385 _ ?side1 ?side2 A3.out).mono ?_); (case side1 => repeat (first | exact (Kd.R_reads' HO383.out).2.2 | (with_reducible refine Kd.C_alloc ?_ _) | (with_reducible refine Kd.C_drewN ?_ _) | (with_reducible refine Kd.C_drew ?_))); (case side2 => exact (Kd.R_reads' HO383.out).2.1); rintro e w8 ⟨v386, rfl, ho0, hb⟩; refine ⟨_, rfl, ?_⟩; have n0_ := Aside0.mk (Kd.R_elder' zq7_7 (Kd.R_base ho0) hb); have n1_ := Aside0.mk (Kd.R_lower (Kd.R_new' ho0 (Kd.R_lt zq7_7)) (below_size zq7_1)); have n2_ := Aside0.mk (blk_below (g := gb379) (o := .cells #[.int .i64 a0_0, .slice A0_1 l0_1.length c0_1] 30 (0, 0)) zq7_4 hb); have n3_ := Aside0.mk (below_step zq7_1 hb); clear HO383; clear BK379; clear HB; have HO383 := n0_; have HO387 := n1_; have BK379 := n2_; have HB := n3_; clear n0_ n1_ n2_ n3_; (try clear hb); (try clear hb2); (try clear hk); (try clear hi); (try clear ho0)) | ((with_reducible refine gate_dst (N := 3) rfl ?_); (try (refine gate_guard (by rfl) ?_; dsimp only)); refine box_event ?hg (N := 3) ?hd (cs := #[.int .i64 0, .slice none 0 0]) (t := 24) ?hr ?_; (case hd => rfl); (case hg => rfl); (case hr => first | (go_simp; done) | (go_simp; rfl)); intro gb388 hg w9 hbox hb; have n0_ := Aside0.mk (Kd.R_below zq7_7 hb); have n1_ := Aside0.mk (Kd.R_below (by (with_reducible repeat (first | apply Kd.R_alloc | apply Kd.R_drewN | apply Kd.R_drew)); exact HO387.out) hb); have n2_ := Aside0.mk (blk_below (g := gb379) (o := .cells #[.int .i64 a0_0, .slice A0_1 l0_1.length c0_1] 30 (0, 0)) zq7_4 hb); have n3_ := Aside0.mk (below_step zq7_1 hb); have n4_ := Aside0.mk (hbox); have n5_ := Aside0.mk (((by rw [hg]; exact (below_size zq7_1)) : w.heap.size ≤ gb388)); have n6_ := Aside0.mk (((by rw [hg]; exact (below_size zq7_1)) : w.heap.size ≤ gb388)); have n7_ := Aside0.mk (((by rw [hg]; exact Nat.ne_of_lt (blk_lt (g := gb379) (o := .cells #[.int .i64 a0_0, .slice A0_1 l0_1.length c0_1] 30 (0, 0)) zq7_4)) : gb379 ≠ gb388)); have n8_ := Aside0.mk (((by rw [hg]; exact Nat.ne_of_gt (blk_lt (g := gb379) (o := .cells #[.int .i64 a0_0, .slice A0_1 l0_1.length c0_1] 30 (0, 0)) zq7_4)) : gb388 ≠ gb379)); clear HO383; clear HO387; clear BK379; clear HB; have HO383 := n0_; have HO387 := n1_; have BK379 := n2_; have HB := n3_; have BK388 := n4_; have GW388 := n5_; have GE388 := n6_; have NB379_388 := n7_; have NB388_379 := n8_; clear n0_ n1_ n2_ n3_ n4_ n5_ n6_ n7_ n8_; clear hb hbox hg; have hnb10 := NB388_379.out; have hnc10 := NB379_388.out; have hcz11_0 : w9.cell? ⟨gb388, 0, none⟩ = some (.int .i64 0) := (blk_cell BK388.out 0).trans rfl; have hcz11_1 : w9.cell? ⟨gb388, 1, none⟩ = some (.slice none 0 0) := (blk_cell BK388.out 1).trans rfl; have hfz11_0 := blk_frozen BK388.out 0; have hfz11_1 := blk_frozen BK388.out 1; obtain ⟨Ao12, co12, eo12⟩ := Kd.R_slice HO387.out; subst eo12))
 go_loopg [4, 5] k (fun kq v4 v5 w' => ∃ (x4_1 : Int) (x5_1 : Int), v4 = .int .i64 x4_1 ∧ v5 = .int .i64 x5_1 ∧ Aside0 (cenotaphlaw02_SpanHoles.l0 kq x4_1 x5_1 t384 t385 = some r) ∧ Aside0 (kq ≤ k) ∧ Aside0 (Kd.R (Kd.int .i64) 3 w' w.heap.size (fun _ => True) (.slice Ao12 t385.length co12) t385) ∧ Aside0 (w'.heap[gb379]? = some (.cells #[.int .i64 a0_0, (.slice A0_1 l0_1.length c0_1)] 30 (0, 0))) ∧ Aside0 (w'.heap[gb388]? = some (.cells #[.int .i64 t384, (.slice Ao12 t385.length co12)] 24 (0, 0))) ∧ Aside0 (Below w.heap.size w w'))
 case atStart => exact ⟨(0), (1), zq7_9, zq7_9, H', ⟨Nat.le_refl _⟩, ⟨by (with_reducible repeat (first | apply Kd.R_alloc | apply Kd.R_drewN | apply Kd.R_drew)); exact Kd.R_mono (Kd.R_far (p := ⟨gb388, 1, none⟩) (Kd.R_far (p := ⟨gb388, 0, none⟩) (Kd.R_types HO387.out BK388.out (by decide)) (fun _ hk => hk.2) (.int .i64 t384)) (fun _ hk => hk.2) (.slice Ao12 t385.length co12)) (fun _ hk => trivial)⟩, ⟨by (with_reducible repeat (first | refine blk_drewN ?_ _ | refine blk_drew ?_ | refine blk_alloc ?_ _)); refine blk_far ?_ NB379_388.out _; (with_reducible repeat (first | refine blk_drewN ?_ _ | refine blk_drew ?_ | refine blk_alloc ?_ _)); refine blk_far ?_ NB379_388.out _; (with_reducible repeat (first | refine blk_drewN ?_ _ | refine blk_drew ?_ | refine blk_alloc ?_ _)); exact BK379.out⟩, ⟨by (with_reducible repeat (first | refine blk_drewN ?_ _ | refine blk_drew ?_ | refine blk_alloc ?_ _)); refine blk_put (cs := #[.int .i64 t384, .slice none 0 0]) ?_ 1 _ rfl; (with_reducible repeat (first | refine blk_drewN ?_ _ | refine blk_drew ?_ | refine blk_alloc ?_ _)); refine blk_put (cs := #[.int .i64 0, .slice none 0 0]) ?_ 0 _ rfl; (with_reducible repeat (first | refine blk_drewN ?_ _ | refine blk_drew ?_ | refine blk_alloc ?_ _)); exact BK388.out⟩, ⟨by repeat (first | (with_reducible first | exact HB.out | apply below_alloc | apply pw_below_drewN | apply below_drew1 | refine below_set ?_ GE379.out | refine below_set ?_ GE388.out) | exact HB.out)⟩⟩
 case round =>
  clear H'
  try clear c1
  try clear p2
  try clear c7
  try clear c10
  try clear hcz11_0
  try clear hcz11_1
  try clear hcz5_0
  try clear hcz5_1
  try clear hfz11_0
  try clear hfz11_1
  try clear hfz5_0
  try clear hfz5_1
  obtain ⟨x4_1, x5_1, rfl, rfl, HA, HK1, HO_389001, BK379, BK388, HB⟩ := hrel
  cases gk with
  | zero => exact absurd HA.out (by simp [cenotaphlaw02_SpanHoles.l0])
  | succ k1 =>
   have H := HA.out
   clear HA
   simp only [cenotaphlaw02_SpanHoles.l0] at H
   replace H := Option.bind_eq_some_iff.mp H
   obtain ⟨t389, A130, H⟩ := H
   replace H : (if x5_1 ≤ t389 then ((span_Has.f k1 t384 t385 x5_1).bind fun t390 => (if t390 = true then (cenotaphlaw02_SpanHoles.l0 k1 x4_1 (wrap64 (x5_1 + 1)) t384 t385) else (cenotaphlaw02_SpanHoles.l0 k1 (wrap64 (x4_1 + 1)) (wrap64 (x5_1 + 1)) t384 t385))) else ((cenotaphlaw02_told.f k1).bind fun t391 => (if t391 = true then ((span_Top.f t384 t385).bind fun t392 => ((span_Count.f t384 t385).bind fun t393 => (if x4_1 = (wrap64 (t392 - t393)) then (if (((t385.length : Int) == 0) == (x4_1 == 0)) = true then ((span_First.f t384).bind fun bt394 => ((span_Within.f k1 bt394.1 bt394.2 t384 t385).bind fun t398 => (if t398 = true then (if (t385.length : Int) = 0 then (some true) else ((span_Has.f k1 t384 t385 (wrap64 (t384 + 1))).bind fun t399 => (some (!t399)))) else (none)))) else (none)) else (none)))) else (none)))) = some r := H
   have A13 := Aside0.mk A130
   clear A130
   by_cases c14 : x5_1 ≤ t389
   ·rw [if_pos c14] at H
    have c14b0 : decide (x5_1 ≤ t389) = true := decide_eq_true c14
    clear c14
    replace H := Option.bind_eq_some_iff.mp H
    obtain ⟨t390, A150, H⟩ := H
    replace H : (if t390 = true then (cenotaphlaw02_SpanHoles.l0 k1 x4_1 (wrap64 (x5_1 + 1)) t384 t385) else (cenotaphlaw02_SpanHoles.l0 k1 (wrap64 (x4_1 + 1)) (wrap64 (x5_1 + 1)) t384 t385)) = some r := H
    have A15 := Aside0.mk A150
    clear A150
    by_cases c16 : t390 = true
    ·subst c16
     have H1 : (cenotaphlaw02_SpanHoles.l0 k1 x4_1 (wrap64 (x5_1 + 1)) t384 t385) = some r := by rw [if_pos rfl] at H; exact H
     clear H
     have H := H1
     clear H1
     have H' := Aside0.mk H
     clear H
     have hnb17 := NB388_379.out
     have hnc17 := NB379_388.out
     have hcz18_0 : wr.cell? ⟨gb388, 0, none⟩ = some (.int .i64 t384) := (blk_cell BK388.out 0).trans rfl
     have hcz18_1 : wr.cell? ⟨gb388, 1, none⟩ = some (.slice Ao12 t385.length co12) := (blk_cell BK388.out 1).trans rfl
     have hfz18_0 := blk_frozen BK388.out 0
     have hfz18_1 := blk_frozen BK388.out 1
     go_wp2_with (first | ((with_reducible refine gate_callee (f := 24) rfl ?_); refine goesL_ (some 11) rfl rfl Try.func24 (by kernel_rfl) rfl #[.agg #[.int .i64 t384, .slice Ao12 t385.length co12]] rfl zq7_2 ?_; (with_reducible refine (span_Top.calls t384 _ _ t385 t389 _ ?side1 ?side2 A13.out).mono ?_); (case side1 => repeat (first | exact (Kd.R_reads' HO_389001.out).2.2 | (with_reducible refine Kd.C_alloc ?_ _) | (with_reducible refine Kd.C_drewN ?_ _) | (with_reducible refine Kd.C_drew ?_))); (case side2 => exact (Kd.R_reads' HO_389001.out).2.1); rintro e w19 ⟨rfl, hb⟩; refine ⟨_, rfl, ?_⟩; have n0_ := Aside0.mk (Kd.R_below zq7_6 hb); have n1_ := Aside0.mk (blk_below (g := gb379) (o := .cells #[.int .i64 a0_0, .slice A0_1 l0_1.length c0_1] 30 (0, 0)) zq7_4 hb); have n2_ := Aside0.mk (blk_below (g := gb388) (o := .cells #[.int .i64 t384, .slice Ao12 t385.length co12] 24 (0, 0)) zq7_5 hb); have n3_ := Aside0.mk (below_step zq7_0 hb); clear HO_389001; clear BK379; clear BK388; clear HB; have HO_389001 := n0_; have BK379 := n1_; have BK388 := n2_; have HB := n3_; clear n0_ n1_ n2_ n3_; (try clear hb); (try clear hb2); (try clear hk); (try clear hi); have hcz20_0 : w19.cell? ⟨gb388, 0, none⟩ = some (.int .i64 t384) := (blk_cell BK388.out 0).trans rfl; have hcz20_1 : w19.cell? ⟨gb388, 1, none⟩ = some (.slice Ao12 t385.length co12) := (blk_cell BK388.out 1).trans rfl; have hfz20_0 := blk_frozen BK388.out 0; have hfz20_1 := blk_frozen BK388.out 1) | ((with_reducible refine gate_callee (f := 13) rfl ?_); refine goesL_ (some 17) rfl rfl Try.func13 (by kernel_rfl) rfl #[.agg #[.int .i64 t384, .slice Ao12 t385.length co12], .int .i64 x5_1] rfl zq7_2 ?_; (with_reducible refine (span_Has.calls k1 t384 _ _ t385 x5_1 true _ ?side1 ?side2 A15.out).mono ?_); (case side1 => repeat (first | exact (Kd.R_reads' HO_389001.out).2.2 | (with_reducible refine Kd.C_alloc ?_ _) | (with_reducible refine Kd.C_drewN ?_ _) | (with_reducible refine Kd.C_drew ?_))); (case side2 => exact (Kd.R_reads' HO_389001.out).2.1); rintro e w21 ⟨rfl, hb⟩; refine ⟨_, rfl, ?_⟩; have n0_ := Aside0.mk (Kd.R_below zq7_6 hb); have n1_ := Aside0.mk (blk_below (g := gb379) (o := .cells #[.int .i64 a0_0, .slice A0_1 l0_1.length c0_1] 30 (0, 0)) zq7_4 hb); have n2_ := Aside0.mk (blk_below (g := gb388) (o := .cells #[.int .i64 t384, .slice Ao12 t385.length co12] 24 (0, 0)) zq7_5 hb); have n3_ := Aside0.mk (below_step zq7_0 hb); clear HO_389001; clear BK379; clear BK388; clear HB; have HO_389001 := n0_; have BK379 := n1_; have BK388 := n2_; have HB := n3_; clear n0_ n1_ n2_ n3_; (try clear hb); (try clear hb2); (try clear hk); (try clear hi)))
     go_roundg k1
     case measure => have := HK1.out; omega
     case rel => exact ⟨(x4_1), (wrap64 (x5_1 + 1)), zq7_9, zq7_9, H', ⟨by have := HK1.out; omega⟩, ⟨by (with_reducible repeat (first | apply Kd.R_alloc | apply Kd.R_drewN | apply Kd.R_drew)); exact HO_389001.out⟩, ⟨by (with_reducible repeat (first | refine blk_drewN ?_ _ | refine blk_drew ?_ | refine blk_alloc ?_ _)); exact BK379.out⟩, ⟨by (with_reducible repeat (first | refine blk_drewN ?_ _ | refine blk_drew ?_ | refine blk_alloc ?_ _)); exact BK388.out⟩, ⟨by repeat (first | (with_reducible first | exact HB.out | apply below_alloc | apply pw_below_drewN | apply below_drew1 | refine below_set ?_ GE379.out | refine below_set ?_ GE388.out) | exact HB.out)⟩⟩
    ·replace c16 := Bool.eq_false_iff.mpr c16
     subst c16
     have H1 : (cenotaphlaw02_SpanHoles.l0 k1 (wrap64 (x4_1 + 1)) (wrap64 (x5_1 + 1)) t384 t385) = some r := by rw [if_neg (show ¬ (false = true) by decide)] at H; exact H
     clear H
     have H := H1
     clear H1
     have H' := Aside0.mk H
     clear H
     have hnb22 := NB388_379.out
     have hnc22 := NB379_388.out
     have hcz23_0 : wr.cell? ⟨gb388, 0, none⟩ = some (.int .i64 t384) := (blk_cell BK388.out 0).trans rfl
     have hcz23_1 : wr.cell? ⟨gb388, 1, none⟩ = some (.slice Ao12 t385.length co12) := (blk_cell BK388.out 1).trans rfl
     have hfz23_0 := blk_frozen BK388.out 0
     have hfz23_1 := blk_frozen BK388.out 1
     go_wp2_with (first | ((with_reducible refine gate_callee (f := 24) rfl ?_); refine goesL_ (some 11) rfl rfl Try.func24 (by kernel_rfl) rfl #[.agg #[.int .i64 t384, .slice Ao12 t385.length co12]] rfl zq7_2 ?_; (with_reducible refine (span_Top.calls t384 _ _ t385 t389 _ ?side1 ?side2 A13.out).mono ?_); (case side1 => repeat (first | exact (Kd.R_reads' HO_389001.out).2.2 | (with_reducible refine Kd.C_alloc ?_ _) | (with_reducible refine Kd.C_drewN ?_ _) | (with_reducible refine Kd.C_drew ?_))); (case side2 => exact (Kd.R_reads' HO_389001.out).2.1); rintro e w24 ⟨rfl, hb⟩; refine ⟨_, rfl, ?_⟩; have n0_ := Aside0.mk (Kd.R_below zq7_6 hb); have n1_ := Aside0.mk (blk_below (g := gb379) (o := .cells #[.int .i64 a0_0, .slice A0_1 l0_1.length c0_1] 30 (0, 0)) zq7_4 hb); have n2_ := Aside0.mk (blk_below (g := gb388) (o := .cells #[.int .i64 t384, .slice Ao12 t385.length co12] 24 (0, 0)) zq7_5 hb); have n3_ := Aside0.mk (below_step zq7_0 hb); clear HO_389001; clear BK379; clear BK388; clear HB; have HO_389001 := n0_; have BK379 := n1_; have BK388 := n2_; have HB := n3_; clear n0_ n1_ n2_ n3_; (try clear hb); (try clear hb2); (try clear hk); (try clear hi); have hcz25_0 : w24.cell? ⟨gb388, 0, none⟩ = some (.int .i64 t384) := (blk_cell BK388.out 0).trans rfl; have hcz25_1 : w24.cell? ⟨gb388, 1, none⟩ = some (.slice Ao12 t385.length co12) := (blk_cell BK388.out 1).trans rfl; have hfz25_0 := blk_frozen BK388.out 0; have hfz25_1 := blk_frozen BK388.out 1) | ((with_reducible refine gate_callee (f := 13) rfl ?_); refine goesL_ (some 17) rfl rfl Try.func13 (by kernel_rfl) rfl #[.agg #[.int .i64 t384, .slice Ao12 t385.length co12], .int .i64 x5_1] rfl zq7_2 ?_; (with_reducible refine (span_Has.calls k1 t384 _ _ t385 x5_1 false _ ?side1 ?side2 A15.out).mono ?_); (case side1 => repeat (first | exact (Kd.R_reads' HO_389001.out).2.2 | (with_reducible refine Kd.C_alloc ?_ _) | (with_reducible refine Kd.C_drewN ?_ _) | (with_reducible refine Kd.C_drew ?_))); (case side2 => exact (Kd.R_reads' HO_389001.out).2.1); rintro e w26 ⟨rfl, hb⟩; refine ⟨_, rfl, ?_⟩; have n0_ := Aside0.mk (Kd.R_below zq7_6 hb); have n1_ := Aside0.mk (blk_below (g := gb379) (o := .cells #[.int .i64 a0_0, .slice A0_1 l0_1.length c0_1] 30 (0, 0)) zq7_4 hb); have n2_ := Aside0.mk (blk_below (g := gb388) (o := .cells #[.int .i64 t384, .slice Ao12 t385.length co12] 24 (0, 0)) zq7_5 hb); have n3_ := Aside0.mk (below_step zq7_0 hb); clear HO_389001; clear BK379; clear BK388; clear HB; have HO_389001 := n0_; have BK379 := n1_; have BK388 := n2_; have HB := n3_; clear n0_ n1_ n2_ n3_; (try clear hb); (try clear hb2); (try clear hk); (try clear hi)))
     go_roundg k1
     case measure => have := HK1.out; omega
     case rel => exact ⟨(wrap64 (x4_1 + 1)), (wrap64 (x5_1 + 1)), zq7_9, zq7_9, H', ⟨by have := HK1.out; omega⟩, ⟨by (with_reducible repeat (first | apply Kd.R_alloc | apply Kd.R_drewN | apply Kd.R_drew)); exact HO_389001.out⟩, ⟨by (with_reducible repeat (first | refine blk_drewN ?_ _ | refine blk_drew ?_ | refine blk_alloc ?_ _)); exact BK379.out⟩, ⟨by (with_reducible repeat (first | refine blk_drewN ?_ _ | refine blk_drew ?_ | refine blk_alloc ?_ _)); exact BK388.out⟩, ⟨by repeat (first | (with_reducible first | exact HB.out | apply below_alloc | apply pw_below_drewN | apply below_drew1 | refine below_set ?_ GE379.out | refine below_set ?_ GE388.out) | exact HB.out)⟩⟩
   ·rw [if_neg c14] at H
    have c14b0 : decide (x5_1 ≤ t389) = false := decide_eq_false c14
    clear c14
    replace H := Option.bind_eq_some_iff.mp H
    obtain ⟨t391, A270, H⟩ := H
    replace H : (if t391 = true then ((span_Top.f t384 t385).bind fun t392 => ((span_Count.f t384 t385).bind fun t393 => (if x4_1 = (wrap64 (t392 - t393)) then (if (((t385.length : Int) == 0) == (x4_1 == 0)) = true then ((span_First.f t384).bind fun bt394 => ((span_Within.f k1 bt394.1 bt394.2 t384 t385).bind fun t398 => (if t398 = true then (if (t385.length : Int) = 0 then (some true) else ((span_Has.f k1 t384 t385 (wrap64 (t384 + 1))).bind fun t399 => (some (!t399)))) else (none)))) else (none)) else (none)))) else (none)) = some r := H
    have A27 := Aside0.mk A270
    clear A270
    by_cases c28 : t391 = true
    ·subst c28
     have H1 : ((span_Top.f t384 t385).bind fun t392 => ((span_Count.f t384 t385).bind fun t393 => (if x4_1 = (wrap64 (t392 - t393)) then (if (((t385.length : Int) == 0) == (x4_1 == 0)) = true then ((span_First.f t384).bind fun bt394 => ((span_Within.f k1 bt394.1 bt394.2 t384 t385).bind fun t398 => (if t398 = true then (if (t385.length : Int) = 0 then (some true) else ((span_Has.f k1 t384 t385 (wrap64 (t384 + 1))).bind fun t399 => (some (!t399)))) else (none)))) else (none)) else (none)))) = some r := by rw [if_pos rfl] at H; exact H
     clear H
     have H := H1
     clear H1
     replace H := Option.bind_eq_some_iff.mp H
     obtain ⟨t392, A290, H⟩ := H
     replace H : ((span_Count.f t384 t385).bind fun t393 => (if x4_1 = (wrap64 (t392 - t393)) then (if (((t385.length : Int) == 0) == (x4_1 == 0)) = true then ((span_First.f t384).bind fun bt394 => ((span_Within.f k1 bt394.1 bt394.2 t384 t385).bind fun t398 => (if t398 = true then (if (t385.length : Int) = 0 then (some true) else ((span_Has.f k1 t384 t385 (wrap64 (t384 + 1))).bind fun t399 => (some (!t399)))) else (none)))) else (none)) else (none))) = some r := H
     have A29 := Aside0.mk A290
     clear A290
     replace H := Option.bind_eq_some_iff.mp H
     obtain ⟨t393, A300, H⟩ := H
     replace H : (if x4_1 = (wrap64 (t392 - t393)) then (if (((t385.length : Int) == 0) == (x4_1 == 0)) = true then ((span_First.f t384).bind fun bt394 => ((span_Within.f k1 bt394.1 bt394.2 t384 t385).bind fun t398 => (if t398 = true then (if (t385.length : Int) = 0 then (some true) else ((span_Has.f k1 t384 t385 (wrap64 (t384 + 1))).bind fun t399 => (some (!t399)))) else (none)))) else (none)) else (none)) = some r := H
     have A30 := Aside0.mk A300
     clear A300
     by_cases c31 : x4_1 = (wrap64 (t392 - t393))
     ·rw [if_pos c31] at H
      have c31b0 : (x4_1 == (wrap64 (t392 - t393))) = true := beq_iff_eq.mpr c31
      have c31b1 : (x4_1 != (wrap64 (t392 - t393))) = false := bne_eq_false_iff_eq.mpr c31
      clear c31
      by_cases c32 : (((t385.length : Int) == 0) == (x4_1 == 0)) = true
      ·rw [if_pos c32] at H
       have c32b0 : (((t385.length : Int) == 0) == (x4_1 == 0)) = true := c32
       (try (have c32b1 : decide (((t385.length : Int) == 0) = (x4_1 == 0)) = true := by simpa using c32))
       (try (have c32b2 : (((t385.length : Int) == 0) == (x4_1 == 0)) = true := by simpa using c32))
       clear c32
       replace H := Option.bind_eq_some_iff.mp H
       obtain ⟨⟨t394, t395⟩, A330, H⟩ := H
       replace H : ((span_Within.f k1 t394 t395 t384 t385).bind fun t398 => (if t398 = true then (if (t385.length : Int) = 0 then (some true) else ((span_Has.f k1 t384 t385 (wrap64 (t384 + 1))).bind fun t399 => (some (!t399)))) else (none))) = some r := H
       have A33 := Aside0.mk A330
       clear A330
       replace H := Option.bind_eq_some_iff.mp H
       obtain ⟨t398, A340, H⟩ := H
       replace H : (if t398 = true then (if (t385.length : Int) = 0 then (some true) else ((span_Has.f k1 t384 t385 (wrap64 (t384 + 1))).bind fun t399 => (some (!t399)))) else (none)) = some r := H
       have A34 := Aside0.mk A340
       clear A340
       by_cases c35 : t398 = true
       ·subst c35
        have H1 : (if (t385.length : Int) = 0 then (some true) else ((span_Has.f k1 t384 t385 (wrap64 (t384 + 1))).bind fun t399 => (some (!t399)))) = some r := by rw [if_pos rfl] at H; exact H
        clear H
        have H := H1
        clear H1
        by_cases c36 : (t385.length : Int) = 0
        ·rw [if_pos c36] at H
         have c36b0 : ((t385.length : Int) == 0) = true := beq_iff_eq.mpr c36
         have c36z : (x4_1 == 0) = true := by have h_ := c32b0; rw [c36b0] at h_; revert h_; generalize (x4_1 == 0) = b_; intro h_; cases b_ <;> first | rfl | (exact absurd h_ (by decide))
         have c36b1 : ((t385.length : Int) != 0) = false := bne_eq_false_iff_eq.mpr c36
         clear c36
         obtain rfl := Option.some.inj H
         have hnb37 := NB388_379.out
         have hnc37 := NB379_388.out
         have hcz38_0 : wr.cell? ⟨gb388, 0, none⟩ = some (.int .i64 t384) := (blk_cell BK388.out 0).trans rfl
         have hcz38_1 : wr.cell? ⟨gb388, 1, none⟩ = some (.slice Ao12 t385.length co12) := (blk_cell BK388.out 1).trans rfl
         have hfz38_0 := blk_frozen BK388.out 0
         have hfz38_1 := blk_frozen BK388.out 1
         try go_wp2_with (first | ((with_reducible refine gate_callee (f := 24) rfl ?_); refine goesL_ (some 11) rfl rfl Try.func24 (by kernel_rfl) rfl #[.agg #[.int .i64 t384, .slice Ao12 t385.length co12]] rfl zq7_2 ?_; (with_reducible refine (span_Top.calls t384 _ _ t385 t389 _ ?side1 ?side2 A13.out).mono ?_); (case side1 => repeat (first | exact (Kd.R_reads' HO_389001.out).2.2 | (with_reducible refine Kd.C_alloc ?_ _) | (with_reducible refine Kd.C_drewN ?_ _) | (with_reducible refine Kd.C_drew ?_))); (case side2 => exact (Kd.R_reads' HO_389001.out).2.1); rintro e w39 ⟨rfl, hb⟩; refine ⟨_, rfl, ?_⟩; have n0_ := Aside0.mk (Kd.R_below zq7_6 hb); have n1_ := Aside0.mk (blk_below (g := gb379) (o := .cells #[.int .i64 a0_0, .slice A0_1 l0_1.length c0_1] 30 (0, 0)) zq7_4 hb); have n2_ := Aside0.mk (blk_below (g := gb388) (o := .cells #[.int .i64 t384, .slice Ao12 t385.length co12] 24 (0, 0)) zq7_5 hb); have n3_ := Aside0.mk (below_step zq7_0 hb); clear HO_389001; clear BK379; clear BK388; clear HB; have HO_389001 := n0_; have BK379 := n1_; have BK388 := n2_; have HB := n3_; clear n0_ n1_ n2_ n3_; (try clear hb); (try clear hb2); (try clear hk); (try clear hi)))
         replace HO_389001 := Aside0.mk (Kd.R_drew HO_389001.out)
         replace BK379 := Aside0.mk (blk_drew BK379.out)
         replace BK388 := Aside0.mk (blk_drew BK388.out)
         replace HB := Aside0.mk (below_drew1 HB.out)
         refine start_ (n := 41) (S := fun w' => w'.cell? ⟨gb388, 0, none⟩ = some (.int .i64 t384) ∧ w'.cell? ⟨gb388, 1, none⟩ = some (.slice Ao12 t385.length co12)) (ds := []) #[false, false, false, false, false, false, false, false, false, false, false, false, false, false, false, false, false, false, false, false, false, false, false, false, false, false, false, false, false, false, false, false, false, false, false, false, false, false, false, false, false] (by kernel_rfl) rfl rfl ⟨(blk_cell BK388.out 0).trans rfl, (blk_cell BK388.out 1).trans rfl⟩ (fun hHeld => ?_); refine with_tabW cenotaphlaw02_SpanHoles.tab8 cenotaphlaw02_SpanHoles.bits8 (fun HT_ HW_ => ?_)
         generalize w39.drew = w40 at HO_389001 BK379 BK388 HB hHeld ⊢
         refine one_ (i := 0) (N := some 21) #[true, false, false, false, false, false, false, false, false, false, false, false, false, false, false, false, false, false, false, false, false, false, false, false, false, false, false, false, false, false, false, false, false, false, false, false, false, false, false, false, false] rfl rfl (one_of HT_.out (by kernel_rfl)) (by decide) (fun K hK => ?_)
         refine goes_ Try.func11 (by kernel_rfl) rfl #[] (by rfl) rfl rfl zq7_2 ?_
         with_reducible refine (cenotaphlaw02_told.calls k1  true _ A27.out).mono ?_
         rintro e w41 ⟨rfl, hb⟩
         refine ⟨_, rfl, ?_⟩
         replace HO_389001 := Aside0.mk (Kd.R_below zq7_6 hb)
         replace BK379 := Aside0.mk (blk_below (g := gb379) (o := .cells #[.int .i64 a0_0, .slice A0_1 l0_1.length c0_1] 30 (0, 0)) zq7_4 hb)
         replace BK388 := Aside0.mk (blk_below (g := gb388) (o := .cells #[.int .i64 t384, .slice Ao12 t385.length co12] 24 (0, 0)) zq7_5 hb)
         replace HB := Aside0.mk (below_step zq7_0 hb)
         (try clear hb)
         (try clear hb2)
         (try clear hk)
         (try clear hi)
         refine hK.out _ _ ⟨(blk_cell BK388.out 0).trans rfl, (blk_cell BK388.out 1).trans rfl⟩ (fun hHeld => ?_)
         clear hK K
         refine norm_ (a' := ?_) ?_ ?_
         rotate_left
         ·show Act.put _ (some 21) _ = _
          simp only [Act.put, List.setIfInBounds_toArray, List.set_cons_zero, List.set_cons_succ, i64_w, i32_w]
          rfl
         refine pure_ (i := 1) (N := some 22) (v := ?_) (a' := ?_) #[true, true, false, false, false, false, false, false, false, false, false, false, false, false, false, false, false, false, false, false, false, false, false, false, false, false, false, false, false, false, false, false, false, false, false, false, false, false, false, false, false] rfl rfl (any_of HT_.out (by kernel_rfl)) (fun _ _ _ h => h) (Or.inl ⟨by rfl, ?_⟩) ?_ ?_
         rotate_left
         ·intro w'
          go_simp
          with_reducible rfl
         rotate_left
         ·simp only [Act.put, List.setIfInBounds_toArray, List.set_cons_zero, List.set_cons_succ, i64_w, i32_w]
          rfl
         refine pure_ (i := 2) (N := some 23) (v := ?_) (a' := ?_) #[true, true, true, false, false, false, false, false, false, false, false, false, false, false, false, false, false, false, false, false, false, false, false, false, false, false, false, false, false, false, false, false, false, false, false, false, false, false, false, false, false] rfl rfl (any_of HT_.out (by kernel_rfl)) (fun _ _ _ h => h) (Or.inl ⟨by rfl, ?_⟩) ?_ ?_
         rotate_left
         ·intro w'
          go_simp
          with_reducible rfl
         rotate_left
         ·simp only [Act.put, List.setIfInBounds_toArray, List.set_cons_zero, List.set_cons_succ, i64_w, i32_w]
          rfl
         refine take_ (i := 3) (N := some 24) (v := ?_) (a' := ?_) #[true, true, true, true, false, false, false, false, false, false, false, false, false, false, false, false, false, false, false, false, false, false, false, false, false, false, false, false, false, false, false, false, false, false, false, false, false, false, false, false, false] rfl rfl (take_ofW HT_.out HW_.out (by kernel_rfl)) (fun _ _ _ h => h) (Or.inl ⟨by rfl, ?_⟩) hHeld ?_ ?_
         rotate_left
         ·rintro w' ⟨s0, s1⟩
          go_simp
          with_reducible rfl
         rotate_left
         ·simp only [Act.put, List.setIfInBounds_toArray, List.set_cons_zero, List.set_cons_succ, i64_w, i32_w]
          rfl
         refine take_ (i := 5) (N := some 26) (v := ?_) (a' := ?_) #[true, true, true, true, false, true, false, false, false, false, false, false, false, false, false, false, false, false, false, false, false, false, false, false, false, false, false, false, false, false, false, false, false, false, false, false, false, false, false, false, false] rfl rfl (take_ofW HT_.out HW_.out (by kernel_rfl)) (fun _ _ _ h => h) (Or.inl ⟨by rfl, ?_⟩) hHeld ?_ ?_
         rotate_left
         ·rintro w' ⟨s0, s1⟩
          go_simp
          with_reducible rfl
         rotate_left
         ·simp only [Act.put, List.setIfInBounds_toArray, List.set_cons_zero, List.set_cons_succ, i64_w, i32_w]
          rfl
         refine one_ (i := 4) (N := some 25) #[true, true, true, true, true, true, false, false, false, false, false, false, false, false, false, false, false, false, false, false, false, false, false, false, false, false, false, false, false, false, false, false, false, false, false, false, false, false, false, false, false] rfl rfl (one_of HT_.out (by kernel_rfl)) (by decide) (fun K hK => ?_)
         refine goes_ Try.func24 (by kernel_rfl) rfl #[.agg #[.int .i64 t384, .slice Ao12 t385.length co12]] (by rfl) rfl rfl zq7_2 ?_
         with_reducible refine (span_Top.calls t384 _ _ t385 t392 _ ?side1 ?side2 A29.out).mono ?_
         (case side1 => repeat (first | exact (Kd.R_reads' HO_389001.out).2.2 | (with_reducible refine Kd.C_alloc ?_ _) | (with_reducible refine Kd.C_drewN ?_ _) | (with_reducible refine Kd.C_drew ?_)))
         (case side2 => exact (Kd.R_reads' HO_389001.out).2.1)
         rintro e w42 ⟨rfl, hb⟩
         refine ⟨_, rfl, ?_⟩
         replace HO_389001 := Aside0.mk (Kd.R_below zq7_6 hb)
         replace BK379 := Aside0.mk (blk_below (g := gb379) (o := .cells #[.int .i64 a0_0, .slice A0_1 l0_1.length c0_1] 30 (0, 0)) zq7_4 hb)
         replace BK388 := Aside0.mk (blk_below (g := gb388) (o := .cells #[.int .i64 t384, .slice Ao12 t385.length co12] 24 (0, 0)) zq7_5 hb)
         replace HB := Aside0.mk (below_step zq7_0 hb)
         (try clear hb)
         (try clear hb2)
         (try clear hk)
         (try clear hi)
         refine hK.out _ _ ⟨(blk_cell BK388.out 0).trans rfl, (blk_cell BK388.out 1).trans rfl⟩ (fun hHeld => ?_)
         clear hK K
         refine norm_ (a' := ?_) ?_ ?_
         rotate_left
         ·show Act.put _ (some 25) _ = _
          simp only [Act.put, List.setIfInBounds_toArray, List.set_cons_zero, List.set_cons_succ, i64_w, i32_w]
          rfl
         refine one_ (i := 6) (N := some 27) #[true, true, true, true, true, true, true, false, false, false, false, false, false, false, false, false, false, false, false, false, false, false, false, false, false, false, false, false, false, false, false, false, false, false, false, false, false, false, false, false, false] rfl rfl (one_of HT_.out (by kernel_rfl)) (by decide) (fun K hK => ?_)
         refine goes_ Try.func12 (by kernel_rfl) rfl #[.agg #[.int .i64 t384, .slice Ao12 t385.length co12]] (by rfl) rfl rfl zq7_2 ?_
         with_reducible refine (span_Count.calls t384 _ _ t385 t393 _ ?side1 ?side2 A30.out).mono ?_
         (case side1 => repeat (first | exact (Kd.R_reads' HO_389001.out).2.2 | (with_reducible refine Kd.C_alloc ?_ _) | (with_reducible refine Kd.C_drewN ?_ _) | (with_reducible refine Kd.C_drew ?_)))
         (case side2 => exact (Kd.R_reads' HO_389001.out).2.1)
         rintro e w43 ⟨rfl, hb⟩
         refine ⟨_, rfl, ?_⟩
         replace HO_389001 := Aside0.mk (Kd.R_below zq7_6 hb)
         replace BK379 := Aside0.mk (blk_below (g := gb379) (o := .cells #[.int .i64 a0_0, .slice A0_1 l0_1.length c0_1] 30 (0, 0)) zq7_4 hb)
         replace BK388 := Aside0.mk (blk_below (g := gb388) (o := .cells #[.int .i64 t384, .slice Ao12 t385.length co12] 24 (0, 0)) zq7_5 hb)
         replace HB := Aside0.mk (below_step zq7_0 hb)
         (try clear hb)
         (try clear hb2)
         (try clear hk)
         (try clear hi)
         refine hK.out _ _ ⟨(blk_cell BK388.out 0).trans rfl, (blk_cell BK388.out 1).trans rfl⟩ (fun hHeld => ?_)
         clear hK K
         refine norm_ (a' := ?_) ?_ ?_
         rotate_left
         ·show Act.put _ (some 27) _ = _
          simp only [Act.put, List.setIfInBounds_toArray, List.set_cons_zero, List.set_cons_succ, i64_w, i32_w]
          rfl
         refine pure_ (i := 7) (N := some 28) (v := ?_) (a' := ?_) #[true, true, true, true, true, true, true, true, false, false, false, false, false, false, false, false, false, false, false, false, false, false, false, false, false, false, false, false, false, false, false, false, false, false, false, false, false, false, false, false, false] rfl rfl (any_of HT_.out (by kernel_rfl)) (fun _ _ _ h => h) (Or.inl ⟨by rfl, ?_⟩) ?_ ?_
         rotate_left
         ·intro w'
          go_simp
          with_reducible rfl
         rotate_left
         ·simp only [Act.put, List.setIfInBounds_toArray, List.set_cons_zero, List.set_cons_succ, i64_w, i32_w]
          rfl
         refine pure_ (i := 8) (N := some 29) (v := ?_) (a' := ?_) #[true, true, true, true, true, true, true, true, true, false, false, false, false, false, false, false, false, false, false, false, false, false, false, false, false, false, false, false, false, false, false, false, false, false, false, false, false, false, false, false, false] rfl rfl (any_of HT_.out (by kernel_rfl)) (fun _ _ _ h => h) (Or.inl ⟨by rfl, ?_⟩) ?_ ?_
         rotate_left
         ·intro w'
          go_simp
          with_reducible rfl
         rotate_left
         ·simp only [Act.put, List.setIfInBounds_toArray, List.set_cons_zero, List.set_cons_succ, i64_w, i32_w]
          rfl
         refine pure_ (i := 9) (N := some 30) (v := ?_) (a' := ?_) #[true, true, true, true, true, true, true, true, true, true, false, false, false, false, false, false, false, false, false, false, false, false, false, false, false, false, false, false, false, false, false, false, false, false, false, false, false, false, false, false, false] rfl rfl (any_of HT_.out (by kernel_rfl)) (fun _ _ _ h => h) (Or.inl ⟨by rfl, ?_⟩) ?_ ?_
         rotate_left
         ·intro w'
          go_simp
          with_reducible rfl
         rotate_left
         ·simp only [Act.put, List.setIfInBounds_toArray, List.set_cons_zero, List.set_cons_succ, i64_w, i32_w]
          rfl
         refine pure_ (i := 10) (N := some 31) (v := ?_) (a' := ?_) #[true, true, true, true, true, true, true, true, true, true, true, false, false, false, false, false, false, false, false, false, false, false, false, false, false, false, false, false, false, false, false, false, false, false, false, false, false, false, false, false, false] rfl rfl (any_of HT_.out (by kernel_rfl)) (fun _ _ _ h => h) (Or.inl ⟨by rfl, ?_⟩) ?_ ?_
         rotate_left
         ·intro w'
          go_simp
          with_reducible rfl
         rotate_left
         ·simp only [Act.put, List.setIfInBounds_toArray, List.set_cons_zero, List.set_cons_succ, i64_w, i32_w]
          rfl
         refine pure_ (i := 11) (N := some 32) (v := ?_) (a' := ?_) #[true, true, true, true, true, true, true, true, true, true, true, true, false, false, false, false, false, false, false, false, false, false, false, false, false, false, false, false, false, false, false, false, false, false, false, false, false, false, false, false, false] rfl rfl (any_of HT_.out (by kernel_rfl)) (fun _ _ _ h => h) (Or.inl ⟨by rfl, ?_⟩) ?_ ?_
         rotate_left
         ·intro w'
          go_simp
          with_reducible rfl
         rotate_left
         ·simp only [Act.put, List.setIfInBounds_toArray, List.set_cons_zero, List.set_cons_succ, i64_w, i32_w]
          rfl
         refine pure_ (i := 15) (N := some 36) (v := ?_) (a' := ?_) #[true, true, true, true, true, true, true, true, true, true, true, true, false, false, false, true, false, false, false, false, false, false, false, false, false, false, false, false, false, false, false, false, false, false, false, false, false, false, false, false, false] rfl rfl (any_of HT_.out (by kernel_rfl)) (fun _ _ _ h => h) (Or.inl ⟨by rfl, ?_⟩) ?_ ?_
         rotate_left
         ·intro w'
          go_simp
          with_reducible rfl
         rotate_left
         ·simp only [Act.put, List.setIfInBounds_toArray, List.set_cons_zero, List.set_cons_succ, i64_w, i32_w]
          rfl
         refine pure_ (i := 16) (N := some 37) (v := ?_) (a' := ?_) #[true, true, true, true, true, true, true, true, true, true, true, true, false, false, false, true, true, false, false, false, false, false, false, false, false, false, false, false, false, false, false, false, false, false, false, false, false, false, false, false, false] rfl rfl (any_of HT_.out (by kernel_rfl)) (fun _ _ _ h => h) (Or.inl ⟨by rfl, ?_⟩) ?_ ?_
         rotate_left
         ·intro w'
          go_simp
          with_reducible rfl
         rotate_left
         ·simp only [Act.put, List.setIfInBounds_toArray, List.set_cons_zero, List.set_cons_succ, i64_w, i32_w]
          rfl
         refine take_ (i := 12) (N := some 33) (v := ?_) (a' := ?_) #[true, true, true, true, true, true, true, true, true, true, true, true, true, false, false, true, true, false, false, false, false, false, false, false, false, false, false, false, false, false, false, false, false, false, false, false, false, false, false, false, false] rfl rfl (take_ofW HT_.out HW_.out (by kernel_rfl)) (fun _ _ _ h => h) (Or.inl ⟨by rfl, ?_⟩) hHeld ?_ ?_
         rotate_left
         ·rintro w' ⟨s0, s1⟩
          go_simp
          with_reducible rfl
         rotate_left
         ·simp only [Act.put, List.setIfInBounds_toArray, List.set_cons_zero, List.set_cons_succ, i64_w, i32_w]
          rfl
         refine pure_ (i := 13) (N := some 34) (v := ?_) (a' := ?_) #[true, true, true, true, true, true, true, true, true, true, true, true, true, true, false, true, true, false, false, false, false, false, false, false, false, false, false, false, false, false, false, false, false, false, false, false, false, false, false, false, false] rfl rfl (any_of HT_.out (by kernel_rfl)) (fun _ _ _ h => h) (Or.inl ⟨by rfl, ?_⟩) ?_ ?_
         rotate_left
         ·intro w'
          go_simp
          with_reducible rfl
         rotate_left
         ·simp only [Act.put, List.setIfInBounds_toArray, List.set_cons_zero, List.set_cons_succ, i64_w, i32_w]
          rfl
         refine pure_ (i := 14) (N := some 35) (v := ?_) (a' := ?_) #[true, true, true, true, true, true, true, true, true, true, true, true, true, true, true, true, true, false, false, false, false, false, false, false, false, false, false, false, false, false, false, false, false, false, false, false, false, false, false, false, false] rfl rfl (any_of HT_.out (by kernel_rfl)) (fun _ _ _ h => h) (Or.inl ⟨by rfl, ?_⟩) ?_ ?_
         rotate_left
         ·intro w'
          go_simp
          with_reducible rfl
         rotate_left
         ·simp only [Act.put, List.setIfInBounds_toArray, List.set_cons_zero, List.set_cons_succ, i64_w, i32_w]
          rfl
         refine pure_ (i := 17) (N := some 38) (v := ?_) (a' := ?_) #[true, true, true, true, true, true, true, true, true, true, true, true, true, true, true, true, true, true, false, false, false, false, false, false, false, false, false, false, false, false, false, false, false, false, false, false, false, false, false, false, false] rfl rfl (any_of HT_.out (by kernel_rfl)) (fun _ _ _ h => h) (Or.inl ⟨by rfl, ?_⟩) ?_ ?_
         rotate_left
         ·intro w'
          go_simp
          with_reducible rfl
         rotate_left
         ·simp only [Act.put, List.setIfInBounds_toArray, List.set_cons_zero, List.set_cons_succ, i64_w, i32_w]
          rfl
         refine pure_ (i := 18) (N := some 39) (v := ?_) (a' := ?_) #[true, true, true, true, true, true, true, true, true, true, true, true, true, true, true, true, true, true, true, false, false, false, false, false, false, false, false, false, false, false, false, false, false, false, false, false, false, false, false, false, false] rfl rfl (any_of HT_.out (by kernel_rfl)) (fun _ _ _ h => h) (Or.inl ⟨by rfl, ?_⟩) ?_ ?_
         rotate_left
         ·intro w'
          go_simp
          with_reducible rfl
         rotate_left
         ·simp only [Act.put, List.setIfInBounds_toArray, List.set_cons_zero, List.set_cons_succ, i64_w, i32_w]
          rfl
         refine pure_ (i := 19) (N := some 40) (v := ?_) (a' := ?_) #[true, true, true, true, true, true, true, true, true, true, true, true, true, true, true, true, true, true, true, true, false, false, false, false, false, false, false, false, false, false, false, false, false, false, false, false, false, false, false, false, false] rfl rfl (any_of HT_.out (by kernel_rfl)) (fun _ _ _ h => h) (Or.inl ⟨by rfl, ?_⟩) ?_ ?_
         rotate_left
         ·intro w'
          go_simp
          with_reducible rfl
         rotate_left
         ·simp only [Act.put, List.setIfInBounds_toArray, List.set_cons_zero, List.set_cons_succ, i64_w, i32_w]
          rfl
         refine pure_ (i := 20) (N := some 41) (v := ?_) (a' := ?_) #[true, true, true, true, true, true, true, true, true, true, true, true, true, true, true, true, true, true, true, true, true, false, false, false, false, false, false, false, false, false, false, false, false, false, false, false, false, false, false, false, false] rfl rfl (any_of HT_.out (by kernel_rfl)) (fun _ _ _ h => h) (Or.inl ⟨by rfl, ?_⟩) ?_ ?_
         rotate_left
         ·intro w'
          go_simp
          with_reducible rfl
         rotate_left
         ·simp only [Act.put, List.setIfInBounds_toArray, List.set_cons_zero, List.set_cons_succ, i64_w, i32_w]
          rfl
         refine take_ (i := 21) (N := some 42) (v := ?_) (a' := ?_) #[true, true, true, true, true, true, true, true, true, true, true, true, true, true, true, true, true, true, true, true, true, true, false, false, false, false, false, false, false, false, false, false, false, false, false, false, false, false, false, false, false] rfl rfl (take_ofW HT_.out HW_.out (by kernel_rfl)) (fun _ _ _ h => h) (Or.inl ⟨by rfl, ?_⟩) hHeld ?_ ?_
         rotate_left
         ·rintro w' ⟨s0, s1⟩
          go_simp
          with_reducible rfl
         rotate_left
         ·simp only [Act.put, List.setIfInBounds_toArray, List.set_cons_zero, List.set_cons_succ, i64_w, i32_w]
          rfl
         refine take_ (i := 23) (N := some 44) (v := ?_) (a' := ?_) #[true, true, true, true, true, true, true, true, true, true, true, true, true, true, true, true, true, true, true, true, true, true, false, true, false, false, false, false, false, false, false, false, false, false, false, false, false, false, false, false, false] rfl rfl (take_ofW HT_.out HW_.out (by kernel_rfl)) (fun _ _ _ h => h) (Or.inl ⟨by rfl, ?_⟩) hHeld ?_ ?_
         rotate_left
         ·rintro w' ⟨s0, s1⟩
          go_simp
          with_reducible rfl
         rotate_left
         ·simp only [Act.put, List.setIfInBounds_toArray, List.set_cons_zero, List.set_cons_succ, i64_w, i32_w]
          rfl
         refine one_ (i := 22) (N := some 43) #[true, true, true, true, true, true, true, true, true, true, true, true, true, true, true, true, true, true, true, true, true, true, true, true, false, false, false, false, false, false, false, false, false, false, false, false, false, false, false, false, false] rfl rfl (one_of HT_.out (by kernel_rfl)) (by decide) (fun K hK => ?_)
         refine goes_ Try.func10 (by kernel_rfl) rfl #[.int .i64 t384] (by rfl) rfl rfl zq7_2 ?_
         with_reducible refine (span_First.calls t384 t394 t395 _ A33.out).mono ?_
         rintro e w44 ⟨v396, rfl, ho0, hb⟩
         refine ⟨_, rfl, ?_⟩
         have HO397 := Aside0.mk (Kd.R_lower (Kd.R_new' ho0 (Kd.R_lt zq7_6)) (below_size zq7_0))
         replace HO_389001 := Aside0.mk (Kd.R_elder' zq7_6 (Kd.R_base ho0) hb)
         replace BK379 := Aside0.mk (blk_below (g := gb379) (o := .cells #[.int .i64 a0_0, .slice A0_1 l0_1.length c0_1] 30 (0, 0)) zq7_4 hb)
         replace BK388 := Aside0.mk (blk_below (g := gb388) (o := .cells #[.int .i64 t384, .slice Ao12 t385.length co12] 24 (0, 0)) zq7_5 hb)
         replace HB := Aside0.mk (below_step zq7_0 hb)
         (try clear hb)
         (try clear hb2)
         (try clear hk)
         (try clear hi)
         (try clear ho0)
         obtain ⟨Ao45, co45, eo45⟩ := Kd.R_slice HO397.out
         (first | subst eo45 | (injection eo45 with f1_ f2_ f3_; have f4_ := f1_.symm; have f5_ := f3_.symm; clear f1_ f2_ f3_; subst f4_; subst f5_))
         refine hK.out _ _ ⟨(blk_cell BK388.out 0).trans rfl, (blk_cell BK388.out 1).trans rfl⟩ (fun hHeld => ?_)
         clear hK K
         refine norm_ (a' := ?_) ?_ ?_
         rotate_left
         ·show Act.put _ (some 43) _ = _
          simp only [Act.put, List.setIfInBounds_toArray, List.set_cons_zero, List.set_cons_succ, i64_w, i32_w]
          rfl
         refine one_ (i := 24) (N := some 45) #[true, true, true, true, true, true, true, true, true, true, true, true, true, true, true, true, true, true, true, true, true, true, true, true, true, false, false, false, false, false, false, false, false, false, false, false, false, false, false, false, false] rfl rfl (one_of HT_.out (by kernel_rfl)) (by decide) (fun K hK => ?_)
         refine goes_ Try.func28 (by kernel_rfl) rfl #[.agg #[.int .i64 t394, .slice Ao45 t395.length co45], .agg #[.int .i64 t384, .slice Ao12 t385.length co12]] (by rfl) rfl rfl zq7_2 ?_
         with_reducible refine (span_Within.calls k1 t394 _ _ t395 t384 _ _ t385 true _ ?side1 ?side2 ?side3 ?side4 A34.out).mono ?_
         (case side1 => repeat (first | exact (Kd.R_reads' HO397.out).2.2 | (with_reducible refine Kd.C_alloc ?_ _) | (with_reducible refine Kd.C_drewN ?_ _) | (with_reducible refine Kd.C_drew ?_)))
         (case side2 => exact (Kd.R_reads' HO397.out).2.1)
         (case side3 => repeat (first | exact (Kd.R_reads' HO_389001.out).2.2 | (with_reducible refine Kd.C_alloc ?_ _) | (with_reducible refine Kd.C_drewN ?_ _) | (with_reducible refine Kd.C_drew ?_)))
         (case side4 => exact (Kd.R_reads' HO_389001.out).2.1)
         rintro e w46 ⟨rfl, hb⟩
         refine ⟨_, rfl, ?_⟩
         replace HO_389001 := Aside0.mk (Kd.R_below zq7_6 hb)
         replace HO397 := Aside0.mk (Kd.R_below zq7_8 hb)
         replace BK379 := Aside0.mk (blk_below (g := gb379) (o := .cells #[.int .i64 a0_0, .slice A0_1 l0_1.length c0_1] 30 (0, 0)) zq7_4 hb)
         replace BK388 := Aside0.mk (blk_below (g := gb388) (o := .cells #[.int .i64 t384, .slice Ao12 t385.length co12] 24 (0, 0)) zq7_5 hb)
         replace HB := Aside0.mk (below_step zq7_0 hb)
         (try clear hb)
         (try clear hb2)
         (try clear hk)
         (try clear hi)
         refine hK.out _ _ ⟨(blk_cell BK388.out 0).trans rfl, (blk_cell BK388.out 1).trans rfl⟩ (fun hHeld => ?_)
         clear hK K
         refine norm_ (a' := ?_) ?_ ?_
         rotate_left
         ·show Act.put _ (some 45) _ = _
          simp only [Act.put, List.setIfInBounds_toArray, List.set_cons_zero, List.set_cons_succ, i64_w, i32_w]
          rfl
         refine pure_ (i := 25) (N := some 46) (v := ?_) (a' := ?_) #[true, true, true, true, true, true, true, true, true, true, true, true, true, true, true, true, true, true, true, true, true, true, true, true, true, true, false, false, false, false, false, false, false, false, false, false, false, false, false, false, false] rfl rfl (any_of HT_.out (by kernel_rfl)) (fun _ _ _ h => h) (Or.inl ⟨by rfl, ?_⟩) ?_ ?_
         rotate_left
         ·intro w'
          go_simp
          with_reducible rfl
         rotate_left
         ·simp only [Act.put, List.setIfInBounds_toArray, List.set_cons_zero, List.set_cons_succ, i64_w, i32_w]
          rfl
         refine pure_ (i := 26) (N := some 47) (v := ?_) (a' := ?_) #[true, true, true, true, true, true, true, true, true, true, true, true, true, true, true, true, true, true, true, true, true, true, true, true, true, true, true, false, false, false, false, false, false, false, false, false, false, false, false, false, false] rfl rfl (any_of HT_.out (by kernel_rfl)) (fun _ _ _ h => h) (Or.inl ⟨by rfl, ?_⟩) ?_ ?_
         rotate_left
         ·intro w'
          go_simp
          with_reducible rfl
         rotate_left
         ·simp only [Act.put, List.setIfInBounds_toArray, List.set_cons_zero, List.set_cons_succ, i64_w, i32_w]
          rfl
         refine pure_ (i := 27) (N := some 48) (v := ?_) (a' := ?_) #[true, true, true, true, true, true, true, true, true, true, true, true, true, true, true, true, true, true, true, true, true, true, true, true, true, true, true, true, false, false, false, false, false, false, false, false, false, false, false, false, false] rfl rfl (any_of HT_.out (by kernel_rfl)) (fun _ _ _ h => h) (Or.inl ⟨by rfl, ?_⟩) ?_ ?_
         rotate_left
         ·intro w'
          go_simp
          with_reducible rfl
         rotate_left
         ·simp only [Act.put, List.setIfInBounds_toArray, List.set_cons_zero, List.set_cons_succ, i64_w, i32_w]
          rfl
         refine take_ (i := 28) (N := some 49) (v := ?_) (a' := ?_) #[true, true, true, true, true, true, true, true, true, true, true, true, true, true, true, true, true, true, true, true, true, true, true, true, true, true, true, true, true, false, false, false, false, false, false, false, false, false, false, false, false] rfl rfl (take_ofW HT_.out HW_.out (by kernel_rfl)) (fun _ _ _ h => h) (Or.inl ⟨by rfl, ?_⟩) hHeld ?_ ?_
         rotate_left
         ·rintro w' ⟨s0, s1⟩
          go_simp
          with_reducible rfl
         rotate_left
         ·simp only [Act.put, List.setIfInBounds_toArray, List.set_cons_zero, List.set_cons_succ, i64_w, i32_w]
          rfl
         refine pure_ (i := 29) (N := some 50) (v := ?_) (a' := ?_) #[true, true, true, true, true, true, true, true, true, true, true, true, true, true, true, true, true, true, true, true, true, true, true, true, true, true, true, true, true, true, false, false, false, false, false, false, false, false, false, false, false] rfl rfl (any_of HT_.out (by kernel_rfl)) (fun _ _ _ h => h) (Or.inl ⟨by rfl, ?_⟩) ?_ ?_
         rotate_left
         ·intro w'
          go_simp
          with_reducible rfl
         rotate_left
         ·simp only [Act.put, List.setIfInBounds_toArray, List.set_cons_zero, List.set_cons_succ, i64_w, i32_w]
          rfl
         refine pure_ (i := 30) (N := some 51) (v := ?_) (a' := ?_) #[true, true, true, true, true, true, true, true, true, true, true, true, true, true, true, true, true, true, true, true, true, true, true, true, true, true, true, true, true, true, true, false, false, false, false, false, false, false, false, false, false] rfl rfl (any_of HT_.out (by kernel_rfl)) (fun _ _ _ h => h) (Or.inl ⟨by rfl, ?_⟩) ?_ ?_
         rotate_left
         ·intro w'
          go_simp
          with_reducible rfl
         rotate_left
         ·simp only [Act.put, List.setIfInBounds_toArray, List.set_cons_zero, List.set_cons_succ, i64_w, i32_w]
          rfl
         refine pure_ (i := 31) (N := some 52) (v := ?_) (a' := ?_) #[true, true, true, true, true, true, true, true, true, true, true, true, true, true, true, true, true, true, true, true, true, true, true, true, true, true, true, true, true, true, true, true, false, false, false, false, false, false, false, false, false] rfl rfl (any_of HT_.out (by kernel_rfl)) (fun _ _ _ h => h) (Or.inl ⟨by rfl, ?_⟩) ?_ ?_
         rotate_left
         ·intro w'
          go_simp
          with_reducible rfl
         rotate_left
         ·simp only [Act.put, List.setIfInBounds_toArray, List.set_cons_zero, List.set_cons_succ, i64_w, i32_w]
          rfl
         refine pure_ (i := 32) (N := some 53) (v := undef) (a' := ?_) #[true, true, true, true, true, true, true, true, true, true, true, true, true, true, true, true, true, true, true, true, true, true, true, true, true, true, true, true, true, true, true, true, true, false, false, false, false, false, false, false, false] rfl rfl (any_of HT_.out (by kernel_rfl)) (fun _ _ _ h => h) (Or.inr ⟨by rfl, rfl⟩) ?_ ?_
         rotate_left
         ·simp only [Act.put, List.setIfInBounds_toArray, List.set_cons_zero, List.set_cons_succ, i64_w, i32_w]
          rfl
         refine pure_ (i := 33) (N := some 54) (v := undef) (a' := ?_) #[true, true, true, true, true, true, true, true, true, true, true, true, true, true, true, true, true, true, true, true, true, true, true, true, true, true, true, true, true, true, true, true, true, true, false, false, false, false, false, false, false] rfl rfl (any_of HT_.out (by kernel_rfl)) (fun _ _ _ h => h) (Or.inr ⟨by rfl, rfl⟩) ?_ ?_
         rotate_left
         ·simp only [Act.put, List.setIfInBounds_toArray, List.set_cons_zero, List.set_cons_succ, i64_w, i32_w]
          rfl
         refine pure_ (i := 34) (N := some 55) (v := undef) (a' := ?_) #[true, true, true, true, true, true, true, true, true, true, true, true, true, true, true, true, true, true, true, true, true, true, true, true, true, true, true, true, true, true, true, true, true, true, true, false, false, false, false, false, false] rfl rfl (any_of HT_.out (by kernel_rfl)) (fun _ _ _ h => h) (Or.inr ⟨by rfl, rfl⟩) ?_ ?_
         rotate_left
         ·simp only [Act.put, List.setIfInBounds_toArray, List.set_cons_zero, List.set_cons_succ, i64_w, i32_w]
          rfl
         refine pure_ (i := 35) (N := some 56) (v := undef) (a' := ?_) #[true, true, true, true, true, true, true, true, true, true, true, true, true, true, true, true, true, true, true, true, true, true, true, true, true, true, true, true, true, true, true, true, true, true, true, true, false, false, false, false, false] rfl rfl (any_of HT_.out (by kernel_rfl)) (fun _ _ _ h => h) (Or.inr ⟨by rfl, rfl⟩) ?_ ?_
         rotate_left
         ·simp only [Act.put, List.setIfInBounds_toArray, List.set_cons_zero, List.set_cons_succ, i64_w, i32_w]
          rfl
         refine pure_ (i := 36) (N := some 57) (v := undef) (a' := ?_) #[true, true, true, true, true, true, true, true, true, true, true, true, true, true, true, true, true, true, true, true, true, true, true, true, true, true, true, true, true, true, true, true, true, true, true, true, true, false, false, false, false] rfl rfl (any_of HT_.out (by kernel_rfl)) (fun _ _ _ h => h) (Or.inr ⟨by rfl, rfl⟩) ?_ ?_
         rotate_left
         ·simp only [Act.put, List.setIfInBounds_toArray, List.set_cons_zero, List.set_cons_succ, i64_w, i32_w]
          rfl
         refine pure_ (i := 37) (N := some 58) (v := undef) (a' := ?_) #[true, true, true, true, true, true, true, true, true, true, true, true, true, true, true, true, true, true, true, true, true, true, true, true, true, true, true, true, true, true, true, true, true, true, true, true, true, true, false, false, false] rfl rfl (any_of HT_.out (by kernel_rfl)) (fun _ _ _ h => h) (Or.inr ⟨by rfl, rfl⟩) ?_ ?_
         rotate_left
         ·simp only [Act.put, List.setIfInBounds_toArray, List.set_cons_zero, List.set_cons_succ, i64_w, i32_w]
          rfl
         refine pure_ (i := 38) (N := some 59) (v := ?_) (a' := ?_) #[true, true, true, true, true, true, true, true, true, true, true, true, true, true, true, true, true, true, true, true, true, true, true, true, true, true, true, true, true, true, true, true, true, true, true, true, true, true, true, false, false] rfl rfl (any_of HT_.out (by kernel_rfl)) (fun _ _ _ h => h) (Or.inl ⟨by rfl, ?_⟩) ?_ ?_
         rotate_left
         ·intro w'
          go_simp
          with_reducible rfl
         rotate_left
         ·simp only [Act.put, List.setIfInBounds_toArray, List.set_cons_zero, List.set_cons_succ, i64_w, i32_w]
          rfl
         refine pure_ (i := 39) (N := some 60) (v := ?_) (a' := ?_) #[true, true, true, true, true, true, true, true, true, true, true, true, true, true, true, true, true, true, true, true, true, true, true, true, true, true, true, true, true, true, true, true, true, true, true, true, true, true, true, true, false] rfl rfl (any_of HT_.out (by kernel_rfl)) (fun _ _ _ h => h) (Or.inl ⟨by rfl, ?_⟩) ?_ ?_
         rotate_left
         ·intro w'
          go_simp
          with_reducible rfl
         rotate_left
         ·simp only [Act.put, List.setIfInBounds_toArray, List.set_cons_zero, List.set_cons_succ, i64_w, i32_w]
          rfl
         refine pure_ (i := 40) (N := some 2) (v := ?_) (a' := ?_) #[true, true, true, true, true, true, true, true, true, true, true, true, true, true, true, true, true, true, true, true, true, true, true, true, true, true, true, true, true, true, true, true, true, true, true, true, true, true, true, true, true] rfl rfl (any_of HT_.out (by kernel_rfl)) (fun _ _ _ h => h) (Or.inl ⟨by rfl, ?_⟩) ?_ ?_
         rotate_left
         ·intro w'
          go_simp
          with_reducible rfl
         rotate_left
         ·simp only [Act.put, List.setIfInBounds_toArray, List.set_cons_zero, List.set_cons_succ, i64_w, i32_w]
          rfl
         refine done_ (done_of HT_.out (by kernel_rfl)) ?_
         try go_wp2
         go_ret
         exact ⟨by first | rfl | (simp [errW_none, errW_some] <;> rfl) | (simp [*, errW_none, errW_some] <;> rfl), by repeat (first | (with_reducible first | exact HB.out | apply below_alloc | apply pw_below_drewN | apply below_drew1 | refine below_set ?_ GE379.out | refine below_set ?_ GE388.out) | exact HB.out)⟩
        ·rw [if_neg c36] at H
         have c36b0 : ((t385.length : Int) == 0) = false := beq_eq_false_iff_ne.mpr c36
         have c36z : (x4_1 == 0) = false := by have h_ := c32b0; rw [c36b0] at h_; revert h_; generalize (x4_1 == 0) = b_; intro h_; cases b_ <;> first | rfl | (exact absurd h_ (by decide))
         have c36b1 : ((t385.length : Int) != 0) = true := bne_iff_ne.mpr c36
         have c36b2 : ¬ (t385 = []) := fun h_ => c36 (by rw [h_]; rfl)
         replace H := Option.bind_eq_some_iff.mp H
         obtain ⟨t399, A470, H⟩ := H
         replace H : (some (!t399)) = some r := H
         have A47 := Aside0.mk A470
         clear A470
         obtain rfl := Option.some.inj H
         have hnb48 := NB388_379.out
         have hnc48 := NB379_388.out
         have hcz49_0 : wr.cell? ⟨gb388, 0, none⟩ = some (.int .i64 t384) := (blk_cell BK388.out 0).trans rfl
         have hcz49_1 : wr.cell? ⟨gb388, 1, none⟩ = some (.slice Ao12 t385.length co12) := (blk_cell BK388.out 1).trans rfl
         have hfz49_0 := blk_frozen BK388.out 0
         have hfz49_1 := blk_frozen BK388.out 1
         try go_wp2_with (first | ((with_reducible refine gate_callee (f := 24) rfl ?_); refine goesL_ (some 11) rfl rfl Try.func24 (by kernel_rfl) rfl #[.agg #[.int .i64 t384, .slice Ao12 t385.length co12]] rfl zq7_2 ?_; (with_reducible refine (span_Top.calls t384 _ _ t385 t389 _ ?side1 ?side2 A13.out).mono ?_); (case side1 => repeat (first | exact (Kd.R_reads' HO_389001.out).2.2 | (with_reducible refine Kd.C_alloc ?_ _) | (with_reducible refine Kd.C_drewN ?_ _) | (with_reducible refine Kd.C_drew ?_))); (case side2 => exact (Kd.R_reads' HO_389001.out).2.1); rintro e w50 ⟨rfl, hb⟩; refine ⟨_, rfl, ?_⟩; have n0_ := Aside0.mk (Kd.R_below zq7_6 hb); have n1_ := Aside0.mk (blk_below (g := gb379) (o := .cells #[.int .i64 a0_0, .slice A0_1 l0_1.length c0_1] 30 (0, 0)) zq7_4 hb); have n2_ := Aside0.mk (blk_below (g := gb388) (o := .cells #[.int .i64 t384, .slice Ao12 t385.length co12] 24 (0, 0)) zq7_5 hb); have n3_ := Aside0.mk (below_step zq7_0 hb); clear HO_389001; clear BK379; clear BK388; clear HB; have HO_389001 := n0_; have BK379 := n1_; have BK388 := n2_; have HB := n3_; clear n0_ n1_ n2_ n3_; (try clear hb); (try clear hb2); (try clear hk); (try clear hi)))
         replace HO_389001 := Aside0.mk (Kd.R_drew HO_389001.out)
         replace BK379 := Aside0.mk (blk_drew BK379.out)
         replace BK388 := Aside0.mk (blk_drew BK388.out)
         replace HB := Aside0.mk (below_drew1 HB.out)
         refine start_ (n := 41) (S := fun w' => w'.cell? ⟨gb388, 0, none⟩ = some (.int .i64 t384) ∧ w'.cell? ⟨gb388, 1, none⟩ = some (.slice Ao12 t385.length co12)) (ds := []) #[false, false, false, false, false, false, false, false, false, false, false, false, false, false, false, false, false, false, false, false, false, false, false, false, false, false, false, false, false, false, false, false, false, false, false, false, false, false, false, false, false] (by kernel_rfl) rfl rfl ⟨(blk_cell BK388.out 0).trans rfl, (blk_cell BK388.out 1).trans rfl⟩ (fun hHeld => ?_); refine with_tabW cenotaphlaw02_SpanHoles.tab8 cenotaphlaw02_SpanHoles.bits8 (fun HT_ HW_ => ?_)
         generalize w50.drew = w51 at HO_389001 BK379 BK388 HB hHeld ⊢
         refine one_ (i := 0) (N := some 21) #[true, false, false, false, false, false, false, false, false, false, false, false, false, false, false, false, false, false, false, false, false, false, false, false, false, false, false, false, false, false, false, false, false, false, false, false, false, false, false, false, false] rfl rfl (one_of HT_.out (by kernel_rfl)) (by decide) (fun K hK => ?_)
         refine goes_ Try.func11 (by kernel_rfl) rfl #[] (by rfl) rfl rfl zq7_2 ?_
         with_reducible refine (cenotaphlaw02_told.calls k1  true _ A27.out).mono ?_
         rintro e w52 ⟨rfl, hb⟩
         refine ⟨_, rfl, ?_⟩
         replace HO_389001 := Aside0.mk (Kd.R_below zq7_6 hb)
         replace BK379 := Aside0.mk (blk_below (g := gb379) (o := .cells #[.int .i64 a0_0, .slice A0_1 l0_1.length c0_1] 30 (0, 0)) zq7_4 hb)
         replace BK388 := Aside0.mk (blk_below (g := gb388) (o := .cells #[.int .i64 t384, .slice Ao12 t385.length co12] 24 (0, 0)) zq7_5 hb)
         replace HB := Aside0.mk (below_step zq7_0 hb)
         (try clear hb)
         (try clear hb2)
         (try clear hk)
         (try clear hi)
         refine hK.out _ _ ⟨(blk_cell BK388.out 0).trans rfl, (blk_cell BK388.out 1).trans rfl⟩ (fun hHeld => ?_)
         clear hK K
         refine norm_ (a' := ?_) ?_ ?_
         rotate_left
         ·show Act.put _ (some 21) _ = _
          simp only [Act.put, List.setIfInBounds_toArray, List.set_cons_zero, List.set_cons_succ, i64_w, i32_w]
          rfl
         refine pure_ (i := 1) (N := some 22) (v := ?_) (a' := ?_) #[true, true, false, false, false, false, false, false, false, false, false, false, false, false, false, false, false, false, false, false, false, false, false, false, false, false, false, false, false, false, false, false, false, false, false, false, false, false, false, false, false] rfl rfl (any_of HT_.out (by kernel_rfl)) (fun _ _ _ h => h) (Or.inl ⟨by rfl, ?_⟩) ?_ ?_
         rotate_left
         ·intro w'
          go_simp
          with_reducible rfl
         rotate_left
         ·simp only [Act.put, List.setIfInBounds_toArray, List.set_cons_zero, List.set_cons_succ, i64_w, i32_w]
          rfl
         refine pure_ (i := 2) (N := some 23) (v := ?_) (a' := ?_) #[true, true, true, false, false, false, false, false, false, false, false, false, false, false, false, false, false, false, false, false, false, false, false, false, false, false, false, false, false, false, false, false, false, false, false, false, false, false, false, false, false] rfl rfl (any_of HT_.out (by kernel_rfl)) (fun _ _ _ h => h) (Or.inl ⟨by rfl, ?_⟩) ?_ ?_
         rotate_left
         ·intro w'
          go_simp
          with_reducible rfl
         rotate_left
         ·simp only [Act.put, List.setIfInBounds_toArray, List.set_cons_zero, List.set_cons_succ, i64_w, i32_w]
          rfl
         refine take_ (i := 3) (N := some 24) (v := ?_) (a' := ?_) #[true, true, true, true, false, false, false, false, false, false, false, false, false, false, false, false, false, false, false, false, false, false, false, false, false, false, false, false, false, false, false, false, false, false, false, false, false, false, false, false, false] rfl rfl (take_ofW HT_.out HW_.out (by kernel_rfl)) (fun _ _ _ h => h) (Or.inl ⟨by rfl, ?_⟩) hHeld ?_ ?_
         rotate_left
         ·rintro w' ⟨s0, s1⟩
          go_simp
          with_reducible rfl
         rotate_left
         ·simp only [Act.put, List.setIfInBounds_toArray, List.set_cons_zero, List.set_cons_succ, i64_w, i32_w]
          rfl
         refine take_ (i := 5) (N := some 26) (v := ?_) (a' := ?_) #[true, true, true, true, false, true, false, false, false, false, false, false, false, false, false, false, false, false, false, false, false, false, false, false, false, false, false, false, false, false, false, false, false, false, false, false, false, false, false, false, false] rfl rfl (take_ofW HT_.out HW_.out (by kernel_rfl)) (fun _ _ _ h => h) (Or.inl ⟨by rfl, ?_⟩) hHeld ?_ ?_
         rotate_left
         ·rintro w' ⟨s0, s1⟩
          go_simp
          with_reducible rfl
         rotate_left
         ·simp only [Act.put, List.setIfInBounds_toArray, List.set_cons_zero, List.set_cons_succ, i64_w, i32_w]
          rfl
         refine one_ (i := 4) (N := some 25) #[true, true, true, true, true, true, false, false, false, false, false, false, false, false, false, false, false, false, false, false, false, false, false, false, false, false, false, false, false, false, false, false, false, false, false, false, false, false, false, false, false] rfl rfl (one_of HT_.out (by kernel_rfl)) (by decide) (fun K hK => ?_)
         refine goes_ Try.func24 (by kernel_rfl) rfl #[.agg #[.int .i64 t384, .slice Ao12 t385.length co12]] (by rfl) rfl rfl zq7_2 ?_
         with_reducible refine (span_Top.calls t384 _ _ t385 t392 _ ?side1 ?side2 A29.out).mono ?_
         (case side1 => repeat (first | exact (Kd.R_reads' HO_389001.out).2.2 | (with_reducible refine Kd.C_alloc ?_ _) | (with_reducible refine Kd.C_drewN ?_ _) | (with_reducible refine Kd.C_drew ?_)))
         (case side2 => exact (Kd.R_reads' HO_389001.out).2.1)
         rintro e w53 ⟨rfl, hb⟩
         refine ⟨_, rfl, ?_⟩
         replace HO_389001 := Aside0.mk (Kd.R_below zq7_6 hb)
         replace BK379 := Aside0.mk (blk_below (g := gb379) (o := .cells #[.int .i64 a0_0, .slice A0_1 l0_1.length c0_1] 30 (0, 0)) zq7_4 hb)
         replace BK388 := Aside0.mk (blk_below (g := gb388) (o := .cells #[.int .i64 t384, .slice Ao12 t385.length co12] 24 (0, 0)) zq7_5 hb)
         replace HB := Aside0.mk (below_step zq7_0 hb)
         (try clear hb)
         (try clear hb2)
         (try clear hk)
         (try clear hi)
         refine hK.out _ _ ⟨(blk_cell BK388.out 0).trans rfl, (blk_cell BK388.out 1).trans rfl⟩ (fun hHeld => ?_)
         clear hK K
         refine norm_ (a' := ?_) ?_ ?_
         rotate_left
         ·show Act.put _ (some 25) _ = _
          simp only [Act.put, List.setIfInBounds_toArray, List.set_cons_zero, List.set_cons_succ, i64_w, i32_w]
          rfl
         refine one_ (i := 6) (N := some 27) #[true, true, true, true, true, true, true, false, false, false, false, false, false, false, false, false, false, false, false, false, false, false, false, false, false, false, false, false, false, false, false, false, false, false, false, false, false, false, false, false, false] rfl rfl (one_of HT_.out (by kernel_rfl)) (by decide) (fun K hK => ?_)
         refine goes_ Try.func12 (by kernel_rfl) rfl #[.agg #[.int .i64 t384, .slice Ao12 t385.length co12]] (by rfl) rfl rfl zq7_2 ?_
         with_reducible refine (span_Count.calls t384 _ _ t385 t393 _ ?side1 ?side2 A30.out).mono ?_
         (case side1 => repeat (first | exact (Kd.R_reads' HO_389001.out).2.2 | (with_reducible refine Kd.C_alloc ?_ _) | (with_reducible refine Kd.C_drewN ?_ _) | (with_reducible refine Kd.C_drew ?_)))
         (case side2 => exact (Kd.R_reads' HO_389001.out).2.1)
         rintro e w54 ⟨rfl, hb⟩
         refine ⟨_, rfl, ?_⟩
         replace HO_389001 := Aside0.mk (Kd.R_below zq7_6 hb)
         replace BK379 := Aside0.mk (blk_below (g := gb379) (o := .cells #[.int .i64 a0_0, .slice A0_1 l0_1.length c0_1] 30 (0, 0)) zq7_4 hb)
         replace BK388 := Aside0.mk (blk_below (g := gb388) (o := .cells #[.int .i64 t384, .slice Ao12 t385.length co12] 24 (0, 0)) zq7_5 hb)
         replace HB := Aside0.mk (below_step zq7_0 hb)
         (try clear hb)
         (try clear hb2)
         (try clear hk)
         (try clear hi)
         refine hK.out _ _ ⟨(blk_cell BK388.out 0).trans rfl, (blk_cell BK388.out 1).trans rfl⟩ (fun hHeld => ?_)
         clear hK K
         refine norm_ (a' := ?_) ?_ ?_
         rotate_left
         ·show Act.put _ (some 27) _ = _
          simp only [Act.put, List.setIfInBounds_toArray, List.set_cons_zero, List.set_cons_succ, i64_w, i32_w]
          rfl
         refine pure_ (i := 7) (N := some 28) (v := ?_) (a' := ?_) #[true, true, true, true, true, true, true, true, false, false, false, false, false, false, false, false, false, false, false, false, false, false, false, false, false, false, false, false, false, false, false, false, false, false, false, false, false, false, false, false, false] rfl rfl (any_of HT_.out (by kernel_rfl)) (fun _ _ _ h => h) (Or.inl ⟨by rfl, ?_⟩) ?_ ?_
         rotate_left
         ·intro w'
          go_simp
          with_reducible rfl
         rotate_left
         ·simp only [Act.put, List.setIfInBounds_toArray, List.set_cons_zero, List.set_cons_succ, i64_w, i32_w]
          rfl
         refine pure_ (i := 8) (N := some 29) (v := ?_) (a' := ?_) #[true, true, true, true, true, true, true, true, true, false, false, false, false, false, false, false, false, false, false, false, false, false, false, false, false, false, false, false, false, false, false, false, false, false, false, false, false, false, false, false, false] rfl rfl (any_of HT_.out (by kernel_rfl)) (fun _ _ _ h => h) (Or.inl ⟨by rfl, ?_⟩) ?_ ?_
         rotate_left
         ·intro w'
          go_simp
          with_reducible rfl
         rotate_left
         ·simp only [Act.put, List.setIfInBounds_toArray, List.set_cons_zero, List.set_cons_succ, i64_w, i32_w]
          rfl
         refine pure_ (i := 9) (N := some 30) (v := ?_) (a' := ?_) #[true, true, true, true, true, true, true, true, true, true, false, false, false, false, false, false, false, false, false, false, false, false, false, false, false, false, false, false, false, false, false, false, false, false, false, false, false, false, false, false, false] rfl rfl (any_of HT_.out (by kernel_rfl)) (fun _ _ _ h => h) (Or.inl ⟨by rfl, ?_⟩) ?_ ?_
         rotate_left
         ·intro w'
          go_simp
          with_reducible rfl
         rotate_left
         ·simp only [Act.put, List.setIfInBounds_toArray, List.set_cons_zero, List.set_cons_succ, i64_w, i32_w]
          rfl
         refine pure_ (i := 10) (N := some 31) (v := ?_) (a' := ?_) #[true, true, true, true, true, true, true, true, true, true, true, false, false, false, false, false, false, false, false, false, false, false, false, false, false, false, false, false, false, false, false, false, false, false, false, false, false, false, false, false, false] rfl rfl (any_of HT_.out (by kernel_rfl)) (fun _ _ _ h => h) (Or.inl ⟨by rfl, ?_⟩) ?_ ?_
         rotate_left
         ·intro w'
          go_simp
          with_reducible rfl
         rotate_left
         ·simp only [Act.put, List.setIfInBounds_toArray, List.set_cons_zero, List.set_cons_succ, i64_w, i32_w]
          rfl
         refine pure_ (i := 11) (N := some 32) (v := ?_) (a' := ?_) #[true, true, true, true, true, true, true, true, true, true, true, true, false, false, false, false, false, false, false, false, false, false, false, false, false, false, false, false, false, false, false, false, false, false, false, false, false, false, false, false, false] rfl rfl (any_of HT_.out (by kernel_rfl)) (fun _ _ _ h => h) (Or.inl ⟨by rfl, ?_⟩) ?_ ?_
         rotate_left
         ·intro w'
          go_simp
          with_reducible rfl
         rotate_left
         ·simp only [Act.put, List.setIfInBounds_toArray, List.set_cons_zero, List.set_cons_succ, i64_w, i32_w]
          rfl
         refine pure_ (i := 15) (N := some 36) (v := ?_) (a' := ?_) #[true, true, true, true, true, true, true, true, true, true, true, true, false, false, false, true, false, false, false, false, false, false, false, false, false, false, false, false, false, false, false, false, false, false, false, false, false, false, false, false, false] rfl rfl (any_of HT_.out (by kernel_rfl)) (fun _ _ _ h => h) (Or.inl ⟨by rfl, ?_⟩) ?_ ?_
         rotate_left
         ·intro w'
          go_simp
          with_reducible rfl
         rotate_left
         ·simp only [Act.put, List.setIfInBounds_toArray, List.set_cons_zero, List.set_cons_succ, i64_w, i32_w]
          rfl
         refine pure_ (i := 16) (N := some 37) (v := ?_) (a' := ?_) #[true, true, true, true, true, true, true, true, true, true, true, true, false, false, false, true, true, false, false, false, false, false, false, false, false, false, false, false, false, false, false, false, false, false, false, false, false, false, false, false, false] rfl rfl (any_of HT_.out (by kernel_rfl)) (fun _ _ _ h => h) (Or.inl ⟨by rfl, ?_⟩) ?_ ?_
         rotate_left
         ·intro w'
          go_simp
          with_reducible rfl
         rotate_left
         ·simp only [Act.put, List.setIfInBounds_toArray, List.set_cons_zero, List.set_cons_succ, i64_w, i32_w]
          rfl
         refine take_ (i := 12) (N := some 33) (v := ?_) (a' := ?_) #[true, true, true, true, true, true, true, true, true, true, true, true, true, false, false, true, true, false, false, false, false, false, false, false, false, false, false, false, false, false, false, false, false, false, false, false, false, false, false, false, false] rfl rfl (take_ofW HT_.out HW_.out (by kernel_rfl)) (fun _ _ _ h => h) (Or.inl ⟨by rfl, ?_⟩) hHeld ?_ ?_
         rotate_left
         ·rintro w' ⟨s0, s1⟩
          go_simp
          with_reducible rfl
         rotate_left
         ·simp only [Act.put, List.setIfInBounds_toArray, List.set_cons_zero, List.set_cons_succ, i64_w, i32_w]
          rfl
         refine pure_ (i := 13) (N := some 34) (v := ?_) (a' := ?_) #[true, true, true, true, true, true, true, true, true, true, true, true, true, true, false, true, true, false, false, false, false, false, false, false, false, false, false, false, false, false, false, false, false, false, false, false, false, false, false, false, false] rfl rfl (any_of HT_.out (by kernel_rfl)) (fun _ _ _ h => h) (Or.inl ⟨by rfl, ?_⟩) ?_ ?_
         rotate_left
         ·intro w'
          go_simp
          with_reducible rfl
         rotate_left
         ·simp only [Act.put, List.setIfInBounds_toArray, List.set_cons_zero, List.set_cons_succ, i64_w, i32_w]
          rfl
         refine pure_ (i := 14) (N := some 35) (v := ?_) (a' := ?_) #[true, true, true, true, true, true, true, true, true, true, true, true, true, true, true, true, true, false, false, false, false, false, false, false, false, false, false, false, false, false, false, false, false, false, false, false, false, false, false, false, false] rfl rfl (any_of HT_.out (by kernel_rfl)) (fun _ _ _ h => h) (Or.inl ⟨by rfl, ?_⟩) ?_ ?_
         rotate_left
         ·intro w'
          go_simp
          with_reducible rfl
         rotate_left
         ·simp only [Act.put, List.setIfInBounds_toArray, List.set_cons_zero, List.set_cons_succ, i64_w, i32_w]
          rfl
         refine pure_ (i := 17) (N := some 38) (v := ?_) (a' := ?_) #[true, true, true, true, true, true, true, true, true, true, true, true, true, true, true, true, true, true, false, false, false, false, false, false, false, false, false, false, false, false, false, false, false, false, false, false, false, false, false, false, false] rfl rfl (any_of HT_.out (by kernel_rfl)) (fun _ _ _ h => h) (Or.inl ⟨by rfl, ?_⟩) ?_ ?_
         rotate_left
         ·intro w'
          go_simp
          with_reducible rfl
         rotate_left
         ·simp only [Act.put, List.setIfInBounds_toArray, List.set_cons_zero, List.set_cons_succ, i64_w, i32_w]
          rfl
         refine pure_ (i := 18) (N := some 39) (v := ?_) (a' := ?_) #[true, true, true, true, true, true, true, true, true, true, true, true, true, true, true, true, true, true, true, false, false, false, false, false, false, false, false, false, false, false, false, false, false, false, false, false, false, false, false, false, false] rfl rfl (any_of HT_.out (by kernel_rfl)) (fun _ _ _ h => h) (Or.inl ⟨by rfl, ?_⟩) ?_ ?_
         rotate_left
         ·intro w'
          go_simp
          with_reducible rfl
         rotate_left
         ·simp only [Act.put, List.setIfInBounds_toArray, List.set_cons_zero, List.set_cons_succ, i64_w, i32_w]
          rfl
         refine pure_ (i := 19) (N := some 40) (v := ?_) (a' := ?_) #[true, true, true, true, true, true, true, true, true, true, true, true, true, true, true, true, true, true, true, true, false, false, false, false, false, false, false, false, false, false, false, false, false, false, false, false, false, false, false, false, false] rfl rfl (any_of HT_.out (by kernel_rfl)) (fun _ _ _ h => h) (Or.inl ⟨by rfl, ?_⟩) ?_ ?_
         rotate_left
         ·intro w'
          go_simp
          with_reducible rfl
         rotate_left
         ·simp only [Act.put, List.setIfInBounds_toArray, List.set_cons_zero, List.set_cons_succ, i64_w, i32_w]
          rfl
         refine pure_ (i := 20) (N := some 41) (v := ?_) (a' := ?_) #[true, true, true, true, true, true, true, true, true, true, true, true, true, true, true, true, true, true, true, true, true, false, false, false, false, false, false, false, false, false, false, false, false, false, false, false, false, false, false, false, false] rfl rfl (any_of HT_.out (by kernel_rfl)) (fun _ _ _ h => h) (Or.inl ⟨by rfl, ?_⟩) ?_ ?_
         rotate_left
         ·intro w'
          go_simp
          with_reducible rfl
         rotate_left
         ·simp only [Act.put, List.setIfInBounds_toArray, List.set_cons_zero, List.set_cons_succ, i64_w, i32_w]
          rfl
         refine take_ (i := 21) (N := some 42) (v := ?_) (a' := ?_) #[true, true, true, true, true, true, true, true, true, true, true, true, true, true, true, true, true, true, true, true, true, true, false, false, false, false, false, false, false, false, false, false, false, false, false, false, false, false, false, false, false] rfl rfl (take_ofW HT_.out HW_.out (by kernel_rfl)) (fun _ _ _ h => h) (Or.inl ⟨by rfl, ?_⟩) hHeld ?_ ?_
         rotate_left
         ·rintro w' ⟨s0, s1⟩
          go_simp
          with_reducible rfl
         rotate_left
         ·simp only [Act.put, List.setIfInBounds_toArray, List.set_cons_zero, List.set_cons_succ, i64_w, i32_w]
          rfl
         refine take_ (i := 23) (N := some 44) (v := ?_) (a' := ?_) #[true, true, true, true, true, true, true, true, true, true, true, true, true, true, true, true, true, true, true, true, true, true, false, true, false, false, false, false, false, false, false, false, false, false, false, false, false, false, false, false, false] rfl rfl (take_ofW HT_.out HW_.out (by kernel_rfl)) (fun _ _ _ h => h) (Or.inl ⟨by rfl, ?_⟩) hHeld ?_ ?_
         rotate_left
         ·rintro w' ⟨s0, s1⟩
          go_simp
          with_reducible rfl
         rotate_left
         ·simp only [Act.put, List.setIfInBounds_toArray, List.set_cons_zero, List.set_cons_succ, i64_w, i32_w]
          rfl
         refine one_ (i := 22) (N := some 43) #[true, true, true, true, true, true, true, true, true, true, true, true, true, true, true, true, true, true, true, true, true, true, true, true, false, false, false, false, false, false, false, false, false, false, false, false, false, false, false, false, false] rfl rfl (one_of HT_.out (by kernel_rfl)) (by decide) (fun K hK => ?_)
         refine goes_ Try.func10 (by kernel_rfl) rfl #[.int .i64 t384] (by rfl) rfl rfl zq7_2 ?_
         with_reducible refine (span_First.calls t384 t394 t395 _ A33.out).mono ?_
         rintro e w55 ⟨v396, rfl, ho0, hb⟩
         refine ⟨_, rfl, ?_⟩
         have HO397 := Aside0.mk (Kd.R_lower (Kd.R_new' ho0 (Kd.R_lt zq7_6)) (below_size zq7_0))
         replace HO_389001 := Aside0.mk (Kd.R_elder' zq7_6 (Kd.R_base ho0) hb)
         replace BK379 := Aside0.mk (blk_below (g := gb379) (o := .cells #[.int .i64 a0_0, .slice A0_1 l0_1.length c0_1] 30 (0, 0)) zq7_4 hb)
         replace BK388 := Aside0.mk (blk_below (g := gb388) (o := .cells #[.int .i64 t384, .slice Ao12 t385.length co12] 24 (0, 0)) zq7_5 hb)
         replace HB := Aside0.mk (below_step zq7_0 hb)
         (try clear hb)
         (try clear hb2)
         (try clear hk)
         (try clear hi)
         (try clear ho0)
         obtain ⟨Ao56, co56, eo56⟩ := Kd.R_slice HO397.out
         (first | subst eo56 | (injection eo56 with f1_ f2_ f3_; have f4_ := f1_.symm; have f5_ := f3_.symm; clear f1_ f2_ f3_; subst f4_; subst f5_))
         refine hK.out _ _ ⟨(blk_cell BK388.out 0).trans rfl, (blk_cell BK388.out 1).trans rfl⟩ (fun hHeld => ?_)
         clear hK K
         refine norm_ (a' := ?_) ?_ ?_
         rotate_left
         ·show Act.put _ (some 43) _ = _
          simp only [Act.put, List.setIfInBounds_toArray, List.set_cons_zero, List.set_cons_succ, i64_w, i32_w]
          rfl
         refine one_ (i := 24) (N := some 45) #[true, true, true, true, true, true, true, true, true, true, true, true, true, true, true, true, true, true, true, true, true, true, true, true, true, false, false, false, false, false, false, false, false, false, false, false, false, false, false, false, false] rfl rfl (one_of HT_.out (by kernel_rfl)) (by decide) (fun K hK => ?_)
         refine goes_ Try.func28 (by kernel_rfl) rfl #[.agg #[.int .i64 t394, .slice Ao56 t395.length co56], .agg #[.int .i64 t384, .slice Ao12 t385.length co12]] (by rfl) rfl rfl zq7_2 ?_
         with_reducible refine (span_Within.calls k1 t394 _ _ t395 t384 _ _ t385 true _ ?side1 ?side2 ?side3 ?side4 A34.out).mono ?_
         (case side1 => repeat (first | exact (Kd.R_reads' HO397.out).2.2 | (with_reducible refine Kd.C_alloc ?_ _) | (with_reducible refine Kd.C_drewN ?_ _) | (with_reducible refine Kd.C_drew ?_)))
         (case side2 => exact (Kd.R_reads' HO397.out).2.1)
         (case side3 => repeat (first | exact (Kd.R_reads' HO_389001.out).2.2 | (with_reducible refine Kd.C_alloc ?_ _) | (with_reducible refine Kd.C_drewN ?_ _) | (with_reducible refine Kd.C_drew ?_)))
         (case side4 => exact (Kd.R_reads' HO_389001.out).2.1)
         rintro e w57 ⟨rfl, hb⟩
         refine ⟨_, rfl, ?_⟩
         replace HO_389001 := Aside0.mk (Kd.R_below zq7_6 hb)
         replace HO397 := Aside0.mk (Kd.R_below zq7_8 hb)
         replace BK379 := Aside0.mk (blk_below (g := gb379) (o := .cells #[.int .i64 a0_0, .slice A0_1 l0_1.length c0_1] 30 (0, 0)) zq7_4 hb)
         replace BK388 := Aside0.mk (blk_below (g := gb388) (o := .cells #[.int .i64 t384, .slice Ao12 t385.length co12] 24 (0, 0)) zq7_5 hb)
         replace HB := Aside0.mk (below_step zq7_0 hb)
         (try clear hb)
         (try clear hb2)
         (try clear hk)
         (try clear hi)
         refine hK.out _ _ ⟨(blk_cell BK388.out 0).trans rfl, (blk_cell BK388.out 1).trans rfl⟩ (fun hHeld => ?_)
         clear hK K
         refine norm_ (a' := ?_) ?_ ?_
         rotate_left
         ·show Act.put _ (some 45) _ = _
          simp only [Act.put, List.setIfInBounds_toArray, List.set_cons_zero, List.set_cons_succ, i64_w, i32_w]
          rfl
         refine pure_ (i := 25) (N := some 46) (v := ?_) (a' := ?_) #[true, true, true, true, true, true, true, true, true, true, true, true, true, true, true, true, true, true, true, true, true, true, true, true, true, true, false, false, false, false, false, false, false, false, false, false, false, false, false, false, false] rfl rfl (any_of HT_.out (by kernel_rfl)) (fun _ _ _ h => h) (Or.inl ⟨by rfl, ?_⟩) ?_ ?_
         rotate_left
         ·intro w'
          go_simp
          with_reducible rfl
         rotate_left
         ·simp only [Act.put, List.setIfInBounds_toArray, List.set_cons_zero, List.set_cons_succ, i64_w, i32_w]
          rfl
         refine pure_ (i := 26) (N := some 47) (v := ?_) (a' := ?_) #[true, true, true, true, true, true, true, true, true, true, true, true, true, true, true, true, true, true, true, true, true, true, true, true, true, true, true, false, false, false, false, false, false, false, false, false, false, false, false, false, false] rfl rfl (any_of HT_.out (by kernel_rfl)) (fun _ _ _ h => h) (Or.inl ⟨by rfl, ?_⟩) ?_ ?_
         rotate_left
         ·intro w'
          go_simp
          with_reducible rfl
         rotate_left
         ·simp only [Act.put, List.setIfInBounds_toArray, List.set_cons_zero, List.set_cons_succ, i64_w, i32_w]
          rfl
         refine pure_ (i := 27) (N := some 48) (v := ?_) (a' := ?_) #[true, true, true, true, true, true, true, true, true, true, true, true, true, true, true, true, true, true, true, true, true, true, true, true, true, true, true, true, false, false, false, false, false, false, false, false, false, false, false, false, false] rfl rfl (any_of HT_.out (by kernel_rfl)) (fun _ _ _ h => h) (Or.inl ⟨by rfl, ?_⟩) ?_ ?_
         rotate_left
         ·intro w'
          go_simp
          with_reducible rfl
         rotate_left
         ·simp only [Act.put, List.setIfInBounds_toArray, List.set_cons_zero, List.set_cons_succ, i64_w, i32_w]
          rfl
         refine take_ (i := 28) (N := some 49) (v := ?_) (a' := ?_) #[true, true, true, true, true, true, true, true, true, true, true, true, true, true, true, true, true, true, true, true, true, true, true, true, true, true, true, true, true, false, false, false, false, false, false, false, false, false, false, false, false] rfl rfl (take_ofW HT_.out HW_.out (by kernel_rfl)) (fun _ _ _ h => h) (Or.inl ⟨by rfl, ?_⟩) hHeld ?_ ?_
         rotate_left
         ·rintro w' ⟨s0, s1⟩
          go_simp
          with_reducible rfl
         rotate_left
         ·simp only [Act.put, List.setIfInBounds_toArray, List.set_cons_zero, List.set_cons_succ, i64_w, i32_w]
          rfl
         refine pure_ (i := 29) (N := some 50) (v := ?_) (a' := ?_) #[true, true, true, true, true, true, true, true, true, true, true, true, true, true, true, true, true, true, true, true, true, true, true, true, true, true, true, true, true, true, false, false, false, false, false, false, false, false, false, false, false] rfl rfl (any_of HT_.out (by kernel_rfl)) (fun _ _ _ h => h) (Or.inl ⟨by rfl, ?_⟩) ?_ ?_
         rotate_left
         ·intro w'
          go_simp
          with_reducible rfl
         rotate_left
         ·simp only [Act.put, List.setIfInBounds_toArray, List.set_cons_zero, List.set_cons_succ, i64_w, i32_w]
          rfl
         refine pure_ (i := 30) (N := some 51) (v := ?_) (a' := ?_) #[true, true, true, true, true, true, true, true, true, true, true, true, true, true, true, true, true, true, true, true, true, true, true, true, true, true, true, true, true, true, true, false, false, false, false, false, false, false, false, false, false] rfl rfl (any_of HT_.out (by kernel_rfl)) (fun _ _ _ h => h) (Or.inl ⟨by rfl, ?_⟩) ?_ ?_
         rotate_left
         ·intro w'
          go_simp
          with_reducible rfl
         rotate_left
         ·simp only [Act.put, List.setIfInBounds_toArray, List.set_cons_zero, List.set_cons_succ, i64_w, i32_w]
          rfl
         refine pure_ (i := 31) (N := some 52) (v := ?_) (a' := ?_) #[true, true, true, true, true, true, true, true, true, true, true, true, true, true, true, true, true, true, true, true, true, true, true, true, true, true, true, true, true, true, true, true, false, false, false, false, false, false, false, false, false] rfl rfl (any_of HT_.out (by kernel_rfl)) (fun _ _ _ h => h) (Or.inl ⟨by rfl, ?_⟩) ?_ ?_
         rotate_left
         ·intro w'
          go_simp
          with_reducible rfl
         rotate_left
         ·simp only [Act.put, List.setIfInBounds_toArray, List.set_cons_zero, List.set_cons_succ, i64_w, i32_w]
          rfl
         refine pure_ (i := 33) (N := some 54) (v := ?_) (a' := ?_) #[true, true, true, true, true, true, true, true, true, true, true, true, true, true, true, true, true, true, true, true, true, true, true, true, true, true, true, true, true, true, true, true, false, true, false, false, false, false, false, false, false] rfl rfl (any_of HT_.out (by kernel_rfl)) (fun _ _ _ h => h) (Or.inl ⟨by rfl, ?_⟩) ?_ ?_
         rotate_left
         ·intro w'
          go_simp
          with_reducible rfl
         rotate_left
         ·simp only [Act.put, List.setIfInBounds_toArray, List.set_cons_zero, List.set_cons_succ, i64_w, i32_w]
          rfl
         refine take_ (i := 32) (N := some 53) (v := ?_) (a' := ?_) #[true, true, true, true, true, true, true, true, true, true, true, true, true, true, true, true, true, true, true, true, true, true, true, true, true, true, true, true, true, true, true, true, true, true, false, false, false, false, false, false, false] rfl rfl (take_ofW HT_.out HW_.out (by kernel_rfl)) (fun _ _ _ h => h) (Or.inl ⟨by rfl, ?_⟩) hHeld ?_ ?_
         rotate_left
         ·rintro w' ⟨s0, s1⟩
          go_simp
          with_reducible rfl
         rotate_left
         ·simp only [Act.put, List.setIfInBounds_toArray, List.set_cons_zero, List.set_cons_succ, i64_w, i32_w]
          rfl
         refine take_ (i := 34) (N := some 55) (v := ?_) (a' := ?_) #[true, true, true, true, true, true, true, true, true, true, true, true, true, true, true, true, true, true, true, true, true, true, true, true, true, true, true, true, true, true, true, true, true, true, true, false, false, false, false, false, false] rfl rfl (take_ofW HT_.out HW_.out (by kernel_rfl)) (fun _ _ _ h => h) (Or.inl ⟨by rfl, ?_⟩) hHeld ?_ ?_
         rotate_left
         ·rintro w' ⟨s0, s1⟩
          go_simp
          with_reducible rfl
         rotate_left
         ·simp only [Act.put, List.setIfInBounds_toArray, List.set_cons_zero, List.set_cons_succ, i64_w, i32_w]
          rfl
         refine pure_ (i := 35) (N := some 56) (v := ?_) (a' := ?_) #[true, true, true, true, true, true, true, true, true, true, true, true, true, true, true, true, true, true, true, true, true, true, true, true, true, true, true, true, true, true, true, true, true, true, true, true, false, false, false, false, false] rfl rfl (any_of HT_.out (by kernel_rfl)) (fun _ _ _ h => h) (Or.inl ⟨by rfl, ?_⟩) ?_ ?_
         rotate_left
         ·intro w'
          go_simp
          with_reducible rfl
         rotate_left
         ·simp only [Act.put, List.setIfInBounds_toArray, List.set_cons_zero, List.set_cons_succ, i64_w, i32_w]
          rfl
         refine one_ (i := 36) (N := some 57) #[true, true, true, true, true, true, true, true, true, true, true, true, true, true, true, true, true, true, true, true, true, true, true, true, true, true, true, true, true, true, true, true, true, true, true, true, true, false, false, false, false] rfl rfl (one_of HT_.out (by kernel_rfl)) (by decide) (fun K hK => ?_)
         refine goes_ Try.func13 (by kernel_rfl) rfl #[.agg #[.int .i64 t384, .slice Ao12 t385.length co12], .int .i64 (wrap64 (t384 + 1))] (by rfl) rfl rfl zq7_2 ?_
         with_reducible refine (span_Has.calls k1 t384 _ _ t385 (wrap64 (t384 + 1)) t399 _ ?side1 ?side2 A47.out).mono ?_
         (case side1 => repeat (first | exact (Kd.R_reads' HO_389001.out).2.2 | (with_reducible refine Kd.C_alloc ?_ _) | (with_reducible refine Kd.C_drewN ?_ _) | (with_reducible refine Kd.C_drew ?_)))
         (case side2 => exact (Kd.R_reads' HO_389001.out).2.1)
         rintro e w58 ⟨rfl, hb⟩
         refine ⟨_, rfl, ?_⟩
         replace HO_389001 := Aside0.mk (Kd.R_below zq7_6 hb)
         replace HO397 := Aside0.mk (Kd.R_below zq7_8 hb)
         replace BK379 := Aside0.mk (blk_below (g := gb379) (o := .cells #[.int .i64 a0_0, .slice A0_1 l0_1.length c0_1] 30 (0, 0)) zq7_4 hb)
         replace BK388 := Aside0.mk (blk_below (g := gb388) (o := .cells #[.int .i64 t384, .slice Ao12 t385.length co12] 24 (0, 0)) zq7_5 hb)
         replace HB := Aside0.mk (below_step zq7_0 hb)
         (try clear hb)
         (try clear hb2)
         (try clear hk)
         (try clear hi)
         refine hK.out _ _ ⟨(blk_cell BK388.out 0).trans rfl, (blk_cell BK388.out 1).trans rfl⟩ (fun hHeld => ?_)
         clear hK K
         refine norm_ (a' := ?_) ?_ ?_
         rotate_left
         ·show Act.put _ (some 57) _ = _
          simp only [Act.put, List.setIfInBounds_toArray, List.set_cons_zero, List.set_cons_succ, i64_w, i32_w]
          rfl
         refine pure_ (i := 37) (N := some 58) (v := ?_) (a' := ?_) #[true, true, true, true, true, true, true, true, true, true, true, true, true, true, true, true, true, true, true, true, true, true, true, true, true, true, true, true, true, true, true, true, true, true, true, true, true, true, false, false, false] rfl rfl (any_of HT_.out (by kernel_rfl)) (fun _ _ _ h => h) (Or.inl ⟨by rfl, ?_⟩) ?_ ?_
         rotate_left
         ·intro w'
          go_simp
          with_reducible rfl
         rotate_left
         ·simp only [Act.put, List.setIfInBounds_toArray, List.set_cons_zero, List.set_cons_succ, i64_w, i32_w]
          rfl
         refine pure_ (i := 38) (N := some 59) (v := ?_) (a' := ?_) #[true, true, true, true, true, true, true, true, true, true, true, true, true, true, true, true, true, true, true, true, true, true, true, true, true, true, true, true, true, true, true, true, true, true, true, true, true, true, true, false, false] rfl rfl (any_of HT_.out (by kernel_rfl)) (fun _ _ _ h => h) (Or.inl ⟨by rfl, ?_⟩) ?_ ?_
         rotate_left
         ·intro w'
          go_simp
          with_reducible rfl
         rotate_left
         ·simp only [Act.put, List.setIfInBounds_toArray, List.set_cons_zero, List.set_cons_succ, i64_w, i32_w]
          rfl
         refine pure_ (i := 39) (N := some 60) (v := ?_) (a' := ?_) #[true, true, true, true, true, true, true, true, true, true, true, true, true, true, true, true, true, true, true, true, true, true, true, true, true, true, true, true, true, true, true, true, true, true, true, true, true, true, true, true, false] rfl rfl (any_of HT_.out (by kernel_rfl)) (fun _ _ _ h => h) (Or.inl ⟨by rfl, ?_⟩) ?_ ?_
         rotate_left
         ·intro w'
          go_simp
          with_reducible rfl
         rotate_left
         ·simp only [Act.put, List.setIfInBounds_toArray, List.set_cons_zero, List.set_cons_succ, i64_w, i32_w]
          rfl
         refine pure_ (i := 40) (N := some 2) (v := ?_) (a' := ?_) #[true, true, true, true, true, true, true, true, true, true, true, true, true, true, true, true, true, true, true, true, true, true, true, true, true, true, true, true, true, true, true, true, true, true, true, true, true, true, true, true, true] rfl rfl (any_of HT_.out (by kernel_rfl)) (fun _ _ _ h => h) (Or.inl ⟨by rfl, ?_⟩) ?_ ?_
         rotate_left
         ·intro w'
          go_simp
          with_reducible rfl
         rotate_left
         ·simp only [Act.put, List.setIfInBounds_toArray, List.set_cons_zero, List.set_cons_succ, i64_w, i32_w]
          rfl
         refine done_ (done_of HT_.out (by kernel_rfl)) ?_
         try go_wp2
         go_ret
         exact ⟨by first | rfl | (simp [errW_none, errW_some] <;> rfl) | (simp [*, errW_none, errW_some] <;> rfl), by repeat (first | (with_reducible first | exact HB.out | apply below_alloc | apply pw_below_drewN | apply below_drew1 | refine below_set ?_ GE379.out | refine below_set ?_ GE388.out) | exact HB.out)⟩
       ·replace c35 := Bool.eq_false_iff.mpr c35
        subst c35
        have H1 : (none) = some r := by rw [if_neg (show ¬ (false = true) by decide)] at H; exact H
        clear H
        have H := H1
        clear H1
        exact absurd H (by simp)
      ·rw [if_neg c32] at H
       have c32b0 : (((t385.length : Int) == 0) == (x4_1 == 0)) = false := by simpa using c32
       (try (have c32b1 : decide (((t385.length : Int) == 0) = (x4_1 == 0)) = false := by simpa using c32))
       (try (have c32b2 : (((t385.length : Int) == 0) == (x4_1 == 0)) = false := by simpa using c32))
       (try (have c32b3 : ¬ (((t385.length : Int) == 0) = (x4_1 == 0)) := by simpa using c32))
       clear c32
       exact absurd H (by simp)
     ·rw [if_neg c31] at H
      have c31b0 : (x4_1 == (wrap64 (t392 - t393))) = false := beq_eq_false_iff_ne.mpr c31
      have c31b1 : (x4_1 != (wrap64 (t392 - t393))) = true := bne_iff_ne.mpr c31
      exact absurd H (by simp)
    ·replace c28 := Bool.eq_false_iff.mpr c28
     subst c28
     have H1 : (none) = some r := by rw [if_neg (show ¬ (false = true) by decide)] at H; exact H
     clear H
     have H := H1
     clear H1
     exact absurd H (by simp)

end Go.Proofs.Ytejoofeigeoboaa.P
