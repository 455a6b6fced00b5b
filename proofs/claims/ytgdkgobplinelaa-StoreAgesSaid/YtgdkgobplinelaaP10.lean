import Derived.Test.YtgdkgobplinelaaP0
namespace Go.Proofs.Ytgdkgobplinelaa.P
open Go.RowKit Go.Proofs.YtgdkgobplinelaaW.PrintWords Go.Proofs.YtgdkgobplinelaaW.PrintLast Go.Proofs.YtgdkgobplinelaaW.PrintMore
set_option maxHeartbeats 8000000
set_option maxRecDepth 100000
attribute [local go_sem] run_store_complex max2_int min2_int max_two min_two max_three min_three max_four min_four
set_option linter.unusedVariables false
set_option linter.unusedSimpArgs false
theorem zq15_0 {p_ : Prop} (h_ : p_ := by repeat (first | (with_reducible first | exact HB.out | apply bA | apply pB | apply bW) | exact HB.out)) : p_ := h_
theorem zq15_1 {p_ : Prop} (h_ : p_ := by first | (with_reducible assumption) | assumption) : p_ := h_
def cenotaphref08_Get.l0 : Nat → List (S28) → Int → Int → Option (Int × ByteArray × Int × Int × Bool × Int × Int × ByteArray × Bool × Bool)
 | 0, _, _, _ => none
 | k + 1, x0, x1, x6 => if x6 < (x0.length : Int) then (if 0 ≤ x6 then (if ((rd_T28 x0 x6).f0) = x1 then (some ((rd_T28 x0 x6).f0, (rd_T28 x0 x6).f1.f0, (rd_T28 x0 x6).f1.f1, (rd_T28 x0 x6).f1.f2, (rd_T28 x0 x6).f2, (rd_T28 x0 x6).f3.f0, (rd_T28 x0 x6).f3.f1, (rd_T28 x0 x6).f4, (rd_T28 x0 x6).f5, true)) else (cenotaphref08_Get.l0 k x0 x1 (wrap64 (x6 + 1)))) else (none)) else (some (0, (⟨#[]⟩ : ByteArray), 0, 0, false, 0, 0, (⟨#[]⟩ : ByteArray), false, false))
def cenotaphref08_Get.f (k : Nat) (l0 : List (S28)) (a1 : Int) : Option (Int × ByteArray × Int × Int × Bool × Int × Int × ByteArray × Bool × Bool) := cenotaphref08_Get.l0 k l0 a1 0
theorem cenotaphref08_Get.mono_l : ∀ k, (∀ y0 y1 y2, LeO (cenotaphref08_Get.l0 k y0 y1 y2) (cenotaphref08_Get.l0 (k + 1) y0 y1 y2))
 | 0 => fun _ _ _ r h => by simp [cenotaphref08_Get.l0] at h
 | k + 1 => by
  have ih0 := cenotaphref08_Get.mono_l k
  ·intro y0 y1 y2
   unfold cenotaphref08_Get.l0
   repeat' first
   | (with_reducible exact ih0 _ _ _)
   | (with_reducible exact LeO.refl _)
   | (with_reducible exact LeO.none _)
   | (with_reducible refine LeO.ite ?_ ?_)
   | (with_reducible refine LeO.bind ?_ (fun _ => ?_))
   | exact ih0 _ _ _
   | exact LeO.none _
   | refine LeO.ite ?_ ?_
   | refine LeO.bind ?_ (fun _ => ?_)
theorem cenotaphref08_Get.mono : ∀ a0 a1 k, LeO (cenotaphref08_Get.f k a0 a1) (cenotaphref08_Get.f (k + 1) a0 a1) := by
 intro a0 a1 k
 have ih0 := cenotaphref08_Get.mono_l k
 unfold cenotaphref08_Get.f
 repeat' first
   | (with_reducible exact ih0 _ _ _)
   | (with_reducible exact LeO.refl _)
   | (with_reducible exact LeO.none _)
   | (with_reducible refine LeO.ite ?_ ?_)
   | (with_reducible refine LeO.bind ?_ (fun _ => ?_))
   | exact ih0 _ _ _
   | exact LeO.none _
   | refine LeO.ite ?_ ?_
   | refine LeO.bind ?_ (fun _ => ?_)
theorem cenotaphref08_Get.calls (k : Nat) (A0 : Option Addr) (c0 : Nat) (l0 : List (S28)) (a1 : Int) (r1 : Int) (r2 : ByteArray) (r3 : Int) (r4 : Int) (r5 : Bool) (r6 : Int) (r7 : Int) (r8 : ByteArray) (r9 : Bool) (r10 : Bool) (w : World) (hr0 : Kd.C k28 w A0 l0.length l0) (hc0 : l0.length ≤ c0) (h : cenotaphref08_Get.f k l0 a1 = some (r1, r2, r3, r4, r5, r6, r7, r8, r9, r10)) :
  Calls Try.prog 15 #[.slice A0 l0.length c0, .int .i64 a1] w fun e w' => e = .returned (.tuple #[.agg #[.int .i64 r1, .string r2, .int .i64 r3, .int .i64 r4, .bool r5, .int .i64 r6, .int .i64 r7, .string r8, .bool r9], .bool r10]) ∧ Below w.heap.size w w' := by
 have hu28 := Try.underlying28
 have HR0 := aK hr0
 have HC0 := aK hc0
 clear hr0 hc0
 have HB := aK (Below.refl w.heap.size w)
 have H : (cenotaphref08_Get.l0 k l0 a1 0) = some (r1, r2, r3, r4, r5, r6, r7, r8, r9, r10) := h
 clear h
 have H' := aK H
 clear H
 go_enter Try.func15, Try.ntmps15
 go_wp2_with (first | ((with_reducible refine gate_dst (N := 4) rfl ?_); refine box_event ?hg (N := 4) ?hd (cs := #[.int .i64 0, .string (⟨#[]⟩ : ByteArray), .int .i64 0, .int .i64 0, .bool false, .int .i64 0, .int .i64 0, .string (⟨#[]⟩ : ByteArray), .bool false]) (t := 28) ?hr ?_; (case hd => rfl); (case hg => rfl); (case hr => first | (go_simp; done) | (go_simp; rfl)); intro gb103 hg w3 hbox hb; have BK103 := aK (hbox); have GW103 := aK (((by rw [hg]; exact (below_size zq15_0)) : w.heap.size ≤ gb103)); have GE103 := aK (((by rw [hg]; exact (below_size zq15_0)) : w.heap.size ≤ gb103)); replace HB := aK (bS zq15_0 hb); clear hb hbox hg))
 go_loopg [6] k (fun kq v6 w' => ∃ (x6_1 : Int) (x104000_1 : Int) (x104001_1 : ByteArray) (x104002_1 : Int) (x104003_1 : Int) (x104004_1 : Bool) (x104005_1 : Int) (x104006_1 : Int) (x104007_1 : ByteArray) (x104008_1 : Bool), v6 = .int .i64 x6_1 ∧ Aside0 (cenotaphref08_Get.l0 kq l0 a1 x6_1 = some (r1, r2, r3, r4, r5, r6, r7, r8, r9, r10)) ∧ Aside0 (kq ≤ k) ∧ Aside0 (w'.heap[gb103]? = some (.cells #[.int .i64 x104000_1, .string x104001_1, .int .i64 x104002_1, .int .i64 x104003_1, .bool x104004_1, .int .i64 x104005_1, .int .i64 x104006_1, .string x104007_1, .bool x104008_1] 28 (0, 0))) ∧ Aside0 (Below w.heap.size w w'))
 case atStart => exact ⟨(0), (0), ((⟨#[]⟩ : ByteArray)), (0), (0), (false), (0), (0), ((⟨#[]⟩ : ByteArray)), (false), (by first | rfl | (simp; done) | (simp [*]; done)), H', ⟨Nat.le_refl _⟩, ⟨by (with_reducible repeat (first | refine blk_drewN ?_ _ | refine blk_drew ?_ | refine blk_alloc ?_ _)); exact BK103.out⟩, ⟨by repeat (first | (with_reducible first | exact HB.out | apply bA | apply pB | apply bW | refine below_set ?_ GE103.out) | exact HB.out)⟩⟩
 case round =>
  clear H'
  try clear c1
  try clear p2
  obtain ⟨x6_1, x104000_1, x104001_1, x104002_1, x104003_1, x104004_1, x104005_1, x104006_1, x104007_1, x104008_1, rfl, HA, HK1, BK103, HB⟩ := hrel
  cases gk with
  | zero => exact absurd HA.out (by simp [cenotaphref08_Get.l0])
  | succ k1 =>
   have H := HA.out
   clear HA
   simp only [cenotaphref08_Get.l0] at H
   by_cases c4 : x6_1 < (l0.length : Int)
   ·rw [if_pos c4] at H
    have c4b0 : decide (x6_1 < (l0.length : Int)) = true := dT c4
    clear c4
    by_cases c5 : 0 ≤ x6_1
    ·rw [if_pos c5] at H
     have c5b0 : decide (0 ≤ x6_1) = true := dT c5
     clear c5
     by_cases c6 : ((rd_T28 l0 x6_1).f0) = a1
     ·rw [if_pos c6] at H
      have c6b0 : (((rd_T28 l0 x6_1).f0) == a1) = true := beq_iff_eq.mpr c6
      have c6b1 : (((rd_T28 l0 x6_1).f0) != a1) = false := bne_eq_false_iff_eq.mpr c6
      clear c6
      simp only [Option.some.injEq, Prod.mk.injEq] at H
      obtain ⟨rfl, rfl, rfl, rfl, rfl, rfl, rfl, rfl, rfl, rfl⟩ := H
      have p104 : 0 ≤ (x6_1 : Int) := oD zq15_1
      have q104 : x6_1 < (l0.length : Int) := oD zq15_1
      obtain ⟨ad104, e104, hx104_0, hx104_1, hx104_2, hx104_3, hx104_4, hx104_5, hx104_6, hx104_7, hx104_8⟩ := at_T28 HR0.out x6_1 p104 q104
      cases e104
      replace hx104_0 := pc_ HB hx104_0
      replace hx104_1 := pc_ HB hx104_1
      replace hx104_2 := pc_ HB hx104_2
      replace hx104_3 := pc_ HB hx104_3
      replace hx104_4 := pc_ HB hx104_4
      replace hx104_5 := pc_ HB hx104_5
      replace hx104_6 := pc_ HB hx104_6
      replace hx104_7 := pc_ HB hx104_7
      replace hx104_8 := pc_ HB hx104_8
      replace p104 := eT p104
      replace q104 := eT q104
      have p105 : 0 ≤ (x6_1 : Int) := oD zq15_1
      have q105 : x6_1 < (l0.length : Int) := oD zq15_1
      obtain ⟨ad105, e105, hx105_0, hx105_1, hx105_2, hx105_3, hx105_4, hx105_5, hx105_6, hx105_7, hx105_8⟩ := at_T28 HR0.out x6_1 p105 q105
      obtain rfl : ad104 = ad105 := (by injection e105)
      replace hx105_0 := pc_ HB hx105_0
      replace hx105_1 := pc_ HB hx105_1
      replace hx105_2 := pc_ HB hx105_2
      replace hx105_3 := pc_ HB hx105_3
      replace hx105_4 := pc_ HB hx105_4
      replace hx105_5 := pc_ HB hx105_5
      replace hx105_6 := pc_ HB hx105_6
      replace hx105_7 := pc_ HB hx105_7
      replace hx105_8 := pc_ HB hx105_8
      replace p105 := eT p105
      replace q105 := eT q105
      have hcz7_0 : wr.cell? ⟨gb103, 0, none⟩ = some (.int .i64 x104000_1) := (bC BK103.out 0).trans rfl
      have hcz7_1 : wr.cell? ⟨gb103, 1, none⟩ = some (.string x104001_1) := (bC BK103.out 1).trans rfl
      have hcz7_2 : wr.cell? ⟨gb103, 2, none⟩ = some (.int .i64 x104002_1) := (bC BK103.out 2).trans rfl
      have hcz7_3 : wr.cell? ⟨gb103, 3, none⟩ = some (.int .i64 x104003_1) := (bC BK103.out 3).trans rfl
      have hcz7_4 : wr.cell? ⟨gb103, 4, none⟩ = some (.bool x104004_1) := (bC BK103.out 4).trans rfl
      have hcz7_5 : wr.cell? ⟨gb103, 5, none⟩ = some (.int .i64 x104005_1) := (bC BK103.out 5).trans rfl
      have hcz7_6 : wr.cell? ⟨gb103, 6, none⟩ = some (.int .i64 x104006_1) := (bC BK103.out 6).trans rfl
      have hcz7_7 : wr.cell? ⟨gb103, 7, none⟩ = some (.string x104007_1) := (bC BK103.out 7).trans rfl
      have hcz7_8 : wr.cell? ⟨gb103, 8, none⟩ = some (.bool x104008_1) := (bC BK103.out 8).trans rfl
      have hfz7_0 := bF_ BK103.out 0
      have hfz7_1 := bF_ BK103.out 1
      have hfz7_2 := bF_ BK103.out 2
      have hfz7_3 := bF_ BK103.out 3
      have hfz7_4 := bF_ BK103.out 4
      have hfz7_5 := bF_ BK103.out 5
      have hfz7_6 := bF_ BK103.out 6
      have hfz7_7 := bF_ BK103.out 7
      have hfz7_8 := bF_ BK103.out 8
      go_wp2
      refine bodyPost_ret (results_ct rfl _ _ gb103 28 #[.int .i64 ((rd_T28 l0 x6_1).f0), .string ((rd_T28 l0 x6_1).f1.f0), .int .i64 ((rd_T28 l0 x6_1).f1.f1), .int .i64 ((rd_T28 l0 x6_1).f1.f2), .bool ((rd_T28 l0 x6_1).f2), .int .i64 ((rd_T28 l0 x6_1).f3.f0), .int .i64 ((rd_T28 l0 x6_1).f3.f1), .string ((rd_T28 l0 x6_1).f4), .bool ((rd_T28 l0 x6_1).f5)] (0, 0) _ rfl (by (with_reducible repeat (first | refine blk_drewN ?_ _ | refine blk_drew ?_ | refine blk_alloc ?_ _)); refine blk_put (cs := #[.int .i64 ((rd_T28 l0 x6_1).f0), .string ((rd_T28 l0 x6_1).f1.f0), .int .i64 ((rd_T28 l0 x6_1).f1.f1), .int .i64 ((rd_T28 l0 x6_1).f1.f2), .bool ((rd_T28 l0 x6_1).f2), .int .i64 ((rd_T28 l0 x6_1).f3.f0), .int .i64 ((rd_T28 l0 x6_1).f3.f1), .string ((rd_T28 l0 x6_1).f4), .bool x104008_1]) ?_ 8 _ rfl; (with_reducible repeat (first | refine blk_drewN ?_ _ | refine blk_drew ?_ | refine blk_alloc ?_ _)); refine blk_put (cs := #[.int .i64 ((rd_T28 l0 x6_1).f0), .string ((rd_T28 l0 x6_1).f1.f0), .int .i64 ((rd_T28 l0 x6_1).f1.f1), .int .i64 ((rd_T28 l0 x6_1).f1.f2), .bool ((rd_T28 l0 x6_1).f2), .int .i64 ((rd_T28 l0 x6_1).f3.f0), .int .i64 ((rd_T28 l0 x6_1).f3.f1), .string x104007_1, .bool x104008_1]) ?_ 7 _ rfl; (with_reducible repeat (first | refine blk_drewN ?_ _ | refine blk_drew ?_ | refine blk_alloc ?_ _)); refine blk_put (cs := #[.int .i64 ((rd_T28 l0 x6_1).f0), .string ((rd_T28 l0 x6_1).f1.f0), .int .i64 ((rd_T28 l0 x6_1).f1.f1), .int .i64 ((rd_T28 l0 x6_1).f1.f2), .bool ((rd_T28 l0 x6_1).f2), .int .i64 ((rd_T28 l0 x6_1).f3.f0), .int .i64 x104006_1, .string x104007_1, .bool x104008_1]) ?_ 6 _ rfl; (with_reducible repeat (first | refine blk_drewN ?_ _ | refine blk_drew ?_ | refine blk_alloc ?_ _)); refine blk_put (cs := #[.int .i64 ((rd_T28 l0 x6_1).f0), .string ((rd_T28 l0 x6_1).f1.f0), .int .i64 ((rd_T28 l0 x6_1).f1.f1), .int .i64 ((rd_T28 l0 x6_1).f1.f2), .bool ((rd_T28 l0 x6_1).f2), .int .i64 x104005_1, .int .i64 x104006_1, .string x104007_1, .bool x104008_1]) ?_ 5 _ rfl; (with_reducible repeat (first | refine blk_drewN ?_ _ | refine blk_drew ?_ | refine blk_alloc ?_ _)); refine blk_put (cs := #[.int .i64 ((rd_T28 l0 x6_1).f0), .string ((rd_T28 l0 x6_1).f1.f0), .int .i64 ((rd_T28 l0 x6_1).f1.f1), .int .i64 ((rd_T28 l0 x6_1).f1.f2), .bool x104004_1, .int .i64 x104005_1, .int .i64 x104006_1, .string x104007_1, .bool x104008_1]) ?_ 4 _ rfl; (with_reducible repeat (first | refine blk_drewN ?_ _ | refine blk_drew ?_ | refine blk_alloc ?_ _)); refine blk_put (cs := #[.int .i64 ((rd_T28 l0 x6_1).f0), .string ((rd_T28 l0 x6_1).f1.f0), .int .i64 ((rd_T28 l0 x6_1).f1.f1), .int .i64 x104003_1, .bool x104004_1, .int .i64 x104005_1, .int .i64 x104006_1, .string x104007_1, .bool x104008_1]) ?_ 3 _ rfl; (with_reducible repeat (first | refine blk_drewN ?_ _ | refine blk_drew ?_ | refine blk_alloc ?_ _)); refine blk_put (cs := #[.int .i64 ((rd_T28 l0 x6_1).f0), .string ((rd_T28 l0 x6_1).f1.f0), .int .i64 x104002_1, .int .i64 x104003_1, .bool x104004_1, .int .i64 x104005_1, .int .i64 x104006_1, .string x104007_1, .bool x104008_1]) ?_ 2 _ rfl; (with_reducible repeat (first | refine blk_drewN ?_ _ | refine blk_drew ?_ | refine blk_alloc ?_ _)); refine blk_put (cs := #[.int .i64 ((rd_T28 l0 x6_1).f0), .string x104001_1, .int .i64 x104002_1, .int .i64 x104003_1, .bool x104004_1, .int .i64 x104005_1, .int .i64 x104006_1, .string x104007_1, .bool x104008_1]) ?_ 1 _ rfl; (with_reducible repeat (first | refine blk_drewN ?_ _ | refine blk_drew ?_ | refine blk_alloc ?_ _)); refine blk_put (cs := #[.int .i64 x104000_1, .string x104001_1, .int .i64 x104002_1, .int .i64 x104003_1, .bool x104004_1, .int .i64 x104005_1, .int .i64 x104006_1, .string x104007_1, .bool x104008_1]) ?_ 0 _ rfl; (with_reducible repeat (first | refine blk_drewN ?_ _ | refine blk_drew ?_ | refine blk_alloc ?_ _)); exact BK103.out) Try.underlying28 rfl (by kernel_rfl)) rfl ?_
      exact ⟨by first | rfl | (simp [errW_none, errW_some] <;> rfl) | (simp [*, errW_none, errW_some] <;> rfl), by repeat (first | (with_reducible first | exact HB.out | apply bA | apply pB | apply bW | refine below_set ?_ GE103.out) | exact HB.out)⟩
     ·rw [if_neg c6] at H
      have c6b0 : (((rd_T28 l0 x6_1).f0) == a1) = false := beq_eq_false_iff_ne.mpr c6
      have c6b1 : (((rd_T28 l0 x6_1).f0) != a1) = true := bne_iff_ne.mpr c6
      have H' := aK H
      clear H
      have p104 : 0 ≤ (x6_1 : Int) := oD zq15_1
      have q104 : x6_1 < (l0.length : Int) := oD zq15_1
      obtain ⟨ad104, e104, hx104_0, hx104_1, hx104_2, hx104_3, hx104_4, hx104_5, hx104_6, hx104_7, hx104_8⟩ := at_T28 HR0.out x6_1 p104 q104
      cases e104
      replace hx104_0 := pc_ HB hx104_0
      replace hx104_1 := pc_ HB hx104_1
      replace hx104_2 := pc_ HB hx104_2
      replace hx104_3 := pc_ HB hx104_3
      replace hx104_4 := pc_ HB hx104_4
      replace hx104_5 := pc_ HB hx104_5
      replace hx104_6 := pc_ HB hx104_6
      replace hx104_7 := pc_ HB hx104_7
      replace hx104_8 := pc_ HB hx104_8
      replace p104 := eT p104
      replace q104 := eT q104
      go_wp2
      go_roundg k1
      case measure => have := HK1.out; omega
      case rel => exact ⟨(wrap64 (x6_1 + 1)), (x104000_1), (x104001_1), (x104002_1), (x104003_1), (x104004_1), (x104005_1), (x104006_1), (x104007_1), (x104008_1), (by first | rfl | (simp; done) | (simp [*]; done)), H', ⟨by have := HK1.out; omega⟩, ⟨by (with_reducible repeat (first | refine blk_drewN ?_ _ | refine blk_drew ?_ | refine blk_alloc ?_ _)); exact BK103.out⟩, ⟨by repeat (first | (with_reducible first | exact HB.out | apply bA | apply pB | apply bW | refine below_set ?_ GE103.out) | exact HB.out)⟩⟩
    ·rw [if_neg c5] at H
     exact absurd H (by simp)
   ·rw [if_neg c4] at H
    have c4b0 : decide (x6_1 < (l0.length : Int)) = false := decide_eq_false c4
    clear c4
    simp only [Option.some.injEq, Prod.mk.injEq] at H
    obtain ⟨rfl, rfl, rfl, rfl, rfl, rfl, rfl, rfl, rfl, rfl⟩ := H
    have hcz8_0 : wr.cell? ⟨gb103, 0, none⟩ = some (.int .i64 x104000_1) := (bC BK103.out 0).trans rfl
    have hcz8_1 : wr.cell? ⟨gb103, 1, none⟩ = some (.string x104001_1) := (bC BK103.out 1).trans rfl
    have hcz8_2 : wr.cell? ⟨gb103, 2, none⟩ = some (.int .i64 x104002_1) := (bC BK103.out 2).trans rfl
    have hcz8_3 : wr.cell? ⟨gb103, 3, none⟩ = some (.int .i64 x104003_1) := (bC BK103.out 3).trans rfl
    have hcz8_4 : wr.cell? ⟨gb103, 4, none⟩ = some (.bool x104004_1) := (bC BK103.out 4).trans rfl
    have hcz8_5 : wr.cell? ⟨gb103, 5, none⟩ = some (.int .i64 x104005_1) := (bC BK103.out 5).trans rfl
    have hcz8_6 : wr.cell? ⟨gb103, 6, none⟩ = some (.int .i64 x104006_1) := (bC BK103.out 6).trans rfl
    have hcz8_7 : wr.cell? ⟨gb103, 7, none⟩ = some (.string x104007_1) := (bC BK103.out 7).trans rfl
    have hcz8_8 : wr.cell? ⟨gb103, 8, none⟩ = some (.bool x104008_1) := (bC BK103.out 8).trans rfl
    have hfz8_0 := bF_ BK103.out 0
    have hfz8_1 := bF_ BK103.out 1
    have hfz8_2 := bF_ BK103.out 2
    have hfz8_3 := bF_ BK103.out 3
    have hfz8_4 := bF_ BK103.out 4
    have hfz8_5 := bF_ BK103.out 5
    have hfz8_6 := bF_ BK103.out 6
    have hfz8_7 := bF_ BK103.out 7
    have hfz8_8 := bF_ BK103.out 8
    go_wp2
    refine bodyPost_ret (results_ct rfl _ _ gb103 28 #[.int .i64 0, .string (⟨#[]⟩ : ByteArray), .int .i64 0, .int .i64 0, .bool false, .int .i64 0, .int .i64 0, .string (⟨#[]⟩ : ByteArray), .bool false] (0, 0) _ rfl (by (with_reducible repeat (first | refine blk_drewN ?_ _ | refine blk_drew ?_ | refine blk_alloc ?_ _)); refine blk_put (cs := #[.int .i64 0, .string (⟨#[]⟩ : ByteArray), .int .i64 0, .int .i64 0, .bool false, .int .i64 0, .int .i64 0, .string (⟨#[]⟩ : ByteArray), .bool x104008_1]) ?_ 8 _ rfl; (with_reducible repeat (first | refine blk_drewN ?_ _ | refine blk_drew ?_ | refine blk_alloc ?_ _)); refine blk_put (cs := #[.int .i64 0, .string (⟨#[]⟩ : ByteArray), .int .i64 0, .int .i64 0, .bool false, .int .i64 0, .int .i64 0, .string x104007_1, .bool x104008_1]) ?_ 7 _ rfl; (with_reducible repeat (first | refine blk_drewN ?_ _ | refine blk_drew ?_ | refine blk_alloc ?_ _)); refine blk_put (cs := #[.int .i64 0, .string (⟨#[]⟩ : ByteArray), .int .i64 0, .int .i64 0, .bool false, .int .i64 0, .int .i64 x104006_1, .string x104007_1, .bool x104008_1]) ?_ 6 _ rfl; (with_reducible repeat (first | refine blk_drewN ?_ _ | refine blk_drew ?_ | refine blk_alloc ?_ _)); refine blk_put (cs := #[.int .i64 0, .string (⟨#[]⟩ : ByteArray), .int .i64 0, .int .i64 0, .bool false, .int .i64 x104005_1, .int .i64 x104006_1, .string x104007_1, .bool x104008_1]) ?_ 5 _ rfl; (with_reducible repeat (first | refine blk_drewN ?_ _ | refine blk_drew ?_ | refine blk_alloc ?_ _)); refine blk_put (cs := #[.int .i64 0, .string (⟨#[]⟩ : ByteArray), .int .i64 0, .int .i64 0, .bool x104004_1, .int .i64 x104005_1, .int .i64 x104006_1, .string x104007_1, .bool x104008_1]) ?_ 4 _ rfl; (with_reducible repeat (first | refine blk_drewN ?_ _ | refine blk_drew ?_ | refine blk_alloc ?_ _)); refine blk_put (cs := #[.int .i64 0, .string (⟨#[]⟩ : ByteArray), .int .i64 0, .int .i64 x104003_1, .bool x104004_1, .int .i64 x104005_1, .int .i64 x104006_1, .string x104007_1, .bool x104008_1]) ?_ 3 _ rfl; (with_reducible repeat (first | refine blk_drewN ?_ _ | refine blk_drew ?_ | refine blk_alloc ?_ _)); refine blk_put (cs := #[.int .i64 0, .string (⟨#[]⟩ : ByteArray), .int .i64 x104002_1, .int .i64 x104003_1, .bool x104004_1, .int .i64 x104005_1, .int .i64 x104006_1, .string x104007_1, .bool x104008_1]) ?_ 2 _ rfl; (with_reducible repeat (first | refine blk_drewN ?_ _ | refine blk_drew ?_ | refine blk_alloc ?_ _)); refine blk_put (cs := #[.int .i64 0, .string x104001_1, .int .i64 x104002_1, .int .i64 x104003_1, .bool x104004_1, .int .i64 x104005_1, .int .i64 x104006_1, .string x104007_1, .bool x104008_1]) ?_ 1 _ rfl; (with_reducible repeat (first | refine blk_drewN ?_ _ | refine blk_drew ?_ | refine blk_alloc ?_ _)); refine blk_put (cs := #[.int .i64 x104000_1, .string x104001_1, .int .i64 x104002_1, .int .i64 x104003_1, .bool x104004_1, .int .i64 x104005_1, .int .i64 x104006_1, .string x104007_1, .bool x104008_1]) ?_ 0 _ rfl; (with_reducible repeat (first | refine blk_drewN ?_ _ | refine blk_drew ?_ | refine blk_alloc ?_ _)); exact BK103.out) Try.underlying28 rfl (by kernel_rfl)) rfl ?_
    exact ⟨by first | rfl | (simp [errW_none, errW_some] <;> rfl) | (simp [*, errW_none, errW_some] <;> rfl), by repeat (first | (with_reducible first | exact HB.out | apply bA | apply pB | apply bW | refine below_set ?_ GE103.out) | exact HB.out)⟩
def cenotaphref08_Drop.l0 : Nat → List (S28) → Int → List (S28) → Int → Option ((List (S28)))
 | 0, _, _, _, _ => none
 | k + 1, x0, x1, x5, x6 => if x6 < (x0.length : Int) then (if 0 ≤ x6 then (if ((rd_T28 x0 x6).f0) = x1 then (cenotaphref08_Drop.l0 k x0 x1 x5 (wrap64 (x6 + 1))) else (if x5.length < 1599289640401 then (cenotaphref08_Drop.l0 k x0 x1 (x5 ++ [(⟨(rd_T28 x0 x6).f0, (⟨(rd_T28 x0 x6).f1.f0, (rd_T28 x0 x6).f1.f1, (rd_T28 x0 x6).f1.f2⟩ : S24), (rd_T28 x0 x6).f2, (⟨(rd_T28 x0 x6).f3.f0, (rd_T28 x0 x6).f3.f1⟩ : S26), (rd_T28 x0 x6).f4, (rd_T28 x0 x6).f5⟩ : S28)]) (wrap64 (x6 + 1))) else (none))) else (none)) else (some x5)
def cenotaphref08_Drop.f (k : Nat) (l0 : List (S28)) (a1 : Int) : Option ((List (S28))) := cenotaphref08_Drop.l0 k l0 a1 ([] : List (S28)) 0
theorem cenotaphref08_Drop.mono_l : ∀ k, (∀ y0 y1 y2 y3, LeO (cenotaphref08_Drop.l0 k y0 y1 y2 y3) (cenotaphref08_Drop.l0 (k + 1) y0 y1 y2 y3))
 | 0 => fun _ _ _ _ r h => by simp [cenotaphref08_Drop.l0] at h
 | k + 1 => by
  have ih0 := cenotaphref08_Drop.mono_l k
  ·intro y0 y1 y2 y3
   unfold cenotaphref08_Drop.l0
   repeat' first
   | (with_reducible exact ih0 _ _ _ _)
   | (with_reducible exact LeO.refl _)
   | (with_reducible exact LeO.none _)
   | (with_reducible refine LeO.ite ?_ ?_)
   | (with_reducible refine LeO.bind ?_ (fun _ => ?_))
   | exact ih0 _ _ _ _
   | exact LeO.none _
   | refine LeO.ite ?_ ?_
   | refine LeO.bind ?_ (fun _ => ?_)
theorem cenotaphref08_Drop.mono : ∀ a0 a1 k, LeO (cenotaphref08_Drop.f k a0 a1) (cenotaphref08_Drop.f (k + 1) a0 a1) := by
 intro a0 a1 k
 have ih0 := cenotaphref08_Drop.mono_l k
 unfold cenotaphref08_Drop.f
 repeat' first
   | (with_reducible exact ih0 _ _ _ _)
   | (with_reducible exact LeO.refl _)
   | (with_reducible exact LeO.none _)
   | (with_reducible refine LeO.ite ?_ ?_)
   | (with_reducible refine LeO.bind ?_ (fun _ => ?_))
   | exact ih0 _ _ _ _
   | exact LeO.none _
   | refine LeO.ite ?_ ?_
   | refine LeO.bind ?_ (fun _ => ?_)
theorem cenotaphref08_Drop.calls (k : Nat) (A0 : Option Addr) (c0 : Nat) (l0 : List (S28)) (a1 : Int) (r : List (S28)) (w : World) (hr0 : Kd.C k28 w A0 l0.length l0) (hc0 : l0.length ≤ c0) (h : cenotaphref08_Drop.f k l0 a1 = some r) :
  Calls Try.prog 22 #[.slice A0 l0.length c0, .int .i64 a1] w fun e w' => ∃ v0_ : Value, e = .returned (v0_) ∧ Kd.R k28 28 w' w.heap.size (fun _ => True) v0_ r ∧ Below w.heap.size w w' := by
 have hu28 := Try.underlying28
 have HR0 := aK hr0
 have HC0 := aK hc0
 clear hr0 hc0
 have HB := aK (Below.refl w.heap.size w)
 have H : (cenotaphref08_Drop.l0 k l0 a1 ([] : List (S28)) 0) = some r := h
 clear h
 have H' := aK H
 clear H
 go_enter Try.func22, Try.ntmps22
 go_wp2
 go_loopg [5, 6] k (fun kq v5 v6 w' => ∃ (x5_1 : List (S28)) (x6_1 : Int), v6 = .int .i64 x6_1 ∧ Aside0 (cenotaphref08_Drop.l0 kq l0 a1 x5_1 x6_1 = some r) ∧ Aside0 (kq ≤ k) ∧ Aside0 (Kd.R k28 28 w' w.heap.size (fun _ => True) v5 x5_1) ∧ Aside0 (Below w.heap.size w w'))
 case atStart => exact ⟨(([] : List (S28))), (0), (by first | rfl | (simp; done) | (simp [*]; done)), H', ⟨Nat.le_refl _⟩, ⟨by first | exact Kd.R_nil _ _ _ _ _ | exact Kd.N_nil _ _ _ _ _ | exact Kd.V_nil _ _ _ _ _ | exact Kd.Q_nil _ _ _ _ _ | exact Kd.S_nil _ _ _ _ _⟩, ⟨by repeat (first | (with_reducible first | exact HB.out | apply bA | apply pB | apply bW) | exact HB.out)⟩⟩
 case round =>
  clear H'
  try clear c2
  try clear p2
  obtain ⟨x5_1, x6_1, rfl, HA, HK1, HO_5, HB⟩ := hrel
  cases gk with
  | zero => exact absurd HA.out (by simp [cenotaphref08_Drop.l0])
  | succ k1 =>
   have H := HA.out
   clear HA
   simp only [cenotaphref08_Drop.l0] at H
   by_cases c3 : x6_1 < (l0.length : Int)
   ·rw [if_pos c3] at H
    have c3b0 : decide (x6_1 < (l0.length : Int)) = true := dT c3
    clear c3
    by_cases c4 : 0 ≤ x6_1
    ·rw [if_pos c4] at H
     have c4b0 : decide (0 ≤ x6_1) = true := dT c4
     clear c4
     by_cases c5 : ((rd_T28 l0 x6_1).f0) = a1
     ·rw [if_pos c5] at H
      have c5b0 : (((rd_T28 l0 x6_1).f0) == a1) = true := beq_iff_eq.mpr c5
      have c5b1 : (((rd_T28 l0 x6_1).f0) != a1) = false := bne_eq_false_iff_eq.mpr c5
      clear c5
      have H' := aK H
      clear H
      have p106 : 0 ≤ (x6_1 : Int) := oD (by first | (with_reducible assumption) | assumption)
      have q106 : x6_1 < (l0.length : Int) := oD (by first | (with_reducible assumption) | assumption)
      obtain ⟨ad106, e106, hx106_0, hx106_1, hx106_2, hx106_3, hx106_4, hx106_5, hx106_6, hx106_7, hx106_8⟩ := at_T28 HR0.out x6_1 p106 q106
      cases e106
      replace hx106_0 := pc_ HB hx106_0
      replace hx106_1 := pc_ HB hx106_1
      replace hx106_2 := pc_ HB hx106_2
      replace hx106_3 := pc_ HB hx106_3
      replace hx106_4 := pc_ HB hx106_4
      replace hx106_5 := pc_ HB hx106_5
      replace hx106_6 := pc_ HB hx106_6
      replace hx106_7 := pc_ HB hx106_7
      replace hx106_8 := pc_ HB hx106_8
      replace p106 := eT p106
      replace q106 := eT q106
      go_wp2
      go_roundg k1
      case measure => have := HK1.out; omega
      case rel => exact ⟨(x5_1), (wrap64 (x6_1 + 1)), (by first | rfl | (simp; done) | (simp [*]; done)), H', ⟨by have := HK1.out; omega⟩, ⟨by (with_reducible repeat (first | apply Kd.R_alloc | apply Kd.R_drewN | apply Kd.R_drew)); exact HO_5.out⟩, ⟨by repeat (first | (with_reducible first | exact HB.out | apply bA | apply pB | apply bW) | exact HB.out)⟩⟩
     ·rw [if_neg c5] at H
      have c5b0 : (((rd_T28 l0 x6_1).f0) == a1) = false := beq_eq_false_iff_ne.mpr c5
      have c5b1 : (((rd_T28 l0 x6_1).f0) != a1) = true := bne_iff_ne.mpr c5
      by_cases c6 : x5_1.length < 1599289640401
      ·rw [if_pos c6] at H
       have LMc6 := aK c6
       clear c6
       obtain ⟨y108, hy108⟩ : ∃ y_ : List (S28), y_ = (x5_1 ++ [(⟨(rd_T28 l0 x6_1).f0, (⟨(rd_T28 l0 x6_1).f1.f0, (rd_T28 l0 x6_1).f1.f1, (rd_T28 l0 x6_1).f1.f2⟩ : S24), (rd_T28 l0 x6_1).f2, (⟨(rd_T28 l0 x6_1).f3.f0, (rd_T28 l0 x6_1).f3.f1⟩ : S26), (rd_T28 l0 x6_1).f4, (rd_T28 l0 x6_1).f5⟩ : S28)]) := ⟨_, rfl⟩
       replace H : (cenotaphref08_Drop.l0 k1 l0 a1 y108 (wrap64 (x6_1 + 1))) = some r := by first | (rw [hy108]; with_reducible exact H) | (have H2_ := (Option.bind_some _ _).symm.trans H; rw [hy108]; with_reducible exact H2_) | (have H2_ := (Option.bind_some _ _).symm.trans H; with_reducible exact H2_) | with_reducible exact H | (rw [hy108]; exact H) | exact H
       have Ny108 := aK hy108
       clear hy108
       have H' := aK H
       clear H
       have p106 : 0 ≤ (x6_1 : Int) := oD (by first | (with_reducible assumption) | assumption)
       have q106 : x6_1 < (l0.length : Int) := oD (by first | (with_reducible assumption) | assumption)
       obtain ⟨ad106, e106, hx106_0, hx106_1, hx106_2, hx106_3, hx106_4, hx106_5, hx106_6, hx106_7, hx106_8⟩ := at_T28 HR0.out x6_1 p106 q106
       cases e106
       replace hx106_0 := pc_ HB hx106_0
       replace hx106_1 := pc_ HB hx106_1
       replace hx106_2 := pc_ HB hx106_2
       replace hx106_3 := pc_ HB hx106_3
       replace hx106_4 := pc_ HB hx106_4
       replace hx106_5 := pc_ HB hx106_5
       replace hx106_6 := pc_ HB hx106_6
       replace hx106_7 := pc_ HB hx106_7
       replace hx106_8 := pc_ HB hx106_8
       replace p106 := eT p106
       replace q106 := eT q106
       have p107 : 0 ≤ (x6_1 : Int) := oD (by first | (with_reducible assumption) | assumption)
       have q107 : x6_1 < (l0.length : Int) := oD (by first | (with_reducible assumption) | assumption)
       obtain ⟨ad107, e107, hx107_0, hx107_1, hx107_2, hx107_3, hx107_4, hx107_5, hx107_6, hx107_7, hx107_8⟩ := at_T28 HR0.out x6_1 p107 q107
       obtain rfl : ad106 = ad107 := (by injection e107)
       replace hx107_0 := pc_ HB hx107_0
       replace hx107_1 := pc_ HB hx107_1
       replace hx107_2 := pc_ HB hx107_2
       replace hx107_3 := pc_ HB hx107_3
       replace hx107_4 := pc_ HB hx107_4
       replace hx107_5 := pc_ HB hx107_5
       replace hx107_6 := pc_ HB hx107_6
       replace hx107_7 := pc_ HB hx107_7
       replace hx107_8 := pc_ HB hx107_8
       replace p107 := eT p107
       replace q107 := eT q107
       go_wp2_with (first | ((with_reducible refine gate_builtin (b := .append) (xs := #[.tmp 20, .tmp 25]) rfl ?_); at_builtin; refine Kd.R_append k28 (w0 := w) w.heap.size rfl (.tmp 20) (.tmp 25) 22 28 (.agg #[(.int .i64 0), (.string ⟨#[]⟩), (.int .i64 0), (.int .i64 0), (.bool false), (.int .i64 0), (.int .i64 0), (.string ⟨#[]⟩), (.bool false)]) 88 rfl Try.underlying22 info28 rfl (by decide) (by omega) u5 x5_1 (⟨(rd_T28 l0 x6_1).f0, (⟨(rd_T28 l0 x6_1).f1.f0, (rd_T28 l0 x6_1).f1.f1, (rd_T28 l0 x6_1).f1.f2⟩ : S24), (rd_T28 l0 x6_1).f2, (⟨(rd_T28 l0 x6_1).f3.f0, (rd_T28 l0 x6_1).f3.f1⟩ : S26), (rd_T28 l0 x6_1).f4, (rd_T28 l0 x6_1).f5⟩ : S28) [.int .i64 ((rd_T28 l0 x6_1).f0), .string ((rd_T28 l0 x6_1).f1.f0), .int .i64 ((rd_T28 l0 x6_1).f1.f1), .int .i64 ((rd_T28 l0 x6_1).f1.f2), .bool ((rd_T28 l0 x6_1).f2), .int .i64 ((rd_T28 l0 x6_1).f3.f0), .int .i64 ((rd_T28 l0 x6_1).f3.f1), .string ((rd_T28 l0 x6_1).f4), .bool ((rd_T28 l0 x6_1).f5)] (fun _ => True) (fun _ => False) rfl rfl ?aP (fun _ hk => hk.elim) ?aF ?aO ?aB ?aS ?aL ?_; (case aP => exact k28_mkM _ _ _ (⟨(rd_T28 l0 x6_1).f0, (⟨(rd_T28 l0 x6_1).f1.f0, (rd_T28 l0 x6_1).f1.f1, (rd_T28 l0 x6_1).f1.f2⟩ : S24), (rd_T28 l0 x6_1).f2, (⟨(rd_T28 l0 x6_1).f3.f0, (rd_T28 l0 x6_1).f3.f1⟩ : S26), (rd_T28 l0 x6_1).f4, (rd_T28 l0 x6_1).f5⟩ : S28)); (case aB => exact (by repeat (first | (with_reducible first | exact HB.out | apply bA | apply pB | apply bW) | exact HB.out))); (case aF => exact (fun _ _ => trivial)); (case aO => exact (by (with_reducible repeat (first | apply Kd.R_alloc | apply Kd.R_drewN | apply Kd.R_drew)); exact HO_5.out)); (case aS => exact (below_size (by repeat (first | (with_reducible first | exact HB.out | apply bA | apply pB | apply bW) | exact HB.out)))); (case aL => have := LMc6.out; omega); intro v109 w7 ho hb hg hat; rw [← Ny108.out] at ho; replace HB := aK (hb); have HO110 := aK (ho); clear HO_5; clear ho hb hg hat))
       go_roundg k1
       case measure => have := HK1.out; omega
       case rel => exact ⟨(y108), (wrap64 (x6_1 + 1)), (by first | rfl | (simp; done) | (simp [*]; done)), H', ⟨by have := HK1.out; omega⟩, ⟨by (with_reducible repeat (first | apply Kd.R_alloc | apply Kd.R_drewN | apply Kd.R_drew)); exact HO110.out⟩, ⟨by repeat (first | (with_reducible first | exact HB.out | apply bA | apply pB | apply bW) | exact HB.out)⟩⟩
      ·rw [if_neg c6] at H
       exact absurd H (by simp)
    ·rw [if_neg c4] at H
     exact absurd H (by simp)
   ·rw [if_neg c3] at H
    have c3b0 : decide (x6_1 < (l0.length : Int)) = false := decide_eq_false c3
    clear c3
    obtain rfl := sI H
    go_wp2
    go_ret
    exact ⟨_, by first | rfl | (simp [errW_none, errW_some] <;> rfl) | (simp [*, errW_none, errW_some] <;> rfl), by (with_reducible repeat (first | apply Kd.R_alloc | apply Kd.R_drewN | apply Kd.R_drew)); exact HO_5.out, by repeat (first | (with_reducible first | exact HB.out | apply bA | apply pB | apply bW) | exact HB.out)⟩
end Go.Proofs.Ytgdkgobplinelaa.P
