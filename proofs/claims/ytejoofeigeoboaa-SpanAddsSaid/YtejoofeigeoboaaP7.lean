-- Written by a program of this session (wip/pp.py over the kit's printer, with our own texts put in).
import Derived.Test.YtejoofeigeoboaaP0
import Derived.Test.YtejoofeigeoboaaP1
import Derived.Test.YtejoofeigeoboaaP2
import Derived.Test.YtejoofeigeoboaaP3
import Derived.Test.YtejoofeigeoboaaP4
import Derived.Test.YtejoofeigeoboaaP5
import Derived.Test.YtejoofeigeoboaaP6
namespace Go.Proofs.Ytejoofeigeoboaa.P
open Go.RowKit Go.Proofs.YtejoofeigeoboaaW.PrintWords Go.Proofs.YtejoofeigeoboaaW.PrintLast Go.Proofs.YtejoofeigeoboaaW.PrintMore
attribute [local go_sem] max2_int min2_int max_two min_two max_three min_three max_four min_four   -- for this text's walks alone
set_option linter.unusedVariables false
set_option linter.unusedSimpArgs false

/-! ### cenotaphlaw02_SpanAdds: function 5 -/
abbrev bT5 : Bool := true
abbrev bF5 : Bool := false
theorem zq5_0 {p_ : Prop} (h_ : p_ := by (with_reducible repeat (first | apply Kd.R_alloc | apply Kd.R_drewN | apply Kd.R_drew)); exact (Kd.R_mono (Kd.R_far (p := ⟨gb263, 1, none⟩) (Kd.R_far (p := ⟨gb263, 0, none⟩) (Kd.R_types HO267.out BK263.out (by decide)) (fun _ hk => hk.2) (.int .i64 t264)) (fun _ hk => hk.2) (.slice Ao32 t265.length co32)) (fun _ h_ => h_.1))) : p_ := h_
theorem zq5_1 {p_ : Prop} (h_ : p_ := by (with_reducible repeat (first | apply Kd.R_alloc | apply Kd.R_drewN | apply Kd.R_drew)); exact (Kd.R_mono (Kd.R_far (p := ⟨gb272, 1, none⟩) (Kd.R_far (p := ⟨gb272, 0, none⟩) (Kd.R_types HO271.out BK272.out (by decide)) (fun _ hk => hk.2) (.int .i64 t268)) (fun _ hk => hk.2) (.slice Ao37 t269.length co37)) (fun _ h_ => h_.1))) : p_ := h_
theorem zq5_2 {p_ : Prop} (h_ : p_ := by (with_reducible repeat (first | apply Kd.R_alloc | apply Kd.R_drewN | apply Kd.R_drew)); exact (Kd.R_mono (Kd.R_far (p := ⟨gb277, 1, none⟩) (Kd.R_far (p := ⟨gb277, 0, none⟩) (Kd.R_types HO267.out BK277.out (by decide)) (fun _ hk => hk.2) (.int .i64 t273)) (fun _ hk => hk.2) (.slice Ao43 t274.length co43)) (fun _ h_ => h_.1))) : p_ := h_
theorem zq5_3 {p_ : Prop} (h_ : p_ := by (with_reducible repeat (first | apply Kd.R_alloc | apply Kd.R_drewN | apply Kd.R_drew)); exact (Kd.R_mono (Kd.R_far (p := ⟨gb263, 1, none⟩) (Kd.R_far (p := ⟨gb263, 0, none⟩) (Kd.R_types HO267.out BK263.out (by decide)) (fun _ hk => hk.2) (.int .i64 t264)) (fun _ hk => hk.2) (.slice Ao82 t265.length co82)) (fun _ h_ => h_.1))) : p_ := h_
theorem zq5_4 {p_ : Prop} (h_ : p_ := by (with_reducible repeat (first | apply Kd.R_alloc | apply Kd.R_drewN | apply Kd.R_drew)); exact (Kd.R_mono (Kd.R_far (p := ⟨gb272, 1, none⟩) (Kd.R_far (p := ⟨gb272, 0, none⟩) (Kd.R_types HO271.out BK272.out (by decide)) (fun _ hk => hk.2) (.int .i64 t268)) (fun _ hk => hk.2) (.slice Ao87 t269.length co87)) (fun _ h_ => h_.1))) : p_ := h_
theorem zq5_5 {p_ : Prop} (h_ : p_ := by (with_reducible repeat (first | apply Kd.R_alloc | apply Kd.R_drewN | apply Kd.R_drew)); exact (Kd.R_mono (Kd.R_far (p := ⟨gb277, 1, none⟩) (Kd.R_far (p := ⟨gb277, 0, none⟩) (Kd.R_types HO267.out BK277.out (by decide)) (fun _ hk => hk.2) (.int .i64 t273)) (fun _ hk => hk.2) (.slice Ao93 t274.length co93)) (fun _ h_ => h_.1))) : p_ := h_
theorem zq5_6 {p_ : Prop} (h_ : p_ := by rw [hg]; exact (below_size (by repeat (first | (with_reducible first | exact HB.out | apply below_alloc | apply pw_below_drewN | apply below_drew1 | refine below_set ?_ GE263.out | refine below_set ?_ GE272.out | refine below_set ?_ GE277.out) | exact HB.out)))) : p_ := h_
theorem zq5_7 {p_ : Prop} (h_ : p_ := by repeat (first | (with_reducible first | exact HB.out | apply below_alloc | apply pw_below_drewN | apply below_drew1 | refine below_set ?_ GE263.out | refine below_set ?_ GE272.out | refine below_set ?_ GE277.out | refine below_set ?_ GE282.out) | exact HB.out)) : p_ := h_
theorem zq5_8 {p_ : Prop} (h_ : p_ := by rw [hg]; exact Nat.ne_of_lt (blk_lt (g := gb263) (o := .cells #[.int .i64 t264, .slice Ao32 t265.length co32] 30 (0, 0)) (by (with_reducible repeat (first | refine blk_drewN ?_ _ | refine blk_drew ?_ | refine blk_alloc ?_ _)); exact BK263.out))) : p_ := h_
theorem zq5_9 {p_ : Prop} (h_ : p_ := by rw [hg]; exact Nat.ne_of_gt (blk_lt (g := gb263) (o := .cells #[.int .i64 t264, .slice Ao32 t265.length co32] 30 (0, 0)) (by (with_reducible repeat (first | refine blk_drewN ?_ _ | refine blk_drew ?_ | refine blk_alloc ?_ _)); exact BK263.out))) : p_ := h_
theorem zq5_10 {p_ : Prop} (h_ : p_ := by rw [hg]; exact Nat.ne_of_lt (blk_lt (g := gb263) (o := .cells #[.int .i64 t264, .slice Ao82 t265.length co82] 30 (0, 0)) (by (with_reducible repeat (first | refine blk_drewN ?_ _ | refine blk_drew ?_ | refine blk_alloc ?_ _)); exact BK263.out))) : p_ := h_
theorem zq5_11 {p_ : Prop} (h_ : p_ := by rw [hg]; exact Nat.ne_of_gt (blk_lt (g := gb263) (o := .cells #[.int .i64 t264, .slice Ao82 t265.length co82] 30 (0, 0)) (by (with_reducible repeat (first | refine blk_drewN ?_ _ | refine blk_drew ?_ | refine blk_alloc ?_ _)); exact BK263.out))) : p_ := h_
theorem zq5_12 {p_ : Prop} (h_ : p_ := by rw [hg]; exact (below_size (by repeat (first | (with_reducible first | exact HB.out | apply below_alloc | apply pw_below_drewN | apply below_drew1 | refine below_set ?_ GE263.out | refine below_set ?_ GE272.out) | exact HB.out)))) : p_ := h_
theorem zq5_13 {p_ : Prop} (h_ : p_ := by repeat (first | (with_reducible first | exact HB.out | apply below_alloc | apply pw_below_drewN | apply below_drew1 | refine below_set ?_ GE263.out | refine below_set ?_ GE272.out | refine below_set ?_ GE277.out) | exact HB.out)) : p_ := h_
theorem zq5_14 {p_ : Prop} (h_ : p_ := by rw [hg]; exact (below_size (by repeat (first | (with_reducible first | exact HB.out | apply below_alloc | apply pw_below_drewN | apply below_drew1 | refine below_set ?_ GE263.out) | exact HB.out)))) : p_ := h_
theorem zq5_15 {p_ : Prop} (h_ : p_ := by repeat (first | (with_reducible first | exact HB.out | apply below_alloc | apply pw_below_drewN | apply below_drew1 | refine below_set ?_ GE263.out | refine below_set ?_ GE272.out) | exact HB.out)) : p_ := h_
theorem zq5_16 {p_ : Prop} (h_ : p_ := by rw [hg]; exact (below_size (by repeat (first | (with_reducible first | exact HB.out | apply below_alloc | apply pw_below_drewN | apply below_drew1) | exact HB.out)))) : p_ := h_
theorem zq5_17 {p_ : Prop} (h_ : p_ := by repeat (first | (with_reducible first | exact HB.out | apply below_alloc | apply pw_below_drewN | apply below_drew1 | refine below_set ?_ GE263.out) | exact HB.out)) : p_ := h_
theorem zq5_18 {p_ : Prop} (h_ : p_ := by (try simp only [List.map_toArray, List.map_cons, List.map_nil]); first | done | rfl | (simp only [List.length_drop, List.length_take]; rfl)) : p_ := h_
theorem zq5_19 {p_ : Prop} (h_ : p_ := by (with_reducible repeat (first | refine blk_drewN ?_ _ | refine blk_drew ?_ | refine blk_alloc ?_ _)); exact BK263.out) : p_ := h_
theorem zq5_20 {p_ : Prop} (h_ : p_ := by (with_reducible repeat (first | refine blk_drewN ?_ _ | refine blk_drew ?_ | refine blk_alloc ?_ _)); exact BK272.out) : p_ := h_
theorem zq5_21 {p_ : Prop} (h_ : p_ := by (with_reducible repeat (first | refine blk_drewN ?_ _ | refine blk_drew ?_ | refine blk_alloc ?_ _)); exact BK277.out) : p_ := h_
theorem zq5_22 {p_ : Prop} (h_ : p_ := by (with_reducible repeat (first | refine blk_drewN ?_ _ | refine blk_drew ?_ | refine blk_alloc ?_ _)); exact BK282.out) : p_ := h_
theorem zq5_23 {p_ : Prop} (h_ : p_ := by (with_reducible repeat (first | apply Kd.R_alloc | apply Kd.R_drewN | apply Kd.R_drew)); exact HO267.out) : p_ := h_
theorem zq5_24 {p_ : Prop} (h_ : p_ := by (with_reducible repeat (first | apply Kd.R_alloc | apply Kd.R_drewN | apply Kd.R_drew)); exact HO271.out) : p_ := h_
theorem zq5_25 {p_ : Prop} (h_ : p_ := by (with_reducible repeat (first | apply Kd.R_alloc | apply Kd.R_drewN | apply Kd.R_drew)); exact HO276.out) : p_ := h_
theorem zq5_26 {p_ : Prop} (h_ : p_ := by (with_reducible repeat (first | apply Kd.R_alloc | apply Kd.R_drewN | apply Kd.R_drew)); exact HO281.out) : p_ := h_
theorem zq5_27 {p_ : Prop} (h_ : p_ := by (with_reducible repeat (first | apply Kd.R_alloc | apply Kd.R_drewN | apply Kd.R_drew)); exact HO287.out) : p_ := h_
def cenotaphlaw02_SpanAdds.f (k : Nat) (a0_0 : Int) (l0_1 : List Int) (a1 : Int) : Option (Bool) := (cenotaphref02_Fix.f k a0_0 l0_1).bind fun bt264 => ((cenotaphlaw02_To.f bt264.1 bt264.2).bind fun bt268 => ((span_Add.f k bt268.1 bt268.2 a1).bind fun bt273 => ((cenotaphref02_Add.f k bt264.1 bt264.2 a1).bind fun bt278 => ((cenotaphlaw02_told.f k).bind fun t283 => (if t283 = true then ((cenotaphlaw02_From.f bt273.1 bt273.2).bind fun bt284 => ((cenotaphref02_Same.f k bt284.1 bt284.2 bt278.1 bt278.2).bind fun t288 => (if t288 = true then ((span_Right.f k bt273.1 bt273.2).bind fun t289 => (if t289 = true then ((span_Has.f k bt268.1 bt268.2 a1).bind fun t290 => ((cenotaphref02_Has.f k bt264.1 bt264.2 a1).bind fun t291 => (if (t290 == t291) = true then ((span_Has.f k bt273.1 bt273.2 a1).bind fun t292 => (if a1 ≥ 1 then (if (t292 == (decide (a1 ≤ 1048576))) = true then ((span_Count.f bt273.1 bt273.2).bind fun t293 => ((cenotaphref02_Count.f bt278.1 bt278.2).bind fun t294 => (if t293 = t294 then ((span_Top.f bt273.1 bt273.2).bind fun t295 => ((cenotaphref02_Top.f bt278.1 bt278.2).bind fun t296 => (if t295 = t296 then ((cenotaphlaw02_From.f bt268.1 bt268.2).bind fun bt297 => ((cenotaphref02_Same.f k bt297.1 bt297.2 bt264.1 bt264.2).bind fun t301 => (some t301))) else (none)))) else (none)))) else (none)) else (if (t292 == false) = true then ((span_Count.f bt273.1 bt273.2).bind fun t302 => ((cenotaphref02_Count.f bt278.1 bt278.2).bind fun t303 => (if t302 = t303 then ((span_Top.f bt273.1 bt273.2).bind fun t304 => ((cenotaphref02_Top.f bt278.1 bt278.2).bind fun t305 => (if t304 = t305 then ((cenotaphlaw02_From.f bt268.1 bt268.2).bind fun bt306 => ((cenotaphref02_Same.f k bt306.1 bt306.2 bt264.1 bt264.2).bind fun t310 => (some t310))) else (none)))) else (none)))) else (none)))) else (none)))) else (none))) else (none)))) else (none))))))
theorem cenotaphlaw02_SpanAdds.mono : ∀ a0 a1 a2 k, LeO (cenotaphlaw02_SpanAdds.f k a0 a1 a2) (cenotaphlaw02_SpanAdds.f (k + 1) a0 a1 a2) := by
 intro a0 a1 a2 k
 unfold cenotaphlaw02_SpanAdds.f
 repeat' first
   | (with_reducible exact cenotaphlaw02_told.mono _)
   | (with_reducible exact cenotaphref02_Add.mono _ _ _ _)
   | (with_reducible exact cenotaphref02_Fix.mono _ _ _)
   | (with_reducible exact cenotaphref02_Has.mono _ _ _ _)
   | (with_reducible exact cenotaphref02_Same.mono _ _ _ _ _)
   | (with_reducible exact span_Add.mono _ _ _ _)
   | (with_reducible exact span_Has.mono _ _ _ _)
   | (with_reducible exact span_Right.mono _ _ _)
   | (with_reducible exact LeO.refl _)
   | (with_reducible exact LeO.none _)
   | (with_reducible refine LeO.ite ?_ ?_)
   | (with_reducible refine LeO.bind ?_ (fun _ => ?_))
   | exact cenotaphlaw02_told.mono _
   | exact cenotaphref02_Add.mono _ _ _ _
   | exact cenotaphref02_Fix.mono _ _ _
   | exact cenotaphref02_Has.mono _ _ _ _
   | exact cenotaphref02_Same.mono _ _ _ _ _
   | exact span_Add.mono _ _ _ _
   | exact span_Has.mono _ _ _ _
   | exact span_Right.mono _ _ _
   | exact LeO.none _
   | refine LeO.ite ?_ ?_
   | refine LeO.bind ?_ (fun _ => ?_)
def cenotaphlaw02_SpanAdds.T5 : Bool × List (List Nat × List Nat) := (true, [([], []), ([0, 0], [0]), ([1], [1]), ([2, 1, 1], [1, 2]), ([1], [1]), ([3, 4, 3, 1], [1, 3, 4]), ([1, 5], [1, 5]), ([6, 5], [6]), ([7], [7]), ([8, 7, 7], [7, 8]), ([7, 9], [7, 9]), ([10, 9], [10]), ([11], [11]), ([11], [11]), ([12, 13, 11, 11], [11, 12, 13]), ([11], [11]), ([11], [11]), ([15, 16, 14, 11], [11, 15, 16]), ([14, 17, 11], [11, 14, 17]), ([11, 18], [11, 18]), ([19, 17], [19]), ([20], [20]), ([20], [20]), ([21, 22, 20, 20], [20, 21, 22]), ([20], [20]), ([24, 20], [20, 24]), ([25, 23, 20], [20, 25]), ([26], [26]), ([27, 26], [26, 27]), ([26, 28, 20], [20, 26, 28]), ([23, 29, 20], [20, 23, 29]), ([20, 30], [20, 30]), ([31, 26], [31]), ([32], [32]), ([33, 32, 32], [32, 33]), ([32], [32]), ([35, 34, 32], [32, 35]), ([34, 36, 32], [32, 34, 36]), ([32, 37], [32, 37]), ([38, 36], [38]), ([39], [39]), ([40, 39, 39], [39, 40]), ([39], [39]), ([42, 41, 39], [39, 42]), ([41, 43, 39], [39, 41, 43]), ([39, 44], [39, 44]), ([45, 43], [45]), ([46], [46]), ([47, 46, 46], [46, 47]), ([46], [46]), ([48, 49, 48, 46], [46, 48, 49]), ([46, 50], [46, 50]), ([51, 50, 0, 1, 2, 3, 4, 5, 6, 7, 8, 9, 10, 11, 12, 13, 14, 15, 16, 17, 18, 19, 20, 21, 22, 23, 24, 25, 26, 27, 28, 29, 30, 31, 32, 33, 34, 35, 36, 37, 38, 39, 40, 41, 42, 43, 44, 45, 46, 47, 48, 49, 50, 51], [51])])
def cenotaphlaw02_SpanAdds.B5 : List Nat := [0, 1, 3, 7, 3, 31, 63, 127, 255, 511, 1023, 2047, 4095, 4095, 16383, 4095, 4095, 131071, 262143, 524287, 1048575, 2097151, 2097151, 8388607, 2097151, 18874367, 67108863, 134217727, 268435455, 536870911, 1073741823, 2147483647, 4294967295, 8589934591, 17179869183, 8589934591, 68719476735, 137438953471, 274877906943, 549755813887, 1099511627775, 2199023255551, 1099511627775, 8796093022207, 17592186044415, 35184372088831, 70368744177663, 140737488355327, 281474976710655, 140737488355327, 1125899906842623, 2251799813685247, 4503599627370495]
theorem cenotaphlaw02_SpanAdds.tab5 : rtab .any (opsOf Try.f5 5) = cenotaphlaw02_SpanAdds.T5 := by kernel_rfl
theorem cenotaphlaw02_SpanAdds.bits5 : waitsOk cenotaphlaw02_SpanAdds.T5.2 cenotaphlaw02_SpanAdds.B5 = true := by kernel_rfl
set_option maxHeartbeats 8000000 in
set_option maxRecDepth 100000 in
theorem cenotaphlaw02_SpanAdds.calls (k : Nat) (a0_0 : Int) (A0_1 : Option Addr) (c0_1 : Nat) (l0_1 : List Int) (a1 : Int) (r : Bool) (w : World) (hr0_1 : Kd.C (Kd.int .i64) w A0_1 l0_1.length l0_1) (hc0_1 : l0_1.length ≤ c0_1) (h : cenotaphlaw02_SpanAdds.f k a0_0 l0_1 a1 = some r) :
  Calls Try.prog 5 #[.agg #[.int .i64 a0_0, .slice A0_1 l0_1.length c0_1], .int .i64 a1] w fun e w' => e = .returned (.bool r) ∧ Below w.heap.size w w' := by
 have hu30 := Try.underlying30
 have hu24 := Try.underlying24
 have HR0_1 := Aside0.mk hr0_1
 have HC0_1 := Aside0.mk hc0_1
 clear hr0_1 hc0_1
 have HB := Aside0.mk (Below.refl w.heap.size w)
 have H : ((cenotaphref02_Fix.f k a0_0 l0_1).bind fun bt264 => ((cenotaphlaw02_To.f bt264.1 bt264.2).bind fun bt268 => ((span_Add.f k bt268.1 bt268.2 a1).bind fun bt273 => ((cenotaphref02_Add.f k bt264.1 bt264.2 a1).bind fun bt278 => ((cenotaphlaw02_told.f k).bind fun t283 => (if t283 = true then ((cenotaphlaw02_From.f bt273.1 bt273.2).bind fun bt284 => ((cenotaphref02_Same.f k bt284.1 bt284.2 bt278.1 bt278.2).bind fun t288 => (if t288 = true then ((span_Right.f k bt273.1 bt273.2).bind fun t289 => (if t289 = true then ((span_Has.f k bt268.1 bt268.2 a1).bind fun t290 => ((cenotaphref02_Has.f k bt264.1 bt264.2 a1).bind fun t291 => (if (t290 == t291) = true then ((span_Has.f k bt273.1 bt273.2 a1).bind fun t292 => (if a1 ≥ 1 then (if (t292 == (decide (a1 ≤ 1048576))) = true then ((span_Count.f bt273.1 bt273.2).bind fun t293 => ((cenotaphref02_Count.f bt278.1 bt278.2).bind fun t294 => (if t293 = t294 then ((span_Top.f bt273.1 bt273.2).bind fun t295 => ((cenotaphref02_Top.f bt278.1 bt278.2).bind fun t296 => (if t295 = t296 then ((cenotaphlaw02_From.f bt268.1 bt268.2).bind fun bt297 => ((cenotaphref02_Same.f k bt297.1 bt297.2 bt264.1 bt264.2).bind fun t301 => (some t301))) else (none)))) else (none)))) else (none)) else (if (t292 == false) = true then ((span_Count.f bt273.1 bt273.2).bind fun t302 => ((cenotaphref02_Count.f bt278.1 bt278.2).bind fun t303 => (if t302 = t303 then ((span_Top.f bt273.1 bt273.2).bind fun t304 => ((cenotaphref02_Top.f bt278.1 bt278.2).bind fun t305 => (if t304 = t305 then ((cenotaphlaw02_From.f bt268.1 bt268.2).bind fun bt306 => ((cenotaphref02_Same.f k bt306.1 bt306.2 bt264.1 bt264.2).bind fun t310 => (some t310))) else (none)))) else (none)))) else (none)))) else (none)))) else (none))) else (none)))) else (none))))))) = some r := h
 clear h
 replace H := Option.bind_eq_some_iff.mp H
 obtain ⟨⟨t264, t265⟩, A30, H⟩ := H
 replace H : ((cenotaphlaw02_To.f t264 t265).bind fun bt268 => ((span_Add.f k bt268.1 bt268.2 a1).bind fun bt273 => ((cenotaphref02_Add.f k t264 t265 a1).bind fun bt278 => ((cenotaphlaw02_told.f k).bind fun t283 => (if t283 = true then ((cenotaphlaw02_From.f bt273.1 bt273.2).bind fun bt284 => ((cenotaphref02_Same.f k bt284.1 bt284.2 bt278.1 bt278.2).bind fun t288 => (if t288 = true then ((span_Right.f k bt273.1 bt273.2).bind fun t289 => (if t289 = true then ((span_Has.f k bt268.1 bt268.2 a1).bind fun t290 => ((cenotaphref02_Has.f k t264 t265 a1).bind fun t291 => (if (t290 == t291) = true then ((span_Has.f k bt273.1 bt273.2 a1).bind fun t292 => (if a1 ≥ 1 then (if (t292 == (decide (a1 ≤ 1048576))) = true then ((span_Count.f bt273.1 bt273.2).bind fun t293 => ((cenotaphref02_Count.f bt278.1 bt278.2).bind fun t294 => (if t293 = t294 then ((span_Top.f bt273.1 bt273.2).bind fun t295 => ((cenotaphref02_Top.f bt278.1 bt278.2).bind fun t296 => (if t295 = t296 then ((cenotaphlaw02_From.f bt268.1 bt268.2).bind fun bt297 => ((cenotaphref02_Same.f k bt297.1 bt297.2 t264 t265).bind fun t301 => (some t301))) else (none)))) else (none)))) else (none)) else (if (t292 == false) = true then ((span_Count.f bt273.1 bt273.2).bind fun t302 => ((cenotaphref02_Count.f bt278.1 bt278.2).bind fun t303 => (if t302 = t303 then ((span_Top.f bt273.1 bt273.2).bind fun t304 => ((cenotaphref02_Top.f bt278.1 bt278.2).bind fun t305 => (if t304 = t305 then ((cenotaphlaw02_From.f bt268.1 bt268.2).bind fun bt306 => ((cenotaphref02_Same.f k bt306.1 bt306.2 t264 t265).bind fun t310 => (some t310))) else (none)))) else (none)))) else (none)))) else (none)))) else (none))) else (none)))) else (none)))))) = some r := H
 have A3 := Aside0.mk A30
 clear A30
 replace H := Option.bind_eq_some_iff.mp H
 obtain ⟨⟨t268, t269⟩, A40, H⟩ := H
 replace H : ((span_Add.f k t268 t269 a1).bind fun bt273 => ((cenotaphref02_Add.f k t264 t265 a1).bind fun bt278 => ((cenotaphlaw02_told.f k).bind fun t283 => (if t283 = true then ((cenotaphlaw02_From.f bt273.1 bt273.2).bind fun bt284 => ((cenotaphref02_Same.f k bt284.1 bt284.2 bt278.1 bt278.2).bind fun t288 => (if t288 = true then ((span_Right.f k bt273.1 bt273.2).bind fun t289 => (if t289 = true then ((span_Has.f k t268 t269 a1).bind fun t290 => ((cenotaphref02_Has.f k t264 t265 a1).bind fun t291 => (if (t290 == t291) = true then ((span_Has.f k bt273.1 bt273.2 a1).bind fun t292 => (if a1 ≥ 1 then (if (t292 == (decide (a1 ≤ 1048576))) = true then ((span_Count.f bt273.1 bt273.2).bind fun t293 => ((cenotaphref02_Count.f bt278.1 bt278.2).bind fun t294 => (if t293 = t294 then ((span_Top.f bt273.1 bt273.2).bind fun t295 => ((cenotaphref02_Top.f bt278.1 bt278.2).bind fun t296 => (if t295 = t296 then ((cenotaphlaw02_From.f t268 t269).bind fun bt297 => ((cenotaphref02_Same.f k bt297.1 bt297.2 t264 t265).bind fun t301 => (some t301))) else (none)))) else (none)))) else (none)) else (if (t292 == false) = true then ((span_Count.f bt273.1 bt273.2).bind fun t302 => ((cenotaphref02_Count.f bt278.1 bt278.2).bind fun t303 => (if t302 = t303 then ((span_Top.f bt273.1 bt273.2).bind fun t304 => ((cenotaphref02_Top.f bt278.1 bt278.2).bind fun t305 => (if t304 = t305 then ((cenotaphlaw02_From.f t268 t269).bind fun bt306 => ((cenotaphref02_Same.f k bt306.1 bt306.2 t264 t265).bind fun t310 => (some t310))) else (none)))) else (none)))) else (none)))) else (none)))) else (none))) else (none)))) else (none))))) = some r := H
 have A4 := Aside0.mk A40
 clear A40
 replace H := Option.bind_eq_some_iff.mp H
 obtain ⟨⟨t273, t274⟩, A50, H⟩ := H
 replace H : ((cenotaphref02_Add.f k t264 t265 a1).bind fun bt278 => ((cenotaphlaw02_told.f k).bind fun t283 => (if t283 = true then ((cenotaphlaw02_From.f t273 t274).bind fun bt284 => ((cenotaphref02_Same.f k bt284.1 bt284.2 bt278.1 bt278.2).bind fun t288 => (if t288 = true then ((span_Right.f k t273 t274).bind fun t289 => (if t289 = true then ((span_Has.f k t268 t269 a1).bind fun t290 => ((cenotaphref02_Has.f k t264 t265 a1).bind fun t291 => (if (t290 == t291) = true then ((span_Has.f k t273 t274 a1).bind fun t292 => (if a1 ≥ 1 then (if (t292 == (decide (a1 ≤ 1048576))) = true then ((span_Count.f t273 t274).bind fun t293 => ((cenotaphref02_Count.f bt278.1 bt278.2).bind fun t294 => (if t293 = t294 then ((span_Top.f t273 t274).bind fun t295 => ((cenotaphref02_Top.f bt278.1 bt278.2).bind fun t296 => (if t295 = t296 then ((cenotaphlaw02_From.f t268 t269).bind fun bt297 => ((cenotaphref02_Same.f k bt297.1 bt297.2 t264 t265).bind fun t301 => (some t301))) else (none)))) else (none)))) else (none)) else (if (t292 == false) = true then ((span_Count.f t273 t274).bind fun t302 => ((cenotaphref02_Count.f bt278.1 bt278.2).bind fun t303 => (if t302 = t303 then ((span_Top.f t273 t274).bind fun t304 => ((cenotaphref02_Top.f bt278.1 bt278.2).bind fun t305 => (if t304 = t305 then ((cenotaphlaw02_From.f t268 t269).bind fun bt306 => ((cenotaphref02_Same.f k bt306.1 bt306.2 t264 t265).bind fun t310 => (some t310))) else (none)))) else (none)))) else (none)))) else (none)))) else (none))) else (none)))) else (none)))) = some r := H
 have A5 := Aside0.mk A50
 clear A50
 replace H := Option.bind_eq_some_iff.mp H
 obtain ⟨⟨t278, t279⟩, A60, H⟩ := H
 replace H : ((cenotaphlaw02_told.f k).bind fun t283 => (if t283 = true then ((cenotaphlaw02_From.f t273 t274).bind fun bt284 => ((cenotaphref02_Same.f k bt284.1 bt284.2 t278 t279).bind fun t288 => (if t288 = true then ((span_Right.f k t273 t274).bind fun t289 => (if t289 = true then ((span_Has.f k t268 t269 a1).bind fun t290 => ((cenotaphref02_Has.f k t264 t265 a1).bind fun t291 => (if (t290 == t291) = true then ((span_Has.f k t273 t274 a1).bind fun t292 => (if a1 ≥ 1 then (if (t292 == (decide (a1 ≤ 1048576))) = true then ((span_Count.f t273 t274).bind fun t293 => ((cenotaphref02_Count.f t278 t279).bind fun t294 => (if t293 = t294 then ((span_Top.f t273 t274).bind fun t295 => ((cenotaphref02_Top.f t278 t279).bind fun t296 => (if t295 = t296 then ((cenotaphlaw02_From.f t268 t269).bind fun bt297 => ((cenotaphref02_Same.f k bt297.1 bt297.2 t264 t265).bind fun t301 => (some t301))) else (none)))) else (none)))) else (none)) else (if (t292 == false) = true then ((span_Count.f t273 t274).bind fun t302 => ((cenotaphref02_Count.f t278 t279).bind fun t303 => (if t302 = t303 then ((span_Top.f t273 t274).bind fun t304 => ((cenotaphref02_Top.f t278 t279).bind fun t305 => (if t304 = t305 then ((cenotaphlaw02_From.f t268 t269).bind fun bt306 => ((cenotaphref02_Same.f k bt306.1 bt306.2 t264 t265).bind fun t310 => (some t310))) else (none)))) else (none)))) else (none)))) else (none)))) else (none))) else (none)))) else (none))) = some r := H
 have A6 := Aside0.mk A60
 clear A60
 replace H := Option.bind_eq_some_iff.mp H
 obtain ⟨t283, A70, H⟩ := H
 replace H : (if t283 = true then ((cenotaphlaw02_From.f t273 t274).bind fun bt284 => ((cenotaphref02_Same.f k bt284.1 bt284.2 t278 t279).bind fun t288 => (if t288 = true then ((span_Right.f k t273 t274).bind fun t289 => (if t289 = true then ((span_Has.f k t268 t269 a1).bind fun t290 => ((cenotaphref02_Has.f k t264 t265 a1).bind fun t291 => (if (t290 == t291) = true then ((span_Has.f k t273 t274 a1).bind fun t292 => (if a1 ≥ 1 then (if (t292 == (decide (a1 ≤ 1048576))) = true then ((span_Count.f t273 t274).bind fun t293 => ((cenotaphref02_Count.f t278 t279).bind fun t294 => (if t293 = t294 then ((span_Top.f t273 t274).bind fun t295 => ((cenotaphref02_Top.f t278 t279).bind fun t296 => (if t295 = t296 then ((cenotaphlaw02_From.f t268 t269).bind fun bt297 => ((cenotaphref02_Same.f k bt297.1 bt297.2 t264 t265).bind fun t301 => (some t301))) else (none)))) else (none)))) else (none)) else (if (t292 == false) = true then ((span_Count.f t273 t274).bind fun t302 => ((cenotaphref02_Count.f t278 t279).bind fun t303 => (if t302 = t303 then ((span_Top.f t273 t274).bind fun t304 => ((cenotaphref02_Top.f t278 t279).bind fun t305 => (if t304 = t305 then ((cenotaphlaw02_From.f t268 t269).bind fun bt306 => ((cenotaphref02_Same.f k bt306.1 bt306.2 t264 t265).bind fun t310 => (some t310))) else (none)))) else (none)))) else (none)))) else (none)))) else (none))) else (none)))) else (none)) = some r := H
 have A7 := Aside0.mk A70
 clear A70
 by_cases c8 : t283 = true
 ·subst c8
  have H1 : ((cenotaphlaw02_From.f t273 t274).bind fun bt284 => ((cenotaphref02_Same.f k bt284.1 bt284.2 t278 t279).bind fun t288 => (if t288 = true then ((span_Right.f k t273 t274).bind fun t289 => (if t289 = true then ((span_Has.f k t268 t269 a1).bind fun t290 => ((cenotaphref02_Has.f k t264 t265 a1).bind fun t291 => (if (t290 == t291) = true then ((span_Has.f k t273 t274 a1).bind fun t292 => (if a1 ≥ 1 then (if (t292 == (decide (a1 ≤ 1048576))) = true then ((span_Count.f t273 t274).bind fun t293 => ((cenotaphref02_Count.f t278 t279).bind fun t294 => (if t293 = t294 then ((span_Top.f t273 t274).bind fun t295 => ((cenotaphref02_Top.f t278 t279).bind fun t296 => (if t295 = t296 then ((cenotaphlaw02_From.f t268 t269).bind fun bt297 => ((cenotaphref02_Same.f k bt297.1 bt297.2 t264 t265).bind fun t301 => (some t301))) else (none)))) else (none)))) else (none)) else (if (t292 == false) = true then ((span_Count.f t273 t274).bind fun t302 => ((cenotaphref02_Count.f t278 t279).bind fun t303 => (if t302 = t303 then ((span_Top.f t273 t274).bind fun t304 => ((cenotaphref02_Top.f t278 t279).bind fun t305 => (if t304 = t305 then ((cenotaphlaw02_From.f t268 t269).bind fun bt306 => ((cenotaphref02_Same.f k bt306.1 bt306.2 t264 t265).bind fun t310 => (some t310))) else (none)))) else (none)))) else (none)))) else (none)))) else (none))) else (none)))) = some r := by rw [if_pos rfl] at H; exact H
  clear H
  have H := H1
  clear H1
  replace H := Option.bind_eq_some_iff.mp H
  obtain ⟨⟨t284, t285⟩, A90, H⟩ := H
  replace H : ((cenotaphref02_Same.f k t284 t285 t278 t279).bind fun t288 => (if t288 = true then ((span_Right.f k t273 t274).bind fun t289 => (if t289 = true then ((span_Has.f k t268 t269 a1).bind fun t290 => ((cenotaphref02_Has.f k t264 t265 a1).bind fun t291 => (if (t290 == t291) = true then ((span_Has.f k t273 t274 a1).bind fun t292 => (if a1 ≥ 1 then (if (t292 == (decide (a1 ≤ 1048576))) = true then ((span_Count.f t273 t274).bind fun t293 => ((cenotaphref02_Count.f t278 t279).bind fun t294 => (if t293 = t294 then ((span_Top.f t273 t274).bind fun t295 => ((cenotaphref02_Top.f t278 t279).bind fun t296 => (if t295 = t296 then ((cenotaphlaw02_From.f t268 t269).bind fun bt297 => ((cenotaphref02_Same.f k bt297.1 bt297.2 t264 t265).bind fun t301 => (some t301))) else (none)))) else (none)))) else (none)) else (if (t292 == false) = true then ((span_Count.f t273 t274).bind fun t302 => ((cenotaphref02_Count.f t278 t279).bind fun t303 => (if t302 = t303 then ((span_Top.f t273 t274).bind fun t304 => ((cenotaphref02_Top.f t278 t279).bind fun t305 => (if t304 = t305 then ((cenotaphlaw02_From.f t268 t269).bind fun bt306 => ((cenotaphref02_Same.f k bt306.1 bt306.2 t264 t265).bind fun t310 => (some t310))) else (none)))) else (none)))) else (none)))) else (none)))) else (none))) else (none))) = some r := H
  have A9 := Aside0.mk A90
  clear A90
  replace H := Option.bind_eq_some_iff.mp H
  obtain ⟨t288, A100, H⟩ := H
  replace H : (if t288 = true then ((span_Right.f k t273 t274).bind fun t289 => (if t289 = true then ((span_Has.f k t268 t269 a1).bind fun t290 => ((cenotaphref02_Has.f k t264 t265 a1).bind fun t291 => (if (t290 == t291) = true then ((span_Has.f k t273 t274 a1).bind fun t292 => (if a1 ≥ 1 then (if (t292 == (decide (a1 ≤ 1048576))) = true then ((span_Count.f t273 t274).bind fun t293 => ((cenotaphref02_Count.f t278 t279).bind fun t294 => (if t293 = t294 then ((span_Top.f t273 t274).bind fun t295 => ((cenotaphref02_Top.f t278 t279).bind fun t296 => (if t295 = t296 then ((cenotaphlaw02_From.f t268 t269).bind fun bt297 => ((cenotaphref02_Same.f k bt297.1 bt297.2 t264 t265).bind fun t301 => (some t301))) else (none)))) else (none)))) else (none)) else (if (t292 == false) = true then ((span_Count.f t273 t274).bind fun t302 => ((cenotaphref02_Count.f t278 t279).bind fun t303 => (if t302 = t303 then ((span_Top.f t273 t274).bind fun t304 => ((cenotaphref02_Top.f t278 t279).bind fun t305 => (if t304 = t305 then ((cenotaphlaw02_From.f t268 t269).bind fun bt306 => ((cenotaphref02_Same.f k bt306.1 bt306.2 t264 t265).bind fun t310 => (some t310))) else (none)))) else (none)))) else (none)))) else (none)))) else (none))) else (none)) = some r := H
  have A10 := Aside0.mk A100
  clear A100
  by_cases c11 : t288 = true
  ·subst c11
   have H1 : ((span_Right.f k t273 t274).bind fun t289 => (if t289 = true then ((span_Has.f k t268 t269 a1).bind fun t290 => ((cenotaphref02_Has.f k t264 t265 a1).bind fun t291 => (if (t290 == t291) = true then ((span_Has.f k t273 t274 a1).bind fun t292 => (if a1 ≥ 1 then (if (t292 == (decide (a1 ≤ 1048576))) = true then ((span_Count.f t273 t274).bind fun t293 => ((cenotaphref02_Count.f t278 t279).bind fun t294 => (if t293 = t294 then ((span_Top.f t273 t274).bind fun t295 => ((cenotaphref02_Top.f t278 t279).bind fun t296 => (if t295 = t296 then ((cenotaphlaw02_From.f t268 t269).bind fun bt297 => ((cenotaphref02_Same.f k bt297.1 bt297.2 t264 t265).bind fun t301 => (some t301))) else (none)))) else (none)))) else (none)) else (if (t292 == false) = true then ((span_Count.f t273 t274).bind fun t302 => ((cenotaphref02_Count.f t278 t279).bind fun t303 => (if t302 = t303 then ((span_Top.f t273 t274).bind fun t304 => ((cenotaphref02_Top.f t278 t279).bind fun t305 => (if t304 = t305 then ((cenotaphlaw02_From.f t268 t269).bind fun bt306 => ((cenotaphref02_Same.f k bt306.1 bt306.2 t264 t265).bind fun t310 => (some t310))) else (none)))) else (none)))) else (none)))) else (none)))) else (none))) = some r := by rw [if_pos rfl] at H; exact H
   clear H
   have H := H1
   clear H1
   replace H := Option.bind_eq_some_iff.mp H
   obtain ⟨t289, A120, H⟩ := H
   replace H : (if t289 = true then ((span_Has.f k t268 t269 a1).bind fun t290 => ((cenotaphref02_Has.f k t264 t265 a1).bind fun t291 => (if (t290 == t291) = true then ((span_Has.f k t273 t274 a1).bind fun t292 => (if a1 ≥ 1 then (if (t292 == (decide (a1 ≤ 1048576))) = true then ((span_Count.f t273 t274).bind fun t293 => ((cenotaphref02_Count.f t278 t279).bind fun t294 => (if t293 = t294 then ((span_Top.f t273 t274).bind fun t295 => ((cenotaphref02_Top.f t278 t279).bind fun t296 => (if t295 = t296 then ((cenotaphlaw02_From.f t268 t269).bind fun bt297 => ((cenotaphref02_Same.f k bt297.1 bt297.2 t264 t265).bind fun t301 => (some t301))) else (none)))) else (none)))) else (none)) else (if (t292 == false) = true then ((span_Count.f t273 t274).bind fun t302 => ((cenotaphref02_Count.f t278 t279).bind fun t303 => (if t302 = t303 then ((span_Top.f t273 t274).bind fun t304 => ((cenotaphref02_Top.f t278 t279).bind fun t305 => (if t304 = t305 then ((cenotaphlaw02_From.f t268 t269).bind fun bt306 => ((cenotaphref02_Same.f k bt306.1 bt306.2 t264 t265).bind fun t310 => (some t310))) else (none)))) else (none)))) else (none)))) else (none)))) else (none)) = some r := H
   have A12 := Aside0.mk A120
   clear A120
   by_cases c13 : t289 = true
   ·subst c13
    have H1 : ((span_Has.f k t268 t269 a1).bind fun t290 => ((cenotaphref02_Has.f k t264 t265 a1).bind fun t291 => (if (t290 == t291) = true then ((span_Has.f k t273 t274 a1).bind fun t292 => (if a1 ≥ 1 then (if (t292 == (decide (a1 ≤ 1048576))) = true then ((span_Count.f t273 t274).bind fun t293 => ((cenotaphref02_Count.f t278 t279).bind fun t294 => (if t293 = t294 then ((span_Top.f t273 t274).bind fun t295 => ((cenotaphref02_Top.f t278 t279).bind fun t296 => (if t295 = t296 then ((cenotaphlaw02_From.f t268 t269).bind fun bt297 => ((cenotaphref02_Same.f k bt297.1 bt297.2 t264 t265).bind fun t301 => (some t301))) else (none)))) else (none)))) else (none)) else (if (t292 == false) = true then ((span_Count.f t273 t274).bind fun t302 => ((cenotaphref02_Count.f t278 t279).bind fun t303 => (if t302 = t303 then ((span_Top.f t273 t274).bind fun t304 => ((cenotaphref02_Top.f t278 t279).bind fun t305 => (if t304 = t305 then ((cenotaphlaw02_From.f t268 t269).bind fun bt306 => ((cenotaphref02_Same.f k bt306.1 bt306.2 t264 t265).bind fun t310 => (some t310))) else (none)))) else (none)))) else (none)))) else (none)))) = some r := by rw [if_pos rfl] at H; exact H
    clear H
    have H := H1
    clear H1
    replace H := Option.bind_eq_some_iff.mp H
    obtain ⟨t290, A140, H⟩ := H
    replace H : ((cenotaphref02_Has.f k t264 t265 a1).bind fun t291 => (if (t290 == t291) = true then ((span_Has.f k t273 t274 a1).bind fun t292 => (if a1 ≥ 1 then (if (t292 == (decide (a1 ≤ 1048576))) = true then ((span_Count.f t273 t274).bind fun t293 => ((cenotaphref02_Count.f t278 t279).bind fun t294 => (if t293 = t294 then ((span_Top.f t273 t274).bind fun t295 => ((cenotaphref02_Top.f t278 t279).bind fun t296 => (if t295 = t296 then ((cenotaphlaw02_From.f t268 t269).bind fun bt297 => ((cenotaphref02_Same.f k bt297.1 bt297.2 t264 t265).bind fun t301 => (some t301))) else (none)))) else (none)))) else (none)) else (if (t292 == false) = true then ((span_Count.f t273 t274).bind fun t302 => ((cenotaphref02_Count.f t278 t279).bind fun t303 => (if t302 = t303 then ((span_Top.f t273 t274).bind fun t304 => ((cenotaphref02_Top.f t278 t279).bind fun t305 => (if t304 = t305 then ((cenotaphlaw02_From.f t268 t269).bind fun bt306 => ((cenotaphref02_Same.f k bt306.1 bt306.2 t264 t265).bind fun t310 => (some t310))) else (none)))) else (none)))) else (none)))) else (none))) = some r := H
    have A14 := Aside0.mk A140
    clear A140
    replace H := Option.bind_eq_some_iff.mp H
    obtain ⟨t291, A150, H⟩ := H
    replace H : (if (t290 == t291) = true then ((span_Has.f k t273 t274 a1).bind fun t292 => (if a1 ≥ 1 then (if (t292 == (decide (a1 ≤ 1048576))) = true then ((span_Count.f t273 t274).bind fun t293 => ((cenotaphref02_Count.f t278 t279).bind fun t294 => (if t293 = t294 then ((span_Top.f t273 t274).bind fun t295 => ((cenotaphref02_Top.f t278 t279).bind fun t296 => (if t295 = t296 then ((cenotaphlaw02_From.f t268 t269).bind fun bt297 => ((cenotaphref02_Same.f k bt297.1 bt297.2 t264 t265).bind fun t301 => (some t301))) else (none)))) else (none)))) else (none)) else (if (t292 == false) = true then ((span_Count.f t273 t274).bind fun t302 => ((cenotaphref02_Count.f t278 t279).bind fun t303 => (if t302 = t303 then ((span_Top.f t273 t274).bind fun t304 => ((cenotaphref02_Top.f t278 t279).bind fun t305 => (if t304 = t305 then ((cenotaphlaw02_From.f t268 t269).bind fun bt306 => ((cenotaphref02_Same.f k bt306.1 bt306.2 t264 t265).bind fun t310 => (some t310))) else (none)))) else (none)))) else (none)))) else (none)) = some r := H
    have A15 := Aside0.mk A150
    clear A150
    by_cases c16 : (t290 == t291) = true
    ·rw [if_pos c16] at H
     have c16b0 : (t290 == t291) = true := c16
     (try (have c16b1 : decide (t290 = t291) = true := by simpa using c16))
     (try (have c16b2 : (t290 == t291) = true := by simpa using c16))
     clear c16
     replace H := Option.bind_eq_some_iff.mp H
     obtain ⟨t292, A170, H⟩ := H
     replace H : (if a1 ≥ 1 then (if (t292 == (decide (a1 ≤ 1048576))) = true then ((span_Count.f t273 t274).bind fun t293 => ((cenotaphref02_Count.f t278 t279).bind fun t294 => (if t293 = t294 then ((span_Top.f t273 t274).bind fun t295 => ((cenotaphref02_Top.f t278 t279).bind fun t296 => (if t295 = t296 then ((cenotaphlaw02_From.f t268 t269).bind fun bt297 => ((cenotaphref02_Same.f k bt297.1 bt297.2 t264 t265).bind fun t301 => (some t301))) else (none)))) else (none)))) else (none)) else (if (t292 == false) = true then ((span_Count.f t273 t274).bind fun t302 => ((cenotaphref02_Count.f t278 t279).bind fun t303 => (if t302 = t303 then ((span_Top.f t273 t274).bind fun t304 => ((cenotaphref02_Top.f t278 t279).bind fun t305 => (if t304 = t305 then ((cenotaphlaw02_From.f t268 t269).bind fun bt306 => ((cenotaphref02_Same.f k bt306.1 bt306.2 t264 t265).bind fun t310 => (some t310))) else (none)))) else (none)))) else (none))) = some r := H
     have A17 := Aside0.mk A170
     clear A170
     by_cases c18 : a1 ≥ 1
     ·rw [if_pos c18] at H
      have c18b0 : decide (1 ≤ a1) = true := decide_eq_true c18
      clear c18
      by_cases c19 : (t292 == (decide (a1 ≤ 1048576))) = true
      ·rw [if_pos c19] at H
       have c19b0 : (t292 == (decide (a1 ≤ 1048576))) = true := c19
       (try (have c19b1 : decide (t292 = (decide (a1 ≤ 1048576))) = true := by simpa using c19))
       (try (have c19b2 : (t292 == (decide (a1 ≤ 1048576))) = true := by simpa using c19))
       clear c19
       replace H := Option.bind_eq_some_iff.mp H
       obtain ⟨t293, A200, H⟩ := H
       replace H : ((cenotaphref02_Count.f t278 t279).bind fun t294 => (if t293 = t294 then ((span_Top.f t273 t274).bind fun t295 => ((cenotaphref02_Top.f t278 t279).bind fun t296 => (if t295 = t296 then ((cenotaphlaw02_From.f t268 t269).bind fun bt297 => ((cenotaphref02_Same.f k bt297.1 bt297.2 t264 t265).bind fun t301 => (some t301))) else (none)))) else (none))) = some r := H
       have A20 := Aside0.mk A200
       clear A200
       replace H := Option.bind_eq_some_iff.mp H
       obtain ⟨t294, A210, H⟩ := H
       replace H : (if t293 = t294 then ((span_Top.f t273 t274).bind fun t295 => ((cenotaphref02_Top.f t278 t279).bind fun t296 => (if t295 = t296 then ((cenotaphlaw02_From.f t268 t269).bind fun bt297 => ((cenotaphref02_Same.f k bt297.1 bt297.2 t264 t265).bind fun t301 => (some t301))) else (none)))) else (none)) = some r := H
       have A21 := Aside0.mk A210
       clear A210
       by_cases c22 : t293 = t294
       ·rw [if_pos c22] at H
        have c22b0 : (t293 == t294) = true := beq_iff_eq.mpr c22
        have c22b1 : (t293 != t294) = false := bne_eq_false_iff_eq.mpr c22
        clear c22
        replace H := Option.bind_eq_some_iff.mp H
        obtain ⟨t295, A230, H⟩ := H
        replace H : ((cenotaphref02_Top.f t278 t279).bind fun t296 => (if t295 = t296 then ((cenotaphlaw02_From.f t268 t269).bind fun bt297 => ((cenotaphref02_Same.f k bt297.1 bt297.2 t264 t265).bind fun t301 => (some t301))) else (none))) = some r := H
        have A23 := Aside0.mk A230
        clear A230
        replace H := Option.bind_eq_some_iff.mp H
        obtain ⟨t296, A240, H⟩ := H
        replace H : (if t295 = t296 then ((cenotaphlaw02_From.f t268 t269).bind fun bt297 => ((cenotaphref02_Same.f k bt297.1 bt297.2 t264 t265).bind fun t301 => (some t301))) else (none)) = some r := H
        have A24 := Aside0.mk A240
        clear A240
        by_cases c25 : t295 = t296
        ·rw [if_pos c25] at H
         have c25b0 : (t295 == t296) = true := beq_iff_eq.mpr c25
         have c25b1 : (t295 != t296) = false := bne_eq_false_iff_eq.mpr c25
         clear c25
         replace H := Option.bind_eq_some_iff.mp H
         obtain ⟨⟨t297, t298⟩, A260, H⟩ := H
         replace H : ((cenotaphref02_Same.f k t297 t298 t264 t265).bind fun t301 => (some t301)) = some r := H
         have A26 := Aside0.mk A260
         clear A260
         replace H := Option.bind_eq_some_iff.mp H
         obtain ⟨t301, A270, H⟩ := H
         replace H : (some t301) = some r := H
         have A27 := Aside0.mk A270
         clear A270
         obtain rfl := Option.some.inj H
         go_enter Try.func5, Try.ntmps5
         try go_wp2_with (first | ((with_reducible refine gate_dst (N := 2) rfl ?_); refine box_event ?hg (N := 2) ?hd (cs := #[.int .i64 a0_0, .slice A0_1 l0_1.length c0_1]) (t := 30) ?hr ?_; (case hd => rfl); (case hg => rfl); (case hr => first | (go_simp; done) | (go_simp; rfl)); intro gb263 hg w28 hbox hb; have n0_ := Aside0.mk (below_step (by repeat (first | (with_reducible first | exact HB.out | apply below_alloc | apply pw_below_drewN | apply below_drew1) | exact HB.out)) hb); have n1_ := Aside0.mk (hbox); have n2_ := Aside0.mk ((zq5_16 : w.heap.size ≤ gb263)); have n3_ := Aside0.mk ((zq5_16 : w.heap.size ≤ gb263)); clear HB; have HB := n0_; have BK263 := n1_; have GW263 := n2_; have GE263 := n3_; clear n0_ n1_ n2_ n3_; clear hb hbox hg; have hcz29_0 : w28.cell? ⟨gb263, 0, none⟩ = some (.int .i64 a0_0) := (blk_cell BK263.out 0).trans rfl; have hcz29_1 : w28.cell? ⟨gb263, 1, none⟩ = some (.slice A0_1 l0_1.length c0_1) := (blk_cell BK263.out 1).trans rfl; have hfz29_0 := blk_frozen BK263.out 0; have hfz29_1 := blk_frozen BK263.out 1) | ((with_reducible refine gate_callee (f := 17) rfl ?_); refine goesL_ (some 9) rfl rfl Try.func17 (by kernel_rfl) rfl #[.agg #[.int .i64 a0_0, .slice A0_1 l0_1.length c0_1]] rfl zq5_18 ?_; (with_reducible refine (cenotaphref02_Fix.calls k a0_0 _ _ l0_1 t264 t265 _ ?side1 ?side2 A3.out).mono ?_); (case side1 => repeat (first | exact (Kd.C_below HR0_1.out HB.out) | (with_reducible refine Kd.C_alloc ?_ _) | (with_reducible refine Kd.C_drewN ?_ _) | (with_reducible refine Kd.C_drew ?_))); (case side2 => exact HC0_1.out); rintro e w30 ⟨v266, rfl, ho0, hb⟩; refine ⟨_, rfl, ?_⟩; have n0_ := Aside0.mk (Kd.R_lower ho0 (below_size zq5_17)); have n1_ := Aside0.mk (blk_below (g := gb263) (o := .cells #[.int .i64 a0_0, .slice A0_1 l0_1.length c0_1] 30 (0, 0)) zq5_19 hb); have n2_ := Aside0.mk (below_step zq5_17 hb); clear BK263; clear HB; have HO267 := n0_; have BK263 := n1_; have HB := n2_; clear n0_ n1_ n2_; (try clear hb); (try clear hb2); (try clear hk); (try clear hi); (try clear ho0); have hcz31_0 : w30.cell? ⟨gb263, 0, none⟩ = some (.int .i64 a0_0) := (blk_cell BK263.out 0).trans rfl; have hcz31_1 : w30.cell? ⟨gb263, 1, none⟩ = some (.slice A0_1 l0_1.length c0_1) := (blk_cell BK263.out 1).trans rfl; have hfz31_0 := blk_frozen BK263.out 0; have hfz31_1 := blk_frozen BK263.out 1; obtain ⟨Ao32, co32, eo32⟩ := Kd.R_slice HO267.out; subst eo32) | ((with_reducible refine gate_callee (f := 15) rfl ?_); refine goesL_ (some 11) rfl rfl Try.func15 (by kernel_rfl) rfl #[.agg #[.int .i64 t264, .slice Ao32 t265.length co32]] rfl zq5_18 ?_; (with_reducible refine (cenotaphlaw02_To.calls t264 _ _ t265 t268 t269 _ ?side1 ?side2 A4.out).mono ?_); (case side1 => refine (Kd.R_reads' (e := 3) (base := w.heap.size) (ok := fun k_ => True) (n := t265.length) (c := co32) ?_).2.2; exact zq5_0); (case side2 => exact (Kd.R_reads' HO267.out).2.1); rintro e w33 ⟨v270, rfl, ho0, hb⟩; refine ⟨_, rfl, ?_⟩; have n0_ := Aside0.mk (Kd.R_elder' zq5_0 (Kd.R_base ho0) hb); have n1_ := Aside0.mk (Kd.R_lower (Kd.R_new' ho0 (Kd.R_lt zq5_0)) (below_size zq5_17)); have n2_ := Aside0.mk (blk_below (g := gb263) (o := .cells #[.int .i64 t264, .slice Ao32 t265.length co32] 30 (0, 0)) (by (with_reducible repeat (first | refine blk_drewN ?_ _ | refine blk_drew ?_ | refine blk_alloc ?_ _)); refine blk_put (cs := #[.int .i64 t264, .slice A0_1 l0_1.length c0_1]) ?_ 1 _ rfl; (with_reducible repeat (first | refine blk_drewN ?_ _ | refine blk_drew ?_ | refine blk_alloc ?_ _)); refine blk_put (cs := #[.int .i64 a0_0, .slice A0_1 l0_1.length c0_1]) ?_ 0 _ rfl; (with_reducible repeat (first | refine blk_drewN ?_ _ | refine blk_drew ?_ | refine blk_alloc ?_ _)); exact BK263.out) hb); have n3_ := Aside0.mk (below_step zq5_17 hb); clear HO267; clear BK263; clear HB; have HO267 := n0_; have HO271 := n1_; have BK263 := n2_; have HB := n3_; clear n0_ n1_ n2_ n3_; (try clear hb); (try clear hb2); (try clear hk); (try clear hi); (try clear ho0)) | ((with_reducible refine gate_dst (N := 5) rfl ?_); refine box_event ?hg (N := 5) ?hd (cs := #[.int .i64 0, .slice none 0 0]) (t := 24) ?hr ?_; (case hd => rfl); (case hg => rfl); (case hr => first | (go_simp; done) | (go_simp; rfl)); intro gb272 hg w34 hbox hb; have n0_ := Aside0.mk (Kd.R_below zq5_23 hb); have n1_ := Aside0.mk (Kd.R_below zq5_24 hb); have n2_ := Aside0.mk (blk_below (g := gb263) (o := .cells #[.int .i64 t264, .slice Ao32 t265.length co32] 30 (0, 0)) zq5_19 hb); have n3_ := Aside0.mk (below_step zq5_17 hb); have n4_ := Aside0.mk (hbox); have n5_ := Aside0.mk ((zq5_14 : w.heap.size ≤ gb272)); have n6_ := Aside0.mk ((zq5_14 : w.heap.size ≤ gb272)); have n7_ := Aside0.mk ((zq5_8 : gb263 ≠ gb272)); have n8_ := Aside0.mk ((zq5_9 : gb272 ≠ gb263)); clear HO267; clear HO271; clear BK263; clear HB; have HO267 := n0_; have HO271 := n1_; have BK263 := n2_; have HB := n3_; have BK272 := n4_; have GW272 := n5_; have GE272 := n6_; have NB263_272 := n7_; have NB272_263 := n8_; clear n0_ n1_ n2_ n3_ n4_ n5_ n6_ n7_ n8_; clear hb hbox hg; have hnb35 := NB272_263.out; have hnc35 := NB263_272.out; have hcz36_0 : w34.cell? ⟨gb272, 0, none⟩ = some (.int .i64 0) := (blk_cell BK272.out 0).trans rfl; have hcz36_1 : w34.cell? ⟨gb272, 1, none⟩ = some (.slice none 0 0) := (blk_cell BK272.out 1).trans rfl; have hfz36_0 := blk_frozen BK272.out 0; have hfz36_1 := blk_frozen BK272.out 1; obtain ⟨Ao37, co37, eo37⟩ := Kd.R_slice HO271.out; subst eo37) | ((with_reducible refine gate_callee (f := 18) rfl ?_); refine goesL_ (some 14) rfl rfl Try.func18 (by kernel_rfl) rfl #[.agg #[.int .i64 t268, .slice Ao37 t269.length co37], .int .i64 a1] rfl zq5_18 ?_; (with_reducible refine (span_Add.calls k t268 _ _ t269 a1 t273 t274 _ ?side1 ?side2 A5.out).mono ?_); (case side1 => refine (Kd.R_reads' (e := 3) (base := w.heap.size) (ok := fun k_ => (True ∧ some k_ ≠ (.slice Ao32 t265.length co32 : Value).ownBlock)) (n := t269.length) (c := co37) ?_).2.2; exact zq5_1); (case side2 => exact (Kd.R_reads' HO271.out).2.1); rintro e w38 ⟨v275, rfl, ho0, hb⟩; refine ⟨_, rfl, ?_⟩; have n0_ := Aside0.mk (Kd.R_elder' (by (with_reducible repeat (first | apply Kd.R_alloc | apply Kd.R_drewN | apply Kd.R_drew)); exact (Kd.R_mono (Kd.R_far (p := ⟨gb272, 1, none⟩) (Kd.R_far (p := ⟨gb272, 0, none⟩) (Kd.R_types HO267.out BK272.out (by decide)) (fun _ hk => hk.2) (.int .i64 t268)) (fun _ hk => hk.2) (.slice Ao37 t269.length co37)) (fun _ h_ => h_.1))) (Kd.R_base ho0) hb); have n1_ := Aside0.mk (Kd.R_elder' zq5_1 (Kd.R_base ho0) hb); have n2_ := Aside0.mk (Kd.R_lower (Kd.R_new' (Kd.R_new' ho0 (Kd.R_lt (by (with_reducible repeat (first | apply Kd.R_alloc | apply Kd.R_drewN | apply Kd.R_drew)); exact (Kd.R_mono (Kd.R_far (p := ⟨gb272, 1, none⟩) (Kd.R_far (p := ⟨gb272, 0, none⟩) (Kd.R_types HO267.out BK272.out (by decide)) (fun _ hk => hk.2) (.int .i64 t268)) (fun _ hk => hk.2) (.slice Ao37 t269.length co37)) (fun _ h_ => h_.1))))) (Kd.R_lt zq5_1)) (below_size zq5_15)); have n3_ := Aside0.mk (blk_below (g := gb263) (o := .cells #[.int .i64 t264, .slice Ao32 t265.length co32] 30 (0, 0)) (by (with_reducible repeat (first | refine blk_drewN ?_ _ | refine blk_drew ?_ | refine blk_alloc ?_ _)); refine blk_far ?_ NB263_272.out _; (with_reducible repeat (first | refine blk_drewN ?_ _ | refine blk_drew ?_ | refine blk_alloc ?_ _)); refine blk_far ?_ NB263_272.out _; (with_reducible repeat (first | refine blk_drewN ?_ _ | refine blk_drew ?_ | refine blk_alloc ?_ _)); exact BK263.out) hb); have n4_ := Aside0.mk (blk_below (g := gb272) (o := .cells #[.int .i64 t268, .slice Ao37 t269.length co37] 24 (0, 0)) (by (with_reducible repeat (first | refine blk_drewN ?_ _ | refine blk_drew ?_ | refine blk_alloc ?_ _)); refine blk_put (cs := #[.int .i64 t268, .slice none 0 0]) ?_ 1 _ rfl; (with_reducible repeat (first | refine blk_drewN ?_ _ | refine blk_drew ?_ | refine blk_alloc ?_ _)); refine blk_put (cs := #[.int .i64 0, .slice none 0 0]) ?_ 0 _ rfl; (with_reducible repeat (first | refine blk_drewN ?_ _ | refine blk_drew ?_ | refine blk_alloc ?_ _)); exact BK272.out) hb); have n5_ := Aside0.mk (below_step zq5_15 hb); clear HO267; clear HO271; clear BK263; clear BK272; clear HB; have HO267 := n0_; have HO271 := n1_; have HO276 := n2_; have BK263 := n3_; have BK272 := n4_; have HB := n5_; clear n0_ n1_ n2_ n3_ n4_ n5_; (try clear hb); (try clear hb2); (try clear hk); (try clear hi); (try clear ho0)) | ((with_reducible refine gate_dst (N := 6) rfl ?_); refine box_event ?hg (N := 6) ?hd (cs := #[.int .i64 0, .slice none 0 0]) (t := 24) ?hr ?_; (case hd => rfl); (case hg => rfl); (case hr => first | (go_simp; done) | (go_simp; rfl)); intro gb277 hg w39 hbox hb; have n0_ := Aside0.mk (Kd.R_below zq5_23 hb); have n1_ := Aside0.mk (Kd.R_below zq5_24 hb); have n2_ := Aside0.mk (Kd.R_below zq5_25 hb); have n3_ := Aside0.mk (blk_below (g := gb263) (o := .cells #[.int .i64 t264, .slice Ao32 t265.length co32] 30 (0, 0)) zq5_19 hb); have n4_ := Aside0.mk (blk_below (g := gb272) (o := .cells #[.int .i64 t268, .slice Ao37 t269.length co37] 24 (0, 0)) zq5_20 hb); have n5_ := Aside0.mk (below_step zq5_15 hb); have n6_ := Aside0.mk (hbox); have n7_ := Aside0.mk ((zq5_12 : w.heap.size ≤ gb277)); have n8_ := Aside0.mk ((zq5_12 : w.heap.size ≤ gb277)); have n9_ := Aside0.mk ((zq5_8 : gb263 ≠ gb277)); have n10_ := Aside0.mk ((zq5_9 : gb277 ≠ gb263)); have n11_ := Aside0.mk (((by rw [hg]; exact Nat.ne_of_lt (blk_lt (g := gb272) (o := .cells #[.int .i64 t268, .slice Ao37 t269.length co37] 24 (0, 0)) zq5_20)) : gb272 ≠ gb277)); have n12_ := Aside0.mk (((by rw [hg]; exact Nat.ne_of_gt (blk_lt (g := gb272) (o := .cells #[.int .i64 t268, .slice Ao37 t269.length co37] 24 (0, 0)) zq5_20)) : gb277 ≠ gb272)); clear HO267; clear HO271; clear HO276; clear BK263; clear BK272; clear HB; have HO267 := n0_; have HO271 := n1_; have HO276 := n2_; have BK263 := n3_; have BK272 := n4_; have HB := n5_; have BK277 := n6_; have GW277 := n7_; have GE277 := n8_; have NB263_277 := n9_; have NB277_263 := n10_; have NB272_277 := n11_; have NB277_272 := n12_; clear n0_ n1_ n2_ n3_ n4_ n5_ n6_ n7_ n8_ n9_ n10_ n11_ n12_; clear hb hbox hg; have hnb40 := NB277_263.out; have hnc40 := NB263_277.out; have hnb41 := NB277_272.out; have hnc41 := NB272_277.out; have hcz42_0 : w39.cell? ⟨gb277, 0, none⟩ = some (.int .i64 0) := (blk_cell BK277.out 0).trans rfl; have hcz42_1 : w39.cell? ⟨gb277, 1, none⟩ = some (.slice none 0 0) := (blk_cell BK277.out 1).trans rfl; have hfz42_0 := blk_frozen BK277.out 0; have hfz42_1 := blk_frozen BK277.out 1; obtain ⟨Ao43, co43, eo43⟩ := Kd.R_slice HO276.out; subst eo43; have hcz44_0 : w39.cell? ⟨gb263, 0, none⟩ = some (.int .i64 t264) := (blk_cell BK263.out 0).trans rfl; have hcz44_1 : w39.cell? ⟨gb263, 1, none⟩ = some (.slice Ao32 t265.length co32) := (blk_cell BK263.out 1).trans rfl; have hfz44_0 := blk_frozen BK263.out 0; have hfz44_1 := blk_frozen BK263.out 1) | ((with_reducible refine gate_callee (f := 19) rfl ?_); refine goesL_ (some 17) rfl rfl Try.func19 (by kernel_rfl) rfl #[.agg #[.int .i64 t264, .slice Ao32 t265.length co32], .int .i64 a1] rfl zq5_18 ?_; (with_reducible refine (cenotaphref02_Add.calls k t264 _ _ t265 a1 t278 t279 _ ?side1 ?side2 A6.out).mono ?_); (case side1 => refine (Kd.R_reads' (e := 3) (base := w.heap.size) (ok := fun k_ => ((True ∧ some k_ ≠ (.slice Ao37 t269.length co37 : Value).ownBlock) ∧ some k_ ≠ (.slice Ao43 t274.length co43 : Value).ownBlock)) (n := t265.length) (c := co32) ?_).2.2; exact zq5_2); (case side2 => exact (Kd.R_reads' HO267.out).2.1); rintro e w45 ⟨v280, rfl, ho0, hb⟩; refine ⟨_, rfl, ?_⟩; have n0_ := Aside0.mk (Kd.R_elder' zq5_2 (Kd.R_base ho0) hb); have n1_ := Aside0.mk (Kd.R_elder' (by (with_reducible repeat (first | apply Kd.R_alloc | apply Kd.R_drewN | apply Kd.R_drew)); exact (Kd.R_mono (Kd.R_far (p := ⟨gb277, 1, none⟩) (Kd.R_far (p := ⟨gb277, 0, none⟩) (Kd.R_types HO271.out BK277.out (by decide)) (fun _ hk => hk.2) (.int .i64 t273)) (fun _ hk => hk.2) (.slice Ao43 t274.length co43)) (fun _ h_ => h_.1))) (Kd.R_base ho0) hb); have n2_ := Aside0.mk (Kd.R_elder' (by (with_reducible repeat (first | apply Kd.R_alloc | apply Kd.R_drewN | apply Kd.R_drew)); exact (Kd.R_mono (Kd.R_far (p := ⟨gb277, 1, none⟩) (Kd.R_far (p := ⟨gb277, 0, none⟩) (Kd.R_types HO276.out BK277.out (by decide)) (fun _ hk => hk.2) (.int .i64 t273)) (fun _ hk => hk.2) (.slice Ao43 t274.length co43)) (fun _ h_ => h_.1))) (Kd.R_base ho0) hb); have n3_ := Aside0.mk (Kd.R_lower (Kd.R_new' (Kd.R_new' (Kd.R_new' ho0 (Kd.R_lt zq5_2)) (Kd.R_lt (by (with_reducible repeat (first | apply Kd.R_alloc | apply Kd.R_drewN | apply Kd.R_drew)); exact (Kd.R_mono (Kd.R_far (p := ⟨gb277, 1, none⟩) (Kd.R_far (p := ⟨gb277, 0, none⟩) (Kd.R_types HO271.out BK277.out (by decide)) (fun _ hk => hk.2) (.int .i64 t273)) (fun _ hk => hk.2) (.slice Ao43 t274.length co43)) (fun _ h_ => h_.1))))) (Kd.R_lt (by (with_reducible repeat (first | apply Kd.R_alloc | apply Kd.R_drewN | apply Kd.R_drew)); exact (Kd.R_mono (Kd.R_far (p := ⟨gb277, 1, none⟩) (Kd.R_far (p := ⟨gb277, 0, none⟩) (Kd.R_types HO276.out BK277.out (by decide)) (fun _ hk => hk.2) (.int .i64 t273)) (fun _ hk => hk.2) (.slice Ao43 t274.length co43)) (fun _ h_ => h_.1))))) (below_size zq5_13)); have n4_ := Aside0.mk (blk_below (g := gb263) (o := .cells #[.int .i64 t264, .slice Ao32 t265.length co32] 30 (0, 0)) (by (with_reducible repeat (first | refine blk_drewN ?_ _ | refine blk_drew ?_ | refine blk_alloc ?_ _)); refine blk_far ?_ NB263_277.out _; (with_reducible repeat (first | refine blk_drewN ?_ _ | refine blk_drew ?_ | refine blk_alloc ?_ _)); refine blk_far ?_ NB263_277.out _; (with_reducible repeat (first | refine blk_drewN ?_ _ | refine blk_drew ?_ | refine blk_alloc ?_ _)); exact BK263.out) hb); have n5_ := Aside0.mk (blk_below (g := gb272) (o := .cells #[.int .i64 t268, .slice Ao37 t269.length co37] 24 (0, 0)) (by (with_reducible repeat (first | refine blk_drewN ?_ _ | refine blk_drew ?_ | refine blk_alloc ?_ _)); refine blk_far ?_ NB272_277.out _; (with_reducible repeat (first | refine blk_drewN ?_ _ | refine blk_drew ?_ | refine blk_alloc ?_ _)); refine blk_far ?_ NB272_277.out _; (with_reducible repeat (first | refine blk_drewN ?_ _ | refine blk_drew ?_ | refine blk_alloc ?_ _)); exact BK272.out) hb); have n6_ := Aside0.mk (blk_below (g := gb277) (o := .cells #[.int .i64 t273, .slice Ao43 t274.length co43] 24 (0, 0)) (by (with_reducible repeat (first | refine blk_drewN ?_ _ | refine blk_drew ?_ | refine blk_alloc ?_ _)); refine blk_put (cs := #[.int .i64 t273, .slice none 0 0]) ?_ 1 _ rfl; (with_reducible repeat (first | refine blk_drewN ?_ _ | refine blk_drew ?_ | refine blk_alloc ?_ _)); refine blk_put (cs := #[.int .i64 0, .slice none 0 0]) ?_ 0 _ rfl; (with_reducible repeat (first | refine blk_drewN ?_ _ | refine blk_drew ?_ | refine blk_alloc ?_ _)); exact BK277.out) hb); have n7_ := Aside0.mk (below_step zq5_13 hb); clear HO267; clear HO271; clear HO276; clear BK263; clear BK272; clear BK277; clear HB; have HO267 := n0_; have HO271 := n1_; have HO276 := n2_; have HO281 := n3_; have BK263 := n4_; have BK272 := n5_; have BK277 := n6_; have HB := n7_; clear n0_ n1_ n2_ n3_ n4_ n5_ n6_ n7_; (try clear hb); (try clear hb2); (try clear hk); (try clear hi); (try clear ho0)) | ((with_reducible refine gate_dst (N := 7) rfl ?_); refine box_event ?hg (N := 7) ?hd (cs := #[.int .i64 0, .slice none 0 0]) (t := 30) ?hr ?_; (case hd => rfl); (case hg => rfl); (case hr => first | (go_simp; done) | (go_simp; rfl)); intro gb282 hg w46 hbox hb; have n0_ := Aside0.mk (Kd.R_below zq5_23 hb); have n1_ := Aside0.mk (Kd.R_below zq5_24 hb); have n2_ := Aside0.mk (Kd.R_below zq5_25 hb); have n3_ := Aside0.mk (Kd.R_below zq5_26 hb); have n4_ := Aside0.mk (blk_below (g := gb263) (o := .cells #[.int .i64 t264, .slice Ao32 t265.length co32] 30 (0, 0)) zq5_19 hb); have n5_ := Aside0.mk (blk_below (g := gb272) (o := .cells #[.int .i64 t268, .slice Ao37 t269.length co37] 24 (0, 0)) zq5_20 hb); have n6_ := Aside0.mk (blk_below (g := gb277) (o := .cells #[.int .i64 t273, .slice Ao43 t274.length co43] 24 (0, 0)) zq5_21 hb); have n7_ := Aside0.mk (below_step zq5_13 hb); have n8_ := Aside0.mk (hbox); have n9_ := Aside0.mk ((zq5_6 : w.heap.size ≤ gb282)); have n10_ := Aside0.mk ((zq5_6 : w.heap.size ≤ gb282)); have n11_ := Aside0.mk ((zq5_8 : gb263 ≠ gb282)); have n12_ := Aside0.mk ((zq5_9 : gb282 ≠ gb263)); have n13_ := Aside0.mk (((by rw [hg]; exact Nat.ne_of_lt (blk_lt (g := gb272) (o := .cells #[.int .i64 t268, .slice Ao37 t269.length co37] 24 (0, 0)) zq5_20)) : gb272 ≠ gb282)); have n14_ := Aside0.mk (((by rw [hg]; exact Nat.ne_of_gt (blk_lt (g := gb272) (o := .cells #[.int .i64 t268, .slice Ao37 t269.length co37] 24 (0, 0)) zq5_20)) : gb282 ≠ gb272)); have n15_ := Aside0.mk (((by rw [hg]; exact Nat.ne_of_lt (blk_lt (g := gb277) (o := .cells #[.int .i64 t273, .slice Ao43 t274.length co43] 24 (0, 0)) zq5_21)) : gb277 ≠ gb282)); have n16_ := Aside0.mk (((by rw [hg]; exact Nat.ne_of_gt (blk_lt (g := gb277) (o := .cells #[.int .i64 t273, .slice Ao43 t274.length co43] 24 (0, 0)) zq5_21)) : gb282 ≠ gb277)); clear HO267; clear HO271; clear HO276; clear HO281; clear BK263; clear BK272; clear BK277; clear HB; have HO267 := n0_; have HO271 := n1_; have HO276 := n2_; have HO281 := n3_; have BK263 := n4_; have BK272 := n5_; have BK277 := n6_; have HB := n7_; have BK282 := n8_; have GW282 := n9_; have GE282 := n10_; have NB263_282 := n11_; have NB282_263 := n12_; have NB272_282 := n13_; have NB282_272 := n14_; have NB277_282 := n15_; have NB282_277 := n16_; clear n0_ n1_ n2_ n3_ n4_ n5_ n6_ n7_ n8_ n9_ n10_ n11_ n12_ n13_ n14_ n15_ n16_; clear hb hbox hg; have hnb47 := NB282_263.out; have hnc47 := NB263_282.out; have hnb48 := NB282_272.out; have hnc48 := NB272_282.out; have hnb49 := NB282_277.out; have hnc49 := NB277_282.out; have hcz50_0 : w46.cell? ⟨gb282, 0, none⟩ = some (.int .i64 0) := (blk_cell BK282.out 0).trans rfl; have hcz50_1 : w46.cell? ⟨gb282, 1, none⟩ = some (.slice none 0 0) := (blk_cell BK282.out 1).trans rfl; have hfz50_0 := blk_frozen BK282.out 0; have hfz50_1 := blk_frozen BK282.out 1; obtain ⟨Ao51, co51, eo51⟩ := Kd.R_slice HO281.out; subst eo51))
         have n0_ : Aside0 (Kd.R (Kd.int .i64) 3 ((w46.setCell ⟨gb282, 0, none⟩ (.int .i64 t278)).setCell ⟨gb282, 1, none⟩ (.slice Ao51 t279.length co51)) w.heap.size (fun k_ => some k_ ≠ (.slice Ao37 t269.length co37 : Value).ownBlock ∧ some k_ ≠ (.slice Ao43 t274.length co43 : Value).ownBlock ∧ some k_ ≠ (.slice Ao51 t279.length co51 : Value).ownBlock) (.slice Ao32 t265.length co32) t265) := ⟨by (with_reducible repeat (first | apply Kd.R_alloc | apply Kd.R_drewN | apply Kd.R_drew)); exact Kd.R_mono (Kd.R_far (p := ⟨gb282, 1, none⟩) (Kd.R_far (p := ⟨gb282, 0, none⟩) (Kd.R_types HO267.out BK282.out (by decide)) (fun _ hk => hk.2) (.int .i64 t278)) (fun _ hk => hk.2) (.slice Ao51 t279.length co51)) (fun _ hk => ⟨hk.1.1.1.2, ⟨hk.1.1.2, hk.1.2⟩⟩)⟩
         have n1_ : Aside0 (Kd.R (Kd.int .i64) 3 ((w46.setCell ⟨gb282, 0, none⟩ (.int .i64 t278)).setCell ⟨gb282, 1, none⟩ (.slice Ao51 t279.length co51)) w.heap.size (fun k_ => some k_ ≠ (.slice Ao32 t265.length co32 : Value).ownBlock ∧ some k_ ≠ (.slice Ao43 t274.length co43 : Value).ownBlock ∧ some k_ ≠ (.slice Ao51 t279.length co51 : Value).ownBlock) (.slice Ao37 t269.length co37) t269) := ⟨by (with_reducible repeat (first | apply Kd.R_alloc | apply Kd.R_drewN | apply Kd.R_drew)); exact Kd.R_mono (Kd.R_far (p := ⟨gb282, 1, none⟩) (Kd.R_far (p := ⟨gb282, 0, none⟩) (Kd.R_types HO271.out BK282.out (by decide)) (fun _ hk => hk.2) (.int .i64 t278)) (fun _ hk => hk.2) (.slice Ao51 t279.length co51)) (fun _ hk => ⟨hk.1.1.1.2, ⟨hk.1.1.2, hk.1.2⟩⟩)⟩
         have n2_ : Aside0 (Kd.R (Kd.int .i64) 3 ((w46.setCell ⟨gb282, 0, none⟩ (.int .i64 t278)).setCell ⟨gb282, 1, none⟩ (.slice Ao51 t279.length co51)) w.heap.size (fun k_ => some k_ ≠ (.slice Ao32 t265.length co32 : Value).ownBlock ∧ some k_ ≠ (.slice Ao37 t269.length co37 : Value).ownBlock ∧ some k_ ≠ (.slice Ao51 t279.length co51 : Value).ownBlock) (.slice Ao43 t274.length co43) t274) := ⟨by (with_reducible repeat (first | apply Kd.R_alloc | apply Kd.R_drewN | apply Kd.R_drew)); exact Kd.R_mono (Kd.R_far (p := ⟨gb282, 1, none⟩) (Kd.R_far (p := ⟨gb282, 0, none⟩) (Kd.R_types HO276.out BK282.out (by decide)) (fun _ hk => hk.2) (.int .i64 t278)) (fun _ hk => hk.2) (.slice Ao51 t279.length co51)) (fun _ hk => ⟨hk.1.1.1.2, ⟨hk.1.1.2, hk.1.2⟩⟩)⟩
         have n3_ : Aside0 (Kd.R (Kd.int .i64) 3 ((w46.setCell ⟨gb282, 0, none⟩ (.int .i64 t278)).setCell ⟨gb282, 1, none⟩ (.slice Ao51 t279.length co51)) w.heap.size (fun k_ => some k_ ≠ (.slice Ao32 t265.length co32 : Value).ownBlock ∧ some k_ ≠ (.slice Ao37 t269.length co37 : Value).ownBlock ∧ some k_ ≠ (.slice Ao43 t274.length co43 : Value).ownBlock) (.slice Ao51 t279.length co51) t279) := ⟨by (with_reducible repeat (first | apply Kd.R_alloc | apply Kd.R_drewN | apply Kd.R_drew)); exact Kd.R_mono (Kd.R_far (p := ⟨gb282, 1, none⟩) (Kd.R_far (p := ⟨gb282, 0, none⟩) (Kd.R_types HO281.out BK282.out (by decide)) (fun _ hk => hk.2) (.int .i64 t278)) (fun _ hk => hk.2) (.slice Ao51 t279.length co51)) (fun _ hk => ⟨hk.1.1.1.2, ⟨hk.1.1.2, hk.1.2⟩⟩)⟩
         have n4_ : Aside0 (((w46.setCell ⟨gb282, 0, none⟩ (.int .i64 t278)).setCell ⟨gb282, 1, none⟩ (.slice Ao51 t279.length co51)).heap[gb263]? = some (.cells #[.int .i64 t264, .slice Ao32 t265.length co32] 30 (0, 0))) := ⟨by (with_reducible repeat (first | refine blk_drewN ?_ _ | refine blk_drew ?_ | refine blk_alloc ?_ _)); refine blk_far ?_ NB263_282.out _; (with_reducible repeat (first | refine blk_drewN ?_ _ | refine blk_drew ?_ | refine blk_alloc ?_ _)); refine blk_far ?_ NB263_282.out _; (with_reducible repeat (first | refine blk_drewN ?_ _ | refine blk_drew ?_ | refine blk_alloc ?_ _)); exact BK263.out⟩
         have n5_ : Aside0 (((w46.setCell ⟨gb282, 0, none⟩ (.int .i64 t278)).setCell ⟨gb282, 1, none⟩ (.slice Ao51 t279.length co51)).heap[gb272]? = some (.cells #[.int .i64 t268, .slice Ao37 t269.length co37] 24 (0, 0))) := ⟨by (with_reducible repeat (first | refine blk_drewN ?_ _ | refine blk_drew ?_ | refine blk_alloc ?_ _)); refine blk_far ?_ NB272_282.out _; (with_reducible repeat (first | refine blk_drewN ?_ _ | refine blk_drew ?_ | refine blk_alloc ?_ _)); refine blk_far ?_ NB272_282.out _; (with_reducible repeat (first | refine blk_drewN ?_ _ | refine blk_drew ?_ | refine blk_alloc ?_ _)); exact BK272.out⟩
         have n6_ : Aside0 (((w46.setCell ⟨gb282, 0, none⟩ (.int .i64 t278)).setCell ⟨gb282, 1, none⟩ (.slice Ao51 t279.length co51)).heap[gb277]? = some (.cells #[.int .i64 t273, .slice Ao43 t274.length co43] 24 (0, 0))) := ⟨by (with_reducible repeat (first | refine blk_drewN ?_ _ | refine blk_drew ?_ | refine blk_alloc ?_ _)); refine blk_far ?_ NB277_282.out _; (with_reducible repeat (first | refine blk_drewN ?_ _ | refine blk_drew ?_ | refine blk_alloc ?_ _)); refine blk_far ?_ NB277_282.out _; (with_reducible repeat (first | refine blk_drewN ?_ _ | refine blk_drew ?_ | refine blk_alloc ?_ _)); exact BK277.out⟩
         have n7_ : Aside0 (((w46.setCell ⟨gb282, 0, none⟩ (.int .i64 t278)).setCell ⟨gb282, 1, none⟩ (.slice Ao51 t279.length co51)).heap[gb282]? = some (.cells #[.int .i64 t278, .slice Ao51 t279.length co51] 30 (0, 0))) := ⟨by (with_reducible repeat (first | refine blk_drewN ?_ _ | refine blk_drew ?_ | refine blk_alloc ?_ _)); refine blk_put (cs := #[.int .i64 t278, .slice none 0 0]) ?_ 1 _ rfl; (with_reducible repeat (first | refine blk_drewN ?_ _ | refine blk_drew ?_ | refine blk_alloc ?_ _)); refine blk_put (cs := #[.int .i64 0, .slice none 0 0]) ?_ 0 _ rfl; (with_reducible repeat (first | refine blk_drewN ?_ _ | refine blk_drew ?_ | refine blk_alloc ?_ _)); exact BK282.out⟩
         have n8_ : Aside0 (Below w.heap.size w ((w46.setCell ⟨gb282, 0, none⟩ (.int .i64 t278)).setCell ⟨gb282, 1, none⟩ (.slice Ao51 t279.length co51))) := ⟨by repeat (first | (with_reducible first | exact HB.out | apply below_alloc | apply pw_below_drewN | apply below_drew1 | refine below_set ?_ GE263.out | refine below_set ?_ GE272.out | refine below_set ?_ GE277.out | refine below_set ?_ GE282.out) | exact HB.out)⟩
         (try clear HO267)
         (try clear HO271)
         (try clear HO276)
         (try clear HO281)
         (try clear BK263)
         (try clear BK272)
         (try clear BK277)
         (try clear BK282)
         (try clear HB)
         generalize ((w46.setCell ⟨gb282, 0, none⟩ (.int .i64 t278)).setCell ⟨gb282, 1, none⟩ (.slice Ao51 t279.length co51)) = w52 at n0_ n1_ n2_ n3_ n4_ n5_ n6_ n7_ n8_ ⊢
         have HO267 := n0_
         have HO271 := n1_
         have HO276 := n2_
         have HO281 := n3_
         have BK263 := n4_
         have BK272 := n5_
         have BK277 := n6_
         have BK282 := n7_
         have HB := n8_
         clear n0_ n1_ n2_ n3_ n4_ n5_ n6_ n7_ n8_
         replace HO267 := Aside0.mk (Kd.R_drew HO267.out)
         replace HO271 := Aside0.mk (Kd.R_drew HO271.out)
         replace HO276 := Aside0.mk (Kd.R_drew HO276.out)
         replace HO281 := Aside0.mk (Kd.R_drew HO281.out)
         replace BK263 := Aside0.mk (blk_drew BK263.out)
         replace BK272 := Aside0.mk (blk_drew BK272.out)
         replace BK277 := Aside0.mk (blk_drew BK277.out)
         replace BK282 := Aside0.mk (blk_drew BK282.out)
         replace HB := Aside0.mk (below_drew1 HB.out)
         refine start_ (n := 53) (S := fun w' => w'.cell? ⟨gb277, 0, none⟩ = some (.int .i64 t273) ∧ w'.cell? ⟨gb277, 1, none⟩ = some (.slice Ao43 t274.length co43) ∧ w'.cell? ⟨gb282, 0, none⟩ = some (.int .i64 t278) ∧ w'.cell? ⟨gb282, 1, none⟩ = some (.slice Ao51 t279.length co51) ∧ w'.cell? ⟨gb272, 0, none⟩ = some (.int .i64 t268) ∧ w'.cell? ⟨gb272, 1, none⟩ = some (.slice Ao37 t269.length co37) ∧ w'.cell? ⟨gb263, 0, none⟩ = some (.int .i64 t264) ∧ w'.cell? ⟨gb263, 1, none⟩ = some (.slice Ao32 t265.length co32)) (ds := []) #[bF5, bF5, bF5, bF5, bF5, bF5, bF5, bF5, bF5, bF5, bF5, bF5, bF5, bF5, bF5, bF5, bF5, bF5, bF5, bF5, bF5, bF5, bF5, bF5, bF5, bF5, bF5, bF5, bF5, bF5, bF5, bF5, bF5, bF5, bF5, bF5, bF5, bF5, bF5, bF5, bF5, bF5, bF5, bF5, bF5, bF5, bF5, bF5, bF5, bF5, bF5, bF5, bF5] (by kernel_rfl) rfl rfl ⟨(blk_cell BK277.out 0).trans rfl, (blk_cell BK277.out 1).trans rfl, (blk_cell BK282.out 0).trans rfl, (blk_cell BK282.out 1).trans rfl, (blk_cell BK272.out 0).trans rfl, (blk_cell BK272.out 1).trans rfl, (blk_cell BK263.out 0).trans rfl, (blk_cell BK263.out 1).trans rfl⟩ (fun hHeld => ?_); refine with_tabW cenotaphlaw02_SpanAdds.tab5 cenotaphlaw02_SpanAdds.bits5 (fun HT_ HW_ => ?_)
         generalize w52.drew = w53 at HO267 HO271 HO276 HO281 BK263 BK272 BK277 BK282 HB hHeld ⊢
         refine one_ (i := 0) (N := some 18) #[bT5, bF5, bF5, bF5, bF5, bF5, bF5, bF5, bF5, bF5, bF5, bF5, bF5, bF5, bF5, bF5, bF5, bF5, bF5, bF5, bF5, bF5, bF5, bF5, bF5, bF5, bF5, bF5, bF5, bF5, bF5, bF5, bF5, bF5, bF5, bF5, bF5, bF5, bF5, bF5, bF5, bF5, bF5, bF5, bF5, bF5, bF5, bF5, bF5, bF5, bF5, bF5, bF5] rfl rfl (one_of HT_.out (by kernel_rfl)) (by decide) (fun K hK => ?_)
         refine goes_ Try.func11 (by kernel_rfl) rfl #[] (by rfl) rfl rfl zq5_18 ?_
         with_reducible refine (cenotaphlaw02_told.calls k  true _ A7.out).mono ?_
         rintro e w54 ⟨rfl, hb⟩
         refine ⟨_, rfl, ?_⟩
         replace HO267 := Aside0.mk (Kd.R_below zq5_23 hb)
         replace HO271 := Aside0.mk (Kd.R_below zq5_24 hb)
         replace HO276 := Aside0.mk (Kd.R_below zq5_25 hb)
         replace HO281 := Aside0.mk (Kd.R_below zq5_26 hb)
         replace BK263 := Aside0.mk (blk_below (g := gb263) (o := .cells #[.int .i64 t264, .slice Ao32 t265.length co32] 30 (0, 0)) zq5_19 hb)
         replace BK272 := Aside0.mk (blk_below (g := gb272) (o := .cells #[.int .i64 t268, .slice Ao37 t269.length co37] 24 (0, 0)) zq5_20 hb)
         replace BK277 := Aside0.mk (blk_below (g := gb277) (o := .cells #[.int .i64 t273, .slice Ao43 t274.length co43] 24 (0, 0)) zq5_21 hb)
         replace BK282 := Aside0.mk (blk_below (g := gb282) (o := .cells #[.int .i64 t278, .slice Ao51 t279.length co51] 30 (0, 0)) zq5_22 hb)
         replace HB := Aside0.mk (below_step zq5_7 hb)
         (try clear hb)
         (try clear hb2)
         (try clear hk)
         (try clear hi)
         refine hK.out _ _ ⟨(blk_cell BK277.out 0).trans rfl, (blk_cell BK277.out 1).trans rfl, (blk_cell BK282.out 0).trans rfl, (blk_cell BK282.out 1).trans rfl, (blk_cell BK272.out 0).trans rfl, (blk_cell BK272.out 1).trans rfl, (blk_cell BK263.out 0).trans rfl, (blk_cell BK263.out 1).trans rfl⟩ (fun hHeld => ?_)
         clear hK K
         refine norm_ (a' := ?_) ?_ ?_
         rotate_left
         ·show Act.put _ (some 18) _ = _
          simp only [Act.put, List.setIfInBounds_toArray, List.set_cons_zero, List.set_cons_succ, i64_w, i32_w]
          rfl
         refine pure_ (i := 1) (N := some 19) (v := ?_) (a' := ?_) #[bT5, bT5, bF5, bF5, bF5, bF5, bF5, bF5, bF5, bF5, bF5, bF5, bF5, bF5, bF5, bF5, bF5, bF5, bF5, bF5, bF5, bF5, bF5, bF5, bF5, bF5, bF5, bF5, bF5, bF5, bF5, bF5, bF5, bF5, bF5, bF5, bF5, bF5, bF5, bF5, bF5, bF5, bF5, bF5, bF5, bF5, bF5, bF5, bF5, bF5, bF5, bF5, bF5] rfl rfl (any_of HT_.out (by kernel_rfl)) (fun _ _ _ h => h) (Or.inl ⟨by rfl, ?_⟩) ?_ ?_
         rotate_left
         ·intro w'
          go_simp
          with_reducible rfl
         rotate_left
         ·simp only [Act.put, List.setIfInBounds_toArray, List.set_cons_zero, List.set_cons_succ, i64_w, i32_w]
          rfl
         refine take_ (i := 2) (N := some 20) (v := ?_) (a' := ?_) #[bT5, bT5, bT5, bF5, bF5, bF5, bF5, bF5, bF5, bF5, bF5, bF5, bF5, bF5, bF5, bF5, bF5, bF5, bF5, bF5, bF5, bF5, bF5, bF5, bF5, bF5, bF5, bF5, bF5, bF5, bF5, bF5, bF5, bF5, bF5, bF5, bF5, bF5, bF5, bF5, bF5, bF5, bF5, bF5, bF5, bF5, bF5, bF5, bF5, bF5, bF5, bF5, bF5] rfl rfl (take_ofW HT_.out HW_.out (by kernel_rfl)) (fun _ _ _ h => h) (Or.inl ⟨by rfl, ?_⟩) hHeld ?_ ?_
         rotate_left
         ·rintro w' ⟨s0, s1, s2, s3, s4, s5, s6, s7⟩
          go_simp
          with_reducible rfl
         rotate_left
         ·simp only [Act.put, List.setIfInBounds_toArray, List.set_cons_zero, List.set_cons_succ, i64_w, i32_w]
          rfl
         refine take_ (i := 4) (N := some 22) (v := ?_) (a' := ?_) #[bT5, bT5, bT5, bF5, bT5, bF5, bF5, bF5, bF5, bF5, bF5, bF5, bF5, bF5, bF5, bF5, bF5, bF5, bF5, bF5, bF5, bF5, bF5, bF5, bF5, bF5, bF5, bF5, bF5, bF5, bF5, bF5, bF5, bF5, bF5, bF5, bF5, bF5, bF5, bF5, bF5, bF5, bF5, bF5, bF5, bF5, bF5, bF5, bF5, bF5, bF5, bF5, bF5] rfl rfl (take_ofW HT_.out HW_.out (by kernel_rfl)) (fun _ _ _ h => h) (Or.inl ⟨by rfl, ?_⟩) hHeld ?_ ?_
         rotate_left
         ·rintro w' ⟨s0, s1, s2, s3, s4, s5, s6, s7⟩
          go_simp
          with_reducible rfl
         rotate_left
         ·simp only [Act.put, List.setIfInBounds_toArray, List.set_cons_zero, List.set_cons_succ, i64_w, i32_w]
          rfl
         refine one_ (i := 3) (N := some 21) #[bT5, bT5, bT5, bT5, bT5, bF5, bF5, bF5, bF5, bF5, bF5, bF5, bF5, bF5, bF5, bF5, bF5, bF5, bF5, bF5, bF5, bF5, bF5, bF5, bF5, bF5, bF5, bF5, bF5, bF5, bF5, bF5, bF5, bF5, bF5, bF5, bF5, bF5, bF5, bF5, bF5, bF5, bF5, bF5, bF5, bF5, bF5, bF5, bF5, bF5, bF5, bF5, bF5] rfl rfl (one_of HT_.out (by kernel_rfl)) (by decide) (fun K hK => ?_)
         refine goes_ Try.func21 (by kernel_rfl) rfl #[.agg #[.int .i64 t273, .slice Ao43 t274.length co43]] (by rfl) rfl rfl zq5_18 ?_
         with_reducible refine (cenotaphlaw02_From.calls t273 _ _ t274 t284 t285 _ ?side1 ?side2 A9.out).mono ?_
         (case side1 => repeat (first | exact (Kd.R_reads' HO276.out).2.2 | (with_reducible refine Kd.C_alloc ?_ _) | (with_reducible refine Kd.C_drewN ?_ _) | (with_reducible refine Kd.C_drew ?_)))
         (case side2 => exact (Kd.R_reads' HO276.out).2.1)
         rintro e w55 ⟨v286, rfl, ho0, hb⟩
         refine ⟨_, rfl, ?_⟩
         have HO287 := Aside0.mk (Kd.R_lower (Kd.R_new' (Kd.R_new' (Kd.R_new' (Kd.R_new' ho0 (Kd.R_lt zq5_23)) (Kd.R_lt zq5_24)) (Kd.R_lt zq5_25)) (Kd.R_lt zq5_26)) (below_size zq5_7))
         replace HO267 := Aside0.mk (Kd.R_elder' zq5_23 (Kd.R_base ho0) hb)
         replace HO271 := Aside0.mk (Kd.R_elder' zq5_24 (Kd.R_base ho0) hb)
         replace HO276 := Aside0.mk (Kd.R_elder' zq5_25 (Kd.R_base ho0) hb)
         replace HO281 := Aside0.mk (Kd.R_elder' zq5_26 (Kd.R_base ho0) hb)
         replace BK263 := Aside0.mk (blk_below (g := gb263) (o := .cells #[.int .i64 t264, .slice Ao32 t265.length co32] 30 (0, 0)) zq5_19 hb)
         replace BK272 := Aside0.mk (blk_below (g := gb272) (o := .cells #[.int .i64 t268, .slice Ao37 t269.length co37] 24 (0, 0)) zq5_20 hb)
         replace BK277 := Aside0.mk (blk_below (g := gb277) (o := .cells #[.int .i64 t273, .slice Ao43 t274.length co43] 24 (0, 0)) zq5_21 hb)
         replace BK282 := Aside0.mk (blk_below (g := gb282) (o := .cells #[.int .i64 t278, .slice Ao51 t279.length co51] 30 (0, 0)) zq5_22 hb)
         replace HB := Aside0.mk (below_step zq5_7 hb)
         (try clear hb)
         (try clear hb2)
         (try clear hk)
         (try clear hi)
         (try clear ho0)
         obtain ⟨Ao56, co56, eo56⟩ := Kd.R_slice HO287.out
         (first | subst eo56 | (injection eo56 with f1_ f2_ f3_; have f4_ := f1_.symm; have f5_ := f3_.symm; clear f1_ f2_ f3_; subst f4_; subst f5_))
         refine hK.out _ _ ⟨(blk_cell BK277.out 0).trans rfl, (blk_cell BK277.out 1).trans rfl, (blk_cell BK282.out 0).trans rfl, (blk_cell BK282.out 1).trans rfl, (blk_cell BK272.out 0).trans rfl, (blk_cell BK272.out 1).trans rfl, (blk_cell BK263.out 0).trans rfl, (blk_cell BK263.out 1).trans rfl⟩ (fun hHeld => ?_)
         clear hK K
         refine norm_ (a' := ?_) ?_ ?_
         rotate_left
         ·show Act.put _ (some 21) _ = _
          simp only [Act.put, List.setIfInBounds_toArray, List.set_cons_zero, List.set_cons_succ, i64_w, i32_w]
          rfl
         refine one_ (i := 5) (N := some 23) #[bT5, bT5, bT5, bT5, bT5, bT5, bF5, bF5, bF5, bF5, bF5, bF5, bF5, bF5, bF5, bF5, bF5, bF5, bF5, bF5, bF5, bF5, bF5, bF5, bF5, bF5, bF5, bF5, bF5, bF5, bF5, bF5, bF5, bF5, bF5, bF5, bF5, bF5, bF5, bF5, bF5, bF5, bF5, bF5, bF5, bF5, bF5, bF5, bF5, bF5, bF5, bF5, bF5] rfl rfl (one_of HT_.out (by kernel_rfl)) (by decide) (fun K hK => ?_)
         refine goes_ Try.func20 (by kernel_rfl) rfl #[.agg #[.int .i64 t284, .slice Ao56 t285.length co56], .agg #[.int .i64 t278, .slice Ao51 t279.length co51]] (by rfl) rfl rfl zq5_18 ?_
         with_reducible refine (cenotaphref02_Same.calls k t284 _ _ t285 t278 _ _ t279 true _ ?side1 ?side2 ?side3 ?side4 A10.out).mono ?_
         (case side1 => repeat (first | exact (Kd.R_reads' HO287.out).2.2 | (with_reducible refine Kd.C_alloc ?_ _) | (with_reducible refine Kd.C_drewN ?_ _) | (with_reducible refine Kd.C_drew ?_)))
         (case side2 => exact (Kd.R_reads' HO287.out).2.1)
         (case side3 => repeat (first | exact (Kd.R_reads' HO281.out).2.2 | (with_reducible refine Kd.C_alloc ?_ _) | (with_reducible refine Kd.C_drewN ?_ _) | (with_reducible refine Kd.C_drew ?_)))
         (case side4 => exact (Kd.R_reads' HO281.out).2.1)
         rintro e w57 ⟨rfl, hb⟩
         refine ⟨_, rfl, ?_⟩
         replace HO267 := Aside0.mk (Kd.R_below zq5_23 hb)
         replace HO271 := Aside0.mk (Kd.R_below zq5_24 hb)
         replace HO276 := Aside0.mk (Kd.R_below zq5_25 hb)
         replace HO281 := Aside0.mk (Kd.R_below zq5_26 hb)
         replace HO287 := Aside0.mk (Kd.R_below zq5_27 hb)
         replace BK263 := Aside0.mk (blk_below (g := gb263) (o := .cells #[.int .i64 t264, .slice Ao32 t265.length co32] 30 (0, 0)) zq5_19 hb)
         replace BK272 := Aside0.mk (blk_below (g := gb272) (o := .cells #[.int .i64 t268, .slice Ao37 t269.length co37] 24 (0, 0)) zq5_20 hb)
         replace BK277 := Aside0.mk (blk_below (g := gb277) (o := .cells #[.int .i64 t273, .slice Ao43 t274.length co43] 24 (0, 0)) zq5_21 hb)
         replace BK282 := Aside0.mk (blk_below (g := gb282) (o := .cells #[.int .i64 t278, .slice Ao51 t279.length co51] 30 (0, 0)) zq5_22 hb)
         replace HB := Aside0.mk (below_step zq5_7 hb)
         (try clear hb)
         (try clear hb2)
         (try clear hk)
         (try clear hi)
         refine hK.out _ _ ⟨(blk_cell BK277.out 0).trans rfl, (blk_cell BK277.out 1).trans rfl, (blk_cell BK282.out 0).trans rfl, (blk_cell BK282.out 1).trans rfl, (blk_cell BK272.out 0).trans rfl, (blk_cell BK272.out 1).trans rfl, (blk_cell BK263.out 0).trans rfl, (blk_cell BK263.out 1).trans rfl⟩ (fun hHeld => ?_)
         clear hK K
         refine norm_ (a' := ?_) ?_ ?_
         rotate_left
         ·show Act.put _ (some 23) _ = _
          simp only [Act.put, List.setIfInBounds_toArray, List.set_cons_zero, List.set_cons_succ, i64_w, i32_w]
          rfl
         refine pure_ (i := 6) (N := some 24) (v := ?_) (a' := ?_) #[bT5, bT5, bT5, bT5, bT5, bT5, bT5, bF5, bF5, bF5, bF5, bF5, bF5, bF5, bF5, bF5, bF5, bF5, bF5, bF5, bF5, bF5, bF5, bF5, bF5, bF5, bF5, bF5, bF5, bF5, bF5, bF5, bF5, bF5, bF5, bF5, bF5, bF5, bF5, bF5, bF5, bF5, bF5, bF5, bF5, bF5, bF5, bF5, bF5, bF5, bF5, bF5, bF5] rfl rfl (any_of HT_.out (by kernel_rfl)) (fun _ _ _ h => h) (Or.inl ⟨by rfl, ?_⟩) ?_ ?_
         rotate_left
         ·intro w'
          go_simp
          with_reducible rfl
         rotate_left
         ·simp only [Act.put, List.setIfInBounds_toArray, List.set_cons_zero, List.set_cons_succ, i64_w, i32_w]
          rfl
         refine pure_ (i := 7) (N := some 25) (v := ?_) (a' := ?_) #[bT5, bT5, bT5, bT5, bT5, bT5, bT5, bT5, bF5, bF5, bF5, bF5, bF5, bF5, bF5, bF5, bF5, bF5, bF5, bF5, bF5, bF5, bF5, bF5, bF5, bF5, bF5, bF5, bF5, bF5, bF5, bF5, bF5, bF5, bF5, bF5, bF5, bF5, bF5, bF5, bF5, bF5, bF5, bF5, bF5, bF5, bF5, bF5, bF5, bF5, bF5, bF5, bF5] rfl rfl (any_of HT_.out (by kernel_rfl)) (fun _ _ _ h => h) (Or.inl ⟨by rfl, ?_⟩) ?_ ?_
         rotate_left
         ·intro w'
          go_simp
          with_reducible rfl
         rotate_left
         ·simp only [Act.put, List.setIfInBounds_toArray, List.set_cons_zero, List.set_cons_succ, i64_w, i32_w]
          rfl
         refine take_ (i := 8) (N := some 26) (v := ?_) (a' := ?_) #[bT5, bT5, bT5, bT5, bT5, bT5, bT5, bT5, bT5, bF5, bF5, bF5, bF5, bF5, bF5, bF5, bF5, bF5, bF5, bF5, bF5, bF5, bF5, bF5, bF5, bF5, bF5, bF5, bF5, bF5, bF5, bF5, bF5, bF5, bF5, bF5, bF5, bF5, bF5, bF5, bF5, bF5, bF5, bF5, bF5, bF5, bF5, bF5, bF5, bF5, bF5, bF5, bF5] rfl rfl (take_ofW HT_.out HW_.out (by kernel_rfl)) (fun _ _ _ h => h) (Or.inl ⟨by rfl, ?_⟩) hHeld ?_ ?_
         rotate_left
         ·rintro w' ⟨s0, s1, s2, s3, s4, s5, s6, s7⟩
          go_simp
          with_reducible rfl
         rotate_left
         ·simp only [Act.put, List.setIfInBounds_toArray, List.set_cons_zero, List.set_cons_succ, i64_w, i32_w]
          rfl
         refine one_ (i := 9) (N := some 27) #[bT5, bT5, bT5, bT5, bT5, bT5, bT5, bT5, bT5, bT5, bF5, bF5, bF5, bF5, bF5, bF5, bF5, bF5, bF5, bF5, bF5, bF5, bF5, bF5, bF5, bF5, bF5, bF5, bF5, bF5, bF5, bF5, bF5, bF5, bF5, bF5, bF5, bF5, bF5, bF5, bF5, bF5, bF5, bF5, bF5, bF5, bF5, bF5, bF5, bF5, bF5, bF5, bF5] rfl rfl (one_of HT_.out (by kernel_rfl)) (by decide) (fun K hK => ?_)
         refine goes_ Try.func14 (by kernel_rfl) rfl #[.agg #[.int .i64 t273, .slice Ao43 t274.length co43]] (by rfl) rfl rfl zq5_18 ?_
         with_reducible refine (span_Right.calls k t273 _ _ t274 true _ ?side1 ?side2 A12.out).mono ?_
         (case side1 => repeat (first | exact (Kd.R_reads' HO276.out).2.2 | (with_reducible refine Kd.C_alloc ?_ _) | (with_reducible refine Kd.C_drewN ?_ _) | (with_reducible refine Kd.C_drew ?_)))
         (case side2 => exact (Kd.R_reads' HO276.out).2.1)
         rintro e w58 ⟨rfl, hb⟩
         refine ⟨_, rfl, ?_⟩
         replace HO267 := Aside0.mk (Kd.R_below zq5_23 hb)
         replace HO271 := Aside0.mk (Kd.R_below zq5_24 hb)
         replace HO276 := Aside0.mk (Kd.R_below zq5_25 hb)
         replace HO281 := Aside0.mk (Kd.R_below zq5_26 hb)
         replace HO287 := Aside0.mk (Kd.R_below zq5_27 hb)
         replace BK263 := Aside0.mk (blk_below (g := gb263) (o := .cells #[.int .i64 t264, .slice Ao32 t265.length co32] 30 (0, 0)) zq5_19 hb)
         replace BK272 := Aside0.mk (blk_below (g := gb272) (o := .cells #[.int .i64 t268, .slice Ao37 t269.length co37] 24 (0, 0)) zq5_20 hb)
         replace BK277 := Aside0.mk (blk_below (g := gb277) (o := .cells #[.int .i64 t273, .slice Ao43 t274.length co43] 24 (0, 0)) zq5_21 hb)
         replace BK282 := Aside0.mk (blk_below (g := gb282) (o := .cells #[.int .i64 t278, .slice Ao51 t279.length co51] 30 (0, 0)) zq5_22 hb)
         replace HB := Aside0.mk (below_step zq5_7 hb)
         (try clear hb)
         (try clear hb2)
         (try clear hk)
         (try clear hi)
         refine hK.out _ _ ⟨(blk_cell BK277.out 0).trans rfl, (blk_cell BK277.out 1).trans rfl, (blk_cell BK282.out 0).trans rfl, (blk_cell BK282.out 1).trans rfl, (blk_cell BK272.out 0).trans rfl, (blk_cell BK272.out 1).trans rfl, (blk_cell BK263.out 0).trans rfl, (blk_cell BK263.out 1).trans rfl⟩ (fun hHeld => ?_)
         clear hK K
         refine norm_ (a' := ?_) ?_ ?_
         rotate_left
         ·show Act.put _ (some 27) _ = _
          simp only [Act.put, List.setIfInBounds_toArray, List.set_cons_zero, List.set_cons_succ, i64_w, i32_w]
          rfl
         refine pure_ (i := 10) (N := some 28) (v := ?_) (a' := ?_) #[bT5, bT5, bT5, bT5, bT5, bT5, bT5, bT5, bT5, bT5, bT5, bF5, bF5, bF5, bF5, bF5, bF5, bF5, bF5, bF5, bF5, bF5, bF5, bF5, bF5, bF5, bF5, bF5, bF5, bF5, bF5, bF5, bF5, bF5, bF5, bF5, bF5, bF5, bF5, bF5, bF5, bF5, bF5, bF5, bF5, bF5, bF5, bF5, bF5, bF5, bF5, bF5, bF5] rfl rfl (any_of HT_.out (by kernel_rfl)) (fun _ _ _ h => h) (Or.inl ⟨by rfl, ?_⟩) ?_ ?_
         rotate_left
         ·intro w'
          go_simp
          with_reducible rfl
         rotate_left
         ·simp only [Act.put, List.setIfInBounds_toArray, List.set_cons_zero, List.set_cons_succ, i64_w, i32_w]
          rfl
         refine pure_ (i := 11) (N := some 29) (v := ?_) (a' := ?_) #[bT5, bT5, bT5, bT5, bT5, bT5, bT5, bT5, bT5, bT5, bT5, bT5, bF5, bF5, bF5, bF5, bF5, bF5, bF5, bF5, bF5, bF5, bF5, bF5, bF5, bF5, bF5, bF5, bF5, bF5, bF5, bF5, bF5, bF5, bF5, bF5, bF5, bF5, bF5, bF5, bF5, bF5, bF5, bF5, bF5, bF5, bF5, bF5, bF5, bF5, bF5, bF5, bF5] rfl rfl (any_of HT_.out (by kernel_rfl)) (fun _ _ _ h => h) (Or.inl ⟨by rfl, ?_⟩) ?_ ?_
         rotate_left
         ·intro w'
          go_simp
          with_reducible rfl
         rotate_left
         ·simp only [Act.put, List.setIfInBounds_toArray, List.set_cons_zero, List.set_cons_succ, i64_w, i32_w]
          rfl
         refine pure_ (i := 13) (N := some 31) (v := ?_) (a' := ?_) #[bT5, bT5, bT5, bT5, bT5, bT5, bT5, bT5, bT5, bT5, bT5, bT5, bF5, bT5, bF5, bF5, bF5, bF5, bF5, bF5, bF5, bF5, bF5, bF5, bF5, bF5, bF5, bF5, bF5, bF5, bF5, bF5, bF5, bF5, bF5, bF5, bF5, bF5, bF5, bF5, bF5, bF5, bF5, bF5, bF5, bF5, bF5, bF5, bF5, bF5, bF5, bF5, bF5] rfl rfl (any_of HT_.out (by kernel_rfl)) (fun _ _ _ h => h) (Or.inl ⟨by rfl, ?_⟩) ?_ ?_
         rotate_left
         ·intro w'
          go_simp
          with_reducible rfl
         rotate_left
         ·simp only [Act.put, List.setIfInBounds_toArray, List.set_cons_zero, List.set_cons_succ, i64_w, i32_w]
          rfl
         refine pure_ (i := 16) (N := some 34) (v := ?_) (a' := ?_) #[bT5, bT5, bT5, bT5, bT5, bT5, bT5, bT5, bT5, bT5, bT5, bT5, bF5, bT5, bF5, bF5, bT5, bF5, bF5, bF5, bF5, bF5, bF5, bF5, bF5, bF5, bF5, bF5, bF5, bF5, bF5, bF5, bF5, bF5, bF5, bF5, bF5, bF5, bF5, bF5, bF5, bF5, bF5, bF5, bF5, bF5, bF5, bF5, bF5, bF5, bF5, bF5, bF5] rfl rfl (any_of HT_.out (by kernel_rfl)) (fun _ _ _ h => h) (Or.inl ⟨by rfl, ?_⟩) ?_ ?_
         rotate_left
         ·intro w'
          go_simp
          with_reducible rfl
         rotate_left
         ·simp only [Act.put, List.setIfInBounds_toArray, List.set_cons_zero, List.set_cons_succ, i64_w, i32_w]
          rfl
         refine take_ (i := 12) (N := some 30) (v := ?_) (a' := ?_) #[bT5, bT5, bT5, bT5, bT5, bT5, bT5, bT5, bT5, bT5, bT5, bT5, bT5, bT5, bF5, bF5, bT5, bF5, bF5, bF5, bF5, bF5, bF5, bF5, bF5, bF5, bF5, bF5, bF5, bF5, bF5, bF5, bF5, bF5, bF5, bF5, bF5, bF5, bF5, bF5, bF5, bF5, bF5, bF5, bF5, bF5, bF5, bF5, bF5, bF5, bF5, bF5, bF5] rfl rfl (take_ofW HT_.out HW_.out (by kernel_rfl)) (fun _ _ _ h => h) (Or.inl ⟨by rfl, ?_⟩) hHeld ?_ ?_
         rotate_left
         ·rintro w' ⟨s0, s1, s2, s3, s4, s5, s6, s7⟩
          go_simp
          with_reducible rfl
         rotate_left
         ·simp only [Act.put, List.setIfInBounds_toArray, List.set_cons_zero, List.set_cons_succ, i64_w, i32_w]
          rfl
         refine take_ (i := 15) (N := some 33) (v := ?_) (a' := ?_) #[bT5, bT5, bT5, bT5, bT5, bT5, bT5, bT5, bT5, bT5, bT5, bT5, bT5, bT5, bF5, bT5, bT5, bF5, bF5, bF5, bF5, bF5, bF5, bF5, bF5, bF5, bF5, bF5, bF5, bF5, bF5, bF5, bF5, bF5, bF5, bF5, bF5, bF5, bF5, bF5, bF5, bF5, bF5, bF5, bF5, bF5, bF5, bF5, bF5, bF5, bF5, bF5, bF5] rfl rfl (take_ofW HT_.out HW_.out (by kernel_rfl)) (fun _ _ _ h => h) (Or.inl ⟨by rfl, ?_⟩) hHeld ?_ ?_
         rotate_left
         ·rintro w' ⟨s0, s1, s2, s3, s4, s5, s6, s7⟩
          go_simp
          with_reducible rfl
         rotate_left
         ·simp only [Act.put, List.setIfInBounds_toArray, List.set_cons_zero, List.set_cons_succ, i64_w, i32_w]
          rfl
         refine one_ (i := 14) (N := some 32) #[bT5, bT5, bT5, bT5, bT5, bT5, bT5, bT5, bT5, bT5, bT5, bT5, bT5, bT5, bT5, bT5, bT5, bF5, bF5, bF5, bF5, bF5, bF5, bF5, bF5, bF5, bF5, bF5, bF5, bF5, bF5, bF5, bF5, bF5, bF5, bF5, bF5, bF5, bF5, bF5, bF5, bF5, bF5, bF5, bF5, bF5, bF5, bF5, bF5, bF5, bF5, bF5, bF5] rfl rfl (one_of HT_.out (by kernel_rfl)) (by decide) (fun K hK => ?_)
         refine goes_ Try.func13 (by kernel_rfl) rfl #[.agg #[.int .i64 t268, .slice Ao37 t269.length co37], .int .i64 a1] (by rfl) rfl rfl zq5_18 ?_
         with_reducible refine (span_Has.calls k t268 _ _ t269 a1 t290 _ ?side1 ?side2 A14.out).mono ?_
         (case side1 => repeat (first | exact (Kd.R_reads' HO271.out).2.2 | (with_reducible refine Kd.C_alloc ?_ _) | (with_reducible refine Kd.C_drewN ?_ _) | (with_reducible refine Kd.C_drew ?_)))
         (case side2 => exact (Kd.R_reads' HO271.out).2.1)
         rintro e w59 ⟨rfl, hb⟩
         refine ⟨_, rfl, ?_⟩
         replace HO267 := Aside0.mk (Kd.R_below zq5_23 hb)
         replace HO271 := Aside0.mk (Kd.R_below zq5_24 hb)
         replace HO276 := Aside0.mk (Kd.R_below zq5_25 hb)
         replace HO281 := Aside0.mk (Kd.R_below zq5_26 hb)
         replace HO287 := Aside0.mk (Kd.R_below zq5_27 hb)
         replace BK263 := Aside0.mk (blk_below (g := gb263) (o := .cells #[.int .i64 t264, .slice Ao32 t265.length co32] 30 (0, 0)) zq5_19 hb)
         replace BK272 := Aside0.mk (blk_below (g := gb272) (o := .cells #[.int .i64 t268, .slice Ao37 t269.length co37] 24 (0, 0)) zq5_20 hb)
         replace BK277 := Aside0.mk (blk_below (g := gb277) (o := .cells #[.int .i64 t273, .slice Ao43 t274.length co43] 24 (0, 0)) zq5_21 hb)
         replace BK282 := Aside0.mk (blk_below (g := gb282) (o := .cells #[.int .i64 t278, .slice Ao51 t279.length co51] 30 (0, 0)) zq5_22 hb)
         replace HB := Aside0.mk (below_step zq5_7 hb)
         (try clear hb)
         (try clear hb2)
         (try clear hk)
         (try clear hi)
         refine hK.out _ _ ⟨(blk_cell BK277.out 0).trans rfl, (blk_cell BK277.out 1).trans rfl, (blk_cell BK282.out 0).trans rfl, (blk_cell BK282.out 1).trans rfl, (blk_cell BK272.out 0).trans rfl, (blk_cell BK272.out 1).trans rfl, (blk_cell BK263.out 0).trans rfl, (blk_cell BK263.out 1).trans rfl⟩ (fun hHeld => ?_)
         clear hK K
         refine norm_ (a' := ?_) ?_ ?_
         rotate_left
         ·show Act.put _ (some 32) _ = _
          simp only [Act.put, List.setIfInBounds_toArray, List.set_cons_zero, List.set_cons_succ, i64_w, i32_w]
          rfl
         refine one_ (i := 17) (N := some 35) #[bT5, bT5, bT5, bT5, bT5, bT5, bT5, bT5, bT5, bT5, bT5, bT5, bT5, bT5, bT5, bT5, bT5, bT5, bF5, bF5, bF5, bF5, bF5, bF5, bF5, bF5, bF5, bF5, bF5, bF5, bF5, bF5, bF5, bF5, bF5, bF5, bF5, bF5, bF5, bF5, bF5, bF5, bF5, bF5, bF5, bF5, bF5, bF5, bF5, bF5, bF5, bF5, bF5] rfl rfl (one_of HT_.out (by kernel_rfl)) (by decide) (fun K hK => ?_)
         refine goes_ Try.func22 (by kernel_rfl) rfl #[.agg #[.int .i64 t264, .slice Ao32 t265.length co32], .int .i64 a1] (by rfl) rfl rfl zq5_18 ?_
         with_reducible refine (cenotaphref02_Has.calls k t264 _ _ t265 a1 t291 _ ?side1 ?side2 A15.out).mono ?_
         (case side1 => repeat (first | exact (Kd.R_reads' HO267.out).2.2 | (with_reducible refine Kd.C_alloc ?_ _) | (with_reducible refine Kd.C_drewN ?_ _) | (with_reducible refine Kd.C_drew ?_)))
         (case side2 => exact (Kd.R_reads' HO267.out).2.1)
         rintro e w60 ⟨rfl, hb⟩
         refine ⟨_, rfl, ?_⟩
         replace HO267 := Aside0.mk (Kd.R_below zq5_23 hb)
         replace HO271 := Aside0.mk (Kd.R_below zq5_24 hb)
         replace HO276 := Aside0.mk (Kd.R_below zq5_25 hb)
         replace HO281 := Aside0.mk (Kd.R_below zq5_26 hb)
         replace HO287 := Aside0.mk (Kd.R_below zq5_27 hb)
         replace BK263 := Aside0.mk (blk_below (g := gb263) (o := .cells #[.int .i64 t264, .slice Ao32 t265.length co32] 30 (0, 0)) zq5_19 hb)
         replace BK272 := Aside0.mk (blk_below (g := gb272) (o := .cells #[.int .i64 t268, .slice Ao37 t269.length co37] 24 (0, 0)) zq5_20 hb)
         replace BK277 := Aside0.mk (blk_below (g := gb277) (o := .cells #[.int .i64 t273, .slice Ao43 t274.length co43] 24 (0, 0)) zq5_21 hb)
         replace BK282 := Aside0.mk (blk_below (g := gb282) (o := .cells #[.int .i64 t278, .slice Ao51 t279.length co51] 30 (0, 0)) zq5_22 hb)
         replace HB := Aside0.mk (below_step zq5_7 hb)
         (try clear hb)
         (try clear hb2)
         (try clear hk)
         (try clear hi)
         refine hK.out _ _ ⟨(blk_cell BK277.out 0).trans rfl, (blk_cell BK277.out 1).trans rfl, (blk_cell BK282.out 0).trans rfl, (blk_cell BK282.out 1).trans rfl, (blk_cell BK272.out 0).trans rfl, (blk_cell BK272.out 1).trans rfl, (blk_cell BK263.out 0).trans rfl, (blk_cell BK263.out 1).trans rfl⟩ (fun hHeld => ?_)
         clear hK K
         refine norm_ (a' := ?_) ?_ ?_
         rotate_left
         ·show Act.put _ (some 35) _ = _
          simp only [Act.put, List.setIfInBounds_toArray, List.set_cons_zero, List.set_cons_succ, i64_w, i32_w]
          rfl
         refine pure_ (i := 18) (N := some 36) (v := ?_) (a' := ?_) #[bT5, bT5, bT5, bT5, bT5, bT5, bT5, bT5, bT5, bT5, bT5, bT5, bT5, bT5, bT5, bT5, bT5, bT5, bT5, bF5, bF5, bF5, bF5, bF5, bF5, bF5, bF5, bF5, bF5, bF5, bF5, bF5, bF5, bF5, bF5, bF5, bF5, bF5, bF5, bF5, bF5, bF5, bF5, bF5, bF5, bF5, bF5, bF5, bF5, bF5, bF5, bF5, bF5] rfl rfl (any_of HT_.out (by kernel_rfl)) (fun _ _ _ h => h) (Or.inl ⟨by rfl, ?_⟩) ?_ ?_
         rotate_left
         ·intro w'
          go_simp
          with_reducible rfl
         rotate_left
         ·simp only [Act.put, List.setIfInBounds_toArray, List.set_cons_zero, List.set_cons_succ, i64_w, i32_w]
          rfl
         refine pure_ (i := 19) (N := some 37) (v := ?_) (a' := ?_) #[bT5, bT5, bT5, bT5, bT5, bT5, bT5, bT5, bT5, bT5, bT5, bT5, bT5, bT5, bT5, bT5, bT5, bT5, bT5, bT5, bF5, bF5, bF5, bF5, bF5, bF5, bF5, bF5, bF5, bF5, bF5, bF5, bF5, bF5, bF5, bF5, bF5, bF5, bF5, bF5, bF5, bF5, bF5, bF5, bF5, bF5, bF5, bF5, bF5, bF5, bF5, bF5, bF5] rfl rfl (any_of HT_.out (by kernel_rfl)) (fun _ _ _ h => h) (Or.inl ⟨by rfl, ?_⟩) ?_ ?_
         rotate_left
         ·intro w'
          go_simp
          with_reducible rfl
         rotate_left
         ·simp only [Act.put, List.setIfInBounds_toArray, List.set_cons_zero, List.set_cons_succ, i64_w, i32_w]
          rfl
         refine pure_ (i := 20) (N := some 38) (v := ?_) (a' := ?_) #[bT5, bT5, bT5, bT5, bT5, bT5, bT5, bT5, bT5, bT5, bT5, bT5, bT5, bT5, bT5, bT5, bT5, bT5, bT5, bT5, bT5, bF5, bF5, bF5, bF5, bF5, bF5, bF5, bF5, bF5, bF5, bF5, bF5, bF5, bF5, bF5, bF5, bF5, bF5, bF5, bF5, bF5, bF5, bF5, bF5, bF5, bF5, bF5, bF5, bF5, bF5, bF5, bF5] rfl rfl (any_of HT_.out (by kernel_rfl)) (fun _ _ _ h => h) (Or.inl ⟨by rfl, ?_⟩) ?_ ?_
         rotate_left
         ·intro w'
          go_simp
          with_reducible rfl
         rotate_left
         ·simp only [Act.put, List.setIfInBounds_toArray, List.set_cons_zero, List.set_cons_succ, i64_w, i32_w]
          rfl
         refine pure_ (i := 22) (N := some 40) (v := ?_) (a' := ?_) #[bT5, bT5, bT5, bT5, bT5, bT5, bT5, bT5, bT5, bT5, bT5, bT5, bT5, bT5, bT5, bT5, bT5, bT5, bT5, bT5, bT5, bF5, bT5, bF5, bF5, bF5, bF5, bF5, bF5, bF5, bF5, bF5, bF5, bF5, bF5, bF5, bF5, bF5, bF5, bF5, bF5, bF5, bF5, bF5, bF5, bF5, bF5, bF5, bF5, bF5, bF5, bF5, bF5] rfl rfl (any_of HT_.out (by kernel_rfl)) (fun _ _ _ h => h) (Or.inl ⟨by rfl, ?_⟩) ?_ ?_
         rotate_left
         ·intro w'
          go_simp
          with_reducible rfl
         rotate_left
         ·simp only [Act.put, List.setIfInBounds_toArray, List.set_cons_zero, List.set_cons_succ, i64_w, i32_w]
          rfl
         refine pure_ (i := 24) (N := some 42) (v := ?_) (a' := ?_) #[bT5, bT5, bT5, bT5, bT5, bT5, bT5, bT5, bT5, bT5, bT5, bT5, bT5, bT5, bT5, bT5, bT5, bT5, bT5, bT5, bT5, bF5, bT5, bF5, bT5, bF5, bF5, bF5, bF5, bF5, bF5, bF5, bF5, bF5, bF5, bF5, bF5, bF5, bF5, bF5, bF5, bF5, bF5, bF5, bF5, bF5, bF5, bF5, bF5, bF5, bF5, bF5, bF5] rfl rfl (any_of HT_.out (by kernel_rfl)) (fun _ _ _ h => h) (Or.inl ⟨by rfl, ?_⟩) ?_ ?_
         rotate_left
         ·intro w'
          go_simp
          with_reducible rfl
         rotate_left
         ·simp only [Act.put, List.setIfInBounds_toArray, List.set_cons_zero, List.set_cons_succ, i64_w, i32_w]
          rfl
         refine pure_ (i := 25) (N := some 43) (v := ?_) (a' := ?_) #[bT5, bT5, bT5, bT5, bT5, bT5, bT5, bT5, bT5, bT5, bT5, bT5, bT5, bT5, bT5, bT5, bT5, bT5, bT5, bT5, bT5, bF5, bT5, bF5, bT5, bT5, bF5, bF5, bF5, bF5, bF5, bF5, bF5, bF5, bF5, bF5, bF5, bF5, bF5, bF5, bF5, bF5, bF5, bF5, bF5, bF5, bF5, bF5, bF5, bF5, bF5, bF5, bF5] rfl rfl (any_of HT_.out (by kernel_rfl)) (fun _ _ _ h => h) (Or.inl ⟨by rfl, ?_⟩) ?_ ?_
         rotate_left
         ·intro w'
          go_simp
          with_reducible rfl
         rotate_left
         ·simp only [Act.put, List.setIfInBounds_toArray, List.set_cons_zero, List.set_cons_succ, i64_w, i32_w]
          rfl
         refine take_ (i := 21) (N := some 39) (v := ?_) (a' := ?_) #[bT5, bT5, bT5, bT5, bT5, bT5, bT5, bT5, bT5, bT5, bT5, bT5, bT5, bT5, bT5, bT5, bT5, bT5, bT5, bT5, bT5, bT5, bT5, bF5, bT5, bT5, bF5, bF5, bF5, bF5, bF5, bF5, bF5, bF5, bF5, bF5, bF5, bF5, bF5, bF5, bF5, bF5, bF5, bF5, bF5, bF5, bF5, bF5, bF5, bF5, bF5, bF5, bF5] rfl rfl (take_ofW HT_.out HW_.out (by kernel_rfl)) (fun _ _ _ h => h) (Or.inl ⟨by rfl, ?_⟩) hHeld ?_ ?_
         rotate_left
         ·rintro w' ⟨s0, s1, s2, s3, s4, s5, s6, s7⟩
          go_simp
          with_reducible rfl
         rotate_left
         ·simp only [Act.put, List.setIfInBounds_toArray, List.set_cons_zero, List.set_cons_succ, i64_w, i32_w]
          rfl
         refine one_ (i := 23) (N := some 41) #[bT5, bT5, bT5, bT5, bT5, bT5, bT5, bT5, bT5, bT5, bT5, bT5, bT5, bT5, bT5, bT5, bT5, bT5, bT5, bT5, bT5, bT5, bT5, bT5, bT5, bT5, bF5, bF5, bF5, bF5, bF5, bF5, bF5, bF5, bF5, bF5, bF5, bF5, bF5, bF5, bF5, bF5, bF5, bF5, bF5, bF5, bF5, bF5, bF5, bF5, bF5, bF5, bF5] rfl rfl (one_of HT_.out (by kernel_rfl)) (by decide) (fun K hK => ?_)
         refine goes_ Try.func13 (by kernel_rfl) rfl #[.agg #[.int .i64 t273, .slice Ao43 t274.length co43], .int .i64 a1] (by rfl) rfl rfl zq5_18 ?_
         with_reducible refine (span_Has.calls k t273 _ _ t274 a1 t292 _ ?side1 ?side2 A17.out).mono ?_
         (case side1 => repeat (first | exact (Kd.R_reads' HO276.out).2.2 | (with_reducible refine Kd.C_alloc ?_ _) | (with_reducible refine Kd.C_drewN ?_ _) | (with_reducible refine Kd.C_drew ?_)))
         (case side2 => exact (Kd.R_reads' HO276.out).2.1)
         rintro e w61 ⟨rfl, hb⟩
         refine ⟨_, rfl, ?_⟩
         replace HO267 := Aside0.mk (Kd.R_below zq5_23 hb)
         replace HO271 := Aside0.mk (Kd.R_below zq5_24 hb)
         replace HO276 := Aside0.mk (Kd.R_below zq5_25 hb)
         replace HO281 := Aside0.mk (Kd.R_below zq5_26 hb)
         replace HO287 := Aside0.mk (Kd.R_below zq5_27 hb)
         replace BK263 := Aside0.mk (blk_below (g := gb263) (o := .cells #[.int .i64 t264, .slice Ao32 t265.length co32] 30 (0, 0)) zq5_19 hb)
         replace BK272 := Aside0.mk (blk_below (g := gb272) (o := .cells #[.int .i64 t268, .slice Ao37 t269.length co37] 24 (0, 0)) zq5_20 hb)
         replace BK277 := Aside0.mk (blk_below (g := gb277) (o := .cells #[.int .i64 t273, .slice Ao43 t274.length co43] 24 (0, 0)) zq5_21 hb)
         replace BK282 := Aside0.mk (blk_below (g := gb282) (o := .cells #[.int .i64 t278, .slice Ao51 t279.length co51] 30 (0, 0)) zq5_22 hb)
         replace HB := Aside0.mk (below_step zq5_7 hb)
         (try clear hb)
         (try clear hb2)
         (try clear hk)
         (try clear hi)
         refine hK.out _ _ ⟨(blk_cell BK277.out 0).trans rfl, (blk_cell BK277.out 1).trans rfl, (blk_cell BK282.out 0).trans rfl, (blk_cell BK282.out 1).trans rfl, (blk_cell BK272.out 0).trans rfl, (blk_cell BK272.out 1).trans rfl, (blk_cell BK263.out 0).trans rfl, (blk_cell BK263.out 1).trans rfl⟩ (fun hHeld => ?_)
         clear hK K
         refine norm_ (a' := ?_) ?_ ?_
         rotate_left
         ·show Act.put _ (some 41) _ = _
          simp only [Act.put, List.setIfInBounds_toArray, List.set_cons_zero, List.set_cons_succ, i64_w, i32_w]
          rfl
         refine pure_ (i := 26) (N := some 44) (v := ?_) (a' := ?_) #[bT5, bT5, bT5, bT5, bT5, bT5, bT5, bT5, bT5, bT5, bT5, bT5, bT5, bT5, bT5, bT5, bT5, bT5, bT5, bT5, bT5, bT5, bT5, bT5, bT5, bT5, bT5, bF5, bF5, bF5, bF5, bF5, bF5, bF5, bF5, bF5, bF5, bF5, bF5, bF5, bF5, bF5, bF5, bF5, bF5, bF5, bF5, bF5, bF5, bF5, bF5, bF5, bF5] rfl rfl (any_of HT_.out (by kernel_rfl)) (fun _ _ _ h => h) (Or.inl ⟨by rfl, ?_⟩) ?_ ?_
         rotate_left
         ·intro w'
          go_simp
          with_reducible rfl
         rotate_left
         ·simp only [Act.put, List.setIfInBounds_toArray, List.set_cons_zero, List.set_cons_succ, i64_w, i32_w]
          rfl
         refine pure_ (i := 27) (N := some 45) (v := ?_) (a' := ?_) #[bT5, bT5, bT5, bT5, bT5, bT5, bT5, bT5, bT5, bT5, bT5, bT5, bT5, bT5, bT5, bT5, bT5, bT5, bT5, bT5, bT5, bT5, bT5, bT5, bT5, bT5, bT5, bT5, bF5, bF5, bF5, bF5, bF5, bF5, bF5, bF5, bF5, bF5, bF5, bF5, bF5, bF5, bF5, bF5, bF5, bF5, bF5, bF5, bF5, bF5, bF5, bF5, bF5] rfl rfl (any_of HT_.out (by kernel_rfl)) (fun _ _ _ h => h) (Or.inl ⟨by rfl, ?_⟩) ?_ ?_
         rotate_left
         ·intro w'
          go_simp
          with_reducible rfl
         rotate_left
         ·simp only [Act.put, List.setIfInBounds_toArray, List.set_cons_zero, List.set_cons_succ, i64_w, i32_w]
          rfl
         refine pure_ (i := 28) (N := some 46) (v := ?_) (a' := ?_) #[bT5, bT5, bT5, bT5, bT5, bT5, bT5, bT5, bT5, bT5, bT5, bT5, bT5, bT5, bT5, bT5, bT5, bT5, bT5, bT5, bT5, bT5, bT5, bT5, bT5, bT5, bT5, bT5, bT5, bF5, bF5, bF5, bF5, bF5, bF5, bF5, bF5, bF5, bF5, bF5, bF5, bF5, bF5, bF5, bF5, bF5, bF5, bF5, bF5, bF5, bF5, bF5, bF5] rfl rfl (any_of HT_.out (by kernel_rfl)) (fun _ _ _ h => h) (Or.inl ⟨by rfl, ?_⟩) ?_ ?_
         rotate_left
         ·intro w'
          go_simp
          with_reducible rfl
         rotate_left
         ·simp only [Act.put, List.setIfInBounds_toArray, List.set_cons_zero, List.set_cons_succ, i64_w, i32_w]
          rfl
         refine pure_ (i := 29) (N := some 47) (v := ?_) (a' := ?_) #[bT5, bT5, bT5, bT5, bT5, bT5, bT5, bT5, bT5, bT5, bT5, bT5, bT5, bT5, bT5, bT5, bT5, bT5, bT5, bT5, bT5, bT5, bT5, bT5, bT5, bT5, bT5, bT5, bT5, bT5, bF5, bF5, bF5, bF5, bF5, bF5, bF5, bF5, bF5, bF5, bF5, bF5, bF5, bF5, bF5, bF5, bF5, bF5, bF5, bF5, bF5, bF5, bF5] rfl rfl (any_of HT_.out (by kernel_rfl)) (fun _ _ _ h => h) (Or.inl ⟨by rfl, ?_⟩) ?_ ?_
         rotate_left
         ·intro w'
          go_simp
          with_reducible rfl
         rotate_left
         ·simp only [Act.put, List.setIfInBounds_toArray, List.set_cons_zero, List.set_cons_succ, i64_w, i32_w]
          rfl
         refine pure_ (i := 30) (N := some 48) (v := ?_) (a' := ?_) #[bT5, bT5, bT5, bT5, bT5, bT5, bT5, bT5, bT5, bT5, bT5, bT5, bT5, bT5, bT5, bT5, bT5, bT5, bT5, bT5, bT5, bT5, bT5, bT5, bT5, bT5, bT5, bT5, bT5, bT5, bT5, bF5, bF5, bF5, bF5, bF5, bF5, bF5, bF5, bF5, bF5, bF5, bF5, bF5, bF5, bF5, bF5, bF5, bF5, bF5, bF5, bF5, bF5] rfl rfl (any_of HT_.out (by kernel_rfl)) (fun _ _ _ h => h) (Or.inl ⟨by rfl, ?_⟩) ?_ ?_
         rotate_left
         ·intro w'
          go_simp
          with_reducible rfl
         rotate_left
         ·simp only [Act.put, List.setIfInBounds_toArray, List.set_cons_zero, List.set_cons_succ, i64_w, i32_w]
          rfl
         refine pure_ (i := 31) (N := some 49) (v := ?_) (a' := ?_) #[bT5, bT5, bT5, bT5, bT5, bT5, bT5, bT5, bT5, bT5, bT5, bT5, bT5, bT5, bT5, bT5, bT5, bT5, bT5, bT5, bT5, bT5, bT5, bT5, bT5, bT5, bT5, bT5, bT5, bT5, bT5, bT5, bF5, bF5, bF5, bF5, bF5, bF5, bF5, bF5, bF5, bF5, bF5, bF5, bF5, bF5, bF5, bF5, bF5, bF5, bF5, bF5, bF5] rfl rfl (any_of HT_.out (by kernel_rfl)) (fun _ _ _ h => h) (Or.inl ⟨by rfl, ?_⟩) ?_ ?_
         rotate_left
         ·intro w'
          go_simp
          with_reducible rfl
         rotate_left
         ·simp only [Act.put, List.setIfInBounds_toArray, List.set_cons_zero, List.set_cons_succ, i64_w, i32_w]
          rfl
         refine pure_ (i := 32) (N := some 50) (v := ?_) (a' := ?_) #[bT5, bT5, bT5, bT5, bT5, bT5, bT5, bT5, bT5, bT5, bT5, bT5, bT5, bT5, bT5, bT5, bT5, bT5, bT5, bT5, bT5, bT5, bT5, bT5, bT5, bT5, bT5, bT5, bT5, bT5, bT5, bT5, bT5, bF5, bF5, bF5, bF5, bF5, bF5, bF5, bF5, bF5, bF5, bF5, bF5, bF5, bF5, bF5, bF5, bF5, bF5, bF5, bF5] rfl rfl (any_of HT_.out (by kernel_rfl)) (fun _ _ _ h => h) (Or.inl ⟨by rfl, ?_⟩) ?_ ?_
         rotate_left
         ·intro w'
          go_simp
          with_reducible rfl
         rotate_left
         ·simp only [Act.put, List.setIfInBounds_toArray, List.set_cons_zero, List.set_cons_succ, i64_w, i32_w]
          rfl
         refine take_ (i := 33) (N := some 51) (v := ?_) (a' := ?_) #[bT5, bT5, bT5, bT5, bT5, bT5, bT5, bT5, bT5, bT5, bT5, bT5, bT5, bT5, bT5, bT5, bT5, bT5, bT5, bT5, bT5, bT5, bT5, bT5, bT5, bT5, bT5, bT5, bT5, bT5, bT5, bT5, bT5, bT5, bF5, bF5, bF5, bF5, bF5, bF5, bF5, bF5, bF5, bF5, bF5, bF5, bF5, bF5, bF5, bF5, bF5, bF5, bF5] rfl rfl (take_ofW HT_.out HW_.out (by kernel_rfl)) (fun _ _ _ h => h) (Or.inl ⟨by rfl, ?_⟩) hHeld ?_ ?_
         rotate_left
         ·rintro w' ⟨s0, s1, s2, s3, s4, s5, s6, s7⟩
          go_simp
          with_reducible rfl
         rotate_left
         ·simp only [Act.put, List.setIfInBounds_toArray, List.set_cons_zero, List.set_cons_succ, i64_w, i32_w]
          rfl
         refine take_ (i := 35) (N := some 53) (v := ?_) (a' := ?_) #[bT5, bT5, bT5, bT5, bT5, bT5, bT5, bT5, bT5, bT5, bT5, bT5, bT5, bT5, bT5, bT5, bT5, bT5, bT5, bT5, bT5, bT5, bT5, bT5, bT5, bT5, bT5, bT5, bT5, bT5, bT5, bT5, bT5, bT5, bF5, bT5, bF5, bF5, bF5, bF5, bF5, bF5, bF5, bF5, bF5, bF5, bF5, bF5, bF5, bF5, bF5, bF5, bF5] rfl rfl (take_ofW HT_.out HW_.out (by kernel_rfl)) (fun _ _ _ h => h) (Or.inl ⟨by rfl, ?_⟩) hHeld ?_ ?_
         rotate_left
         ·rintro w' ⟨s0, s1, s2, s3, s4, s5, s6, s7⟩
          go_simp
          with_reducible rfl
         rotate_left
         ·simp only [Act.put, List.setIfInBounds_toArray, List.set_cons_zero, List.set_cons_succ, i64_w, i32_w]
          rfl
         refine one_ (i := 34) (N := some 52) #[bT5, bT5, bT5, bT5, bT5, bT5, bT5, bT5, bT5, bT5, bT5, bT5, bT5, bT5, bT5, bT5, bT5, bT5, bT5, bT5, bT5, bT5, bT5, bT5, bT5, bT5, bT5, bT5, bT5, bT5, bT5, bT5, bT5, bT5, bT5, bT5, bF5, bF5, bF5, bF5, bF5, bF5, bF5, bF5, bF5, bF5, bF5, bF5, bF5, bF5, bF5, bF5, bF5] rfl rfl (one_of HT_.out (by kernel_rfl)) (by decide) (fun K hK => ?_)
         refine goes_ Try.func12 (by kernel_rfl) rfl #[.agg #[.int .i64 t273, .slice Ao43 t274.length co43]] (by rfl) rfl rfl zq5_18 ?_
         with_reducible refine (span_Count.calls t273 _ _ t274 t293 _ ?side1 ?side2 A20.out).mono ?_
         (case side1 => repeat (first | exact (Kd.R_reads' HO276.out).2.2 | (with_reducible refine Kd.C_alloc ?_ _) | (with_reducible refine Kd.C_drewN ?_ _) | (with_reducible refine Kd.C_drew ?_)))
         (case side2 => exact (Kd.R_reads' HO276.out).2.1)
         rintro e w62 ⟨rfl, hb⟩
         refine ⟨_, rfl, ?_⟩
         replace HO267 := Aside0.mk (Kd.R_below zq5_23 hb)
         replace HO271 := Aside0.mk (Kd.R_below zq5_24 hb)
         replace HO276 := Aside0.mk (Kd.R_below zq5_25 hb)
         replace HO281 := Aside0.mk (Kd.R_below zq5_26 hb)
         replace HO287 := Aside0.mk (Kd.R_below zq5_27 hb)
         replace BK263 := Aside0.mk (blk_below (g := gb263) (o := .cells #[.int .i64 t264, .slice Ao32 t265.length co32] 30 (0, 0)) zq5_19 hb)
         replace BK272 := Aside0.mk (blk_below (g := gb272) (o := .cells #[.int .i64 t268, .slice Ao37 t269.length co37] 24 (0, 0)) zq5_20 hb)
         replace BK277 := Aside0.mk (blk_below (g := gb277) (o := .cells #[.int .i64 t273, .slice Ao43 t274.length co43] 24 (0, 0)) zq5_21 hb)
         replace BK282 := Aside0.mk (blk_below (g := gb282) (o := .cells #[.int .i64 t278, .slice Ao51 t279.length co51] 30 (0, 0)) zq5_22 hb)
         replace HB := Aside0.mk (below_step zq5_7 hb)
         (try clear hb)
         (try clear hb2)
         (try clear hk)
         (try clear hi)
         refine hK.out _ _ ⟨(blk_cell BK277.out 0).trans rfl, (blk_cell BK277.out 1).trans rfl, (blk_cell BK282.out 0).trans rfl, (blk_cell BK282.out 1).trans rfl, (blk_cell BK272.out 0).trans rfl, (blk_cell BK272.out 1).trans rfl, (blk_cell BK263.out 0).trans rfl, (blk_cell BK263.out 1).trans rfl⟩ (fun hHeld => ?_)
         clear hK K
         refine norm_ (a' := ?_) ?_ ?_
         rotate_left
         ·show Act.put _ (some 52) _ = _
          simp only [Act.put, List.setIfInBounds_toArray, List.set_cons_zero, List.set_cons_succ, i64_w, i32_w]
          rfl
         refine one_ (i := 36) (N := some 54) #[bT5, bT5, bT5, bT5, bT5, bT5, bT5, bT5, bT5, bT5, bT5, bT5, bT5, bT5, bT5, bT5, bT5, bT5, bT5, bT5, bT5, bT5, bT5, bT5, bT5, bT5, bT5, bT5, bT5, bT5, bT5, bT5, bT5, bT5, bT5, bT5, bT5, bF5, bF5, bF5, bF5, bF5, bF5, bF5, bF5, bF5, bF5, bF5, bF5, bF5, bF5, bF5, bF5] rfl rfl (one_of HT_.out (by kernel_rfl)) (by decide) (fun K hK => ?_)
         refine goes_ Try.func23 (by kernel_rfl) rfl #[.agg #[.int .i64 t278, .slice Ao51 t279.length co51]] (by rfl) rfl rfl zq5_18 ?_
         with_reducible refine (cenotaphref02_Count.calls t278 _ _ t279 t294 _ ?side1 ?side2 A21.out).mono ?_
         (case side1 => repeat (first | exact (Kd.R_reads' HO281.out).2.2 | (with_reducible refine Kd.C_alloc ?_ _) | (with_reducible refine Kd.C_drewN ?_ _) | (with_reducible refine Kd.C_drew ?_)))
         (case side2 => exact (Kd.R_reads' HO281.out).2.1)
         rintro e w63 ⟨rfl, hb⟩
         refine ⟨_, rfl, ?_⟩
         replace HO267 := Aside0.mk (Kd.R_below zq5_23 hb)
         replace HO271 := Aside0.mk (Kd.R_below zq5_24 hb)
         replace HO276 := Aside0.mk (Kd.R_below zq5_25 hb)
         replace HO281 := Aside0.mk (Kd.R_below zq5_26 hb)
         replace HO287 := Aside0.mk (Kd.R_below zq5_27 hb)
         replace BK263 := Aside0.mk (blk_below (g := gb263) (o := .cells #[.int .i64 t264, .slice Ao32 t265.length co32] 30 (0, 0)) zq5_19 hb)
         replace BK272 := Aside0.mk (blk_below (g := gb272) (o := .cells #[.int .i64 t268, .slice Ao37 t269.length co37] 24 (0, 0)) zq5_20 hb)
         replace BK277 := Aside0.mk (blk_below (g := gb277) (o := .cells #[.int .i64 t273, .slice Ao43 t274.length co43] 24 (0, 0)) zq5_21 hb)
         replace BK282 := Aside0.mk (blk_below (g := gb282) (o := .cells #[.int .i64 t278, .slice Ao51 t279.length co51] 30 (0, 0)) zq5_22 hb)
         replace HB := Aside0.mk (below_step zq5_7 hb)
         (try clear hb)
         (try clear hb2)
         (try clear hk)
         (try clear hi)
         refine hK.out _ _ ⟨(blk_cell BK277.out 0).trans rfl, (blk_cell BK277.out 1).trans rfl, (blk_cell BK282.out 0).trans rfl, (blk_cell BK282.out 1).trans rfl, (blk_cell BK272.out 0).trans rfl, (blk_cell BK272.out 1).trans rfl, (blk_cell BK263.out 0).trans rfl, (blk_cell BK263.out 1).trans rfl⟩ (fun hHeld => ?_)
         clear hK K
         refine norm_ (a' := ?_) ?_ ?_
         rotate_left
         ·show Act.put _ (some 54) _ = _
          simp only [Act.put, List.setIfInBounds_toArray, List.set_cons_zero, List.set_cons_succ, i64_w, i32_w]
          rfl
         refine pure_ (i := 37) (N := some 55) (v := ?_) (a' := ?_) #[bT5, bT5, bT5, bT5, bT5, bT5, bT5, bT5, bT5, bT5, bT5, bT5, bT5, bT5, bT5, bT5, bT5, bT5, bT5, bT5, bT5, bT5, bT5, bT5, bT5, bT5, bT5, bT5, bT5, bT5, bT5, bT5, bT5, bT5, bT5, bT5, bT5, bT5, bF5, bF5, bF5, bF5, bF5, bF5, bF5, bF5, bF5, bF5, bF5, bF5, bF5, bF5, bF5] rfl rfl (any_of HT_.out (by kernel_rfl)) (fun _ _ _ h => h) (Or.inl ⟨by rfl, ?_⟩) ?_ ?_
         rotate_left
         ·intro w'
          go_simp
          with_reducible rfl
         rotate_left
         ·simp only [Act.put, List.setIfInBounds_toArray, List.set_cons_zero, List.set_cons_succ, i64_w, i32_w]
          rfl
         refine pure_ (i := 38) (N := some 56) (v := ?_) (a' := ?_) #[bT5, bT5, bT5, bT5, bT5, bT5, bT5, bT5, bT5, bT5, bT5, bT5, bT5, bT5, bT5, bT5, bT5, bT5, bT5, bT5, bT5, bT5, bT5, bT5, bT5, bT5, bT5, bT5, bT5, bT5, bT5, bT5, bT5, bT5, bT5, bT5, bT5, bT5, bT5, bF5, bF5, bF5, bF5, bF5, bF5, bF5, bF5, bF5, bF5, bF5, bF5, bF5, bF5] rfl rfl (any_of HT_.out (by kernel_rfl)) (fun _ _ _ h => h) (Or.inl ⟨by rfl, ?_⟩) ?_ ?_
         rotate_left
         ·intro w'
          go_simp
          with_reducible rfl
         rotate_left
         ·simp only [Act.put, List.setIfInBounds_toArray, List.set_cons_zero, List.set_cons_succ, i64_w, i32_w]
          rfl
         refine pure_ (i := 39) (N := some 57) (v := ?_) (a' := ?_) #[bT5, bT5, bT5, bT5, bT5, bT5, bT5, bT5, bT5, bT5, bT5, bT5, bT5, bT5, bT5, bT5, bT5, bT5, bT5, bT5, bT5, bT5, bT5, bT5, bT5, bT5, bT5, bT5, bT5, bT5, bT5, bT5, bT5, bT5, bT5, bT5, bT5, bT5, bT5, bT5, bF5, bF5, bF5, bF5, bF5, bF5, bF5, bF5, bF5, bF5, bF5, bF5, bF5] rfl rfl (any_of HT_.out (by kernel_rfl)) (fun _ _ _ h => h) (Or.inl ⟨by rfl, ?_⟩) ?_ ?_
         rotate_left
         ·intro w'
          go_simp
          with_reducible rfl
         rotate_left
         ·simp only [Act.put, List.setIfInBounds_toArray, List.set_cons_zero, List.set_cons_succ, i64_w, i32_w]
          rfl
         refine take_ (i := 40) (N := some 58) (v := ?_) (a' := ?_) #[bT5, bT5, bT5, bT5, bT5, bT5, bT5, bT5, bT5, bT5, bT5, bT5, bT5, bT5, bT5, bT5, bT5, bT5, bT5, bT5, bT5, bT5, bT5, bT5, bT5, bT5, bT5, bT5, bT5, bT5, bT5, bT5, bT5, bT5, bT5, bT5, bT5, bT5, bT5, bT5, bT5, bF5, bF5, bF5, bF5, bF5, bF5, bF5, bF5, bF5, bF5, bF5, bF5] rfl rfl (take_ofW HT_.out HW_.out (by kernel_rfl)) (fun _ _ _ h => h) (Or.inl ⟨by rfl, ?_⟩) hHeld ?_ ?_
         rotate_left
         ·rintro w' ⟨s0, s1, s2, s3, s4, s5, s6, s7⟩
          go_simp
          with_reducible rfl
         rotate_left
         ·simp only [Act.put, List.setIfInBounds_toArray, List.set_cons_zero, List.set_cons_succ, i64_w, i32_w]
          rfl
         refine take_ (i := 42) (N := some 60) (v := ?_) (a' := ?_) #[bT5, bT5, bT5, bT5, bT5, bT5, bT5, bT5, bT5, bT5, bT5, bT5, bT5, bT5, bT5, bT5, bT5, bT5, bT5, bT5, bT5, bT5, bT5, bT5, bT5, bT5, bT5, bT5, bT5, bT5, bT5, bT5, bT5, bT5, bT5, bT5, bT5, bT5, bT5, bT5, bT5, bF5, bT5, bF5, bF5, bF5, bF5, bF5, bF5, bF5, bF5, bF5, bF5] rfl rfl (take_ofW HT_.out HW_.out (by kernel_rfl)) (fun _ _ _ h => h) (Or.inl ⟨by rfl, ?_⟩) hHeld ?_ ?_
         rotate_left
         ·rintro w' ⟨s0, s1, s2, s3, s4, s5, s6, s7⟩
          go_simp
          with_reducible rfl
         rotate_left
         ·simp only [Act.put, List.setIfInBounds_toArray, List.set_cons_zero, List.set_cons_succ, i64_w, i32_w]
          rfl
         refine one_ (i := 41) (N := some 59) #[bT5, bT5, bT5, bT5, bT5, bT5, bT5, bT5, bT5, bT5, bT5, bT5, bT5, bT5, bT5, bT5, bT5, bT5, bT5, bT5, bT5, bT5, bT5, bT5, bT5, bT5, bT5, bT5, bT5, bT5, bT5, bT5, bT5, bT5, bT5, bT5, bT5, bT5, bT5, bT5, bT5, bT5, bT5, bF5, bF5, bF5, bF5, bF5, bF5, bF5, bF5, bF5, bF5] rfl rfl (one_of HT_.out (by kernel_rfl)) (by decide) (fun K hK => ?_)
         refine goes_ Try.func24 (by kernel_rfl) rfl #[.agg #[.int .i64 t273, .slice Ao43 t274.length co43]] (by rfl) rfl rfl zq5_18 ?_
         with_reducible refine (span_Top.calls t273 _ _ t274 t295 _ ?side1 ?side2 A23.out).mono ?_
         (case side1 => repeat (first | exact (Kd.R_reads' HO276.out).2.2 | (with_reducible refine Kd.C_alloc ?_ _) | (with_reducible refine Kd.C_drewN ?_ _) | (with_reducible refine Kd.C_drew ?_)))
         (case side2 => exact (Kd.R_reads' HO276.out).2.1)
         rintro e w64 ⟨rfl, hb⟩
         refine ⟨_, rfl, ?_⟩
         replace HO267 := Aside0.mk (Kd.R_below zq5_23 hb)
         replace HO271 := Aside0.mk (Kd.R_below zq5_24 hb)
         replace HO276 := Aside0.mk (Kd.R_below zq5_25 hb)
         replace HO281 := Aside0.mk (Kd.R_below zq5_26 hb)
         replace HO287 := Aside0.mk (Kd.R_below zq5_27 hb)
         replace BK263 := Aside0.mk (blk_below (g := gb263) (o := .cells #[.int .i64 t264, .slice Ao32 t265.length co32] 30 (0, 0)) zq5_19 hb)
         replace BK272 := Aside0.mk (blk_below (g := gb272) (o := .cells #[.int .i64 t268, .slice Ao37 t269.length co37] 24 (0, 0)) zq5_20 hb)
         replace BK277 := Aside0.mk (blk_below (g := gb277) (o := .cells #[.int .i64 t273, .slice Ao43 t274.length co43] 24 (0, 0)) zq5_21 hb)
         replace BK282 := Aside0.mk (blk_below (g := gb282) (o := .cells #[.int .i64 t278, .slice Ao51 t279.length co51] 30 (0, 0)) zq5_22 hb)
         replace HB := Aside0.mk (below_step zq5_7 hb)
         (try clear hb)
         (try clear hb2)
         (try clear hk)
         (try clear hi)
         refine hK.out _ _ ⟨(blk_cell BK277.out 0).trans rfl, (blk_cell BK277.out 1).trans rfl, (blk_cell BK282.out 0).trans rfl, (blk_cell BK282.out 1).trans rfl, (blk_cell BK272.out 0).trans rfl, (blk_cell BK272.out 1).trans rfl, (blk_cell BK263.out 0).trans rfl, (blk_cell BK263.out 1).trans rfl⟩ (fun hHeld => ?_)
         clear hK K
         refine norm_ (a' := ?_) ?_ ?_
         rotate_left
         ·show Act.put _ (some 59) _ = _
          simp only [Act.put, List.setIfInBounds_toArray, List.set_cons_zero, List.set_cons_succ, i64_w, i32_w]
          rfl
         refine one_ (i := 43) (N := some 61) #[bT5, bT5, bT5, bT5, bT5, bT5, bT5, bT5, bT5, bT5, bT5, bT5, bT5, bT5, bT5, bT5, bT5, bT5, bT5, bT5, bT5, bT5, bT5, bT5, bT5, bT5, bT5, bT5, bT5, bT5, bT5, bT5, bT5, bT5, bT5, bT5, bT5, bT5, bT5, bT5, bT5, bT5, bT5, bT5, bF5, bF5, bF5, bF5, bF5, bF5, bF5, bF5, bF5] rfl rfl (one_of HT_.out (by kernel_rfl)) (by decide) (fun K hK => ?_)
         refine goes_ Try.func25 (by kernel_rfl) rfl #[.agg #[.int .i64 t278, .slice Ao51 t279.length co51]] (by rfl) rfl rfl zq5_18 ?_
         with_reducible refine (cenotaphref02_Top.calls t278 _ _ t279 t296 _ ?side1 ?side2 A24.out).mono ?_
         (case side1 => repeat (first | exact (Kd.R_reads' HO281.out).2.2 | (with_reducible refine Kd.C_alloc ?_ _) | (with_reducible refine Kd.C_drewN ?_ _) | (with_reducible refine Kd.C_drew ?_)))
         (case side2 => exact (Kd.R_reads' HO281.out).2.1)
         rintro e w65 ⟨rfl, hb⟩
         refine ⟨_, rfl, ?_⟩
         replace HO267 := Aside0.mk (Kd.R_below zq5_23 hb)
         replace HO271 := Aside0.mk (Kd.R_below zq5_24 hb)
         replace HO276 := Aside0.mk (Kd.R_below zq5_25 hb)
         replace HO281 := Aside0.mk (Kd.R_below zq5_26 hb)
         replace HO287 := Aside0.mk (Kd.R_below zq5_27 hb)
         replace BK263 := Aside0.mk (blk_below (g := gb263) (o := .cells #[.int .i64 t264, .slice Ao32 t265.length co32] 30 (0, 0)) zq5_19 hb)
         replace BK272 := Aside0.mk (blk_below (g := gb272) (o := .cells #[.int .i64 t268, .slice Ao37 t269.length co37] 24 (0, 0)) zq5_20 hb)
         replace BK277 := Aside0.mk (blk_below (g := gb277) (o := .cells #[.int .i64 t273, .slice Ao43 t274.length co43] 24 (0, 0)) zq5_21 hb)
         replace BK282 := Aside0.mk (blk_below (g := gb282) (o := .cells #[.int .i64 t278, .slice Ao51 t279.length co51] 30 (0, 0)) zq5_22 hb)
         replace HB := Aside0.mk (below_step zq5_7 hb)
         (try clear hb)
         (try clear hb2)
         (try clear hk)
         (try clear hi)
         refine hK.out _ _ ⟨(blk_cell BK277.out 0).trans rfl, (blk_cell BK277.out 1).trans rfl, (blk_cell BK282.out 0).trans rfl, (blk_cell BK282.out 1).trans rfl, (blk_cell BK272.out 0).trans rfl, (blk_cell BK272.out 1).trans rfl, (blk_cell BK263.out 0).trans rfl, (blk_cell BK263.out 1).trans rfl⟩ (fun hHeld => ?_)
         clear hK K
         refine norm_ (a' := ?_) ?_ ?_
         rotate_left
         ·show Act.put _ (some 61) _ = _
          simp only [Act.put, List.setIfInBounds_toArray, List.set_cons_zero, List.set_cons_succ, i64_w, i32_w]
          rfl
         refine pure_ (i := 44) (N := some 62) (v := ?_) (a' := ?_) #[bT5, bT5, bT5, bT5, bT5, bT5, bT5, bT5, bT5, bT5, bT5, bT5, bT5, bT5, bT5, bT5, bT5, bT5, bT5, bT5, bT5, bT5, bT5, bT5, bT5, bT5, bT5, bT5, bT5, bT5, bT5, bT5, bT5, bT5, bT5, bT5, bT5, bT5, bT5, bT5, bT5, bT5, bT5, bT5, bT5, bF5, bF5, bF5, bF5, bF5, bF5, bF5, bF5] rfl rfl (any_of HT_.out (by kernel_rfl)) (fun _ _ _ h => h) (Or.inl ⟨by rfl, ?_⟩) ?_ ?_
         rotate_left
         ·intro w'
          go_simp
          with_reducible rfl
         rotate_left
         ·simp only [Act.put, List.setIfInBounds_toArray, List.set_cons_zero, List.set_cons_succ, i64_w, i32_w]
          rfl
         refine pure_ (i := 45) (N := some 63) (v := ?_) (a' := ?_) #[bT5, bT5, bT5, bT5, bT5, bT5, bT5, bT5, bT5, bT5, bT5, bT5, bT5, bT5, bT5, bT5, bT5, bT5, bT5, bT5, bT5, bT5, bT5, bT5, bT5, bT5, bT5, bT5, bT5, bT5, bT5, bT5, bT5, bT5, bT5, bT5, bT5, bT5, bT5, bT5, bT5, bT5, bT5, bT5, bT5, bT5, bF5, bF5, bF5, bF5, bF5, bF5, bF5] rfl rfl (any_of HT_.out (by kernel_rfl)) (fun _ _ _ h => h) (Or.inl ⟨by rfl, ?_⟩) ?_ ?_
         rotate_left
         ·intro w'
          go_simp
          with_reducible rfl
         rotate_left
         ·simp only [Act.put, List.setIfInBounds_toArray, List.set_cons_zero, List.set_cons_succ, i64_w, i32_w]
          rfl
         refine pure_ (i := 46) (N := some 64) (v := ?_) (a' := ?_) #[bT5, bT5, bT5, bT5, bT5, bT5, bT5, bT5, bT5, bT5, bT5, bT5, bT5, bT5, bT5, bT5, bT5, bT5, bT5, bT5, bT5, bT5, bT5, bT5, bT5, bT5, bT5, bT5, bT5, bT5, bT5, bT5, bT5, bT5, bT5, bT5, bT5, bT5, bT5, bT5, bT5, bT5, bT5, bT5, bT5, bT5, bT5, bF5, bF5, bF5, bF5, bF5, bF5] rfl rfl (any_of HT_.out (by kernel_rfl)) (fun _ _ _ h => h) (Or.inl ⟨by rfl, ?_⟩) ?_ ?_
         rotate_left
         ·intro w'
          go_simp
          with_reducible rfl
         rotate_left
         ·simp only [Act.put, List.setIfInBounds_toArray, List.set_cons_zero, List.set_cons_succ, i64_w, i32_w]
          rfl
         refine take_ (i := 47) (N := some 65) (v := ?_) (a' := ?_) #[bT5, bT5, bT5, bT5, bT5, bT5, bT5, bT5, bT5, bT5, bT5, bT5, bT5, bT5, bT5, bT5, bT5, bT5, bT5, bT5, bT5, bT5, bT5, bT5, bT5, bT5, bT5, bT5, bT5, bT5, bT5, bT5, bT5, bT5, bT5, bT5, bT5, bT5, bT5, bT5, bT5, bT5, bT5, bT5, bT5, bT5, bT5, bT5, bF5, bF5, bF5, bF5, bF5] rfl rfl (take_ofW HT_.out HW_.out (by kernel_rfl)) (fun _ _ _ h => h) (Or.inl ⟨by rfl, ?_⟩) hHeld ?_ ?_
         rotate_left
         ·rintro w' ⟨s0, s1, s2, s3, s4, s5, s6, s7⟩
          go_simp
          with_reducible rfl
         rotate_left
         ·simp only [Act.put, List.setIfInBounds_toArray, List.set_cons_zero, List.set_cons_succ, i64_w, i32_w]
          rfl
         refine take_ (i := 49) (N := some 67) (v := ?_) (a' := ?_) #[bT5, bT5, bT5, bT5, bT5, bT5, bT5, bT5, bT5, bT5, bT5, bT5, bT5, bT5, bT5, bT5, bT5, bT5, bT5, bT5, bT5, bT5, bT5, bT5, bT5, bT5, bT5, bT5, bT5, bT5, bT5, bT5, bT5, bT5, bT5, bT5, bT5, bT5, bT5, bT5, bT5, bT5, bT5, bT5, bT5, bT5, bT5, bT5, bF5, bT5, bF5, bF5, bF5] rfl rfl (take_ofW HT_.out HW_.out (by kernel_rfl)) (fun _ _ _ h => h) (Or.inl ⟨by rfl, ?_⟩) hHeld ?_ ?_
         rotate_left
         ·rintro w' ⟨s0, s1, s2, s3, s4, s5, s6, s7⟩
          go_simp
          with_reducible rfl
         rotate_left
         ·simp only [Act.put, List.setIfInBounds_toArray, List.set_cons_zero, List.set_cons_succ, i64_w, i32_w]
          rfl
         refine one_ (i := 48) (N := some 66) #[bT5, bT5, bT5, bT5, bT5, bT5, bT5, bT5, bT5, bT5, bT5, bT5, bT5, bT5, bT5, bT5, bT5, bT5, bT5, bT5, bT5, bT5, bT5, bT5, bT5, bT5, bT5, bT5, bT5, bT5, bT5, bT5, bT5, bT5, bT5, bT5, bT5, bT5, bT5, bT5, bT5, bT5, bT5, bT5, bT5, bT5, bT5, bT5, bT5, bT5, bF5, bF5, bF5] rfl rfl (one_of HT_.out (by kernel_rfl)) (by decide) (fun K hK => ?_)
         refine goes_ Try.func21 (by kernel_rfl) rfl #[.agg #[.int .i64 t268, .slice Ao37 t269.length co37]] (by rfl) rfl rfl zq5_18 ?_
         with_reducible refine (cenotaphlaw02_From.calls t268 _ _ t269 t297 t298 _ ?side1 ?side2 A26.out).mono ?_
         (case side1 => repeat (first | exact (Kd.R_reads' HO271.out).2.2 | (with_reducible refine Kd.C_alloc ?_ _) | (with_reducible refine Kd.C_drewN ?_ _) | (with_reducible refine Kd.C_drew ?_)))
         (case side2 => exact (Kd.R_reads' HO271.out).2.1)
         rintro e w66 ⟨v299, rfl, ho0, hb⟩
         refine ⟨_, rfl, ?_⟩
         have HO300 := Aside0.mk (Kd.R_lower (Kd.R_new' (Kd.R_new' (Kd.R_new' (Kd.R_new' (Kd.R_new' ho0 (Kd.R_lt zq5_23)) (Kd.R_lt zq5_24)) (Kd.R_lt zq5_25)) (Kd.R_lt zq5_26)) (Kd.R_lt zq5_27)) (below_size zq5_7))
         replace HO267 := Aside0.mk (Kd.R_elder' zq5_23 (Kd.R_base ho0) hb)
         replace HO271 := Aside0.mk (Kd.R_elder' zq5_24 (Kd.R_base ho0) hb)
         replace HO276 := Aside0.mk (Kd.R_elder' zq5_25 (Kd.R_base ho0) hb)
         replace HO281 := Aside0.mk (Kd.R_elder' zq5_26 (Kd.R_base ho0) hb)
         replace HO287 := Aside0.mk (Kd.R_elder' zq5_27 (Kd.R_base ho0) hb)
         replace BK263 := Aside0.mk (blk_below (g := gb263) (o := .cells #[.int .i64 t264, .slice Ao32 t265.length co32] 30 (0, 0)) zq5_19 hb)
         replace BK272 := Aside0.mk (blk_below (g := gb272) (o := .cells #[.int .i64 t268, .slice Ao37 t269.length co37] 24 (0, 0)) zq5_20 hb)
         replace BK277 := Aside0.mk (blk_below (g := gb277) (o := .cells #[.int .i64 t273, .slice Ao43 t274.length co43] 24 (0, 0)) zq5_21 hb)
         replace BK282 := Aside0.mk (blk_below (g := gb282) (o := .cells #[.int .i64 t278, .slice Ao51 t279.length co51] 30 (0, 0)) zq5_22 hb)
         replace HB := Aside0.mk (below_step zq5_7 hb)
         (try clear hb)
         (try clear hb2)
         (try clear hk)
         (try clear hi)
         (try clear ho0)
         obtain ⟨Ao67, co67, eo67⟩ := Kd.R_slice HO300.out
         (first | subst eo67 | (injection eo67 with f1_ f2_ f3_; have f4_ := f1_.symm; have f5_ := f3_.symm; clear f1_ f2_ f3_; subst f4_; subst f5_))
         refine hK.out _ _ ⟨(blk_cell BK277.out 0).trans rfl, (blk_cell BK277.out 1).trans rfl, (blk_cell BK282.out 0).trans rfl, (blk_cell BK282.out 1).trans rfl, (blk_cell BK272.out 0).trans rfl, (blk_cell BK272.out 1).trans rfl, (blk_cell BK263.out 0).trans rfl, (blk_cell BK263.out 1).trans rfl⟩ (fun hHeld => ?_)
         clear hK K
         refine norm_ (a' := ?_) ?_ ?_
         rotate_left
         ·show Act.put _ (some 66) _ = _
          simp only [Act.put, List.setIfInBounds_toArray, List.set_cons_zero, List.set_cons_succ, i64_w, i32_w]
          rfl
         refine one_ (i := 50) (N := some 68) #[bT5, bT5, bT5, bT5, bT5, bT5, bT5, bT5, bT5, bT5, bT5, bT5, bT5, bT5, bT5, bT5, bT5, bT5, bT5, bT5, bT5, bT5, bT5, bT5, bT5, bT5, bT5, bT5, bT5, bT5, bT5, bT5, bT5, bT5, bT5, bT5, bT5, bT5, bT5, bT5, bT5, bT5, bT5, bT5, bT5, bT5, bT5, bT5, bT5, bT5, bT5, bF5, bF5] rfl rfl (one_of HT_.out (by kernel_rfl)) (by decide) (fun K hK => ?_)
         refine goes_ Try.func20 (by kernel_rfl) rfl #[.agg #[.int .i64 t297, .slice Ao67 t298.length co67], .agg #[.int .i64 t264, .slice Ao32 t265.length co32]] (by rfl) rfl rfl zq5_18 ?_
         with_reducible refine (cenotaphref02_Same.calls k t297 _ _ t298 t264 _ _ t265 t301 _ ?side1 ?side2 ?side3 ?side4 A27.out).mono ?_
         (case side1 => repeat (first | exact (Kd.R_reads' HO300.out).2.2 | (with_reducible refine Kd.C_alloc ?_ _) | (with_reducible refine Kd.C_drewN ?_ _) | (with_reducible refine Kd.C_drew ?_)))
         (case side2 => exact (Kd.R_reads' HO300.out).2.1)
         (case side3 => repeat (first | exact (Kd.R_reads' HO267.out).2.2 | (with_reducible refine Kd.C_alloc ?_ _) | (with_reducible refine Kd.C_drewN ?_ _) | (with_reducible refine Kd.C_drew ?_)))
         (case side4 => exact (Kd.R_reads' HO267.out).2.1)
         rintro e w68 ⟨rfl, hb⟩
         refine ⟨_, rfl, ?_⟩
         replace HO267 := Aside0.mk (Kd.R_below zq5_23 hb)
         replace HO271 := Aside0.mk (Kd.R_below zq5_24 hb)
         replace HO276 := Aside0.mk (Kd.R_below zq5_25 hb)
         replace HO281 := Aside0.mk (Kd.R_below zq5_26 hb)
         replace HO287 := Aside0.mk (Kd.R_below zq5_27 hb)
         replace HO300 := Aside0.mk (Kd.R_below (by (with_reducible repeat (first | apply Kd.R_alloc | apply Kd.R_drewN | apply Kd.R_drew)); exact HO300.out) hb)
         replace BK263 := Aside0.mk (blk_below (g := gb263) (o := .cells #[.int .i64 t264, .slice Ao32 t265.length co32] 30 (0, 0)) zq5_19 hb)
         replace BK272 := Aside0.mk (blk_below (g := gb272) (o := .cells #[.int .i64 t268, .slice Ao37 t269.length co37] 24 (0, 0)) zq5_20 hb)
         replace BK277 := Aside0.mk (blk_below (g := gb277) (o := .cells #[.int .i64 t273, .slice Ao43 t274.length co43] 24 (0, 0)) zq5_21 hb)
         replace BK282 := Aside0.mk (blk_below (g := gb282) (o := .cells #[.int .i64 t278, .slice Ao51 t279.length co51] 30 (0, 0)) zq5_22 hb)
         replace HB := Aside0.mk (below_step zq5_7 hb)
         (try clear hb)
         (try clear hb2)
         (try clear hk)
         (try clear hi)
         refine hK.out _ _ ⟨(blk_cell BK277.out 0).trans rfl, (blk_cell BK277.out 1).trans rfl, (blk_cell BK282.out 0).trans rfl, (blk_cell BK282.out 1).trans rfl, (blk_cell BK272.out 0).trans rfl, (blk_cell BK272.out 1).trans rfl, (blk_cell BK263.out 0).trans rfl, (blk_cell BK263.out 1).trans rfl⟩ (fun hHeld => ?_)
         clear hK K
         refine norm_ (a' := ?_) ?_ ?_
         rotate_left
         ·show Act.put _ (some 68) _ = _
          simp only [Act.put, List.setIfInBounds_toArray, List.set_cons_zero, List.set_cons_succ, i64_w, i32_w]
          rfl
         refine pure_ (i := 51) (N := some 69) (v := ?_) (a' := ?_) #[bT5, bT5, bT5, bT5, bT5, bT5, bT5, bT5, bT5, bT5, bT5, bT5, bT5, bT5, bT5, bT5, bT5, bT5, bT5, bT5, bT5, bT5, bT5, bT5, bT5, bT5, bT5, bT5, bT5, bT5, bT5, bT5, bT5, bT5, bT5, bT5, bT5, bT5, bT5, bT5, bT5, bT5, bT5, bT5, bT5, bT5, bT5, bT5, bT5, bT5, bT5, bT5, bF5] rfl rfl (any_of HT_.out (by kernel_rfl)) (fun _ _ _ h => h) (Or.inl ⟨by rfl, ?_⟩) ?_ ?_
         rotate_left
         ·intro w'
          go_simp
          with_reducible rfl
         rotate_left
         ·simp only [Act.put, List.setIfInBounds_toArray, List.set_cons_zero, List.set_cons_succ, i64_w, i32_w]
          rfl
         refine pure_ (i := 52) (N := some 4) (v := ?_) (a' := ?_) #[bT5, bT5, bT5, bT5, bT5, bT5, bT5, bT5, bT5, bT5, bT5, bT5, bT5, bT5, bT5, bT5, bT5, bT5, bT5, bT5, bT5, bT5, bT5, bT5, bT5, bT5, bT5, bT5, bT5, bT5, bT5, bT5, bT5, bT5, bT5, bT5, bT5, bT5, bT5, bT5, bT5, bT5, bT5, bT5, bT5, bT5, bT5, bT5, bT5, bT5, bT5, bT5, bT5] rfl rfl (any_of HT_.out (by kernel_rfl)) (fun _ _ _ h => h) (Or.inl ⟨by rfl, ?_⟩) ?_ ?_
         rotate_left
         ·intro w'
          go_simp
          with_reducible rfl
         rotate_left
         ·simp only [Act.put, List.setIfInBounds_toArray, List.set_cons_zero, List.set_cons_succ, i64_w, i32_w]
          rfl
         refine done_ (done_of HT_.out (by kernel_rfl)) ?_
         try go_wp2
         go_ret
         exact ⟨by first | rfl | (simp [errW_none, errW_some] <;> rfl) | (simp [*, errW_none, errW_some] <;> rfl), by repeat (first | (with_reducible first | exact HB.out | apply below_alloc | apply pw_below_drewN | apply below_drew1 | refine below_set ?_ GE263.out | refine below_set ?_ GE272.out | refine below_set ?_ GE277.out | refine below_set ?_ GE282.out) | exact HB.out)⟩
        ·rw [if_neg c25] at H
         have c25b0 : (t295 == t296) = false := beq_eq_false_iff_ne.mpr c25
         have c25b1 : (t295 != t296) = true := bne_iff_ne.mpr c25
         exact absurd H (by simp)
       ·rw [if_neg c22] at H
        have c22b0 : (t293 == t294) = false := beq_eq_false_iff_ne.mpr c22
        have c22b1 : (t293 != t294) = true := bne_iff_ne.mpr c22
        exact absurd H (by simp)
      ·rw [if_neg c19] at H
       have c19b0 : (t292 == (decide (a1 ≤ 1048576))) = false := by simpa using c19
       (try (have c19b1 : decide (t292 = (decide (a1 ≤ 1048576))) = false := by simpa using c19))
       (try (have c19b2 : (t292 == (decide (a1 ≤ 1048576))) = false := by simpa using c19))
       (try (have c19b3 : ¬ (t292 = (decide (a1 ≤ 1048576))) := by simpa using c19))
       clear c19
       exact absurd H (by simp)
     ·rw [if_neg c18] at H
      have c18b0 : decide (1 ≤ a1) = false := decide_eq_false c18
      clear c18
      by_cases c69 : (t292 == false) = true
      ·rw [if_pos c69] at H
       have c69b0 : (t292 == false) = true := c69
       (try (have c69b1 : decide (t292 = false) = true := by simpa using c69))
       (try (have c69b2 : (t292 == false) = true := by simpa using c69))
       clear c69
       replace H := Option.bind_eq_some_iff.mp H
       obtain ⟨t302, A700, H⟩ := H
       replace H : ((cenotaphref02_Count.f t278 t279).bind fun t303 => (if t302 = t303 then ((span_Top.f t273 t274).bind fun t304 => ((cenotaphref02_Top.f t278 t279).bind fun t305 => (if t304 = t305 then ((cenotaphlaw02_From.f t268 t269).bind fun bt306 => ((cenotaphref02_Same.f k bt306.1 bt306.2 t264 t265).bind fun t310 => (some t310))) else (none)))) else (none))) = some r := H
       have A70 := Aside0.mk A700
       clear A700
       replace H := Option.bind_eq_some_iff.mp H
       obtain ⟨t303, A710, H⟩ := H
       replace H : (if t302 = t303 then ((span_Top.f t273 t274).bind fun t304 => ((cenotaphref02_Top.f t278 t279).bind fun t305 => (if t304 = t305 then ((cenotaphlaw02_From.f t268 t269).bind fun bt306 => ((cenotaphref02_Same.f k bt306.1 bt306.2 t264 t265).bind fun t310 => (some t310))) else (none)))) else (none)) = some r := H
       have A71 := Aside0.mk A710
       clear A710
       by_cases c72 : t302 = t303
       ·rw [if_pos c72] at H
        have c72b0 : (t302 == t303) = true := beq_iff_eq.mpr c72
        have c72b1 : (t302 != t303) = false := bne_eq_false_iff_eq.mpr c72
        clear c72
        replace H := Option.bind_eq_some_iff.mp H
        obtain ⟨t304, A730, H⟩ := H
        replace H : ((cenotaphref02_Top.f t278 t279).bind fun t305 => (if t304 = t305 then ((cenotaphlaw02_From.f t268 t269).bind fun bt306 => ((cenotaphref02_Same.f k bt306.1 bt306.2 t264 t265).bind fun t310 => (some t310))) else (none))) = some r := H
        have A73 := Aside0.mk A730
        clear A730
        replace H := Option.bind_eq_some_iff.mp H
        obtain ⟨t305, A740, H⟩ := H
        replace H : (if t304 = t305 then ((cenotaphlaw02_From.f t268 t269).bind fun bt306 => ((cenotaphref02_Same.f k bt306.1 bt306.2 t264 t265).bind fun t310 => (some t310))) else (none)) = some r := H
        have A74 := Aside0.mk A740
        clear A740
        by_cases c75 : t304 = t305
        ·rw [if_pos c75] at H
         have c75b0 : (t304 == t305) = true := beq_iff_eq.mpr c75
         have c75b1 : (t304 != t305) = false := bne_eq_false_iff_eq.mpr c75
         clear c75
         replace H := Option.bind_eq_some_iff.mp H
         obtain ⟨⟨t306, t307⟩, A760, H⟩ := H
         replace H : ((cenotaphref02_Same.f k t306 t307 t264 t265).bind fun t310 => (some t310)) = some r := H
         have A76 := Aside0.mk A760
         clear A760
         replace H := Option.bind_eq_some_iff.mp H
         obtain ⟨t310, A770, H⟩ := H
         replace H : (some t310) = some r := H
         have A77 := Aside0.mk A770
         clear A770
         obtain rfl := Option.some.inj H
         go_enter Try.func5, Try.ntmps5
         try go_wp2_with (first | ((with_reducible refine gate_dst (N := 2) rfl ?_); refine box_event ?hg (N := 2) ?hd (cs := #[.int .i64 a0_0, .slice A0_1 l0_1.length c0_1]) (t := 30) ?hr ?_; (case hd => rfl); (case hg => rfl); (case hr => first | (go_simp; done) | (go_simp; rfl)); intro gb263 hg w78 hbox hb; have n0_ := Aside0.mk (below_step (by repeat (first | (with_reducible first | exact HB.out | apply below_alloc | apply pw_below_drewN | apply below_drew1) | exact HB.out)) hb); have n1_ := Aside0.mk (hbox); have n2_ := Aside0.mk ((zq5_16 : w.heap.size ≤ gb263)); have n3_ := Aside0.mk ((zq5_16 : w.heap.size ≤ gb263)); clear HB; have HB := n0_; have BK263 := n1_; have GW263 := n2_; have GE263 := n3_; clear n0_ n1_ n2_ n3_; clear hb hbox hg; have hcz79_0 : w78.cell? ⟨gb263, 0, none⟩ = some (.int .i64 a0_0) := (blk_cell BK263.out 0).trans rfl; have hcz79_1 : w78.cell? ⟨gb263, 1, none⟩ = some (.slice A0_1 l0_1.length c0_1) := (blk_cell BK263.out 1).trans rfl; have hfz79_0 := blk_frozen BK263.out 0; have hfz79_1 := blk_frozen BK263.out 1) | ((with_reducible refine gate_callee (f := 17) rfl ?_); refine goesL_ (some 9) rfl rfl Try.func17 (by kernel_rfl) rfl #[.agg #[.int .i64 a0_0, .slice A0_1 l0_1.length c0_1]] rfl zq5_18 ?_; (with_reducible refine (cenotaphref02_Fix.calls k a0_0 _ _ l0_1 t264 t265 _ ?side1 ?side2 A3.out).mono ?_); (case side1 => repeat (first | exact (Kd.C_below HR0_1.out HB.out) | (with_reducible refine Kd.C_alloc ?_ _) | (with_reducible refine Kd.C_drewN ?_ _) | (with_reducible refine Kd.C_drew ?_))); (case side2 => exact HC0_1.out); rintro e w80 ⟨v266, rfl, ho0, hb⟩; refine ⟨_, rfl, ?_⟩; have n0_ := Aside0.mk (Kd.R_lower ho0 (below_size zq5_17)); have n1_ := Aside0.mk (blk_below (g := gb263) (o := .cells #[.int .i64 a0_0, .slice A0_1 l0_1.length c0_1] 30 (0, 0)) zq5_19 hb); have n2_ := Aside0.mk (below_step zq5_17 hb); clear BK263; clear HB; have HO267 := n0_; have BK263 := n1_; have HB := n2_; clear n0_ n1_ n2_; (try clear hb); (try clear hb2); (try clear hk); (try clear hi); (try clear ho0); have hcz81_0 : w80.cell? ⟨gb263, 0, none⟩ = some (.int .i64 a0_0) := (blk_cell BK263.out 0).trans rfl; have hcz81_1 : w80.cell? ⟨gb263, 1, none⟩ = some (.slice A0_1 l0_1.length c0_1) := (blk_cell BK263.out 1).trans rfl; have hfz81_0 := blk_frozen BK263.out 0; have hfz81_1 := blk_frozen BK263.out 1; obtain ⟨Ao82, co82, eo82⟩ := Kd.R_slice HO267.out; subst eo82) | ((with_reducible refine gate_callee (f := 15) rfl ?_); refine goesL_ (some 11) rfl rfl Try.func15 (by kernel_rfl) rfl #[.agg #[.int .i64 t264, .slice Ao82 t265.length co82]] rfl zq5_18 ?_; (with_reducible refine (cenotaphlaw02_To.calls t264 _ _ t265 t268 t269 _ ?side1 ?side2 A4.out).mono ?_); (case side1 => refine (Kd.R_reads' (e := 3) (base := w.heap.size) (ok := fun k_ => True) (n := t265.length) (c := co82) ?_).2.2; exact zq5_3); (case side2 => exact (Kd.R_reads' HO267.out).2.1); rintro e w83 ⟨v270, rfl, ho0, hb⟩; refine ⟨_, rfl, ?_⟩; have n0_ := Aside0.mk (Kd.R_elder' zq5_3 (Kd.R_base ho0) hb); have n1_ := Aside0.mk (Kd.R_lower (Kd.R_new' ho0 (Kd.R_lt zq5_3)) (below_size zq5_17)); have n2_ := Aside0.mk (blk_below (g := gb263) (o := .cells #[.int .i64 t264, .slice Ao82 t265.length co82] 30 (0, 0)) (by (with_reducible repeat (first | refine blk_drewN ?_ _ | refine blk_drew ?_ | refine blk_alloc ?_ _)); refine blk_put (cs := #[.int .i64 t264, .slice A0_1 l0_1.length c0_1]) ?_ 1 _ rfl; (with_reducible repeat (first | refine blk_drewN ?_ _ | refine blk_drew ?_ | refine blk_alloc ?_ _)); refine blk_put (cs := #[.int .i64 a0_0, .slice A0_1 l0_1.length c0_1]) ?_ 0 _ rfl; (with_reducible repeat (first | refine blk_drewN ?_ _ | refine blk_drew ?_ | refine blk_alloc ?_ _)); exact BK263.out) hb); have n3_ := Aside0.mk (below_step zq5_17 hb); clear HO267; clear BK263; clear HB; have HO267 := n0_; have HO271 := n1_; have BK263 := n2_; have HB := n3_; clear n0_ n1_ n2_ n3_; (try clear hb); (try clear hb2); (try clear hk); (try clear hi); (try clear ho0)) | ((with_reducible refine gate_dst (N := 5) rfl ?_); refine box_event ?hg (N := 5) ?hd (cs := #[.int .i64 0, .slice none 0 0]) (t := 24) ?hr ?_; (case hd => rfl); (case hg => rfl); (case hr => first | (go_simp; done) | (go_simp; rfl)); intro gb272 hg w84 hbox hb; have n0_ := Aside0.mk (Kd.R_below zq5_23 hb); have n1_ := Aside0.mk (Kd.R_below zq5_24 hb); have n2_ := Aside0.mk (blk_below (g := gb263) (o := .cells #[.int .i64 t264, .slice Ao82 t265.length co82] 30 (0, 0)) zq5_19 hb); have n3_ := Aside0.mk (below_step zq5_17 hb); have n4_ := Aside0.mk (hbox); have n5_ := Aside0.mk ((zq5_14 : w.heap.size ≤ gb272)); have n6_ := Aside0.mk ((zq5_14 : w.heap.size ≤ gb272)); have n7_ := Aside0.mk ((zq5_10 : gb263 ≠ gb272)); have n8_ := Aside0.mk ((zq5_11 : gb272 ≠ gb263)); clear HO267; clear HO271; clear BK263; clear HB; have HO267 := n0_; have HO271 := n1_; have BK263 := n2_; have HB := n3_; have BK272 := n4_; have GW272 := n5_; have GE272 := n6_; have NB263_272 := n7_; have NB272_263 := n8_; clear n0_ n1_ n2_ n3_ n4_ n5_ n6_ n7_ n8_; clear hb hbox hg; have hnb85 := NB272_263.out; have hnc85 := NB263_272.out; have hcz86_0 : w84.cell? ⟨gb272, 0, none⟩ = some (.int .i64 0) := (blk_cell BK272.out 0).trans rfl; have hcz86_1 : w84.cell? ⟨gb272, 1, none⟩ = some (.slice none 0 0) := (blk_cell BK272.out 1).trans rfl; have hfz86_0 := blk_frozen BK272.out 0; have hfz86_1 := blk_frozen BK272.out 1; obtain ⟨Ao87, co87, eo87⟩ := Kd.R_slice HO271.out; subst eo87) | ((with_reducible refine gate_callee (f := 18) rfl ?_); refine goesL_ (some 14) rfl rfl Try.func18 (by kernel_rfl) rfl #[.agg #[.int .i64 t268, .slice Ao87 t269.length co87], .int .i64 a1] rfl zq5_18 ?_; (with_reducible refine (span_Add.calls k t268 _ _ t269 a1 t273 t274 _ ?side1 ?side2 A5.out).mono ?_); (case side1 => refine (Kd.R_reads' (e := 3) (base := w.heap.size) (ok := fun k_ => (True ∧ some k_ ≠ (.slice Ao82 t265.length co82 : Value).ownBlock)) (n := t269.length) (c := co87) ?_).2.2; exact zq5_4); (case side2 => exact (Kd.R_reads' HO271.out).2.1); rintro e w88 ⟨v275, rfl, ho0, hb⟩; refine ⟨_, rfl, ?_⟩; have n0_ := Aside0.mk (Kd.R_elder' (by (with_reducible repeat (first | apply Kd.R_alloc | apply Kd.R_drewN | apply Kd.R_drew)); exact (Kd.R_mono (Kd.R_far (p := ⟨gb272, 1, none⟩) (Kd.R_far (p := ⟨gb272, 0, none⟩) (Kd.R_types HO267.out BK272.out (by decide)) (fun _ hk => hk.2) (.int .i64 t268)) (fun _ hk => hk.2) (.slice Ao87 t269.length co87)) (fun _ h_ => h_.1))) (Kd.R_base ho0) hb); have n1_ := Aside0.mk (Kd.R_elder' zq5_4 (Kd.R_base ho0) hb); have n2_ := Aside0.mk (Kd.R_lower (Kd.R_new' (Kd.R_new' ho0 (Kd.R_lt (by (with_reducible repeat (first | apply Kd.R_alloc | apply Kd.R_drewN | apply Kd.R_drew)); exact (Kd.R_mono (Kd.R_far (p := ⟨gb272, 1, none⟩) (Kd.R_far (p := ⟨gb272, 0, none⟩) (Kd.R_types HO267.out BK272.out (by decide)) (fun _ hk => hk.2) (.int .i64 t268)) (fun _ hk => hk.2) (.slice Ao87 t269.length co87)) (fun _ h_ => h_.1))))) (Kd.R_lt zq5_4)) (below_size zq5_15)); have n3_ := Aside0.mk (blk_below (g := gb263) (o := .cells #[.int .i64 t264, .slice Ao82 t265.length co82] 30 (0, 0)) (by (with_reducible repeat (first | refine blk_drewN ?_ _ | refine blk_drew ?_ | refine blk_alloc ?_ _)); refine blk_far ?_ NB263_272.out _; (with_reducible repeat (first | refine blk_drewN ?_ _ | refine blk_drew ?_ | refine blk_alloc ?_ _)); refine blk_far ?_ NB263_272.out _; (with_reducible repeat (first | refine blk_drewN ?_ _ | refine blk_drew ?_ | refine blk_alloc ?_ _)); exact BK263.out) hb); have n4_ := Aside0.mk (blk_below (g := gb272) (o := .cells #[.int .i64 t268, .slice Ao87 t269.length co87] 24 (0, 0)) (by (with_reducible repeat (first | refine blk_drewN ?_ _ | refine blk_drew ?_ | refine blk_alloc ?_ _)); refine blk_put (cs := #[.int .i64 t268, .slice none 0 0]) ?_ 1 _ rfl; (with_reducible repeat (first | refine blk_drewN ?_ _ | refine blk_drew ?_ | refine blk_alloc ?_ _)); refine blk_put (cs := #[.int .i64 0, .slice none 0 0]) ?_ 0 _ rfl; (with_reducible repeat (first | refine blk_drewN ?_ _ | refine blk_drew ?_ | refine blk_alloc ?_ _)); exact BK272.out) hb); have n5_ := Aside0.mk (below_step zq5_15 hb); clear HO267; clear HO271; clear BK263; clear BK272; clear HB; have HO267 := n0_; have HO271 := n1_; have HO276 := n2_; have BK263 := n3_; have BK272 := n4_; have HB := n5_; clear n0_ n1_ n2_ n3_ n4_ n5_; (try clear hb); (try clear hb2); (try clear hk); (try clear hi); (try clear ho0)) | ((with_reducible refine gate_dst (N := 6) rfl ?_); refine box_event ?hg (N := 6) ?hd (cs := #[.int .i64 0, .slice none 0 0]) (t := 24) ?hr ?_; (case hd => rfl); (case hg => rfl); (case hr => first | (go_simp; done) | (go_simp; rfl)); intro gb277 hg w89 hbox hb; have n0_ := Aside0.mk (Kd.R_below zq5_23 hb); have n1_ := Aside0.mk (Kd.R_below zq5_24 hb); have n2_ := Aside0.mk (Kd.R_below zq5_25 hb); have n3_ := Aside0.mk (blk_below (g := gb263) (o := .cells #[.int .i64 t264, .slice Ao82 t265.length co82] 30 (0, 0)) zq5_19 hb); have n4_ := Aside0.mk (blk_below (g := gb272) (o := .cells #[.int .i64 t268, .slice Ao87 t269.length co87] 24 (0, 0)) zq5_20 hb); have n5_ := Aside0.mk (below_step zq5_15 hb); have n6_ := Aside0.mk (hbox); have n7_ := Aside0.mk ((zq5_12 : w.heap.size ≤ gb277)); have n8_ := Aside0.mk ((zq5_12 : w.heap.size ≤ gb277)); have n9_ := Aside0.mk ((zq5_10 : gb263 ≠ gb277)); have n10_ := Aside0.mk ((zq5_11 : gb277 ≠ gb263)); have n11_ := Aside0.mk (((by rw [hg]; exact Nat.ne_of_lt (blk_lt (g := gb272) (o := .cells #[.int .i64 t268, .slice Ao87 t269.length co87] 24 (0, 0)) zq5_20)) : gb272 ≠ gb277)); have n12_ := Aside0.mk (((by rw [hg]; exact Nat.ne_of_gt (blk_lt (g := gb272) (o := .cells #[.int .i64 t268, .slice Ao87 t269.length co87] 24 (0, 0)) zq5_20)) : gb277 ≠ gb272)); clear HO267; clear HO271; clear HO276; clear BK263; clear BK272; clear HB; have HO267 := n0_; have HO271 := n1_; have HO276 := n2_; have BK263 := n3_; have BK272 := n4_; have HB := n5_; have BK277 := n6_; have GW277 := n7_; have GE277 := n8_; have NB263_277 := n9_; have NB277_263 := n10_; have NB272_277 := n11_; have NB277_272 := n12_; clear n0_ n1_ n2_ n3_ n4_ n5_ n6_ n7_ n8_ n9_ n10_ n11_ n12_; clear hb hbox hg; have hnb90 := NB277_263.out; have hnc90 := NB263_277.out; have hnb91 := NB277_272.out; have hnc91 := NB272_277.out; have hcz92_0 : w89.cell? ⟨gb277, 0, none⟩ = some (.int .i64 0) := (blk_cell BK277.out 0).trans rfl; have hcz92_1 : w89.cell? ⟨gb277, 1, none⟩ = some (.slice none 0 0) := (blk_cell BK277.out 1).trans rfl; have hfz92_0 := blk_frozen BK277.out 0; have hfz92_1 := blk_frozen BK277.out 1; obtain ⟨Ao93, co93, eo93⟩ := Kd.R_slice HO276.out; subst eo93; have hcz94_0 : w89.cell? ⟨gb263, 0, none⟩ = some (.int .i64 t264) := (blk_cell BK263.out 0).trans rfl; have hcz94_1 : w89.cell? ⟨gb263, 1, none⟩ = some (.slice Ao82 t265.length co82) := (blk_cell BK263.out 1).trans rfl; have hfz94_0 := blk_frozen BK263.out 0; have hfz94_1 := blk_frozen BK263.out 1) | ((with_reducible refine gate_callee (f := 19) rfl ?_); refine goesL_ (some 17) rfl rfl Try.func19 (by kernel_rfl) rfl #[.agg #[.int .i64 t264, .slice Ao82 t265.length co82], .int .i64 a1] rfl zq5_18 ?_; (with_reducible refine (cenotaphref02_Add.calls k t264 _ _ t265 a1 t278 t279 _ ?side1 ?side2 A6.out).mono ?_); (case side1 => refine (Kd.R_reads' (e := 3) (base := w.heap.size) (ok := fun k_ => ((True ∧ some k_ ≠ (.slice Ao87 t269.length co87 : Value).ownBlock) ∧ some k_ ≠ (.slice Ao93 t274.length co93 : Value).ownBlock)) (n := t265.length) (c := co82) ?_).2.2; exact zq5_5); (case side2 => exact (Kd.R_reads' HO267.out).2.1); rintro e w95 ⟨v280, rfl, ho0, hb⟩; refine ⟨_, rfl, ?_⟩; have n0_ := Aside0.mk (Kd.R_elder' zq5_5 (Kd.R_base ho0) hb); have n1_ := Aside0.mk (Kd.R_elder' (by (with_reducible repeat (first | apply Kd.R_alloc | apply Kd.R_drewN | apply Kd.R_drew)); exact (Kd.R_mono (Kd.R_far (p := ⟨gb277, 1, none⟩) (Kd.R_far (p := ⟨gb277, 0, none⟩) (Kd.R_types HO271.out BK277.out (by decide)) (fun _ hk => hk.2) (.int .i64 t273)) (fun _ hk => hk.2) (.slice Ao93 t274.length co93)) (fun _ h_ => h_.1))) (Kd.R_base ho0) hb); have n2_ := Aside0.mk (Kd.R_elder' (by (with_reducible repeat (first | apply Kd.R_alloc | apply Kd.R_drewN | apply Kd.R_drew)); exact (Kd.R_mono (Kd.R_far (p := ⟨gb277, 1, none⟩) (Kd.R_far (p := ⟨gb277, 0, none⟩) (Kd.R_types HO276.out BK277.out (by decide)) (fun _ hk => hk.2) (.int .i64 t273)) (fun _ hk => hk.2) (.slice Ao93 t274.length co93)) (fun _ h_ => h_.1))) (Kd.R_base ho0) hb); have n3_ := Aside0.mk (Kd.R_lower (Kd.R_new' (Kd.R_new' (Kd.R_new' ho0 (Kd.R_lt zq5_5)) (Kd.R_lt (by (with_reducible repeat (first | apply Kd.R_alloc | apply Kd.R_drewN | apply Kd.R_drew)); exact (Kd.R_mono (Kd.R_far (p := ⟨gb277, 1, none⟩) (Kd.R_far (p := ⟨gb277, 0, none⟩) (Kd.R_types HO271.out BK277.out (by decide)) (fun _ hk => hk.2) (.int .i64 t273)) (fun _ hk => hk.2) (.slice Ao93 t274.length co93)) (fun _ h_ => h_.1))))) (Kd.R_lt (by (with_reducible repeat (first | apply Kd.R_alloc | apply Kd.R_drewN | apply Kd.R_drew)); exact (Kd.R_mono (Kd.R_far (p := ⟨gb277, 1, none⟩) (Kd.R_far (p := ⟨gb277, 0, none⟩) (Kd.R_types HO276.out BK277.out (by decide)) (fun _ hk => hk.2) (.int .i64 t273)) (fun _ hk => hk.2) (.slice Ao93 t274.length co93)) (fun _ h_ => h_.1))))) (below_size zq5_13)); have n4_ := Aside0.mk (blk_below (g := gb263) (o := .cells #[.int .i64 t264, .slice Ao82 t265.length co82] 30 (0, 0)) (by (with_reducible repeat (first | refine blk_drewN ?_ _ | refine blk_drew ?_ | refine blk_alloc ?_ _)); refine blk_far ?_ NB263_277.out _; (with_reducible repeat (first | refine blk_drewN ?_ _ | refine blk_drew ?_ | refine blk_alloc ?_ _)); refine blk_far ?_ NB263_277.out _; (with_reducible repeat (first | refine blk_drewN ?_ _ | refine blk_drew ?_ | refine blk_alloc ?_ _)); exact BK263.out) hb); have n5_ := Aside0.mk (blk_below (g := gb272) (o := .cells #[.int .i64 t268, .slice Ao87 t269.length co87] 24 (0, 0)) (by (with_reducible repeat (first | refine blk_drewN ?_ _ | refine blk_drew ?_ | refine blk_alloc ?_ _)); refine blk_far ?_ NB272_277.out _; (with_reducible repeat (first | refine blk_drewN ?_ _ | refine blk_drew ?_ | refine blk_alloc ?_ _)); refine blk_far ?_ NB272_277.out _; (with_reducible repeat (first | refine blk_drewN ?_ _ | refine blk_drew ?_ | refine blk_alloc ?_ _)); exact BK272.out) hb); have n6_ := Aside0.mk (blk_below (g := gb277) (o := .cells #[.int .i64 t273, .slice Ao93 t274.length co93] 24 (0, 0)) (by (with_reducible repeat (first | refine blk_drewN ?_ _ | refine blk_drew ?_ | refine blk_alloc ?_ _)); refine blk_put (cs := #[.int .i64 t273, .slice none 0 0]) ?_ 1 _ rfl; (with_reducible repeat (first | refine blk_drewN ?_ _ | refine blk_drew ?_ | refine blk_alloc ?_ _)); refine blk_put (cs := #[.int .i64 0, .slice none 0 0]) ?_ 0 _ rfl; (with_reducible repeat (first | refine blk_drewN ?_ _ | refine blk_drew ?_ | refine blk_alloc ?_ _)); exact BK277.out) hb); have n7_ := Aside0.mk (below_step zq5_13 hb); clear HO267; clear HO271; clear HO276; clear BK263; clear BK272; clear BK277; clear HB; have HO267 := n0_; have HO271 := n1_; have HO276 := n2_; have HO281 := n3_; have BK263 := n4_; have BK272 := n5_; have BK277 := n6_; have HB := n7_; clear n0_ n1_ n2_ n3_ n4_ n5_ n6_ n7_; (try clear hb); (try clear hb2); (try clear hk); (try clear hi); (try clear ho0)) | ((with_reducible refine gate_dst (N := 7) rfl ?_); refine box_event ?hg (N := 7) ?hd (cs := #[.int .i64 0, .slice none 0 0]) (t := 30) ?hr ?_; (case hd => rfl); (case hg => rfl); (case hr => first | (go_simp; done) | (go_simp; rfl)); intro gb282 hg w96 hbox hb; have n0_ := Aside0.mk (Kd.R_below zq5_23 hb); have n1_ := Aside0.mk (Kd.R_below zq5_24 hb); have n2_ := Aside0.mk (Kd.R_below zq5_25 hb); have n3_ := Aside0.mk (Kd.R_below zq5_26 hb); have n4_ := Aside0.mk (blk_below (g := gb263) (o := .cells #[.int .i64 t264, .slice Ao82 t265.length co82] 30 (0, 0)) zq5_19 hb); have n5_ := Aside0.mk (blk_below (g := gb272) (o := .cells #[.int .i64 t268, .slice Ao87 t269.length co87] 24 (0, 0)) zq5_20 hb); have n6_ := Aside0.mk (blk_below (g := gb277) (o := .cells #[.int .i64 t273, .slice Ao93 t274.length co93] 24 (0, 0)) zq5_21 hb); have n7_ := Aside0.mk (below_step zq5_13 hb); have n8_ := Aside0.mk (hbox); have n9_ := Aside0.mk ((zq5_6 : w.heap.size ≤ gb282)); have n10_ := Aside0.mk ((zq5_6 : w.heap.size ≤ gb282)); have n11_ := Aside0.mk ((zq5_10 : gb263 ≠ gb282)); have n12_ := Aside0.mk ((zq5_11 : gb282 ≠ gb263)); have n13_ := Aside0.mk (((by rw [hg]; exact Nat.ne_of_lt (blk_lt (g := gb272) (o := .cells #[.int .i64 t268, .slice Ao87 t269.length co87] 24 (0, 0)) zq5_20)) : gb272 ≠ gb282)); have n14_ := Aside0.mk (((by rw [hg]; exact Nat.ne_of_gt (blk_lt (g := gb272) (o := .cells #[.int .i64 t268, .slice Ao87 t269.length co87] 24 (0, 0)) zq5_20)) : gb282 ≠ gb272)); have n15_ := Aside0.mk (((by rw [hg]; exact Nat.ne_of_lt (blk_lt (g := gb277) (o := .cells #[.int .i64 t273, .slice Ao93 t274.length co93] 24 (0, 0)) zq5_21)) : gb277 ≠ gb282)); have n16_ := Aside0.mk (((by rw [hg]; exact Nat.ne_of_gt (blk_lt (g := gb277) (o := .cells #[.int .i64 t273, .slice Ao93 t274.length co93] 24 (0, 0)) zq5_21)) : gb282 ≠ gb277)); clear HO267; clear HO271; clear HO276; clear HO281; clear BK263; clear BK272; clear BK277; clear HB; have HO267 := n0_; have HO271 := n1_; have HO276 := n2_; have HO281 := n3_; have BK263 := n4_; have BK272 := n5_; have BK277 := n6_; have HB := n7_; have BK282 := n8_; have GW282 := n9_; have GE282 := n10_; have NB263_282 := n11_; have NB282_263 := n12_; have NB272_282 := n13_; have NB282_272 := n14_; have NB277_282 := n15_; have NB282_277 := n16_; clear n0_ n1_ n2_ n3_ n4_ n5_ n6_ n7_ n8_ n9_ n10_ n11_ n12_ n13_ n14_ n15_ n16_; clear hb hbox hg; have hnb97 := NB282_263.out; have hnc97 := NB263_282.out; have hnb98 := NB282_272.out; have hnc98 := NB272_282.out; have hnb99 := NB282_277.out; have hnc99 := NB277_282.out; have hcz100_0 : w96.cell? ⟨gb282, 0, none⟩ = some (.int .i64 0) := (blk_cell BK282.out 0).trans rfl; have hcz100_1 : w96.cell? ⟨gb282, 1, none⟩ = some (.slice none 0 0) := (blk_cell BK282.out 1).trans rfl; have hfz100_0 := blk_frozen BK282.out 0; have hfz100_1 := blk_frozen BK282.out 1; obtain ⟨Ao101, co101, eo101⟩ := Kd.R_slice HO281.out; subst eo101))
         have n0_ : Aside0 (Kd.R (Kd.int .i64) 3 ((w96.setCell ⟨gb282, 0, none⟩ (.int .i64 t278)).setCell ⟨gb282, 1, none⟩ (.slice Ao101 t279.length co101)) w.heap.size (fun k_ => some k_ ≠ (.slice Ao87 t269.length co87 : Value).ownBlock ∧ some k_ ≠ (.slice Ao93 t274.length co93 : Value).ownBlock ∧ some k_ ≠ (.slice Ao101 t279.length co101 : Value).ownBlock) (.slice Ao82 t265.length co82) t265) := ⟨by (with_reducible repeat (first | apply Kd.R_alloc | apply Kd.R_drewN | apply Kd.R_drew)); exact Kd.R_mono (Kd.R_far (p := ⟨gb282, 1, none⟩) (Kd.R_far (p := ⟨gb282, 0, none⟩) (Kd.R_types HO267.out BK282.out (by decide)) (fun _ hk => hk.2) (.int .i64 t278)) (fun _ hk => hk.2) (.slice Ao101 t279.length co101)) (fun _ hk => ⟨hk.1.1.1.2, ⟨hk.1.1.2, hk.1.2⟩⟩)⟩
         have n1_ : Aside0 (Kd.R (Kd.int .i64) 3 ((w96.setCell ⟨gb282, 0, none⟩ (.int .i64 t278)).setCell ⟨gb282, 1, none⟩ (.slice Ao101 t279.length co101)) w.heap.size (fun k_ => some k_ ≠ (.slice Ao82 t265.length co82 : Value).ownBlock ∧ some k_ ≠ (.slice Ao93 t274.length co93 : Value).ownBlock ∧ some k_ ≠ (.slice Ao101 t279.length co101 : Value).ownBlock) (.slice Ao87 t269.length co87) t269) := ⟨by (with_reducible repeat (first | apply Kd.R_alloc | apply Kd.R_drewN | apply Kd.R_drew)); exact Kd.R_mono (Kd.R_far (p := ⟨gb282, 1, none⟩) (Kd.R_far (p := ⟨gb282, 0, none⟩) (Kd.R_types HO271.out BK282.out (by decide)) (fun _ hk => hk.2) (.int .i64 t278)) (fun _ hk => hk.2) (.slice Ao101 t279.length co101)) (fun _ hk => ⟨hk.1.1.1.2, ⟨hk.1.1.2, hk.1.2⟩⟩)⟩
         have n2_ : Aside0 (Kd.R (Kd.int .i64) 3 ((w96.setCell ⟨gb282, 0, none⟩ (.int .i64 t278)).setCell ⟨gb282, 1, none⟩ (.slice Ao101 t279.length co101)) w.heap.size (fun k_ => some k_ ≠ (.slice Ao82 t265.length co82 : Value).ownBlock ∧ some k_ ≠ (.slice Ao87 t269.length co87 : Value).ownBlock ∧ some k_ ≠ (.slice Ao101 t279.length co101 : Value).ownBlock) (.slice Ao93 t274.length co93) t274) := ⟨by (with_reducible repeat (first | apply Kd.R_alloc | apply Kd.R_drewN | apply Kd.R_drew)); exact Kd.R_mono (Kd.R_far (p := ⟨gb282, 1, none⟩) (Kd.R_far (p := ⟨gb282, 0, none⟩) (Kd.R_types HO276.out BK282.out (by decide)) (fun _ hk => hk.2) (.int .i64 t278)) (fun _ hk => hk.2) (.slice Ao101 t279.length co101)) (fun _ hk => ⟨hk.1.1.1.2, ⟨hk.1.1.2, hk.1.2⟩⟩)⟩
         have n3_ : Aside0 (Kd.R (Kd.int .i64) 3 ((w96.setCell ⟨gb282, 0, none⟩ (.int .i64 t278)).setCell ⟨gb282, 1, none⟩ (.slice Ao101 t279.length co101)) w.heap.size (fun k_ => some k_ ≠ (.slice Ao82 t265.length co82 : Value).ownBlock ∧ some k_ ≠ (.slice Ao87 t269.length co87 : Value).ownBlock ∧ some k_ ≠ (.slice Ao93 t274.length co93 : Value).ownBlock) (.slice Ao101 t279.length co101) t279) := ⟨by (with_reducible repeat (first | apply Kd.R_alloc | apply Kd.R_drewN | apply Kd.R_drew)); exact Kd.R_mono (Kd.R_far (p := ⟨gb282, 1, none⟩) (Kd.R_far (p := ⟨gb282, 0, none⟩) (Kd.R_types HO281.out BK282.out (by decide)) (fun _ hk => hk.2) (.int .i64 t278)) (fun _ hk => hk.2) (.slice Ao101 t279.length co101)) (fun _ hk => ⟨hk.1.1.1.2, ⟨hk.1.1.2, hk.1.2⟩⟩)⟩
         have n4_ : Aside0 (((w96.setCell ⟨gb282, 0, none⟩ (.int .i64 t278)).setCell ⟨gb282, 1, none⟩ (.slice Ao101 t279.length co101)).heap[gb263]? = some (.cells #[.int .i64 t264, .slice Ao82 t265.length co82] 30 (0, 0))) := ⟨by (with_reducible repeat (first | refine blk_drewN ?_ _ | refine blk_drew ?_ | refine blk_alloc ?_ _)); refine blk_far ?_ NB263_282.out _; (with_reducible repeat (first | refine blk_drewN ?_ _ | refine blk_drew ?_ | refine blk_alloc ?_ _)); refine blk_far ?_ NB263_282.out _; (with_reducible repeat (first | refine blk_drewN ?_ _ | refine blk_drew ?_ | refine blk_alloc ?_ _)); exact BK263.out⟩
         have n5_ : Aside0 (((w96.setCell ⟨gb282, 0, none⟩ (.int .i64 t278)).setCell ⟨gb282, 1, none⟩ (.slice Ao101 t279.length co101)).heap[gb272]? = some (.cells #[.int .i64 t268, .slice Ao87 t269.length co87] 24 (0, 0))) := ⟨by (with_reducible repeat (first | refine blk_drewN ?_ _ | refine blk_drew ?_ | refine blk_alloc ?_ _)); refine blk_far ?_ NB272_282.out _; (with_reducible repeat (first | refine blk_drewN ?_ _ | refine blk_drew ?_ | refine blk_alloc ?_ _)); refine blk_far ?_ NB272_282.out _; (with_reducible repeat (first | refine blk_drewN ?_ _ | refine blk_drew ?_ | refine blk_alloc ?_ _)); exact BK272.out⟩
         have n6_ : Aside0 (((w96.setCell ⟨gb282, 0, none⟩ (.int .i64 t278)).setCell ⟨gb282, 1, none⟩ (.slice Ao101 t279.length co101)).heap[gb277]? = some (.cells #[.int .i64 t273, .slice Ao93 t274.length co93] 24 (0, 0))) := ⟨by (with_reducible repeat (first | refine blk_drewN ?_ _ | refine blk_drew ?_ | refine blk_alloc ?_ _)); refine blk_far ?_ NB277_282.out _; (with_reducible repeat (first | refine blk_drewN ?_ _ | refine blk_drew ?_ | refine blk_alloc ?_ _)); refine blk_far ?_ NB277_282.out _; (with_reducible repeat (first | refine blk_drewN ?_ _ | refine blk_drew ?_ | refine blk_alloc ?_ _)); exact BK277.out⟩
         have n7_ : Aside0 (((w96.setCell ⟨gb282, 0, none⟩ (.int .i64 t278)).setCell ⟨gb282, 1, none⟩ (.slice Ao101 t279.length co101)).heap[gb282]? = some (.cells #[.int .i64 t278, .slice Ao101 t279.length co101] 30 (0, 0))) := ⟨by (with_reducible repeat (first | refine blk_drewN ?_ _ | refine blk_drew ?_ | refine blk_alloc ?_ _)); refine blk_put (cs := #[.int .i64 t278, .slice none 0 0]) ?_ 1 _ rfl; (with_reducible repeat (first | refine blk_drewN ?_ _ | refine blk_drew ?_ | refine blk_alloc ?_ _)); refine blk_put (cs := #[.int .i64 0, .slice none 0 0]) ?_ 0 _ rfl; (with_reducible repeat (first | refine blk_drewN ?_ _ | refine blk_drew ?_ | refine blk_alloc ?_ _)); exact BK282.out⟩
         have n8_ : Aside0 (Below w.heap.size w ((w96.setCell ⟨gb282, 0, none⟩ (.int .i64 t278)).setCell ⟨gb282, 1, none⟩ (.slice Ao101 t279.length co101))) := ⟨by repeat (first | (with_reducible first | exact HB.out | apply below_alloc | apply pw_below_drewN | apply below_drew1 | refine below_set ?_ GE263.out | refine below_set ?_ GE272.out | refine below_set ?_ GE277.out | refine below_set ?_ GE282.out) | exact HB.out)⟩
         (try clear HO267)
         (try clear HO271)
         (try clear HO276)
         (try clear HO281)
         (try clear BK263)
         (try clear BK272)
         (try clear BK277)
         (try clear BK282)
         (try clear HB)
         generalize ((w96.setCell ⟨gb282, 0, none⟩ (.int .i64 t278)).setCell ⟨gb282, 1, none⟩ (.slice Ao101 t279.length co101)) = w102 at n0_ n1_ n2_ n3_ n4_ n5_ n6_ n7_ n8_ ⊢
         have HO267 := n0_
         have HO271 := n1_
         have HO276 := n2_
         have HO281 := n3_
         have BK263 := n4_
         have BK272 := n5_
         have BK277 := n6_
         have BK282 := n7_
         have HB := n8_
         clear n0_ n1_ n2_ n3_ n4_ n5_ n6_ n7_ n8_
         replace HO267 := Aside0.mk (Kd.R_drew HO267.out)
         replace HO271 := Aside0.mk (Kd.R_drew HO271.out)
         replace HO276 := Aside0.mk (Kd.R_drew HO276.out)
         replace HO281 := Aside0.mk (Kd.R_drew HO281.out)
         replace BK263 := Aside0.mk (blk_drew BK263.out)
         replace BK272 := Aside0.mk (blk_drew BK272.out)
         replace BK277 := Aside0.mk (blk_drew BK277.out)
         replace BK282 := Aside0.mk (blk_drew BK282.out)
         replace HB := Aside0.mk (below_drew1 HB.out)
         refine start_ (n := 53) (S := fun w' => w'.cell? ⟨gb277, 0, none⟩ = some (.int .i64 t273) ∧ w'.cell? ⟨gb277, 1, none⟩ = some (.slice Ao93 t274.length co93) ∧ w'.cell? ⟨gb282, 0, none⟩ = some (.int .i64 t278) ∧ w'.cell? ⟨gb282, 1, none⟩ = some (.slice Ao101 t279.length co101) ∧ w'.cell? ⟨gb272, 0, none⟩ = some (.int .i64 t268) ∧ w'.cell? ⟨gb272, 1, none⟩ = some (.slice Ao87 t269.length co87) ∧ w'.cell? ⟨gb263, 0, none⟩ = some (.int .i64 t264) ∧ w'.cell? ⟨gb263, 1, none⟩ = some (.slice Ao82 t265.length co82)) (ds := []) #[bF5, bF5, bF5, bF5, bF5, bF5, bF5, bF5, bF5, bF5, bF5, bF5, bF5, bF5, bF5, bF5, bF5, bF5, bF5, bF5, bF5, bF5, bF5, bF5, bF5, bF5, bF5, bF5, bF5, bF5, bF5, bF5, bF5, bF5, bF5, bF5, bF5, bF5, bF5, bF5, bF5, bF5, bF5, bF5, bF5, bF5, bF5, bF5, bF5, bF5, bF5, bF5, bF5] (by kernel_rfl) rfl rfl ⟨(blk_cell BK277.out 0).trans rfl, (blk_cell BK277.out 1).trans rfl, (blk_cell BK282.out 0).trans rfl, (blk_cell BK282.out 1).trans rfl, (blk_cell BK272.out 0).trans rfl, (blk_cell BK272.out 1).trans rfl, (blk_cell BK263.out 0).trans rfl, (blk_cell BK263.out 1).trans rfl⟩ (fun hHeld => ?_); refine with_tabW cenotaphlaw02_SpanAdds.tab5 cenotaphlaw02_SpanAdds.bits5 (fun HT_ HW_ => ?_)
         generalize w102.drew = w103 at HO267 HO271 HO276 HO281 BK263 BK272 BK277 BK282 HB hHeld ⊢
         refine one_ (i := 0) (N := some 18) #[bT5, bF5, bF5, bF5, bF5, bF5, bF5, bF5, bF5, bF5, bF5, bF5, bF5, bF5, bF5, bF5, bF5, bF5, bF5, bF5, bF5, bF5, bF5, bF5, bF5, bF5, bF5, bF5, bF5, bF5, bF5, bF5, bF5, bF5, bF5, bF5, bF5, bF5, bF5, bF5, bF5, bF5, bF5, bF5, bF5, bF5, bF5, bF5, bF5, bF5, bF5, bF5, bF5] rfl rfl (one_of HT_.out (by kernel_rfl)) (by decide) (fun K hK => ?_)
         refine goes_ Try.func11 (by kernel_rfl) rfl #[] (by rfl) rfl rfl zq5_18 ?_
         with_reducible refine (cenotaphlaw02_told.calls k  true _ A7.out).mono ?_
         rintro e w104 ⟨rfl, hb⟩
         refine ⟨_, rfl, ?_⟩
         replace HO267 := Aside0.mk (Kd.R_below zq5_23 hb)
         replace HO271 := Aside0.mk (Kd.R_below zq5_24 hb)
         replace HO276 := Aside0.mk (Kd.R_below zq5_25 hb)
         replace HO281 := Aside0.mk (Kd.R_below zq5_26 hb)
         replace BK263 := Aside0.mk (blk_below (g := gb263) (o := .cells #[.int .i64 t264, .slice Ao82 t265.length co82] 30 (0, 0)) zq5_19 hb)
         replace BK272 := Aside0.mk (blk_below (g := gb272) (o := .cells #[.int .i64 t268, .slice Ao87 t269.length co87] 24 (0, 0)) zq5_20 hb)
         replace BK277 := Aside0.mk (blk_below (g := gb277) (o := .cells #[.int .i64 t273, .slice Ao93 t274.length co93] 24 (0, 0)) zq5_21 hb)
         replace BK282 := Aside0.mk (blk_below (g := gb282) (o := .cells #[.int .i64 t278, .slice Ao101 t279.length co101] 30 (0, 0)) zq5_22 hb)
         replace HB := Aside0.mk (below_step zq5_7 hb)
         (try clear hb)
         (try clear hb2)
         (try clear hk)
         (try clear hi)
         refine hK.out _ _ ⟨(blk_cell BK277.out 0).trans rfl, (blk_cell BK277.out 1).trans rfl, (blk_cell BK282.out 0).trans rfl, (blk_cell BK282.out 1).trans rfl, (blk_cell BK272.out 0).trans rfl, (blk_cell BK272.out 1).trans rfl, (blk_cell BK263.out 0).trans rfl, (blk_cell BK263.out 1).trans rfl⟩ (fun hHeld => ?_)
         clear hK K
         refine norm_ (a' := ?_) ?_ ?_
         rotate_left
         ·show Act.put _ (some 18) _ = _
          simp only [Act.put, List.setIfInBounds_toArray, List.set_cons_zero, List.set_cons_succ, i64_w, i32_w]
          rfl
         refine pure_ (i := 1) (N := some 19) (v := ?_) (a' := ?_) #[bT5, bT5, bF5, bF5, bF5, bF5, bF5, bF5, bF5, bF5, bF5, bF5, bF5, bF5, bF5, bF5, bF5, bF5, bF5, bF5, bF5, bF5, bF5, bF5, bF5, bF5, bF5, bF5, bF5, bF5, bF5, bF5, bF5, bF5, bF5, bF5, bF5, bF5, bF5, bF5, bF5, bF5, bF5, bF5, bF5, bF5, bF5, bF5, bF5, bF5, bF5, bF5, bF5] rfl rfl (any_of HT_.out (by kernel_rfl)) (fun _ _ _ h => h) (Or.inl ⟨by rfl, ?_⟩) ?_ ?_
         rotate_left
         ·intro w'
          go_simp
          with_reducible rfl
         rotate_left
         ·simp only [Act.put, List.setIfInBounds_toArray, List.set_cons_zero, List.set_cons_succ, i64_w, i32_w]
          rfl
         refine take_ (i := 2) (N := some 20) (v := ?_) (a' := ?_) #[bT5, bT5, bT5, bF5, bF5, bF5, bF5, bF5, bF5, bF5, bF5, bF5, bF5, bF5, bF5, bF5, bF5, bF5, bF5, bF5, bF5, bF5, bF5, bF5, bF5, bF5, bF5, bF5, bF5, bF5, bF5, bF5, bF5, bF5, bF5, bF5, bF5, bF5, bF5, bF5, bF5, bF5, bF5, bF5, bF5, bF5, bF5, bF5, bF5, bF5, bF5, bF5, bF5] rfl rfl (take_ofW HT_.out HW_.out (by kernel_rfl)) (fun _ _ _ h => h) (Or.inl ⟨by rfl, ?_⟩) hHeld ?_ ?_
         rotate_left
         ·rintro w' ⟨s0, s1, s2, s3, s4, s5, s6, s7⟩
          go_simp
          with_reducible rfl
         rotate_left
         ·simp only [Act.put, List.setIfInBounds_toArray, List.set_cons_zero, List.set_cons_succ, i64_w, i32_w]
          rfl
         refine take_ (i := 4) (N := some 22) (v := ?_) (a' := ?_) #[bT5, bT5, bT5, bF5, bT5, bF5, bF5, bF5, bF5, bF5, bF5, bF5, bF5, bF5, bF5, bF5, bF5, bF5, bF5, bF5, bF5, bF5, bF5, bF5, bF5, bF5, bF5, bF5, bF5, bF5, bF5, bF5, bF5, bF5, bF5, bF5, bF5, bF5, bF5, bF5, bF5, bF5, bF5, bF5, bF5, bF5, bF5, bF5, bF5, bF5, bF5, bF5, bF5] rfl rfl (take_ofW HT_.out HW_.out (by kernel_rfl)) (fun _ _ _ h => h) (Or.inl ⟨by rfl, ?_⟩) hHeld ?_ ?_
         rotate_left
         ·rintro w' ⟨s0, s1, s2, s3, s4, s5, s6, s7⟩
          go_simp
          with_reducible rfl
         rotate_left
         ·simp only [Act.put, List.setIfInBounds_toArray, List.set_cons_zero, List.set_cons_succ, i64_w, i32_w]
          rfl
         refine one_ (i := 3) (N := some 21) #[bT5, bT5, bT5, bT5, bT5, bF5, bF5, bF5, bF5, bF5, bF5, bF5, bF5, bF5, bF5, bF5, bF5, bF5, bF5, bF5, bF5, bF5, bF5, bF5, bF5, bF5, bF5, bF5, bF5, bF5, bF5, bF5, bF5, bF5, bF5, bF5, bF5, bF5, bF5, bF5, bF5, bF5, bF5, bF5, bF5, bF5, bF5, bF5, bF5, bF5, bF5, bF5, bF5] rfl rfl (one_of HT_.out (by kernel_rfl)) (by decide) (fun K hK => ?_)
         refine goes_ Try.func21 (by kernel_rfl) rfl #[.agg #[.int .i64 t273, .slice Ao93 t274.length co93]] (by rfl) rfl rfl zq5_18 ?_
         with_reducible refine (cenotaphlaw02_From.calls t273 _ _ t274 t284 t285 _ ?side1 ?side2 A9.out).mono ?_
         (case side1 => repeat (first | exact (Kd.R_reads' HO276.out).2.2 | (with_reducible refine Kd.C_alloc ?_ _) | (with_reducible refine Kd.C_drewN ?_ _) | (with_reducible refine Kd.C_drew ?_)))
         (case side2 => exact (Kd.R_reads' HO276.out).2.1)
         rintro e w105 ⟨v286, rfl, ho0, hb⟩
         refine ⟨_, rfl, ?_⟩
         have HO287 := Aside0.mk (Kd.R_lower (Kd.R_new' (Kd.R_new' (Kd.R_new' (Kd.R_new' ho0 (Kd.R_lt zq5_23)) (Kd.R_lt zq5_24)) (Kd.R_lt zq5_25)) (Kd.R_lt zq5_26)) (below_size zq5_7))
         replace HO267 := Aside0.mk (Kd.R_elder' zq5_23 (Kd.R_base ho0) hb)
         replace HO271 := Aside0.mk (Kd.R_elder' zq5_24 (Kd.R_base ho0) hb)
         replace HO276 := Aside0.mk (Kd.R_elder' zq5_25 (Kd.R_base ho0) hb)
         replace HO281 := Aside0.mk (Kd.R_elder' zq5_26 (Kd.R_base ho0) hb)
         replace BK263 := Aside0.mk (blk_below (g := gb263) (o := .cells #[.int .i64 t264, .slice Ao82 t265.length co82] 30 (0, 0)) zq5_19 hb)
         replace BK272 := Aside0.mk (blk_below (g := gb272) (o := .cells #[.int .i64 t268, .slice Ao87 t269.length co87] 24 (0, 0)) zq5_20 hb)
         replace BK277 := Aside0.mk (blk_below (g := gb277) (o := .cells #[.int .i64 t273, .slice Ao93 t274.length co93] 24 (0, 0)) zq5_21 hb)
         replace BK282 := Aside0.mk (blk_below (g := gb282) (o := .cells #[.int .i64 t278, .slice Ao101 t279.length co101] 30 (0, 0)) zq5_22 hb)
         replace HB := Aside0.mk (below_step zq5_7 hb)
         (try clear hb)
         (try clear hb2)
         (try clear hk)
         (try clear hi)
         (try clear ho0)
         obtain ⟨Ao106, co106, eo106⟩ := Kd.R_slice HO287.out
         (first | subst eo106 | (injection eo106 with f1_ f2_ f3_; have f4_ := f1_.symm; have f5_ := f3_.symm; clear f1_ f2_ f3_; subst f4_; subst f5_))
         refine hK.out _ _ ⟨(blk_cell BK277.out 0).trans rfl, (blk_cell BK277.out 1).trans rfl, (blk_cell BK282.out 0).trans rfl, (blk_cell BK282.out 1).trans rfl, (blk_cell BK272.out 0).trans rfl, (blk_cell BK272.out 1).trans rfl, (blk_cell BK263.out 0).trans rfl, (blk_cell BK263.out 1).trans rfl⟩ (fun hHeld => ?_)
         clear hK K
         refine norm_ (a' := ?_) ?_ ?_
         rotate_left
         ·show Act.put _ (some 21) _ = _
          simp only [Act.put, List.setIfInBounds_toArray, List.set_cons_zero, List.set_cons_succ, i64_w, i32_w]
          rfl
         refine one_ (i := 5) (N := some 23) #[bT5, bT5, bT5, bT5, bT5, bT5, bF5, bF5, bF5, bF5, bF5, bF5, bF5, bF5, bF5, bF5, bF5, bF5, bF5, bF5, bF5, bF5, bF5, bF5, bF5, bF5, bF5, bF5, bF5, bF5, bF5, bF5, bF5, bF5, bF5, bF5, bF5, bF5, bF5, bF5, bF5, bF5, bF5, bF5, bF5, bF5, bF5, bF5, bF5, bF5, bF5, bF5, bF5] rfl rfl (one_of HT_.out (by kernel_rfl)) (by decide) (fun K hK => ?_)
         refine goes_ Try.func20 (by kernel_rfl) rfl #[.agg #[.int .i64 t284, .slice Ao106 t285.length co106], .agg #[.int .i64 t278, .slice Ao101 t279.length co101]] (by rfl) rfl rfl zq5_18 ?_
         with_reducible refine (cenotaphref02_Same.calls k t284 _ _ t285 t278 _ _ t279 true _ ?side1 ?side2 ?side3 ?side4 A10.out).mono ?_
         (case side1 => repeat (first | exact (Kd.R_reads' HO287.out).2.2 | (with_reducible refine Kd.C_alloc ?_ _) | (with_reducible refine Kd.C_drewN ?_ _) | (with_reducible refine Kd.C_drew ?_)))
         (case side2 => exact (Kd.R_reads' HO287.out).2.1)
         (case side3 => repeat (first | exact (Kd.R_reads' HO281.out).2.2 | (with_reducible refine Kd.C_alloc ?_ _) | (with_reducible refine Kd.C_drewN ?_ _) | (with_reducible refine Kd.C_drew ?_)))
         (case side4 => exact (Kd.R_reads' HO281.out).2.1)
         rintro e w107 ⟨rfl, hb⟩
         refine ⟨_, rfl, ?_⟩
         replace HO267 := Aside0.mk (Kd.R_below zq5_23 hb)
         replace HO271 := Aside0.mk (Kd.R_below zq5_24 hb)
         replace HO276 := Aside0.mk (Kd.R_below zq5_25 hb)
         replace HO281 := Aside0.mk (Kd.R_below zq5_26 hb)
         replace HO287 := Aside0.mk (Kd.R_below zq5_27 hb)
         replace BK263 := Aside0.mk (blk_below (g := gb263) (o := .cells #[.int .i64 t264, .slice Ao82 t265.length co82] 30 (0, 0)) zq5_19 hb)
         replace BK272 := Aside0.mk (blk_below (g := gb272) (o := .cells #[.int .i64 t268, .slice Ao87 t269.length co87] 24 (0, 0)) zq5_20 hb)
         replace BK277 := Aside0.mk (blk_below (g := gb277) (o := .cells #[.int .i64 t273, .slice Ao93 t274.length co93] 24 (0, 0)) zq5_21 hb)
         replace BK282 := Aside0.mk (blk_below (g := gb282) (o := .cells #[.int .i64 t278, .slice Ao101 t279.length co101] 30 (0, 0)) zq5_22 hb)
         replace HB := Aside0.mk (below_step zq5_7 hb)
         (try clear hb)
         (try clear hb2)
         (try clear hk)
         (try clear hi)
         refine hK.out _ _ ⟨(blk_cell BK277.out 0).trans rfl, (blk_cell BK277.out 1).trans rfl, (blk_cell BK282.out 0).trans rfl, (blk_cell BK282.out 1).trans rfl, (blk_cell BK272.out 0).trans rfl, (blk_cell BK272.out 1).trans rfl, (blk_cell BK263.out 0).trans rfl, (blk_cell BK263.out 1).trans rfl⟩ (fun hHeld => ?_)
         clear hK K
         refine norm_ (a' := ?_) ?_ ?_
         rotate_left
         ·show Act.put _ (some 23) _ = _
          simp only [Act.put, List.setIfInBounds_toArray, List.set_cons_zero, List.set_cons_succ, i64_w, i32_w]
          rfl
         refine pure_ (i := 6) (N := some 24) (v := ?_) (a' := ?_) #[bT5, bT5, bT5, bT5, bT5, bT5, bT5, bF5, bF5, bF5, bF5, bF5, bF5, bF5, bF5, bF5, bF5, bF5, bF5, bF5, bF5, bF5, bF5, bF5, bF5, bF5, bF5, bF5, bF5, bF5, bF5, bF5, bF5, bF5, bF5, bF5, bF5, bF5, bF5, bF5, bF5, bF5, bF5, bF5, bF5, bF5, bF5, bF5, bF5, bF5, bF5, bF5, bF5] rfl rfl (any_of HT_.out (by kernel_rfl)) (fun _ _ _ h => h) (Or.inl ⟨by rfl, ?_⟩) ?_ ?_
         rotate_left
         ·intro w'
          go_simp
          with_reducible rfl
         rotate_left
         ·simp only [Act.put, List.setIfInBounds_toArray, List.set_cons_zero, List.set_cons_succ, i64_w, i32_w]
          rfl
         refine pure_ (i := 7) (N := some 25) (v := ?_) (a' := ?_) #[bT5, bT5, bT5, bT5, bT5, bT5, bT5, bT5, bF5, bF5, bF5, bF5, bF5, bF5, bF5, bF5, bF5, bF5, bF5, bF5, bF5, bF5, bF5, bF5, bF5, bF5, bF5, bF5, bF5, bF5, bF5, bF5, bF5, bF5, bF5, bF5, bF5, bF5, bF5, bF5, bF5, bF5, bF5, bF5, bF5, bF5, bF5, bF5, bF5, bF5, bF5, bF5, bF5] rfl rfl (any_of HT_.out (by kernel_rfl)) (fun _ _ _ h => h) (Or.inl ⟨by rfl, ?_⟩) ?_ ?_
         rotate_left
         ·intro w'
          go_simp
          with_reducible rfl
         rotate_left
         ·simp only [Act.put, List.setIfInBounds_toArray, List.set_cons_zero, List.set_cons_succ, i64_w, i32_w]
          rfl
         refine take_ (i := 8) (N := some 26) (v := ?_) (a' := ?_) #[bT5, bT5, bT5, bT5, bT5, bT5, bT5, bT5, bT5, bF5, bF5, bF5, bF5, bF5, bF5, bF5, bF5, bF5, bF5, bF5, bF5, bF5, bF5, bF5, bF5, bF5, bF5, bF5, bF5, bF5, bF5, bF5, bF5, bF5, bF5, bF5, bF5, bF5, bF5, bF5, bF5, bF5, bF5, bF5, bF5, bF5, bF5, bF5, bF5, bF5, bF5, bF5, bF5] rfl rfl (take_ofW HT_.out HW_.out (by kernel_rfl)) (fun _ _ _ h => h) (Or.inl ⟨by rfl, ?_⟩) hHeld ?_ ?_
         rotate_left
         ·rintro w' ⟨s0, s1, s2, s3, s4, s5, s6, s7⟩
          go_simp
          with_reducible rfl
         rotate_left
         ·simp only [Act.put, List.setIfInBounds_toArray, List.set_cons_zero, List.set_cons_succ, i64_w, i32_w]
          rfl
         refine one_ (i := 9) (N := some 27) #[bT5, bT5, bT5, bT5, bT5, bT5, bT5, bT5, bT5, bT5, bF5, bF5, bF5, bF5, bF5, bF5, bF5, bF5, bF5, bF5, bF5, bF5, bF5, bF5, bF5, bF5, bF5, bF5, bF5, bF5, bF5, bF5, bF5, bF5, bF5, bF5, bF5, bF5, bF5, bF5, bF5, bF5, bF5, bF5, bF5, bF5, bF5, bF5, bF5, bF5, bF5, bF5, bF5] rfl rfl (one_of HT_.out (by kernel_rfl)) (by decide) (fun K hK => ?_)
         refine goes_ Try.func14 (by kernel_rfl) rfl #[.agg #[.int .i64 t273, .slice Ao93 t274.length co93]] (by rfl) rfl rfl zq5_18 ?_
         with_reducible refine (span_Right.calls k t273 _ _ t274 true _ ?side1 ?side2 A12.out).mono ?_
         (case side1 => repeat (first | exact (Kd.R_reads' HO276.out).2.2 | (with_reducible refine Kd.C_alloc ?_ _) | (with_reducible refine Kd.C_drewN ?_ _) | (with_reducible refine Kd.C_drew ?_)))
         (case side2 => exact (Kd.R_reads' HO276.out).2.1)
         rintro e w108 ⟨rfl, hb⟩
         refine ⟨_, rfl, ?_⟩
         replace HO267 := Aside0.mk (Kd.R_below zq5_23 hb)
         replace HO271 := Aside0.mk (Kd.R_below zq5_24 hb)
         replace HO276 := Aside0.mk (Kd.R_below zq5_25 hb)
         replace HO281 := Aside0.mk (Kd.R_below zq5_26 hb)
         replace HO287 := Aside0.mk (Kd.R_below zq5_27 hb)
         replace BK263 := Aside0.mk (blk_below (g := gb263) (o := .cells #[.int .i64 t264, .slice Ao82 t265.length co82] 30 (0, 0)) zq5_19 hb)
         replace BK272 := Aside0.mk (blk_below (g := gb272) (o := .cells #[.int .i64 t268, .slice Ao87 t269.length co87] 24 (0, 0)) zq5_20 hb)
         replace BK277 := Aside0.mk (blk_below (g := gb277) (o := .cells #[.int .i64 t273, .slice Ao93 t274.length co93] 24 (0, 0)) zq5_21 hb)
         replace BK282 := Aside0.mk (blk_below (g := gb282) (o := .cells #[.int .i64 t278, .slice Ao101 t279.length co101] 30 (0, 0)) zq5_22 hb)
         replace HB := Aside0.mk (below_step zq5_7 hb)
         (try clear hb)
         (try clear hb2)
         (try clear hk)
         (try clear hi)
         refine hK.out _ _ ⟨(blk_cell BK277.out 0).trans rfl, (blk_cell BK277.out 1).trans rfl, (blk_cell BK282.out 0).trans rfl, (blk_cell BK282.out 1).trans rfl, (blk_cell BK272.out 0).trans rfl, (blk_cell BK272.out 1).trans rfl, (blk_cell BK263.out 0).trans rfl, (blk_cell BK263.out 1).trans rfl⟩ (fun hHeld => ?_)
         clear hK K
         refine norm_ (a' := ?_) ?_ ?_
         rotate_left
         ·show Act.put _ (some 27) _ = _
          simp only [Act.put, List.setIfInBounds_toArray, List.set_cons_zero, List.set_cons_succ, i64_w, i32_w]
          rfl
         refine pure_ (i := 10) (N := some 28) (v := ?_) (a' := ?_) #[bT5, bT5, bT5, bT5, bT5, bT5, bT5, bT5, bT5, bT5, bT5, bF5, bF5, bF5, bF5, bF5, bF5, bF5, bF5, bF5, bF5, bF5, bF5, bF5, bF5, bF5, bF5, bF5, bF5, bF5, bF5, bF5, bF5, bF5, bF5, bF5, bF5, bF5, bF5, bF5, bF5, bF5, bF5, bF5, bF5, bF5, bF5, bF5, bF5, bF5, bF5, bF5, bF5] rfl rfl (any_of HT_.out (by kernel_rfl)) (fun _ _ _ h => h) (Or.inl ⟨by rfl, ?_⟩) ?_ ?_
         rotate_left
         ·intro w'
          go_simp
          with_reducible rfl
         rotate_left
         ·simp only [Act.put, List.setIfInBounds_toArray, List.set_cons_zero, List.set_cons_succ, i64_w, i32_w]
          rfl
         refine pure_ (i := 11) (N := some 29) (v := ?_) (a' := ?_) #[bT5, bT5, bT5, bT5, bT5, bT5, bT5, bT5, bT5, bT5, bT5, bT5, bF5, bF5, bF5, bF5, bF5, bF5, bF5, bF5, bF5, bF5, bF5, bF5, bF5, bF5, bF5, bF5, bF5, bF5, bF5, bF5, bF5, bF5, bF5, bF5, bF5, bF5, bF5, bF5, bF5, bF5, bF5, bF5, bF5, bF5, bF5, bF5, bF5, bF5, bF5, bF5, bF5] rfl rfl (any_of HT_.out (by kernel_rfl)) (fun _ _ _ h => h) (Or.inl ⟨by rfl, ?_⟩) ?_ ?_
         rotate_left
         ·intro w'
          go_simp
          with_reducible rfl
         rotate_left
         ·simp only [Act.put, List.setIfInBounds_toArray, List.set_cons_zero, List.set_cons_succ, i64_w, i32_w]
          rfl
         refine pure_ (i := 13) (N := some 31) (v := ?_) (a' := ?_) #[bT5, bT5, bT5, bT5, bT5, bT5, bT5, bT5, bT5, bT5, bT5, bT5, bF5, bT5, bF5, bF5, bF5, bF5, bF5, bF5, bF5, bF5, bF5, bF5, bF5, bF5, bF5, bF5, bF5, bF5, bF5, bF5, bF5, bF5, bF5, bF5, bF5, bF5, bF5, bF5, bF5, bF5, bF5, bF5, bF5, bF5, bF5, bF5, bF5, bF5, bF5, bF5, bF5] rfl rfl (any_of HT_.out (by kernel_rfl)) (fun _ _ _ h => h) (Or.inl ⟨by rfl, ?_⟩) ?_ ?_
         rotate_left
         ·intro w'
          go_simp
          with_reducible rfl
         rotate_left
         ·simp only [Act.put, List.setIfInBounds_toArray, List.set_cons_zero, List.set_cons_succ, i64_w, i32_w]
          rfl
         refine pure_ (i := 16) (N := some 34) (v := ?_) (a' := ?_) #[bT5, bT5, bT5, bT5, bT5, bT5, bT5, bT5, bT5, bT5, bT5, bT5, bF5, bT5, bF5, bF5, bT5, bF5, bF5, bF5, bF5, bF5, bF5, bF5, bF5, bF5, bF5, bF5, bF5, bF5, bF5, bF5, bF5, bF5, bF5, bF5, bF5, bF5, bF5, bF5, bF5, bF5, bF5, bF5, bF5, bF5, bF5, bF5, bF5, bF5, bF5, bF5, bF5] rfl rfl (any_of HT_.out (by kernel_rfl)) (fun _ _ _ h => h) (Or.inl ⟨by rfl, ?_⟩) ?_ ?_
         rotate_left
         ·intro w'
          go_simp
          with_reducible rfl
         rotate_left
         ·simp only [Act.put, List.setIfInBounds_toArray, List.set_cons_zero, List.set_cons_succ, i64_w, i32_w]
          rfl
         refine take_ (i := 12) (N := some 30) (v := ?_) (a' := ?_) #[bT5, bT5, bT5, bT5, bT5, bT5, bT5, bT5, bT5, bT5, bT5, bT5, bT5, bT5, bF5, bF5, bT5, bF5, bF5, bF5, bF5, bF5, bF5, bF5, bF5, bF5, bF5, bF5, bF5, bF5, bF5, bF5, bF5, bF5, bF5, bF5, bF5, bF5, bF5, bF5, bF5, bF5, bF5, bF5, bF5, bF5, bF5, bF5, bF5, bF5, bF5, bF5, bF5] rfl rfl (take_ofW HT_.out HW_.out (by kernel_rfl)) (fun _ _ _ h => h) (Or.inl ⟨by rfl, ?_⟩) hHeld ?_ ?_
         rotate_left
         ·rintro w' ⟨s0, s1, s2, s3, s4, s5, s6, s7⟩
          go_simp
          with_reducible rfl
         rotate_left
         ·simp only [Act.put, List.setIfInBounds_toArray, List.set_cons_zero, List.set_cons_succ, i64_w, i32_w]
          rfl
         refine take_ (i := 15) (N := some 33) (v := ?_) (a' := ?_) #[bT5, bT5, bT5, bT5, bT5, bT5, bT5, bT5, bT5, bT5, bT5, bT5, bT5, bT5, bF5, bT5, bT5, bF5, bF5, bF5, bF5, bF5, bF5, bF5, bF5, bF5, bF5, bF5, bF5, bF5, bF5, bF5, bF5, bF5, bF5, bF5, bF5, bF5, bF5, bF5, bF5, bF5, bF5, bF5, bF5, bF5, bF5, bF5, bF5, bF5, bF5, bF5, bF5] rfl rfl (take_ofW HT_.out HW_.out (by kernel_rfl)) (fun _ _ _ h => h) (Or.inl ⟨by rfl, ?_⟩) hHeld ?_ ?_
         rotate_left
         ·rintro w' ⟨s0, s1, s2, s3, s4, s5, s6, s7⟩
          go_simp
          with_reducible rfl
         rotate_left
         ·simp only [Act.put, List.setIfInBounds_toArray, List.set_cons_zero, List.set_cons_succ, i64_w, i32_w]
          rfl
         refine one_ (i := 14) (N := some 32) #[bT5, bT5, bT5, bT5, bT5, bT5, bT5, bT5, bT5, bT5, bT5, bT5, bT5, bT5, bT5, bT5, bT5, bF5, bF5, bF5, bF5, bF5, bF5, bF5, bF5, bF5, bF5, bF5, bF5, bF5, bF5, bF5, bF5, bF5, bF5, bF5, bF5, bF5, bF5, bF5, bF5, bF5, bF5, bF5, bF5, bF5, bF5, bF5, bF5, bF5, bF5, bF5, bF5] rfl rfl (one_of HT_.out (by kernel_rfl)) (by decide) (fun K hK => ?_)
         refine goes_ Try.func13 (by kernel_rfl) rfl #[.agg #[.int .i64 t268, .slice Ao87 t269.length co87], .int .i64 a1] (by rfl) rfl rfl zq5_18 ?_
         with_reducible refine (span_Has.calls k t268 _ _ t269 a1 t290 _ ?side1 ?side2 A14.out).mono ?_
         (case side1 => repeat (first | exact (Kd.R_reads' HO271.out).2.2 | (with_reducible refine Kd.C_alloc ?_ _) | (with_reducible refine Kd.C_drewN ?_ _) | (with_reducible refine Kd.C_drew ?_)))
         (case side2 => exact (Kd.R_reads' HO271.out).2.1)
         rintro e w109 ⟨rfl, hb⟩
         refine ⟨_, rfl, ?_⟩
         replace HO267 := Aside0.mk (Kd.R_below zq5_23 hb)
         replace HO271 := Aside0.mk (Kd.R_below zq5_24 hb)
         replace HO276 := Aside0.mk (Kd.R_below zq5_25 hb)
         replace HO281 := Aside0.mk (Kd.R_below zq5_26 hb)
         replace HO287 := Aside0.mk (Kd.R_below zq5_27 hb)
         replace BK263 := Aside0.mk (blk_below (g := gb263) (o := .cells #[.int .i64 t264, .slice Ao82 t265.length co82] 30 (0, 0)) zq5_19 hb)
         replace BK272 := Aside0.mk (blk_below (g := gb272) (o := .cells #[.int .i64 t268, .slice Ao87 t269.length co87] 24 (0, 0)) zq5_20 hb)
         replace BK277 := Aside0.mk (blk_below (g := gb277) (o := .cells #[.int .i64 t273, .slice Ao93 t274.length co93] 24 (0, 0)) zq5_21 hb)
         replace BK282 := Aside0.mk (blk_below (g := gb282) (o := .cells #[.int .i64 t278, .slice Ao101 t279.length co101] 30 (0, 0)) zq5_22 hb)
         replace HB := Aside0.mk (below_step zq5_7 hb)
         (try clear hb)
         (try clear hb2)
         (try clear hk)
         (try clear hi)
         refine hK.out _ _ ⟨(blk_cell BK277.out 0).trans rfl, (blk_cell BK277.out 1).trans rfl, (blk_cell BK282.out 0).trans rfl, (blk_cell BK282.out 1).trans rfl, (blk_cell BK272.out 0).trans rfl, (blk_cell BK272.out 1).trans rfl, (blk_cell BK263.out 0).trans rfl, (blk_cell BK263.out 1).trans rfl⟩ (fun hHeld => ?_)
         clear hK K
         refine norm_ (a' := ?_) ?_ ?_
         rotate_left
         ·show Act.put _ (some 32) _ = _
          simp only [Act.put, List.setIfInBounds_toArray, List.set_cons_zero, List.set_cons_succ, i64_w, i32_w]
          rfl
         refine one_ (i := 17) (N := some 35) #[bT5, bT5, bT5, bT5, bT5, bT5, bT5, bT5, bT5, bT5, bT5, bT5, bT5, bT5, bT5, bT5, bT5, bT5, bF5, bF5, bF5, bF5, bF5, bF5, bF5, bF5, bF5, bF5, bF5, bF5, bF5, bF5, bF5, bF5, bF5, bF5, bF5, bF5, bF5, bF5, bF5, bF5, bF5, bF5, bF5, bF5, bF5, bF5, bF5, bF5, bF5, bF5, bF5] rfl rfl (one_of HT_.out (by kernel_rfl)) (by decide) (fun K hK => ?_)
         refine goes_ Try.func22 (by kernel_rfl) rfl #[.agg #[.int .i64 t264, .slice Ao82 t265.length co82], .int .i64 a1] (by rfl) rfl rfl zq5_18 ?_
         with_reducible refine (cenotaphref02_Has.calls k t264 _ _ t265 a1 t291 _ ?side1 ?side2 A15.out).mono ?_
         (case side1 => repeat (first | exact (Kd.R_reads' HO267.out).2.2 | (with_reducible refine Kd.C_alloc ?_ _) | (with_reducible refine Kd.C_drewN ?_ _) | (with_reducible refine Kd.C_drew ?_)))
         (case side2 => exact (Kd.R_reads' HO267.out).2.1)
         rintro e w110 ⟨rfl, hb⟩
         refine ⟨_, rfl, ?_⟩
         replace HO267 := Aside0.mk (Kd.R_below zq5_23 hb)
         replace HO271 := Aside0.mk (Kd.R_below zq5_24 hb)
         replace HO276 := Aside0.mk (Kd.R_below zq5_25 hb)
         replace HO281 := Aside0.mk (Kd.R_below zq5_26 hb)
         replace HO287 := Aside0.mk (Kd.R_below zq5_27 hb)
         replace BK263 := Aside0.mk (blk_below (g := gb263) (o := .cells #[.int .i64 t264, .slice Ao82 t265.length co82] 30 (0, 0)) zq5_19 hb)
         replace BK272 := Aside0.mk (blk_below (g := gb272) (o := .cells #[.int .i64 t268, .slice Ao87 t269.length co87] 24 (0, 0)) zq5_20 hb)
         replace BK277 := Aside0.mk (blk_below (g := gb277) (o := .cells #[.int .i64 t273, .slice Ao93 t274.length co93] 24 (0, 0)) zq5_21 hb)
         replace BK282 := Aside0.mk (blk_below (g := gb282) (o := .cells #[.int .i64 t278, .slice Ao101 t279.length co101] 30 (0, 0)) zq5_22 hb)
         replace HB := Aside0.mk (below_step zq5_7 hb)
         (try clear hb)
         (try clear hb2)
         (try clear hk)
         (try clear hi)
         refine hK.out _ _ ⟨(blk_cell BK277.out 0).trans rfl, (blk_cell BK277.out 1).trans rfl, (blk_cell BK282.out 0).trans rfl, (blk_cell BK282.out 1).trans rfl, (blk_cell BK272.out 0).trans rfl, (blk_cell BK272.out 1).trans rfl, (blk_cell BK263.out 0).trans rfl, (blk_cell BK263.out 1).trans rfl⟩ (fun hHeld => ?_)
         clear hK K
         refine norm_ (a' := ?_) ?_ ?_
         rotate_left
         ·show Act.put _ (some 35) _ = _
          simp only [Act.put, List.setIfInBounds_toArray, List.set_cons_zero, List.set_cons_succ, i64_w, i32_w]
          rfl
         refine pure_ (i := 18) (N := some 36) (v := ?_) (a' := ?_) #[bT5, bT5, bT5, bT5, bT5, bT5, bT5, bT5, bT5, bT5, bT5, bT5, bT5, bT5, bT5, bT5, bT5, bT5, bT5, bF5, bF5, bF5, bF5, bF5, bF5, bF5, bF5, bF5, bF5, bF5, bF5, bF5, bF5, bF5, bF5, bF5, bF5, bF5, bF5, bF5, bF5, bF5, bF5, bF5, bF5, bF5, bF5, bF5, bF5, bF5, bF5, bF5, bF5] rfl rfl (any_of HT_.out (by kernel_rfl)) (fun _ _ _ h => h) (Or.inl ⟨by rfl, ?_⟩) ?_ ?_
         rotate_left
         ·intro w'
          go_simp
          with_reducible rfl
         rotate_left
         ·simp only [Act.put, List.setIfInBounds_toArray, List.set_cons_zero, List.set_cons_succ, i64_w, i32_w]
          rfl
         refine pure_ (i := 19) (N := some 37) (v := ?_) (a' := ?_) #[bT5, bT5, bT5, bT5, bT5, bT5, bT5, bT5, bT5, bT5, bT5, bT5, bT5, bT5, bT5, bT5, bT5, bT5, bT5, bT5, bF5, bF5, bF5, bF5, bF5, bF5, bF5, bF5, bF5, bF5, bF5, bF5, bF5, bF5, bF5, bF5, bF5, bF5, bF5, bF5, bF5, bF5, bF5, bF5, bF5, bF5, bF5, bF5, bF5, bF5, bF5, bF5, bF5] rfl rfl (any_of HT_.out (by kernel_rfl)) (fun _ _ _ h => h) (Or.inl ⟨by rfl, ?_⟩) ?_ ?_
         rotate_left
         ·intro w'
          go_simp
          with_reducible rfl
         rotate_left
         ·simp only [Act.put, List.setIfInBounds_toArray, List.set_cons_zero, List.set_cons_succ, i64_w, i32_w]
          rfl
         refine pure_ (i := 20) (N := some 38) (v := ?_) (a' := ?_) #[bT5, bT5, bT5, bT5, bT5, bT5, bT5, bT5, bT5, bT5, bT5, bT5, bT5, bT5, bT5, bT5, bT5, bT5, bT5, bT5, bT5, bF5, bF5, bF5, bF5, bF5, bF5, bF5, bF5, bF5, bF5, bF5, bF5, bF5, bF5, bF5, bF5, bF5, bF5, bF5, bF5, bF5, bF5, bF5, bF5, bF5, bF5, bF5, bF5, bF5, bF5, bF5, bF5] rfl rfl (any_of HT_.out (by kernel_rfl)) (fun _ _ _ h => h) (Or.inl ⟨by rfl, ?_⟩) ?_ ?_
         rotate_left
         ·intro w'
          go_simp
          with_reducible rfl
         rotate_left
         ·simp only [Act.put, List.setIfInBounds_toArray, List.set_cons_zero, List.set_cons_succ, i64_w, i32_w]
          rfl
         refine pure_ (i := 22) (N := some 40) (v := ?_) (a' := ?_) #[bT5, bT5, bT5, bT5, bT5, bT5, bT5, bT5, bT5, bT5, bT5, bT5, bT5, bT5, bT5, bT5, bT5, bT5, bT5, bT5, bT5, bF5, bT5, bF5, bF5, bF5, bF5, bF5, bF5, bF5, bF5, bF5, bF5, bF5, bF5, bF5, bF5, bF5, bF5, bF5, bF5, bF5, bF5, bF5, bF5, bF5, bF5, bF5, bF5, bF5, bF5, bF5, bF5] rfl rfl (any_of HT_.out (by kernel_rfl)) (fun _ _ _ h => h) (Or.inl ⟨by rfl, ?_⟩) ?_ ?_
         rotate_left
         ·intro w'
          go_simp
          with_reducible rfl
         rotate_left
         ·simp only [Act.put, List.setIfInBounds_toArray, List.set_cons_zero, List.set_cons_succ, i64_w, i32_w]
          rfl
         refine pure_ (i := 24) (N := some 42) (v := ?_) (a' := ?_) #[bT5, bT5, bT5, bT5, bT5, bT5, bT5, bT5, bT5, bT5, bT5, bT5, bT5, bT5, bT5, bT5, bT5, bT5, bT5, bT5, bT5, bF5, bT5, bF5, bT5, bF5, bF5, bF5, bF5, bF5, bF5, bF5, bF5, bF5, bF5, bF5, bF5, bF5, bF5, bF5, bF5, bF5, bF5, bF5, bF5, bF5, bF5, bF5, bF5, bF5, bF5, bF5, bF5] rfl rfl (any_of HT_.out (by kernel_rfl)) (fun _ _ _ h => h) (Or.inl ⟨by rfl, ?_⟩) ?_ ?_
         rotate_left
         ·intro w'
          go_simp
          with_reducible rfl
         rotate_left
         ·simp only [Act.put, List.setIfInBounds_toArray, List.set_cons_zero, List.set_cons_succ, i64_w, i32_w]
          rfl
         refine pure_ (i := 25) (N := some 43) (v := ?_) (a' := ?_) #[bT5, bT5, bT5, bT5, bT5, bT5, bT5, bT5, bT5, bT5, bT5, bT5, bT5, bT5, bT5, bT5, bT5, bT5, bT5, bT5, bT5, bF5, bT5, bF5, bT5, bT5, bF5, bF5, bF5, bF5, bF5, bF5, bF5, bF5, bF5, bF5, bF5, bF5, bF5, bF5, bF5, bF5, bF5, bF5, bF5, bF5, bF5, bF5, bF5, bF5, bF5, bF5, bF5] rfl rfl (any_of HT_.out (by kernel_rfl)) (fun _ _ _ h => h) (Or.inl ⟨by rfl, ?_⟩) ?_ ?_
         rotate_left
         ·intro w'
          go_simp
          with_reducible rfl
         rotate_left
         ·simp only [Act.put, List.setIfInBounds_toArray, List.set_cons_zero, List.set_cons_succ, i64_w, i32_w]
          rfl
         refine take_ (i := 21) (N := some 39) (v := ?_) (a' := ?_) #[bT5, bT5, bT5, bT5, bT5, bT5, bT5, bT5, bT5, bT5, bT5, bT5, bT5, bT5, bT5, bT5, bT5, bT5, bT5, bT5, bT5, bT5, bT5, bF5, bT5, bT5, bF5, bF5, bF5, bF5, bF5, bF5, bF5, bF5, bF5, bF5, bF5, bF5, bF5, bF5, bF5, bF5, bF5, bF5, bF5, bF5, bF5, bF5, bF5, bF5, bF5, bF5, bF5] rfl rfl (take_ofW HT_.out HW_.out (by kernel_rfl)) (fun _ _ _ h => h) (Or.inl ⟨by rfl, ?_⟩) hHeld ?_ ?_
         rotate_left
         ·rintro w' ⟨s0, s1, s2, s3, s4, s5, s6, s7⟩
          go_simp
          with_reducible rfl
         rotate_left
         ·simp only [Act.put, List.setIfInBounds_toArray, List.set_cons_zero, List.set_cons_succ, i64_w, i32_w]
          rfl
         refine one_ (i := 23) (N := some 41) #[bT5, bT5, bT5, bT5, bT5, bT5, bT5, bT5, bT5, bT5, bT5, bT5, bT5, bT5, bT5, bT5, bT5, bT5, bT5, bT5, bT5, bT5, bT5, bT5, bT5, bT5, bF5, bF5, bF5, bF5, bF5, bF5, bF5, bF5, bF5, bF5, bF5, bF5, bF5, bF5, bF5, bF5, bF5, bF5, bF5, bF5, bF5, bF5, bF5, bF5, bF5, bF5, bF5] rfl rfl (one_of HT_.out (by kernel_rfl)) (by decide) (fun K hK => ?_)
         refine goes_ Try.func13 (by kernel_rfl) rfl #[.agg #[.int .i64 t273, .slice Ao93 t274.length co93], .int .i64 a1] (by rfl) rfl rfl zq5_18 ?_
         with_reducible refine (span_Has.calls k t273 _ _ t274 a1 t292 _ ?side1 ?side2 A17.out).mono ?_
         (case side1 => repeat (first | exact (Kd.R_reads' HO276.out).2.2 | (with_reducible refine Kd.C_alloc ?_ _) | (with_reducible refine Kd.C_drewN ?_ _) | (with_reducible refine Kd.C_drew ?_)))
         (case side2 => exact (Kd.R_reads' HO276.out).2.1)
         rintro e w111 ⟨rfl, hb⟩
         refine ⟨_, rfl, ?_⟩
         replace HO267 := Aside0.mk (Kd.R_below zq5_23 hb)
         replace HO271 := Aside0.mk (Kd.R_below zq5_24 hb)
         replace HO276 := Aside0.mk (Kd.R_below zq5_25 hb)
         replace HO281 := Aside0.mk (Kd.R_below zq5_26 hb)
         replace HO287 := Aside0.mk (Kd.R_below zq5_27 hb)
         replace BK263 := Aside0.mk (blk_below (g := gb263) (o := .cells #[.int .i64 t264, .slice Ao82 t265.length co82] 30 (0, 0)) zq5_19 hb)
         replace BK272 := Aside0.mk (blk_below (g := gb272) (o := .cells #[.int .i64 t268, .slice Ao87 t269.length co87] 24 (0, 0)) zq5_20 hb)
         replace BK277 := Aside0.mk (blk_below (g := gb277) (o := .cells #[.int .i64 t273, .slice Ao93 t274.length co93] 24 (0, 0)) zq5_21 hb)
         replace BK282 := Aside0.mk (blk_below (g := gb282) (o := .cells #[.int .i64 t278, .slice Ao101 t279.length co101] 30 (0, 0)) zq5_22 hb)
         replace HB := Aside0.mk (below_step zq5_7 hb)
         (try clear hb)
         (try clear hb2)
         (try clear hk)
         (try clear hi)
         refine hK.out _ _ ⟨(blk_cell BK277.out 0).trans rfl, (blk_cell BK277.out 1).trans rfl, (blk_cell BK282.out 0).trans rfl, (blk_cell BK282.out 1).trans rfl, (blk_cell BK272.out 0).trans rfl, (blk_cell BK272.out 1).trans rfl, (blk_cell BK263.out 0).trans rfl, (blk_cell BK263.out 1).trans rfl⟩ (fun hHeld => ?_)
         clear hK K
         refine norm_ (a' := ?_) ?_ ?_
         rotate_left
         ·show Act.put _ (some 41) _ = _
          simp only [Act.put, List.setIfInBounds_toArray, List.set_cons_zero, List.set_cons_succ, i64_w, i32_w]
          rfl
         refine pure_ (i := 26) (N := some 44) (v := ?_) (a' := ?_) #[bT5, bT5, bT5, bT5, bT5, bT5, bT5, bT5, bT5, bT5, bT5, bT5, bT5, bT5, bT5, bT5, bT5, bT5, bT5, bT5, bT5, bT5, bT5, bT5, bT5, bT5, bT5, bF5, bF5, bF5, bF5, bF5, bF5, bF5, bF5, bF5, bF5, bF5, bF5, bF5, bF5, bF5, bF5, bF5, bF5, bF5, bF5, bF5, bF5, bF5, bF5, bF5, bF5] rfl rfl (any_of HT_.out (by kernel_rfl)) (fun _ _ _ h => h) (Or.inl ⟨by rfl, ?_⟩) ?_ ?_
         rotate_left
         ·intro w'
          go_simp
          with_reducible rfl
         rotate_left
         ·simp only [Act.put, List.setIfInBounds_toArray, List.set_cons_zero, List.set_cons_succ, i64_w, i32_w]
          rfl
         refine pure_ (i := 27) (N := some 45) (v := undef) (a' := ?_) #[bT5, bT5, bT5, bT5, bT5, bT5, bT5, bT5, bT5, bT5, bT5, bT5, bT5, bT5, bT5, bT5, bT5, bT5, bT5, bT5, bT5, bT5, bT5, bT5, bT5, bT5, bT5, bT5, bF5, bF5, bF5, bF5, bF5, bF5, bF5, bF5, bF5, bF5, bF5, bF5, bF5, bF5, bF5, bF5, bF5, bF5, bF5, bF5, bF5, bF5, bF5, bF5, bF5] rfl rfl (any_of HT_.out (by kernel_rfl)) (fun _ _ _ h => h) (Or.inr ⟨by rfl, rfl⟩) ?_ ?_
         rotate_left
         ·simp only [Act.put, List.setIfInBounds_toArray, List.set_cons_zero, List.set_cons_succ, i64_w, i32_w]
          rfl
         refine pure_ (i := 28) (N := some 46) (v := undef) (a' := ?_) #[bT5, bT5, bT5, bT5, bT5, bT5, bT5, bT5, bT5, bT5, bT5, bT5, bT5, bT5, bT5, bT5, bT5, bT5, bT5, bT5, bT5, bT5, bT5, bT5, bT5, bT5, bT5, bT5, bT5, bF5, bF5, bF5, bF5, bF5, bF5, bF5, bF5, bF5, bF5, bF5, bF5, bF5, bF5, bF5, bF5, bF5, bF5, bF5, bF5, bF5, bF5, bF5, bF5] rfl rfl (any_of HT_.out (by kernel_rfl)) (fun _ _ _ h => h) (Or.inr ⟨by rfl, rfl⟩) ?_ ?_
         rotate_left
         ·simp only [Act.put, List.setIfInBounds_toArray, List.set_cons_zero, List.set_cons_succ, i64_w, i32_w]
          rfl
         refine pure_ (i := 29) (N := some 47) (v := ?_) (a' := ?_) #[bT5, bT5, bT5, bT5, bT5, bT5, bT5, bT5, bT5, bT5, bT5, bT5, bT5, bT5, bT5, bT5, bT5, bT5, bT5, bT5, bT5, bT5, bT5, bT5, bT5, bT5, bT5, bT5, bT5, bT5, bF5, bF5, bF5, bF5, bF5, bF5, bF5, bF5, bF5, bF5, bF5, bF5, bF5, bF5, bF5, bF5, bF5, bF5, bF5, bF5, bF5, bF5, bF5] rfl rfl (any_of HT_.out (by kernel_rfl)) (fun _ _ _ h => h) (Or.inl ⟨by rfl, ?_⟩) ?_ ?_
         rotate_left
         ·intro w'
          go_simp
          with_reducible rfl
         rotate_left
         ·simp only [Act.put, List.setIfInBounds_toArray, List.set_cons_zero, List.set_cons_succ, i64_w, i32_w]
          rfl
         refine pure_ (i := 30) (N := some 48) (v := ?_) (a' := ?_) #[bT5, bT5, bT5, bT5, bT5, bT5, bT5, bT5, bT5, bT5, bT5, bT5, bT5, bT5, bT5, bT5, bT5, bT5, bT5, bT5, bT5, bT5, bT5, bT5, bT5, bT5, bT5, bT5, bT5, bT5, bT5, bF5, bF5, bF5, bF5, bF5, bF5, bF5, bF5, bF5, bF5, bF5, bF5, bF5, bF5, bF5, bF5, bF5, bF5, bF5, bF5, bF5, bF5] rfl rfl (any_of HT_.out (by kernel_rfl)) (fun _ _ _ h => h) (Or.inl ⟨by rfl, ?_⟩) ?_ ?_
         rotate_left
         ·intro w'
          go_simp
          with_reducible rfl
         rotate_left
         ·simp only [Act.put, List.setIfInBounds_toArray, List.set_cons_zero, List.set_cons_succ, i64_w, i32_w]
          rfl
         refine pure_ (i := 31) (N := some 49) (v := ?_) (a' := ?_) #[bT5, bT5, bT5, bT5, bT5, bT5, bT5, bT5, bT5, bT5, bT5, bT5, bT5, bT5, bT5, bT5, bT5, bT5, bT5, bT5, bT5, bT5, bT5, bT5, bT5, bT5, bT5, bT5, bT5, bT5, bT5, bT5, bF5, bF5, bF5, bF5, bF5, bF5, bF5, bF5, bF5, bF5, bF5, bF5, bF5, bF5, bF5, bF5, bF5, bF5, bF5, bF5, bF5] rfl rfl (any_of HT_.out (by kernel_rfl)) (fun _ _ _ h => h) (Or.inl ⟨by rfl, ?_⟩) ?_ ?_
         rotate_left
         ·intro w'
          go_simp
          with_reducible rfl
         rotate_left
         ·simp only [Act.put, List.setIfInBounds_toArray, List.set_cons_zero, List.set_cons_succ, i64_w, i32_w]
          rfl
         refine pure_ (i := 32) (N := some 50) (v := ?_) (a' := ?_) #[bT5, bT5, bT5, bT5, bT5, bT5, bT5, bT5, bT5, bT5, bT5, bT5, bT5, bT5, bT5, bT5, bT5, bT5, bT5, bT5, bT5, bT5, bT5, bT5, bT5, bT5, bT5, bT5, bT5, bT5, bT5, bT5, bT5, bF5, bF5, bF5, bF5, bF5, bF5, bF5, bF5, bF5, bF5, bF5, bF5, bF5, bF5, bF5, bF5, bF5, bF5, bF5, bF5] rfl rfl (any_of HT_.out (by kernel_rfl)) (fun _ _ _ h => h) (Or.inl ⟨by rfl, ?_⟩) ?_ ?_
         rotate_left
         ·intro w'
          go_simp
          with_reducible rfl
         rotate_left
         ·simp only [Act.put, List.setIfInBounds_toArray, List.set_cons_zero, List.set_cons_succ, i64_w, i32_w]
          rfl
         refine take_ (i := 33) (N := some 51) (v := ?_) (a' := ?_) #[bT5, bT5, bT5, bT5, bT5, bT5, bT5, bT5, bT5, bT5, bT5, bT5, bT5, bT5, bT5, bT5, bT5, bT5, bT5, bT5, bT5, bT5, bT5, bT5, bT5, bT5, bT5, bT5, bT5, bT5, bT5, bT5, bT5, bT5, bF5, bF5, bF5, bF5, bF5, bF5, bF5, bF5, bF5, bF5, bF5, bF5, bF5, bF5, bF5, bF5, bF5, bF5, bF5] rfl rfl (take_ofW HT_.out HW_.out (by kernel_rfl)) (fun _ _ _ h => h) (Or.inl ⟨by rfl, ?_⟩) hHeld ?_ ?_
         rotate_left
         ·rintro w' ⟨s0, s1, s2, s3, s4, s5, s6, s7⟩
          go_simp
          with_reducible rfl
         rotate_left
         ·simp only [Act.put, List.setIfInBounds_toArray, List.set_cons_zero, List.set_cons_succ, i64_w, i32_w]
          rfl
         refine take_ (i := 35) (N := some 53) (v := ?_) (a' := ?_) #[bT5, bT5, bT5, bT5, bT5, bT5, bT5, bT5, bT5, bT5, bT5, bT5, bT5, bT5, bT5, bT5, bT5, bT5, bT5, bT5, bT5, bT5, bT5, bT5, bT5, bT5, bT5, bT5, bT5, bT5, bT5, bT5, bT5, bT5, bF5, bT5, bF5, bF5, bF5, bF5, bF5, bF5, bF5, bF5, bF5, bF5, bF5, bF5, bF5, bF5, bF5, bF5, bF5] rfl rfl (take_ofW HT_.out HW_.out (by kernel_rfl)) (fun _ _ _ h => h) (Or.inl ⟨by rfl, ?_⟩) hHeld ?_ ?_
         rotate_left
         ·rintro w' ⟨s0, s1, s2, s3, s4, s5, s6, s7⟩
          go_simp
          with_reducible rfl
         rotate_left
         ·simp only [Act.put, List.setIfInBounds_toArray, List.set_cons_zero, List.set_cons_succ, i64_w, i32_w]
          rfl
         refine one_ (i := 34) (N := some 52) #[bT5, bT5, bT5, bT5, bT5, bT5, bT5, bT5, bT5, bT5, bT5, bT5, bT5, bT5, bT5, bT5, bT5, bT5, bT5, bT5, bT5, bT5, bT5, bT5, bT5, bT5, bT5, bT5, bT5, bT5, bT5, bT5, bT5, bT5, bT5, bT5, bF5, bF5, bF5, bF5, bF5, bF5, bF5, bF5, bF5, bF5, bF5, bF5, bF5, bF5, bF5, bF5, bF5] rfl rfl (one_of HT_.out (by kernel_rfl)) (by decide) (fun K hK => ?_)
         refine goes_ Try.func12 (by kernel_rfl) rfl #[.agg #[.int .i64 t273, .slice Ao93 t274.length co93]] (by rfl) rfl rfl zq5_18 ?_
         with_reducible refine (span_Count.calls t273 _ _ t274 t302 _ ?side1 ?side2 A70.out).mono ?_
         (case side1 => repeat (first | exact (Kd.R_reads' HO276.out).2.2 | (with_reducible refine Kd.C_alloc ?_ _) | (with_reducible refine Kd.C_drewN ?_ _) | (with_reducible refine Kd.C_drew ?_)))
         (case side2 => exact (Kd.R_reads' HO276.out).2.1)
         rintro e w112 ⟨rfl, hb⟩
         refine ⟨_, rfl, ?_⟩
         replace HO267 := Aside0.mk (Kd.R_below zq5_23 hb)
         replace HO271 := Aside0.mk (Kd.R_below zq5_24 hb)
         replace HO276 := Aside0.mk (Kd.R_below zq5_25 hb)
         replace HO281 := Aside0.mk (Kd.R_below zq5_26 hb)
         replace HO287 := Aside0.mk (Kd.R_below zq5_27 hb)
         replace BK263 := Aside0.mk (blk_below (g := gb263) (o := .cells #[.int .i64 t264, .slice Ao82 t265.length co82] 30 (0, 0)) zq5_19 hb)
         replace BK272 := Aside0.mk (blk_below (g := gb272) (o := .cells #[.int .i64 t268, .slice Ao87 t269.length co87] 24 (0, 0)) zq5_20 hb)
         replace BK277 := Aside0.mk (blk_below (g := gb277) (o := .cells #[.int .i64 t273, .slice Ao93 t274.length co93] 24 (0, 0)) zq5_21 hb)
         replace BK282 := Aside0.mk (blk_below (g := gb282) (o := .cells #[.int .i64 t278, .slice Ao101 t279.length co101] 30 (0, 0)) zq5_22 hb)
         replace HB := Aside0.mk (below_step zq5_7 hb)
         (try clear hb)
         (try clear hb2)
         (try clear hk)
         (try clear hi)
         refine hK.out _ _ ⟨(blk_cell BK277.out 0).trans rfl, (blk_cell BK277.out 1).trans rfl, (blk_cell BK282.out 0).trans rfl, (blk_cell BK282.out 1).trans rfl, (blk_cell BK272.out 0).trans rfl, (blk_cell BK272.out 1).trans rfl, (blk_cell BK263.out 0).trans rfl, (blk_cell BK263.out 1).trans rfl⟩ (fun hHeld => ?_)
         clear hK K
         refine norm_ (a' := ?_) ?_ ?_
         rotate_left
         ·show Act.put _ (some 52) _ = _
          simp only [Act.put, List.setIfInBounds_toArray, List.set_cons_zero, List.set_cons_succ, i64_w, i32_w]
          rfl
         refine one_ (i := 36) (N := some 54) #[bT5, bT5, bT5, bT5, bT5, bT5, bT5, bT5, bT5, bT5, bT5, bT5, bT5, bT5, bT5, bT5, bT5, bT5, bT5, bT5, bT5, bT5, bT5, bT5, bT5, bT5, bT5, bT5, bT5, bT5, bT5, bT5, bT5, bT5, bT5, bT5, bT5, bF5, bF5, bF5, bF5, bF5, bF5, bF5, bF5, bF5, bF5, bF5, bF5, bF5, bF5, bF5, bF5] rfl rfl (one_of HT_.out (by kernel_rfl)) (by decide) (fun K hK => ?_)
         refine goes_ Try.func23 (by kernel_rfl) rfl #[.agg #[.int .i64 t278, .slice Ao101 t279.length co101]] (by rfl) rfl rfl zq5_18 ?_
         with_reducible refine (cenotaphref02_Count.calls t278 _ _ t279 t303 _ ?side1 ?side2 A71.out).mono ?_
         (case side1 => repeat (first | exact (Kd.R_reads' HO281.out).2.2 | (with_reducible refine Kd.C_alloc ?_ _) | (with_reducible refine Kd.C_drewN ?_ _) | (with_reducible refine Kd.C_drew ?_)))
         (case side2 => exact (Kd.R_reads' HO281.out).2.1)
         rintro e w113 ⟨rfl, hb⟩
         refine ⟨_, rfl, ?_⟩
         replace HO267 := Aside0.mk (Kd.R_below zq5_23 hb)
         replace HO271 := Aside0.mk (Kd.R_below zq5_24 hb)
         replace HO276 := Aside0.mk (Kd.R_below zq5_25 hb)
         replace HO281 := Aside0.mk (Kd.R_below zq5_26 hb)
         replace HO287 := Aside0.mk (Kd.R_below zq5_27 hb)
         replace BK263 := Aside0.mk (blk_below (g := gb263) (o := .cells #[.int .i64 t264, .slice Ao82 t265.length co82] 30 (0, 0)) zq5_19 hb)
         replace BK272 := Aside0.mk (blk_below (g := gb272) (o := .cells #[.int .i64 t268, .slice Ao87 t269.length co87] 24 (0, 0)) zq5_20 hb)
         replace BK277 := Aside0.mk (blk_below (g := gb277) (o := .cells #[.int .i64 t273, .slice Ao93 t274.length co93] 24 (0, 0)) zq5_21 hb)
         replace BK282 := Aside0.mk (blk_below (g := gb282) (o := .cells #[.int .i64 t278, .slice Ao101 t279.length co101] 30 (0, 0)) zq5_22 hb)
         replace HB := Aside0.mk (below_step zq5_7 hb)
         (try clear hb)
         (try clear hb2)
         (try clear hk)
         (try clear hi)
         refine hK.out _ _ ⟨(blk_cell BK277.out 0).trans rfl, (blk_cell BK277.out 1).trans rfl, (blk_cell BK282.out 0).trans rfl, (blk_cell BK282.out 1).trans rfl, (blk_cell BK272.out 0).trans rfl, (blk_cell BK272.out 1).trans rfl, (blk_cell BK263.out 0).trans rfl, (blk_cell BK263.out 1).trans rfl⟩ (fun hHeld => ?_)
         clear hK K
         refine norm_ (a' := ?_) ?_ ?_
         rotate_left
         ·show Act.put _ (some 54) _ = _
          simp only [Act.put, List.setIfInBounds_toArray, List.set_cons_zero, List.set_cons_succ, i64_w, i32_w]
          rfl
         refine pure_ (i := 37) (N := some 55) (v := ?_) (a' := ?_) #[bT5, bT5, bT5, bT5, bT5, bT5, bT5, bT5, bT5, bT5, bT5, bT5, bT5, bT5, bT5, bT5, bT5, bT5, bT5, bT5, bT5, bT5, bT5, bT5, bT5, bT5, bT5, bT5, bT5, bT5, bT5, bT5, bT5, bT5, bT5, bT5, bT5, bT5, bF5, bF5, bF5, bF5, bF5, bF5, bF5, bF5, bF5, bF5, bF5, bF5, bF5, bF5, bF5] rfl rfl (any_of HT_.out (by kernel_rfl)) (fun _ _ _ h => h) (Or.inl ⟨by rfl, ?_⟩) ?_ ?_
         rotate_left
         ·intro w'
          go_simp
          with_reducible rfl
         rotate_left
         ·simp only [Act.put, List.setIfInBounds_toArray, List.set_cons_zero, List.set_cons_succ, i64_w, i32_w]
          rfl
         refine pure_ (i := 38) (N := some 56) (v := ?_) (a' := ?_) #[bT5, bT5, bT5, bT5, bT5, bT5, bT5, bT5, bT5, bT5, bT5, bT5, bT5, bT5, bT5, bT5, bT5, bT5, bT5, bT5, bT5, bT5, bT5, bT5, bT5, bT5, bT5, bT5, bT5, bT5, bT5, bT5, bT5, bT5, bT5, bT5, bT5, bT5, bT5, bF5, bF5, bF5, bF5, bF5, bF5, bF5, bF5, bF5, bF5, bF5, bF5, bF5, bF5] rfl rfl (any_of HT_.out (by kernel_rfl)) (fun _ _ _ h => h) (Or.inl ⟨by rfl, ?_⟩) ?_ ?_
         rotate_left
         ·intro w'
          go_simp
          with_reducible rfl
         rotate_left
         ·simp only [Act.put, List.setIfInBounds_toArray, List.set_cons_zero, List.set_cons_succ, i64_w, i32_w]
          rfl
         refine pure_ (i := 39) (N := some 57) (v := ?_) (a' := ?_) #[bT5, bT5, bT5, bT5, bT5, bT5, bT5, bT5, bT5, bT5, bT5, bT5, bT5, bT5, bT5, bT5, bT5, bT5, bT5, bT5, bT5, bT5, bT5, bT5, bT5, bT5, bT5, bT5, bT5, bT5, bT5, bT5, bT5, bT5, bT5, bT5, bT5, bT5, bT5, bT5, bF5, bF5, bF5, bF5, bF5, bF5, bF5, bF5, bF5, bF5, bF5, bF5, bF5] rfl rfl (any_of HT_.out (by kernel_rfl)) (fun _ _ _ h => h) (Or.inl ⟨by rfl, ?_⟩) ?_ ?_
         rotate_left
         ·intro w'
          go_simp
          with_reducible rfl
         rotate_left
         ·simp only [Act.put, List.setIfInBounds_toArray, List.set_cons_zero, List.set_cons_succ, i64_w, i32_w]
          rfl
         refine take_ (i := 40) (N := some 58) (v := ?_) (a' := ?_) #[bT5, bT5, bT5, bT5, bT5, bT5, bT5, bT5, bT5, bT5, bT5, bT5, bT5, bT5, bT5, bT5, bT5, bT5, bT5, bT5, bT5, bT5, bT5, bT5, bT5, bT5, bT5, bT5, bT5, bT5, bT5, bT5, bT5, bT5, bT5, bT5, bT5, bT5, bT5, bT5, bT5, bF5, bF5, bF5, bF5, bF5, bF5, bF5, bF5, bF5, bF5, bF5, bF5] rfl rfl (take_ofW HT_.out HW_.out (by kernel_rfl)) (fun _ _ _ h => h) (Or.inl ⟨by rfl, ?_⟩) hHeld ?_ ?_
         rotate_left
         ·rintro w' ⟨s0, s1, s2, s3, s4, s5, s6, s7⟩
          go_simp
          with_reducible rfl
         rotate_left
         ·simp only [Act.put, List.setIfInBounds_toArray, List.set_cons_zero, List.set_cons_succ, i64_w, i32_w]
          rfl
         refine take_ (i := 42) (N := some 60) (v := ?_) (a' := ?_) #[bT5, bT5, bT5, bT5, bT5, bT5, bT5, bT5, bT5, bT5, bT5, bT5, bT5, bT5, bT5, bT5, bT5, bT5, bT5, bT5, bT5, bT5, bT5, bT5, bT5, bT5, bT5, bT5, bT5, bT5, bT5, bT5, bT5, bT5, bT5, bT5, bT5, bT5, bT5, bT5, bT5, bF5, bT5, bF5, bF5, bF5, bF5, bF5, bF5, bF5, bF5, bF5, bF5] rfl rfl (take_ofW HT_.out HW_.out (by kernel_rfl)) (fun _ _ _ h => h) (Or.inl ⟨by rfl, ?_⟩) hHeld ?_ ?_
         rotate_left
         ·rintro w' ⟨s0, s1, s2, s3, s4, s5, s6, s7⟩
          go_simp
          with_reducible rfl
         rotate_left
         ·simp only [Act.put, List.setIfInBounds_toArray, List.set_cons_zero, List.set_cons_succ, i64_w, i32_w]
          rfl
         refine one_ (i := 41) (N := some 59) #[bT5, bT5, bT5, bT5, bT5, bT5, bT5, bT5, bT5, bT5, bT5, bT5, bT5, bT5, bT5, bT5, bT5, bT5, bT5, bT5, bT5, bT5, bT5, bT5, bT5, bT5, bT5, bT5, bT5, bT5, bT5, bT5, bT5, bT5, bT5, bT5, bT5, bT5, bT5, bT5, bT5, bT5, bT5, bF5, bF5, bF5, bF5, bF5, bF5, bF5, bF5, bF5, bF5] rfl rfl (one_of HT_.out (by kernel_rfl)) (by decide) (fun K hK => ?_)
         refine goes_ Try.func24 (by kernel_rfl) rfl #[.agg #[.int .i64 t273, .slice Ao93 t274.length co93]] (by rfl) rfl rfl zq5_18 ?_
         with_reducible refine (span_Top.calls t273 _ _ t274 t304 _ ?side1 ?side2 A73.out).mono ?_
         (case side1 => repeat (first | exact (Kd.R_reads' HO276.out).2.2 | (with_reducible refine Kd.C_alloc ?_ _) | (with_reducible refine Kd.C_drewN ?_ _) | (with_reducible refine Kd.C_drew ?_)))
         (case side2 => exact (Kd.R_reads' HO276.out).2.1)
         rintro e w114 ⟨rfl, hb⟩
         refine ⟨_, rfl, ?_⟩
         replace HO267 := Aside0.mk (Kd.R_below zq5_23 hb)
         replace HO271 := Aside0.mk (Kd.R_below zq5_24 hb)
         replace HO276 := Aside0.mk (Kd.R_below zq5_25 hb)
         replace HO281 := Aside0.mk (Kd.R_below zq5_26 hb)
         replace HO287 := Aside0.mk (Kd.R_below zq5_27 hb)
         replace BK263 := Aside0.mk (blk_below (g := gb263) (o := .cells #[.int .i64 t264, .slice Ao82 t265.length co82] 30 (0, 0)) zq5_19 hb)
         replace BK272 := Aside0.mk (blk_below (g := gb272) (o := .cells #[.int .i64 t268, .slice Ao87 t269.length co87] 24 (0, 0)) zq5_20 hb)
         replace BK277 := Aside0.mk (blk_below (g := gb277) (o := .cells #[.int .i64 t273, .slice Ao93 t274.length co93] 24 (0, 0)) zq5_21 hb)
         replace BK282 := Aside0.mk (blk_below (g := gb282) (o := .cells #[.int .i64 t278, .slice Ao101 t279.length co101] 30 (0, 0)) zq5_22 hb)
         replace HB := Aside0.mk (below_step zq5_7 hb)
         (try clear hb)
         (try clear hb2)
         (try clear hk)
         (try clear hi)
         refine hK.out _ _ ⟨(blk_cell BK277.out 0).trans rfl, (blk_cell BK277.out 1).trans rfl, (blk_cell BK282.out 0).trans rfl, (blk_cell BK282.out 1).trans rfl, (blk_cell BK272.out 0).trans rfl, (blk_cell BK272.out 1).trans rfl, (blk_cell BK263.out 0).trans rfl, (blk_cell BK263.out 1).trans rfl⟩ (fun hHeld => ?_)
         clear hK K
         refine norm_ (a' := ?_) ?_ ?_
         rotate_left
         ·show Act.put _ (some 59) _ = _
          simp only [Act.put, List.setIfInBounds_toArray, List.set_cons_zero, List.set_cons_succ, i64_w, i32_w]
          rfl
         refine one_ (i := 43) (N := some 61) #[bT5, bT5, bT5, bT5, bT5, bT5, bT5, bT5, bT5, bT5, bT5, bT5, bT5, bT5, bT5, bT5, bT5, bT5, bT5, bT5, bT5, bT5, bT5, bT5, bT5, bT5, bT5, bT5, bT5, bT5, bT5, bT5, bT5, bT5, bT5, bT5, bT5, bT5, bT5, bT5, bT5, bT5, bT5, bT5, bF5, bF5, bF5, bF5, bF5, bF5, bF5, bF5, bF5] rfl rfl (one_of HT_.out (by kernel_rfl)) (by decide) (fun K hK => ?_)
         refine goes_ Try.func25 (by kernel_rfl) rfl #[.agg #[.int .i64 t278, .slice Ao101 t279.length co101]] (by rfl) rfl rfl zq5_18 ?_
         with_reducible refine (cenotaphref02_Top.calls t278 _ _ t279 t305 _ ?side1 ?side2 A74.out).mono ?_
         (case side1 => repeat (first | exact (Kd.R_reads' HO281.out).2.2 | (with_reducible refine Kd.C_alloc ?_ _) | (with_reducible refine Kd.C_drewN ?_ _) | (with_reducible refine Kd.C_drew ?_)))
         (case side2 => exact (Kd.R_reads' HO281.out).2.1)
         rintro e w115 ⟨rfl, hb⟩
         refine ⟨_, rfl, ?_⟩
         replace HO267 := Aside0.mk (Kd.R_below zq5_23 hb)
         replace HO271 := Aside0.mk (Kd.R_below zq5_24 hb)
         replace HO276 := Aside0.mk (Kd.R_below zq5_25 hb)
         replace HO281 := Aside0.mk (Kd.R_below zq5_26 hb)
         replace HO287 := Aside0.mk (Kd.R_below zq5_27 hb)
         replace BK263 := Aside0.mk (blk_below (g := gb263) (o := .cells #[.int .i64 t264, .slice Ao82 t265.length co82] 30 (0, 0)) zq5_19 hb)
         replace BK272 := Aside0.mk (blk_below (g := gb272) (o := .cells #[.int .i64 t268, .slice Ao87 t269.length co87] 24 (0, 0)) zq5_20 hb)
         replace BK277 := Aside0.mk (blk_below (g := gb277) (o := .cells #[.int .i64 t273, .slice Ao93 t274.length co93] 24 (0, 0)) zq5_21 hb)
         replace BK282 := Aside0.mk (blk_below (g := gb282) (o := .cells #[.int .i64 t278, .slice Ao101 t279.length co101] 30 (0, 0)) zq5_22 hb)
         replace HB := Aside0.mk (below_step zq5_7 hb)
         (try clear hb)
         (try clear hb2)
         (try clear hk)
         (try clear hi)
         refine hK.out _ _ ⟨(blk_cell BK277.out 0).trans rfl, (blk_cell BK277.out 1).trans rfl, (blk_cell BK282.out 0).trans rfl, (blk_cell BK282.out 1).trans rfl, (blk_cell BK272.out 0).trans rfl, (blk_cell BK272.out 1).trans rfl, (blk_cell BK263.out 0).trans rfl, (blk_cell BK263.out 1).trans rfl⟩ (fun hHeld => ?_)
         clear hK K
         refine norm_ (a' := ?_) ?_ ?_
         rotate_left
         ·show Act.put _ (some 61) _ = _
          simp only [Act.put, List.setIfInBounds_toArray, List.set_cons_zero, List.set_cons_succ, i64_w, i32_w]
          rfl
         refine pure_ (i := 44) (N := some 62) (v := ?_) (a' := ?_) #[bT5, bT5, bT5, bT5, bT5, bT5, bT5, bT5, bT5, bT5, bT5, bT5, bT5, bT5, bT5, bT5, bT5, bT5, bT5, bT5, bT5, bT5, bT5, bT5, bT5, bT5, bT5, bT5, bT5, bT5, bT5, bT5, bT5, bT5, bT5, bT5, bT5, bT5, bT5, bT5, bT5, bT5, bT5, bT5, bT5, bF5, bF5, bF5, bF5, bF5, bF5, bF5, bF5] rfl rfl (any_of HT_.out (by kernel_rfl)) (fun _ _ _ h => h) (Or.inl ⟨by rfl, ?_⟩) ?_ ?_
         rotate_left
         ·intro w'
          go_simp
          with_reducible rfl
         rotate_left
         ·simp only [Act.put, List.setIfInBounds_toArray, List.set_cons_zero, List.set_cons_succ, i64_w, i32_w]
          rfl
         refine pure_ (i := 45) (N := some 63) (v := ?_) (a' := ?_) #[bT5, bT5, bT5, bT5, bT5, bT5, bT5, bT5, bT5, bT5, bT5, bT5, bT5, bT5, bT5, bT5, bT5, bT5, bT5, bT5, bT5, bT5, bT5, bT5, bT5, bT5, bT5, bT5, bT5, bT5, bT5, bT5, bT5, bT5, bT5, bT5, bT5, bT5, bT5, bT5, bT5, bT5, bT5, bT5, bT5, bT5, bF5, bF5, bF5, bF5, bF5, bF5, bF5] rfl rfl (any_of HT_.out (by kernel_rfl)) (fun _ _ _ h => h) (Or.inl ⟨by rfl, ?_⟩) ?_ ?_
         rotate_left
         ·intro w'
          go_simp
          with_reducible rfl
         rotate_left
         ·simp only [Act.put, List.setIfInBounds_toArray, List.set_cons_zero, List.set_cons_succ, i64_w, i32_w]
          rfl
         refine pure_ (i := 46) (N := some 64) (v := ?_) (a' := ?_) #[bT5, bT5, bT5, bT5, bT5, bT5, bT5, bT5, bT5, bT5, bT5, bT5, bT5, bT5, bT5, bT5, bT5, bT5, bT5, bT5, bT5, bT5, bT5, bT5, bT5, bT5, bT5, bT5, bT5, bT5, bT5, bT5, bT5, bT5, bT5, bT5, bT5, bT5, bT5, bT5, bT5, bT5, bT5, bT5, bT5, bT5, bT5, bF5, bF5, bF5, bF5, bF5, bF5] rfl rfl (any_of HT_.out (by kernel_rfl)) (fun _ _ _ h => h) (Or.inl ⟨by rfl, ?_⟩) ?_ ?_
         rotate_left
         ·intro w'
          go_simp
          with_reducible rfl
         rotate_left
         ·simp only [Act.put, List.setIfInBounds_toArray, List.set_cons_zero, List.set_cons_succ, i64_w, i32_w]
          rfl
         refine take_ (i := 47) (N := some 65) (v := ?_) (a' := ?_) #[bT5, bT5, bT5, bT5, bT5, bT5, bT5, bT5, bT5, bT5, bT5, bT5, bT5, bT5, bT5, bT5, bT5, bT5, bT5, bT5, bT5, bT5, bT5, bT5, bT5, bT5, bT5, bT5, bT5, bT5, bT5, bT5, bT5, bT5, bT5, bT5, bT5, bT5, bT5, bT5, bT5, bT5, bT5, bT5, bT5, bT5, bT5, bT5, bF5, bF5, bF5, bF5, bF5] rfl rfl (take_ofW HT_.out HW_.out (by kernel_rfl)) (fun _ _ _ h => h) (Or.inl ⟨by rfl, ?_⟩) hHeld ?_ ?_
         rotate_left
         ·rintro w' ⟨s0, s1, s2, s3, s4, s5, s6, s7⟩
          go_simp
          with_reducible rfl
         rotate_left
         ·simp only [Act.put, List.setIfInBounds_toArray, List.set_cons_zero, List.set_cons_succ, i64_w, i32_w]
          rfl
         refine take_ (i := 49) (N := some 67) (v := ?_) (a' := ?_) #[bT5, bT5, bT5, bT5, bT5, bT5, bT5, bT5, bT5, bT5, bT5, bT5, bT5, bT5, bT5, bT5, bT5, bT5, bT5, bT5, bT5, bT5, bT5, bT5, bT5, bT5, bT5, bT5, bT5, bT5, bT5, bT5, bT5, bT5, bT5, bT5, bT5, bT5, bT5, bT5, bT5, bT5, bT5, bT5, bT5, bT5, bT5, bT5, bF5, bT5, bF5, bF5, bF5] rfl rfl (take_ofW HT_.out HW_.out (by kernel_rfl)) (fun _ _ _ h => h) (Or.inl ⟨by rfl, ?_⟩) hHeld ?_ ?_
         rotate_left
         ·rintro w' ⟨s0, s1, s2, s3, s4, s5, s6, s7⟩
          go_simp
          with_reducible rfl
         rotate_left
         ·simp only [Act.put, List.setIfInBounds_toArray, List.set_cons_zero, List.set_cons_succ, i64_w, i32_w]
          rfl
         refine one_ (i := 48) (N := some 66) #[bT5, bT5, bT5, bT5, bT5, bT5, bT5, bT5, bT5, bT5, bT5, bT5, bT5, bT5, bT5, bT5, bT5, bT5, bT5, bT5, bT5, bT5, bT5, bT5, bT5, bT5, bT5, bT5, bT5, bT5, bT5, bT5, bT5, bT5, bT5, bT5, bT5, bT5, bT5, bT5, bT5, bT5, bT5, bT5, bT5, bT5, bT5, bT5, bT5, bT5, bF5, bF5, bF5] rfl rfl (one_of HT_.out (by kernel_rfl)) (by decide) (fun K hK => ?_)
         refine goes_ Try.func21 (by kernel_rfl) rfl #[.agg #[.int .i64 t268, .slice Ao87 t269.length co87]] (by rfl) rfl rfl zq5_18 ?_
         with_reducible refine (cenotaphlaw02_From.calls t268 _ _ t269 t306 t307 _ ?side1 ?side2 A76.out).mono ?_
         (case side1 => repeat (first | exact (Kd.R_reads' HO271.out).2.2 | (with_reducible refine Kd.C_alloc ?_ _) | (with_reducible refine Kd.C_drewN ?_ _) | (with_reducible refine Kd.C_drew ?_)))
         (case side2 => exact (Kd.R_reads' HO271.out).2.1)
         rintro e w116 ⟨v308, rfl, ho0, hb⟩
         refine ⟨_, rfl, ?_⟩
         have HO309 := Aside0.mk (Kd.R_lower (Kd.R_new' (Kd.R_new' (Kd.R_new' (Kd.R_new' (Kd.R_new' ho0 (Kd.R_lt zq5_23)) (Kd.R_lt zq5_24)) (Kd.R_lt zq5_25)) (Kd.R_lt zq5_26)) (Kd.R_lt zq5_27)) (below_size zq5_7))
         replace HO267 := Aside0.mk (Kd.R_elder' zq5_23 (Kd.R_base ho0) hb)
         replace HO271 := Aside0.mk (Kd.R_elder' zq5_24 (Kd.R_base ho0) hb)
         replace HO276 := Aside0.mk (Kd.R_elder' zq5_25 (Kd.R_base ho0) hb)
         replace HO281 := Aside0.mk (Kd.R_elder' zq5_26 (Kd.R_base ho0) hb)
         replace HO287 := Aside0.mk (Kd.R_elder' zq5_27 (Kd.R_base ho0) hb)
         replace BK263 := Aside0.mk (blk_below (g := gb263) (o := .cells #[.int .i64 t264, .slice Ao82 t265.length co82] 30 (0, 0)) zq5_19 hb)
         replace BK272 := Aside0.mk (blk_below (g := gb272) (o := .cells #[.int .i64 t268, .slice Ao87 t269.length co87] 24 (0, 0)) zq5_20 hb)
         replace BK277 := Aside0.mk (blk_below (g := gb277) (o := .cells #[.int .i64 t273, .slice Ao93 t274.length co93] 24 (0, 0)) zq5_21 hb)
         replace BK282 := Aside0.mk (blk_below (g := gb282) (o := .cells #[.int .i64 t278, .slice Ao101 t279.length co101] 30 (0, 0)) zq5_22 hb)
         replace HB := Aside0.mk (below_step zq5_7 hb)
         (try clear hb)
         (try clear hb2)
         (try clear hk)
         (try clear hi)
         (try clear ho0)
         obtain ⟨Ao117, co117, eo117⟩ := Kd.R_slice HO309.out
         (first | subst eo117 | (injection eo117 with f1_ f2_ f3_; have f4_ := f1_.symm; have f5_ := f3_.symm; clear f1_ f2_ f3_; subst f4_; subst f5_))
         refine hK.out _ _ ⟨(blk_cell BK277.out 0).trans rfl, (blk_cell BK277.out 1).trans rfl, (blk_cell BK282.out 0).trans rfl, (blk_cell BK282.out 1).trans rfl, (blk_cell BK272.out 0).trans rfl, (blk_cell BK272.out 1).trans rfl, (blk_cell BK263.out 0).trans rfl, (blk_cell BK263.out 1).trans rfl⟩ (fun hHeld => ?_)
         clear hK K
         refine norm_ (a' := ?_) ?_ ?_
         rotate_left
         ·show Act.put _ (some 66) _ = _
          simp only [Act.put, List.setIfInBounds_toArray, List.set_cons_zero, List.set_cons_succ, i64_w, i32_w]
          rfl
         refine one_ (i := 50) (N := some 68) #[bT5, bT5, bT5, bT5, bT5, bT5, bT5, bT5, bT5, bT5, bT5, bT5, bT5, bT5, bT5, bT5, bT5, bT5, bT5, bT5, bT5, bT5, bT5, bT5, bT5, bT5, bT5, bT5, bT5, bT5, bT5, bT5, bT5, bT5, bT5, bT5, bT5, bT5, bT5, bT5, bT5, bT5, bT5, bT5, bT5, bT5, bT5, bT5, bT5, bT5, bT5, bF5, bF5] rfl rfl (one_of HT_.out (by kernel_rfl)) (by decide) (fun K hK => ?_)
         refine goes_ Try.func20 (by kernel_rfl) rfl #[.agg #[.int .i64 t306, .slice Ao117 t307.length co117], .agg #[.int .i64 t264, .slice Ao82 t265.length co82]] (by rfl) rfl rfl zq5_18 ?_
         with_reducible refine (cenotaphref02_Same.calls k t306 _ _ t307 t264 _ _ t265 t310 _ ?side1 ?side2 ?side3 ?side4 A77.out).mono ?_
         (case side1 => repeat (first | exact (Kd.R_reads' HO309.out).2.2 | (with_reducible refine Kd.C_alloc ?_ _) | (with_reducible refine Kd.C_drewN ?_ _) | (with_reducible refine Kd.C_drew ?_)))
         (case side2 => exact (Kd.R_reads' HO309.out).2.1)
         (case side3 => repeat (first | exact (Kd.R_reads' HO267.out).2.2 | (with_reducible refine Kd.C_alloc ?_ _) | (with_reducible refine Kd.C_drewN ?_ _) | (with_reducible refine Kd.C_drew ?_)))
         (case side4 => exact (Kd.R_reads' HO267.out).2.1)
         rintro e w118 ⟨rfl, hb⟩
         refine ⟨_, rfl, ?_⟩
         replace HO267 := Aside0.mk (Kd.R_below zq5_23 hb)
         replace HO271 := Aside0.mk (Kd.R_below zq5_24 hb)
         replace HO276 := Aside0.mk (Kd.R_below zq5_25 hb)
         replace HO281 := Aside0.mk (Kd.R_below zq5_26 hb)
         replace HO287 := Aside0.mk (Kd.R_below zq5_27 hb)
         replace HO309 := Aside0.mk (Kd.R_below (by (with_reducible repeat (first | apply Kd.R_alloc | apply Kd.R_drewN | apply Kd.R_drew)); exact HO309.out) hb)
         replace BK263 := Aside0.mk (blk_below (g := gb263) (o := .cells #[.int .i64 t264, .slice Ao82 t265.length co82] 30 (0, 0)) zq5_19 hb)
         replace BK272 := Aside0.mk (blk_below (g := gb272) (o := .cells #[.int .i64 t268, .slice Ao87 t269.length co87] 24 (0, 0)) zq5_20 hb)
         replace BK277 := Aside0.mk (blk_below (g := gb277) (o := .cells #[.int .i64 t273, .slice Ao93 t274.length co93] 24 (0, 0)) zq5_21 hb)
         replace BK282 := Aside0.mk (blk_below (g := gb282) (o := .cells #[.int .i64 t278, .slice Ao101 t279.length co101] 30 (0, 0)) zq5_22 hb)
         replace HB := Aside0.mk (below_step zq5_7 hb)
         (try clear hb)
         (try clear hb2)
         (try clear hk)
         (try clear hi)
         refine hK.out _ _ ⟨(blk_cell BK277.out 0).trans rfl, (blk_cell BK277.out 1).trans rfl, (blk_cell BK282.out 0).trans rfl, (blk_cell BK282.out 1).trans rfl, (blk_cell BK272.out 0).trans rfl, (blk_cell BK272.out 1).trans rfl, (blk_cell BK263.out 0).trans rfl, (blk_cell BK263.out 1).trans rfl⟩ (fun hHeld => ?_)
         clear hK K
         refine norm_ (a' := ?_) ?_ ?_
         rotate_left
         ·show Act.put _ (some 68) _ = _
          simp only [Act.put, List.setIfInBounds_toArray, List.set_cons_zero, List.set_cons_succ, i64_w, i32_w]
          rfl
         refine pure_ (i := 51) (N := some 69) (v := ?_) (a' := ?_) #[bT5, bT5, bT5, bT5, bT5, bT5, bT5, bT5, bT5, bT5, bT5, bT5, bT5, bT5, bT5, bT5, bT5, bT5, bT5, bT5, bT5, bT5, bT5, bT5, bT5, bT5, bT5, bT5, bT5, bT5, bT5, bT5, bT5, bT5, bT5, bT5, bT5, bT5, bT5, bT5, bT5, bT5, bT5, bT5, bT5, bT5, bT5, bT5, bT5, bT5, bT5, bT5, bF5] rfl rfl (any_of HT_.out (by kernel_rfl)) (fun _ _ _ h => h) (Or.inl ⟨by rfl, ?_⟩) ?_ ?_
         rotate_left
         ·intro w'
          go_simp
          with_reducible rfl
         rotate_left
         ·simp only [Act.put, List.setIfInBounds_toArray, List.set_cons_zero, List.set_cons_succ, i64_w, i32_w]
          rfl
         refine pure_ (i := 52) (N := some 4) (v := ?_) (a' := ?_) #[bT5, bT5, bT5, bT5, bT5, bT5, bT5, bT5, bT5, bT5, bT5, bT5, bT5, bT5, bT5, bT5, bT5, bT5, bT5, bT5, bT5, bT5, bT5, bT5, bT5, bT5, bT5, bT5, bT5, bT5, bT5, bT5, bT5, bT5, bT5, bT5, bT5, bT5, bT5, bT5, bT5, bT5, bT5, bT5, bT5, bT5, bT5, bT5, bT5, bT5, bT5, bT5, bT5] rfl rfl (any_of HT_.out (by kernel_rfl)) (fun _ _ _ h => h) (Or.inl ⟨by rfl, ?_⟩) ?_ ?_
         rotate_left
         ·intro w'
          go_simp
          with_reducible rfl
         rotate_left
         ·simp only [Act.put, List.setIfInBounds_toArray, List.set_cons_zero, List.set_cons_succ, i64_w, i32_w]
          rfl
         refine done_ (done_of HT_.out (by kernel_rfl)) ?_
         try go_wp2
         go_ret
         exact ⟨by first | rfl | (simp [errW_none, errW_some] <;> rfl) | (simp [*, errW_none, errW_some] <;> rfl), by repeat (first | (with_reducible first | exact HB.out | apply below_alloc | apply pw_below_drewN | apply below_drew1 | refine below_set ?_ GE263.out | refine below_set ?_ GE272.out | refine below_set ?_ GE277.out | refine below_set ?_ GE282.out) | exact HB.out)⟩
        ·rw [if_neg c75] at H
         have c75b0 : (t304 == t305) = false := beq_eq_false_iff_ne.mpr c75
         have c75b1 : (t304 != t305) = true := bne_iff_ne.mpr c75
         exact absurd H (by simp)
       ·rw [if_neg c72] at H
        have c72b0 : (t302 == t303) = false := beq_eq_false_iff_ne.mpr c72
        have c72b1 : (t302 != t303) = true := bne_iff_ne.mpr c72
        exact absurd H (by simp)
      ·rw [if_neg c69] at H
       have c69b0 : (t292 == false) = false := by simpa using c69
       (try (have c69b1 : decide (t292 = false) = false := by simpa using c69))
       (try (have c69b2 : (t292 == false) = false := by simpa using c69))
       (try (have c69b3 : ¬ (t292 = false) := by simpa using c69))
       clear c69
       exact absurd H (by simp)
    ·rw [if_neg c16] at H
     have c16b0 : (t290 == t291) = false := by simpa using c16
     (try (have c16b1 : decide (t290 = t291) = false := by simpa using c16))
     (try (have c16b2 : (t290 == t291) = false := by simpa using c16))
     (try (have c16b3 : ¬ (t290 = t291) := by simpa using c16))
     clear c16
     exact absurd H (by simp)
   ·replace c13 := Bool.eq_false_iff.mpr c13
    subst c13
    have H1 : (none) = some r := by rw [if_neg (show ¬ (false = true) by decide)] at H; exact H
    clear H
    have H := H1
    clear H1
    exact absurd H (by simp)
  ·replace c11 := Bool.eq_false_iff.mpr c11
   subst c11
   have H1 : (none) = some r := by rw [if_neg (show ¬ (false = true) by decide)] at H; exact H
   clear H
   have H := H1
   clear H1
   exact absurd H (by simp)
 ·replace c8 := Bool.eq_false_iff.mpr c8
  subst c8
  have H1 : (none) = some r := by rw [if_neg (show ¬ (false = true) by decide)] at H; exact H
  clear H
  have H := H1
  clear H1
  exact absurd H (by simp)

end Go.Proofs.Ytejoofeigeoboaa.P
