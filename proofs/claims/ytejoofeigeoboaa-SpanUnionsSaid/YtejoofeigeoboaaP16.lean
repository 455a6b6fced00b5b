-- Written by a program of this session (wip/pp.py over the kit's printer, with our own texts put in).
import Derived.Test.YtejoofeigeoboaaP0
import Derived.Test.YtejoofeigeoboaaP1
import Derived.Test.YtejoofeigeoboaaP2
import Derived.Test.YtejoofeigeoboaaP3
import Derived.Test.YtejoofeigeoboaaP4
import Derived.Test.YtejoofeigeoboaaP5
import Derived.Test.YtejoofeigeoboaaP6
import Derived.Test.YtejoofeigeoboaaP7
import Derived.Test.YtejoofeigeoboaaP15
namespace Go.Proofs.Ytejoofeigeoboaa.P
open Go.RowKit Go.Proofs.YtejoofeigeoboaaW.PrintWords Go.Proofs.YtejoofeigeoboaaW.PrintLast Go.Proofs.YtejoofeigeoboaaW.PrintMore
attribute [local go_sem] max2_int min2_int max_two min_two max_three min_three max_four min_four   -- for this text's walks alone
set_option linter.unusedVariables false
set_option linter.unusedSimpArgs false

/-! ### cenotaphlaw02_SpanUnions: function 9 -/
abbrev bT9 : Bool := true
abbrev bF9 : Bool := false
theorem zq9x_0 {p_ : Prop} (h_ : p_ := by (with_reducible repeat (first | apply Kd.R_alloc | apply Kd.R_drewN | apply Kd.R_drew)); exact (Kd.R_mono (Kd.R_mono (Kd.R_far (p := ⟨gb487, 1, none⟩) (Kd.R_far (p := ⟨gb487, 0, none⟩) (Kd.R_far (p := ⟨gb486, 1, none⟩) (Kd.R_far (p := ⟨gb486, 0, none⟩) (Kd.R_types (Kd.R_types HO481.out BK486.out (by decide)) BK487.out (by decide)) (fun _ hk => hk.1.2) (.int .i64 t478)) (fun _ hk => hk.1.2) (.slice Ao56 t479.length co56)) (fun _ hk => hk.2) (.int .i64 t482)) (fun _ hk => hk.2) (.slice Ao59 t483.length co59)) (fun _ h_ => h_.1)) (fun _ h_ => h_.1))) : p_ := h_
theorem zq9x_1 {p_ : Prop} (h_ : p_ := by (with_reducible repeat (first | apply Kd.R_alloc | apply Kd.R_drewN | apply Kd.R_drew)); exact (Kd.R_mono (Kd.R_mono (Kd.R_far (p := ⟨gb487, 1, none⟩) (Kd.R_far (p := ⟨gb487, 0, none⟩) (Kd.R_far (p := ⟨gb486, 1, none⟩) (Kd.R_far (p := ⟨gb486, 0, none⟩) (Kd.R_types (Kd.R_types HO485.out BK486.out (by decide)) BK487.out (by decide)) (fun _ hk => hk.1.2) (.int .i64 t478)) (fun _ hk => hk.1.2) (.slice Ao56 t479.length co56)) (fun _ hk => hk.2) (.int .i64 t482)) (fun _ hk => hk.2) (.slice Ao59 t483.length co59)) (fun _ h_ => h_.1)) (fun _ h_ => h_.1))) : p_ := h_
theorem zq9x_2 {p_ : Prop} (h_ : p_ := by (with_reducible repeat (first | apply Kd.R_alloc | apply Kd.R_drewN | apply Kd.R_drew)); exact (Kd.R_mono (Kd.R_far (p := ⟨gb492, 1, none⟩) (Kd.R_far (p := ⟨gb492, 0, none⟩) (Kd.R_types HO485.out BK492.out (by decide)) (fun _ hk => hk.2) (.int .i64 t488)) (fun _ hk => hk.2) (.slice Ao75 t489.length co75)) (fun _ h_ => h_.1))) : p_ := h_
theorem zq9x_3 {p_ : Prop} (h_ : p_ := by (with_reducible repeat (first | apply Kd.R_alloc | apply Kd.R_drewN | apply Kd.R_drew)); exact (Kd.R_mono (Kd.R_far (p := ⟨gb492, 1, none⟩) (Kd.R_far (p := ⟨gb492, 0, none⟩) (Kd.R_types HO481.out BK492.out (by decide)) (fun _ hk => hk.2) (.int .i64 t488)) (fun _ hk => hk.2) (.slice Ao75 t489.length co75)) (fun _ h_ => h_.1))) : p_ := h_
theorem zq9x_4 {p_ : Prop} (h_ : p_ := by repeat (first | (with_reducible first | exact HB.out | apply below_alloc | apply pw_below_drewN | apply below_drew1 | refine below_set ?_ GE468.out | refine below_set ?_ GE469.out | refine below_set ?_ GE486.out | refine below_set ?_ GE487.out | refine below_set ?_ GE492.out | refine below_set ?_ GE497.out) | exact HB.out)) : p_ := h_
theorem zq9x_5 {p_ : Prop} (h_ : p_ := by repeat (first | (with_reducible first | exact HB.out | apply below_alloc | apply pw_below_drewN | apply below_drew1 | refine below_set ?_ GE468.out | refine below_set ?_ GE469.out | refine below_set ?_ GE486.out | refine below_set ?_ GE487.out | refine below_set ?_ GE492.out) | exact HB.out)) : p_ := h_
theorem zq9x_6 {p_ : Prop} (h_ : p_ := by rw [hg]; exact (below_size (by repeat (first | (with_reducible first | exact HB.out | apply below_alloc | apply pw_below_drewN | apply below_drew1 | refine below_set ?_ GE468.out | refine below_set ?_ GE469.out | refine below_set ?_ GE487.out) | exact HB.out)))) : p_ := h_
theorem zq9x_7 {p_ : Prop} (h_ : p_ := by rw [hg]; exact (below_size (by repeat (first | (with_reducible first | exact HB.out | apply below_alloc | apply pw_below_drewN | apply below_drew1 | refine below_set ?_ GE468.out | refine below_set ?_ GE469.out | refine below_set ?_ GE486.out) | exact HB.out)))) : p_ := h_
theorem zq9x_8 {p_ : Prop} (h_ : p_ := by repeat (first | (with_reducible first | exact HB.out | apply below_alloc | apply pw_below_drewN | apply below_drew1 | refine below_set ?_ GE468.out | refine below_set ?_ GE469.out | refine below_set ?_ GE487.out | refine below_set ?_ GE486.out) | exact HB.out)) : p_ := h_
theorem zq9x_9 {p_ : Prop} (h_ : p_ := by repeat (first | (with_reducible first | exact HB.out | apply below_alloc | apply pw_below_drewN | apply below_drew1 | refine below_set ?_ GE468.out | refine below_set ?_ GE469.out | refine below_set ?_ GE486.out | refine below_set ?_ GE487.out) | exact HB.out)) : p_ := h_
theorem zq9x_10 {p_ : Prop} (h_ : p_ := by rw [hg]; exact Nat.ne_of_lt (blk_lt (g := gb468) (o := .cells #[.int .i64 t470, .slice Ao43 t471.length co43] 30 (0, 0)) (by (with_reducible repeat (first | refine blk_drewN ?_ _ | refine blk_drew ?_ | refine blk_alloc ?_ _)); exact BK468.out))) : p_ := h_
theorem zq9x_11 {p_ : Prop} (h_ : p_ := by rw [hg]; exact Nat.ne_of_gt (blk_lt (g := gb468) (o := .cells #[.int .i64 t470, .slice Ao43 t471.length co43] 30 (0, 0)) (by (with_reducible repeat (first | refine blk_drewN ?_ _ | refine blk_drew ?_ | refine blk_alloc ?_ _)); exact BK468.out))) : p_ := h_
theorem zq9x_12 {p_ : Prop} (h_ : p_ := by rw [hg]; exact Nat.ne_of_lt (blk_lt (g := gb469) (o := .cells #[.int .i64 t474, .slice Ao46 t475.length co46] 30 (0, 0)) (by (with_reducible repeat (first | refine blk_drewN ?_ _ | refine blk_drew ?_ | refine blk_alloc ?_ _)); exact BK469.out))) : p_ := h_
theorem zq9x_13 {p_ : Prop} (h_ : p_ := by rw [hg]; exact Nat.ne_of_gt (blk_lt (g := gb469) (o := .cells #[.int .i64 t474, .slice Ao46 t475.length co46] 30 (0, 0)) (by (with_reducible repeat (first | refine blk_drewN ?_ _ | refine blk_drew ?_ | refine blk_alloc ?_ _)); exact BK469.out))) : p_ := h_
theorem zq9x_14 {p_ : Prop} (h_ : p_ := by rw [hg]; exact (below_size (by repeat (first | (with_reducible first | exact HB.out | apply below_alloc | apply pw_below_drewN | apply below_drew1 | refine below_set ?_ GE468.out | refine below_set ?_ GE469.out) | exact HB.out)))) : p_ := h_
theorem zq9x_15 {p_ : Prop} (h_ : p_ := by repeat (first | (with_reducible first | exact HB.out | apply below_alloc | apply pw_below_drewN | apply below_drew1 | refine below_set ?_ GE468.out | refine below_set ?_ GE469.out | refine below_set ?_ GE486.out) | exact HB.out)) : p_ := h_
theorem zq9x_16 {p_ : Prop} (h_ : p_ := by repeat (first | (with_reducible first | exact HB.out | apply below_alloc | apply pw_below_drewN | apply below_drew1 | refine below_set ?_ GE468.out | refine below_set ?_ GE469.out | refine below_set ?_ GE487.out) | exact HB.out)) : p_ := h_
theorem zq9x_17 {p_ : Prop} (h_ : p_ := by rw [hg]; exact Nat.ne_of_lt (blk_lt (g := gb487) (o := .cells #[.int .i64 0, .slice none 0 0] 24 (0, 0)) (by (with_reducible repeat (first | refine blk_drewN ?_ _ | refine blk_drew ?_ | refine blk_alloc ?_ _)); exact BK487.out))) : p_ := h_
theorem zq9x_18 {p_ : Prop} (h_ : p_ := by rw [hg]; exact Nat.ne_of_gt (blk_lt (g := gb487) (o := .cells #[.int .i64 0, .slice none 0 0] 24 (0, 0)) (by (with_reducible repeat (first | refine blk_drewN ?_ _ | refine blk_drew ?_ | refine blk_alloc ?_ _)); exact BK487.out))) : p_ := h_
theorem zq9x_19 {p_ : Prop} (h_ : p_ := by rw [hg]; exact Nat.ne_of_lt (blk_lt (g := gb486) (o := .cells #[.int .i64 0, .slice none 0 0] 24 (0, 0)) (by (with_reducible repeat (first | refine blk_drewN ?_ _ | refine blk_drew ?_ | refine blk_alloc ?_ _)); exact BK486.out))) : p_ := h_
theorem zq9x_20 {p_ : Prop} (h_ : p_ := by rw [hg]; exact Nat.ne_of_gt (blk_lt (g := gb486) (o := .cells #[.int .i64 0, .slice none 0 0] 24 (0, 0)) (by (with_reducible repeat (first | refine blk_drewN ?_ _ | refine blk_drew ?_ | refine blk_alloc ?_ _)); exact BK486.out))) : p_ := h_
theorem zq9x_21 {p_ : Prop} (h_ : p_ := by first | (simp only [putAll, Act.put, List.setIfInBounds_toArray, List.set_cons_zero, List.set_cons_succ]; done) | (simp only [putAll, Act.put, List.setIfInBounds_toArray, List.set_cons_zero, List.set_cons_succ]; rfl)) : p_ := h_
theorem zq9x_22 {p_ : Prop} (h_ : p_ := by repeat (first | (with_reducible first | exact HB.out | apply below_alloc | apply pw_below_drewN | apply below_drew1 | refine below_set ?_ GE468.out | refine below_set ?_ GE469.out) | exact HB.out)) : p_ := h_
theorem zq9x_23 {p_ : Prop} (h_ : p_ := by repeat (first | (with_reducible first | exact HB.out | apply below_alloc | apply pw_below_drewN | apply below_drew1 | refine below_set ?_ GE468.out) | exact HB.out)) : p_ := h_
theorem zq9x_24 {p_ : Prop} (h_ : p_ := by (with_reducible repeat (first | apply Kd.R_alloc | apply Kd.R_drewN | apply Kd.R_drew)); exact Kd.R_mono HO485.out (fun _ hk => ⟨hk.1.1.2, ⟨hk.1.2, hk.2⟩⟩)) : p_ := h_
theorem zq9x_25 {p_ : Prop} (h_ : p_ := by (with_reducible repeat (first | apply Kd.R_alloc | apply Kd.R_drewN | apply Kd.R_drew)); exact Kd.R_mono HO473.out (fun _ hk => ⟨hk.1.1, ⟨hk.1.2, hk.2⟩⟩)) : p_ := h_
theorem zq9x_26 {p_ : Prop} (h_ : p_ := by (with_reducible repeat (first | apply Kd.R_alloc | apply Kd.R_drewN | apply Kd.R_drew)); exact Kd.R_mono HO477.out (fun _ hk => ⟨hk.1.1, ⟨hk.1.2, hk.2⟩⟩)) : p_ := h_
theorem zq9x_27 {p_ : Prop} (h_ : p_ := by (with_reducible repeat (first | apply Kd.R_alloc | apply Kd.R_drewN | apply Kd.R_drew)); exact Kd.R_mono HO481.out (fun _ hk => ⟨hk.1.1, ⟨hk.1.2, hk.2⟩⟩)) : p_ := h_
theorem zq9x_28 {p_ : Prop} (h_ : p_ := by (with_reducible repeat (first | apply Kd.R_alloc | apply Kd.R_drewN | apply Kd.R_drew)); exact Kd.R_mono HO481.out (fun _ hk => ⟨hk.1.2, hk.2⟩)) : p_ := h_
theorem zq9x_29 {p_ : Prop} (h_ : p_ := by (try simp only [List.map_toArray, List.map_cons, List.map_nil]); first | done | rfl | (simp only [List.length_drop, List.length_take]; rfl)) : p_ := h_
theorem zq9x_30 {p_ : Prop} (h_ : p_ := by repeat (first | (with_reducible first | exact HB.out | apply below_alloc | apply pw_below_drewN | apply below_drew1) | exact HB.out)) : p_ := h_
theorem zq9x_31 {p_ : Prop} (h_ : p_ := by (with_reducible repeat (first | refine blk_drewN ?_ _ | refine blk_drew ?_ | refine blk_alloc ?_ _)); exact BK468.out) : p_ := h_
theorem zq9x_32 {p_ : Prop} (h_ : p_ := by (with_reducible repeat (first | refine blk_drewN ?_ _ | refine blk_drew ?_ | refine blk_alloc ?_ _)); exact BK469.out) : p_ := h_
theorem zq9x_33 {p_ : Prop} (h_ : p_ := by (with_reducible repeat (first | refine blk_drewN ?_ _ | refine blk_drew ?_ | refine blk_alloc ?_ _)); exact BK486.out) : p_ := h_
theorem zq9x_34 {p_ : Prop} (h_ : p_ := by (with_reducible repeat (first | refine blk_drewN ?_ _ | refine blk_drew ?_ | refine blk_alloc ?_ _)); exact BK487.out) : p_ := h_
theorem zq9x_35 {p_ : Prop} (h_ : p_ := by (with_reducible repeat (first | refine blk_drewN ?_ _ | refine blk_drew ?_ | refine blk_alloc ?_ _)); exact BK492.out) : p_ := h_
theorem zq9x_36 {p_ : Prop} (h_ : p_ := by (with_reducible repeat (first | refine blk_drewN ?_ _ | refine blk_drew ?_ | refine blk_alloc ?_ _)); exact BK497.out) : p_ := h_
theorem zq9x_37 {p_ : Prop} (h_ : p_ := by (with_reducible repeat (first | apply Kd.R_alloc | apply Kd.R_drewN | apply Kd.R_drew)); exact HO473.out) : p_ := h_
theorem zq9x_38 {p_ : Prop} (h_ : p_ := by (with_reducible repeat (first | apply Kd.R_alloc | apply Kd.R_drewN | apply Kd.R_drew)); exact HO477.out) : p_ := h_
theorem zq9x_39 {p_ : Prop} (h_ : p_ := by (with_reducible repeat (first | apply Kd.R_alloc | apply Kd.R_drewN | apply Kd.R_drew)); exact HO481.out) : p_ := h_
theorem zq9x_40 {p_ : Prop} (h_ : p_ := by (with_reducible repeat (first | apply Kd.R_alloc | apply Kd.R_drewN | apply Kd.R_drew)); exact HO485.out) : p_ := h_
theorem zq9x_41 {p_ : Prop} (h_ : p_ := by (with_reducible repeat (first | apply Kd.R_alloc | apply Kd.R_drewN | apply Kd.R_drew)); exact HO491.out) : p_ := h_
theorem zq9x_42 {p_ : Prop} (h_ : p_ := by (with_reducible repeat (first | apply Kd.R_alloc | apply Kd.R_drewN | apply Kd.R_drew)); exact HO496.out) : p_ := h_
theorem zq9x_43 {p_ : Prop} (h_ : p_ := by (with_reducible repeat (first | apply Kd.R_alloc | apply Kd.R_drewN | apply Kd.R_drew)); exact HO502.out) : p_ := h_
theorem zq9x_44 {p_ : Prop} (h_ : p_ := by (with_reducible repeat (first | apply Kd.R_alloc | apply Kd.R_drewN | apply Kd.R_drew)); exact HO506.out) : p_ := h_
theorem zq9x_45 {p_ : Prop} (h_ : p_ := by (with_reducible repeat (first | apply Kd.R_alloc | apply Kd.R_drewN | apply Kd.R_drew)); exact HO521.out) : p_ := h_
theorem zc_9 {w : World} {g : Nat} {t : TypeId} {cs : Array Value} {v : Value} (h : Aside0 (w.heap[g]? = some (.cells cs t (0, 0)))) (i : Nat) (e : cs[i]? = some v := by rfl) : w.cell? ⟨g, i, none⟩ = some v := (blk_cell h.out i).trans e
def cenotaphlaw02_SpanUnions.f (k : Nat) (a0_0 : Int) (l0_1 : List Int) (a1_0 : Int) (l1_1 : List Int) : Option (Bool) := (cenotaphref02_Fix.f k a0_0 l0_1).bind fun bt470 => ((cenotaphref02_Fix.f k a1_0 l1_1).bind fun bt474 => ((cenotaphlaw02_To.f bt470.1 bt470.2).bind fun bt478 => ((cenotaphlaw02_To.f bt474.1 bt474.2).bind fun bt482 => ((span_Union.f k bt478.1 bt478.2 bt482.1 bt482.2).bind fun bt488 => ((span_Union.f k bt482.1 bt482.2 bt478.1 bt478.2).bind fun bt493 => ((cenotaphlaw02_told.f k).bind fun t498 => (if t498 = true then ((cenotaphlaw02_From.f bt488.1 bt488.2).bind fun bt499 => ((cenotaphref02_Union.f k bt470.1 bt470.2 bt474.1 bt474.2).bind fun bt503 => ((cenotaphref02_Same.f k bt499.1 bt499.2 bt503.1 bt503.2).bind fun t507 => (if t507 = true then ((span_Same.f k bt488.1 bt488.2 bt493.1 bt493.2).bind fun t508 => (if t508 = true then ((span_Right.f k bt488.1 bt488.2).bind fun t509 => (if t509 = true then ((span_Within.f k bt478.1 bt478.2 bt482.1 bt482.2).bind fun t510 => ((cenotaphref02_Within.f k bt470.1 bt470.2 bt474.1 bt474.2).bind fun t511 => (if (t510 != t511) = true then (none) else ((span_Same.f k bt478.1 bt478.2 bt482.1 bt482.2).bind fun t512 => ((cenotaphref02_Same.f k bt470.1 bt470.2 bt474.1 bt474.2).bind fun t513 => (if (t512 != t513) = true then (none) else ((span_Within.f k bt478.1 bt478.2 bt488.1 bt488.2).bind fun t514 => (if t514 = true then ((span_Within.f k bt482.1 bt482.2 bt488.1 bt488.2).bind fun t515 => (if t515 = true then ((span_Within.f k bt478.1 bt478.2 bt482.1 bt482.2).bind fun t516 => ((span_Same.f k bt488.1 bt488.2 bt482.1 bt482.2).bind fun t517 => (if (t516 == t517) = true then ((cenotaphlaw02_From.f bt478.1 bt478.2).bind fun bt518 => ((cenotaphref02_Same.f k bt518.1 bt518.2 bt470.1 bt470.2).bind fun t522 => (if t522 = true then ((cenotaphlaw02_From.f bt482.1 bt482.2).bind fun bt523 => ((cenotaphref02_Same.f k bt523.1 bt523.2 bt474.1 bt474.2).bind fun t527 => (some t527))) else (none)))) else (none)))) else (none))) else (none))))))))) else (none))) else (none))) else (none))))) else (none))))))))
theorem cenotaphlaw02_SpanUnions.mono : ∀ a0 a1 a2 a3 k, LeO (cenotaphlaw02_SpanUnions.f k a0 a1 a2 a3) (cenotaphlaw02_SpanUnions.f (k + 1) a0 a1 a2 a3) := by
 intro a0 a1 a2 a3 k
 unfold cenotaphlaw02_SpanUnions.f
 repeat' first
   | (with_reducible exact cenotaphlaw02_told.mono _)
   | (with_reducible exact cenotaphref02_Fix.mono _ _ _)
   | (with_reducible exact cenotaphref02_Same.mono _ _ _ _ _)
   | (with_reducible exact cenotaphref02_Union.mono _ _ _ _ _)
   | (with_reducible exact cenotaphref02_Within.mono _ _ _ _ _)
   | (with_reducible exact span_Right.mono _ _ _)
   | (with_reducible exact span_Same.mono _ _ _ _ _)
   | (with_reducible exact span_Union.mono _ _ _ _ _)
   | (with_reducible exact span_Within.mono _ _ _ _ _)
   | (with_reducible exact LeO.refl _)
   | (with_reducible exact LeO.none _)
   | (with_reducible refine LeO.ite ?_ ?_)
   | (with_reducible refine LeO.bind ?_ (fun _ => ?_))
   | exact cenotaphlaw02_told.mono _
   | exact cenotaphref02_Fix.mono _ _ _
   | exact cenotaphref02_Same.mono _ _ _ _ _
   | exact cenotaphref02_Union.mono _ _ _ _ _
   | exact cenotaphref02_Within.mono _ _ _ _ _
   | exact span_Right.mono _ _ _
   | exact span_Same.mono _ _ _ _ _
   | exact span_Union.mono _ _ _ _ _
   | exact span_Within.mono _ _ _ _ _
   | exact LeO.none _
   | refine LeO.ite ?_ ?_
   | refine LeO.bind ?_ (fun _ => ?_)
def cenotaphlaw02_SpanUnions.T2 : Bool × List (List Nat × List Nat) := (true, [([], []), ([0], [0]), ([], []), ([2, 1], [2]), ([], []), ([], []), ([4, 1, 3, 0, 1, 4, 5], [1, 4]), ([5, 3, 6, 0, 1, 2, 3, 4, 5, 6], [3, 5])])
def cenotaphlaw02_SpanUnions.B2 : List Nat := [0, 1, 0, 7, 0, 0, 63, 127]
theorem cenotaphlaw02_SpanUnions.tab2 : rtab .any (opsOf Try.f9 2) = cenotaphlaw02_SpanUnions.T2 := by kernel_rfl
theorem cenotaphlaw02_SpanUnions.bits2 : waitsOk cenotaphlaw02_SpanUnions.T2.2 cenotaphlaw02_SpanUnions.B2 = true := by kernel_rfl
def cenotaphlaw02_SpanUnions.T5 : Bool × List (List Nat × List Nat) := (true, [([], []), ([0], [0]), ([1, 0], [1]), ([2], [2]), ([3, 2, 2], [2, 3]), ([2], [2]), ([2], [2]), ([5, 6, 4, 2], [2, 5, 6]), ([4, 7, 7, 2], [2, 4, 7]), ([8, 2], [2, 8]), ([2, 9], [2, 9]), ([10, 8], [10]), ([11], [11]), ([11], [11]), ([12, 13, 11, 11], [11, 12, 13]), ([14, 11], [11, 14]), ([11, 15], [11, 15]), ([16, 14], [16]), ([17], [17]), ([18, 17, 17], [17, 18]), ([19, 17], [17, 19]), ([17, 20], [17, 20]), ([21, 19], [21]), ([22], [22]), ([22], [22]), ([23, 24, 22, 22], [22, 23, 24]), ([22], [22]), ([22], [22]), ([26, 27, 25, 22], [22, 26, 27]), ([25, 28, 22], [22, 25, 28]), ([22, 29], [22, 29]), ([30, 28], [30]), ([31], [31]), ([31], [31]), ([32, 33, 31, 31], [31, 32, 33]), ([31], [31]), ([31], [31]), ([35, 36, 34, 31], [31, 35, 36]), ([34, 37, 31], [31, 34, 37]), ([31, 38], [31, 38])])
def cenotaphlaw02_SpanUnions.B5 : List Nat := [0, 1, 3, 7, 15, 7, 7, 127, 255, 511, 1023, 2047, 4095, 4095, 16383, 32767, 65535, 131071, 262143, 524287, 1048575, 2097151, 4194303, 8388607, 8388607, 33554431, 8388607, 8388607, 268435455, 536870911, 1073741823, 2147483647, 4294967295, 4294967295, 17179869183, 4294967295, 4294967295, 137438953471, 274877906943, 549755813887]
theorem cenotaphlaw02_SpanUnions.tab5 : rtab .any (opsOf Try.f9 5) = cenotaphlaw02_SpanUnions.T5 := by kernel_rfl
theorem cenotaphlaw02_SpanUnions.bits5 : waitsOk cenotaphlaw02_SpanUnions.T5.2 cenotaphlaw02_SpanUnions.B5 = true := by kernel_rfl
def cenotaphlaw02_SpanUnions.T7 : Bool × List (List Nat × List Nat) := (true, [([], []), ([], []), ([0, 1], [0, 1]), ([2, 2], [2]), ([3], [3]), ([3], [3]), ([4, 5, 3, 3], [3, 4, 5]), ([3, 6], [3, 6]), ([7, 6], [7]), ([8], [8]), ([8], [8]), ([9, 10, 8, 8], [8, 9, 10]), ([8], [8]), ([8], [8]), ([12, 13, 11, 8], [8, 12, 13]), ([11, 14, 8], [8, 11, 14]), ([8, 15], [8, 15]), ([16, 14], [16]), ([17], [17]), ([18, 17, 17], [17, 18]), ([17], [17]), ([19, 20, 19, 17], [17, 19, 20]), ([17, 21], [17, 21]), ([22, 21], [22]), ([23], [23]), ([24, 23, 23], [23, 24]), ([23], [23]), ([25, 26, 25, 23], [23, 25, 26]), ([23, 27], [23, 27]), ([28, 27, 0, 1, 2, 3, 4, 5, 6, 7, 8, 9, 10, 11, 12, 13, 14, 15, 16, 17, 18, 19, 20, 21, 22, 23, 24, 25, 26, 27, 28], [28])])
def cenotaphlaw02_SpanUnions.B7 : List Nat := [0, 0, 3, 7, 15, 15, 63, 127, 255, 511, 511, 2047, 511, 511, 16383, 32767, 65535, 131071, 262143, 524287, 262143, 2097151, 4194303, 8388607, 16777215, 33554431, 16777215, 134217727, 268435455, 536870911]
theorem cenotaphlaw02_SpanUnions.tab7 : rtab .any (opsOf Try.f9 7) = cenotaphlaw02_SpanUnions.T7 := by kernel_rfl
theorem cenotaphlaw02_SpanUnions.bits7 : waitsOk cenotaphlaw02_SpanUnions.T7.2 cenotaphlaw02_SpanUnions.B7 = true := by kernel_rfl
set_option maxHeartbeats 8000000 in
set_option maxRecDepth 100000 in
theorem cenotaphlaw02_SpanUnions.calls (k : Nat) (a0_0 : Int) (A0_1 : Option Addr) (c0_1 : Nat) (l0_1 : List Int) (a1_0 : Int) (A1_1 : Option Addr) (c1_1 : Nat) (l1_1 : List Int) (r : Bool) (w : World) (hr0_1 : Kd.C (Kd.int .i64) w A0_1 l0_1.length l0_1) (hc0_1 : l0_1.length ≤ c0_1) (hr1_1 : Kd.C (Kd.int .i64) w A1_1 l1_1.length l1_1) (hc1_1 : l1_1.length ≤ c1_1) (h : cenotaphlaw02_SpanUnions.f k a0_0 l0_1 a1_0 l1_1 = some r) :
  Calls Try.prog 9 #[.agg #[.int .i64 a0_0, .slice A0_1 l0_1.length c0_1], .agg #[.int .i64 a1_0, .slice A1_1 l1_1.length c1_1]] w fun e w' => e = .returned (.bool r) ∧ Below w.heap.size w w' := by
 have hu30 := Try.underlying30
 have hu24 := Try.underlying24
 have HR0_1 := Aside0.mk hr0_1
 have HC0_1 := Aside0.mk hc0_1
 clear hr0_1 hc0_1
 have HR1_1 := Aside0.mk hr1_1
 have HC1_1 := Aside0.mk hc1_1
 clear hr1_1 hc1_1
 have HB := Aside0.mk (Below.refl w.heap.size w)
 have H : ((cenotaphref02_Fix.f k a0_0 l0_1).bind fun bt470 => ((cenotaphref02_Fix.f k a1_0 l1_1).bind fun bt474 => ((cenotaphlaw02_To.f bt470.1 bt470.2).bind fun bt478 => ((cenotaphlaw02_To.f bt474.1 bt474.2).bind fun bt482 => ((span_Union.f k bt478.1 bt478.2 bt482.1 bt482.2).bind fun bt488 => ((span_Union.f k bt482.1 bt482.2 bt478.1 bt478.2).bind fun bt493 => ((cenotaphlaw02_told.f k).bind fun t498 => (if t498 = true then ((cenotaphlaw02_From.f bt488.1 bt488.2).bind fun bt499 => ((cenotaphref02_Union.f k bt470.1 bt470.2 bt474.1 bt474.2).bind fun bt503 => ((cenotaphref02_Same.f k bt499.1 bt499.2 bt503.1 bt503.2).bind fun t507 => (if t507 = true then ((span_Same.f k bt488.1 bt488.2 bt493.1 bt493.2).bind fun t508 => (if t508 = true then ((span_Right.f k bt488.1 bt488.2).bind fun t509 => (if t509 = true then ((span_Within.f k bt478.1 bt478.2 bt482.1 bt482.2).bind fun t510 => ((cenotaphref02_Within.f k bt470.1 bt470.2 bt474.1 bt474.2).bind fun t511 => (if (t510 != t511) = true then (none) else ((span_Same.f k bt478.1 bt478.2 bt482.1 bt482.2).bind fun t512 => ((cenotaphref02_Same.f k bt470.1 bt470.2 bt474.1 bt474.2).bind fun t513 => (if (t512 != t513) = true then (none) else ((span_Within.f k bt478.1 bt478.2 bt488.1 bt488.2).bind fun t514 => (if t514 = true then ((span_Within.f k bt482.1 bt482.2 bt488.1 bt488.2).bind fun t515 => (if t515 = true then ((span_Within.f k bt478.1 bt478.2 bt482.1 bt482.2).bind fun t516 => ((span_Same.f k bt488.1 bt488.2 bt482.1 bt482.2).bind fun t517 => (if (t516 == t517) = true then ((cenotaphlaw02_From.f bt478.1 bt478.2).bind fun bt518 => ((cenotaphref02_Same.f k bt518.1 bt518.2 bt470.1 bt470.2).bind fun t522 => (if t522 = true then ((cenotaphlaw02_From.f bt482.1 bt482.2).bind fun bt523 => ((cenotaphref02_Same.f k bt523.1 bt523.2 bt474.1 bt474.2).bind fun t527 => (some t527))) else (none)))) else (none)))) else (none))) else (none))))))))) else (none))) else (none))) else (none))))) else (none))))))))) = some r := h
 clear h
 replace H := Option.bind_eq_some_iff.mp H
 obtain ⟨⟨t470, t471⟩, A30, H⟩ := H
 try dsimp only at H
 have A3 := Aside0.mk A30
 clear A30
 replace H := Option.bind_eq_some_iff.mp H
 obtain ⟨⟨t474, t475⟩, A40, H⟩ := H
 try dsimp only at H
 have A4 := Aside0.mk A40
 clear A40
 replace H := Option.bind_eq_some_iff.mp H
 obtain ⟨⟨t478, t479⟩, A50, H⟩ := H
 try dsimp only at H
 have A5 := Aside0.mk A50
 clear A50
 replace H := Option.bind_eq_some_iff.mp H
 obtain ⟨⟨t482, t483⟩, A60, H⟩ := H
 try dsimp only at H
 have A6 := Aside0.mk A60
 clear A60
 replace H := Option.bind_eq_some_iff.mp H
 obtain ⟨⟨t488, t489⟩, A70, H⟩ := H
 try dsimp only at H
 have A7 := Aside0.mk A70
 clear A70
 replace H := Option.bind_eq_some_iff.mp H
 obtain ⟨⟨t493, t494⟩, A80, H⟩ := H
 try dsimp only at H
 have A8 := Aside0.mk A80
 clear A80
 replace H := Option.bind_eq_some_iff.mp H
 obtain ⟨t498, A90, H⟩ := H
 try dsimp only at H
 have A9 := Aside0.mk A90
 clear A90
 by_cases c10 : t498 = true
 ·subst c10
  have H1 : ((cenotaphlaw02_From.f t488 t489).bind fun bt499 => ((cenotaphref02_Union.f k t470 t471 t474 t475).bind fun bt503 => ((cenotaphref02_Same.f k bt499.1 bt499.2 bt503.1 bt503.2).bind fun t507 => (if t507 = true then ((span_Same.f k t488 t489 t493 t494).bind fun t508 => (if t508 = true then ((span_Right.f k t488 t489).bind fun t509 => (if t509 = true then ((span_Within.f k t478 t479 t482 t483).bind fun t510 => ((cenotaphref02_Within.f k t470 t471 t474 t475).bind fun t511 => (if (t510 != t511) = true then (none) else ((span_Same.f k t478 t479 t482 t483).bind fun t512 => ((cenotaphref02_Same.f k t470 t471 t474 t475).bind fun t513 => (if (t512 != t513) = true then (none) else ((span_Within.f k t478 t479 t488 t489).bind fun t514 => (if t514 = true then ((span_Within.f k t482 t483 t488 t489).bind fun t515 => (if t515 = true then ((span_Within.f k t478 t479 t482 t483).bind fun t516 => ((span_Same.f k t488 t489 t482 t483).bind fun t517 => (if (t516 == t517) = true then ((cenotaphlaw02_From.f t478 t479).bind fun bt518 => ((cenotaphref02_Same.f k bt518.1 bt518.2 t470 t471).bind fun t522 => (if t522 = true then ((cenotaphlaw02_From.f t482 t483).bind fun bt523 => ((cenotaphref02_Same.f k bt523.1 bt523.2 t474 t475).bind fun t527 => (some t527))) else (none)))) else (none)))) else (none))) else (none))))))))) else (none))) else (none))) else (none))))) = some r := by rw [if_pos rfl] at H; exact H
  clear H
  have H := H1
  clear H1
  replace H := Option.bind_eq_some_iff.mp H
  obtain ⟨⟨t499, t500⟩, A110, H⟩ := H
  try dsimp only at H
  have A11 := Aside0.mk A110
  clear A110
  replace H := Option.bind_eq_some_iff.mp H
  obtain ⟨⟨t503, t504⟩, A120, H⟩ := H
  try dsimp only at H
  have A12 := Aside0.mk A120
  clear A120
  replace H := Option.bind_eq_some_iff.mp H
  obtain ⟨t507, A130, H⟩ := H
  try dsimp only at H
  have A13 := Aside0.mk A130
  clear A130
  by_cases c14 : t507 = true
  ·subst c14
   have H1 : ((span_Same.f k t488 t489 t493 t494).bind fun t508 => (if t508 = true then ((span_Right.f k t488 t489).bind fun t509 => (if t509 = true then ((span_Within.f k t478 t479 t482 t483).bind fun t510 => ((cenotaphref02_Within.f k t470 t471 t474 t475).bind fun t511 => (if (t510 != t511) = true then (none) else ((span_Same.f k t478 t479 t482 t483).bind fun t512 => ((cenotaphref02_Same.f k t470 t471 t474 t475).bind fun t513 => (if (t512 != t513) = true then (none) else ((span_Within.f k t478 t479 t488 t489).bind fun t514 => (if t514 = true then ((span_Within.f k t482 t483 t488 t489).bind fun t515 => (if t515 = true then ((span_Within.f k t478 t479 t482 t483).bind fun t516 => ((span_Same.f k t488 t489 t482 t483).bind fun t517 => (if (t516 == t517) = true then ((cenotaphlaw02_From.f t478 t479).bind fun bt518 => ((cenotaphref02_Same.f k bt518.1 bt518.2 t470 t471).bind fun t522 => (if t522 = true then ((cenotaphlaw02_From.f t482 t483).bind fun bt523 => ((cenotaphref02_Same.f k bt523.1 bt523.2 t474 t475).bind fun t527 => (some t527))) else (none)))) else (none)))) else (none))) else (none))))))))) else (none))) else (none))) = some r := by rw [if_pos rfl] at H; exact H
   clear H
   have H := H1
   clear H1
   replace H := Option.bind_eq_some_iff.mp H
   obtain ⟨t508, A150, H⟩ := H
   try dsimp only at H
   have A15 := Aside0.mk A150
   clear A150
   by_cases c16 : t508 = true
   ·subst c16
    have H1 : ((span_Right.f k t488 t489).bind fun t509 => (if t509 = true then ((span_Within.f k t478 t479 t482 t483).bind fun t510 => ((cenotaphref02_Within.f k t470 t471 t474 t475).bind fun t511 => (if (t510 != t511) = true then (none) else ((span_Same.f k t478 t479 t482 t483).bind fun t512 => ((cenotaphref02_Same.f k t470 t471 t474 t475).bind fun t513 => (if (t512 != t513) = true then (none) else ((span_Within.f k t478 t479 t488 t489).bind fun t514 => (if t514 = true then ((span_Within.f k t482 t483 t488 t489).bind fun t515 => (if t515 = true then ((span_Within.f k t478 t479 t482 t483).bind fun t516 => ((span_Same.f k t488 t489 t482 t483).bind fun t517 => (if (t516 == t517) = true then ((cenotaphlaw02_From.f t478 t479).bind fun bt518 => ((cenotaphref02_Same.f k bt518.1 bt518.2 t470 t471).bind fun t522 => (if t522 = true then ((cenotaphlaw02_From.f t482 t483).bind fun bt523 => ((cenotaphref02_Same.f k bt523.1 bt523.2 t474 t475).bind fun t527 => (some t527))) else (none)))) else (none)))) else (none))) else (none))))))))) else (none))) = some r := by rw [if_pos rfl] at H; exact H
    clear H
    have H := H1
    clear H1
    replace H := Option.bind_eq_some_iff.mp H
    obtain ⟨t509, A170, H⟩ := H
    try dsimp only at H
    have A17 := Aside0.mk A170
    clear A170
    by_cases c18 : t509 = true
    ·subst c18
     have H1 : ((span_Within.f k t478 t479 t482 t483).bind fun t510 => ((cenotaphref02_Within.f k t470 t471 t474 t475).bind fun t511 => (if (t510 != t511) = true then (none) else ((span_Same.f k t478 t479 t482 t483).bind fun t512 => ((cenotaphref02_Same.f k t470 t471 t474 t475).bind fun t513 => (if (t512 != t513) = true then (none) else ((span_Within.f k t478 t479 t488 t489).bind fun t514 => (if t514 = true then ((span_Within.f k t482 t483 t488 t489).bind fun t515 => (if t515 = true then ((span_Within.f k t478 t479 t482 t483).bind fun t516 => ((span_Same.f k t488 t489 t482 t483).bind fun t517 => (if (t516 == t517) = true then ((cenotaphlaw02_From.f t478 t479).bind fun bt518 => ((cenotaphref02_Same.f k bt518.1 bt518.2 t470 t471).bind fun t522 => (if t522 = true then ((cenotaphlaw02_From.f t482 t483).bind fun bt523 => ((cenotaphref02_Same.f k bt523.1 bt523.2 t474 t475).bind fun t527 => (some t527))) else (none)))) else (none)))) else (none))) else (none))))))))) = some r := by rw [if_pos rfl] at H; exact H
     clear H
     have H := H1
     clear H1
     replace H := Option.bind_eq_some_iff.mp H
     obtain ⟨t510, A190, H⟩ := H
     try dsimp only at H
     have A19 := Aside0.mk A190
     clear A190
     replace H := Option.bind_eq_some_iff.mp H
     obtain ⟨t511, A200, H⟩ := H
     try dsimp only at H
     have A20 := Aside0.mk A200
     clear A200
     by_cases c21 : (t510 != t511) = true
     ·rw [if_pos c21] at H
      have c21b0 : (t510 != t511) = true := c21
      (try (have c21b1 : decide (t510 = t511) = false := by simpa using c21))
      (try (have c21b2 : (t510 == t511) = false := by simpa using c21))
      (try (have c21b3 : ¬ (t510 = t511) := by simpa using c21))
      clear c21
      exact absurd H (by simp)
     ·rw [if_neg c21] at H
      have c21b0 : (t510 != t511) = false := by simpa using c21
      (try (have c21b1 : decide (t510 = t511) = true := by simpa using c21))
      (try (have c21b2 : (t510 == t511) = true := by simpa using c21))
      clear c21
      replace H := Option.bind_eq_some_iff.mp H
      obtain ⟨t512, A220, H⟩ := H
      try dsimp only at H
      have A22 := Aside0.mk A220
      clear A220
      replace H := Option.bind_eq_some_iff.mp H
      obtain ⟨t513, A230, H⟩ := H
      try dsimp only at H
      have A23 := Aside0.mk A230
      clear A230
      by_cases c24 : (t512 != t513) = true
      ·rw [if_pos c24] at H
       exact absurd H (by simp)
      ·rw [if_neg c24] at H
       have c24b0 : (t512 != t513) = false := by simpa using c24
       (try (have c24b1 : decide (t512 = t513) = true := by simpa using c24))
       (try (have c24b2 : (t512 == t513) = true := by simpa using c24))
       clear c24
       replace H := Option.bind_eq_some_iff.mp H
       obtain ⟨t514, A250, H⟩ := H
       try dsimp only at H
       have A25 := Aside0.mk A250
       clear A250
       by_cases c26 : t514 = true
       ·subst c26
        have H1 : ((span_Within.f k t482 t483 t488 t489).bind fun t515 => (if t515 = true then ((span_Within.f k t478 t479 t482 t483).bind fun t516 => ((span_Same.f k t488 t489 t482 t483).bind fun t517 => (if (t516 == t517) = true then ((cenotaphlaw02_From.f t478 t479).bind fun bt518 => ((cenotaphref02_Same.f k bt518.1 bt518.2 t470 t471).bind fun t522 => (if t522 = true then ((cenotaphlaw02_From.f t482 t483).bind fun bt523 => ((cenotaphref02_Same.f k bt523.1 bt523.2 t474 t475).bind fun t527 => (some t527))) else (none)))) else (none)))) else (none))) = some r := by rw [if_pos rfl] at H; exact H
        clear H
        have H := H1
        clear H1
        replace H := Option.bind_eq_some_iff.mp H
        obtain ⟨t515, A270, H⟩ := H
        replace H : (if t515 = true then ((span_Within.f k t478 t479 t482 t483).bind fun t516 => ((span_Same.f k t488 t489 t482 t483).bind fun t517 => (if (t516 == t517) = true then ((cenotaphlaw02_From.f t478 t479).bind fun bt518 => ((cenotaphref02_Same.f k bt518.1 bt518.2 t470 t471).bind fun t522 => (if t522 = true then ((cenotaphlaw02_From.f t482 t483).bind fun bt523 => ((cenotaphref02_Same.f k bt523.1 bt523.2 t474 t475).bind fun t527 => (some t527))) else (none)))) else (none)))) else (none)) = some r := H
        have A27 := Aside0.mk A270
        clear A270
        by_cases c28 : t515 = true
        ·subst c28
         have H1 : ((span_Within.f k t478 t479 t482 t483).bind fun t516 => ((span_Same.f k t488 t489 t482 t483).bind fun t517 => (if (t516 == t517) = true then ((cenotaphlaw02_From.f t478 t479).bind fun bt518 => ((cenotaphref02_Same.f k bt518.1 bt518.2 t470 t471).bind fun t522 => (if t522 = true then ((cenotaphlaw02_From.f t482 t483).bind fun bt523 => ((cenotaphref02_Same.f k bt523.1 bt523.2 t474 t475).bind fun t527 => (some t527))) else (none)))) else (none)))) = some r := by rw [if_pos rfl] at H; exact H
         clear H
         have H := H1
         clear H1
         replace H := Option.bind_eq_some_iff.mp H
         obtain ⟨t516, A290, H⟩ := H
         replace H : ((span_Same.f k t488 t489 t482 t483).bind fun t517 => (if (t516 == t517) = true then ((cenotaphlaw02_From.f t478 t479).bind fun bt518 => ((cenotaphref02_Same.f k bt518.1 bt518.2 t470 t471).bind fun t522 => (if t522 = true then ((cenotaphlaw02_From.f t482 t483).bind fun bt523 => ((cenotaphref02_Same.f k bt523.1 bt523.2 t474 t475).bind fun t527 => (some t527))) else (none)))) else (none))) = some r := H
         have A29 := Aside0.mk A290
         clear A290
         replace H := Option.bind_eq_some_iff.mp H
         obtain ⟨t517, A300, H⟩ := H
         replace H : (if (t516 == t517) = true then ((cenotaphlaw02_From.f t478 t479).bind fun bt518 => ((cenotaphref02_Same.f k bt518.1 bt518.2 t470 t471).bind fun t522 => (if t522 = true then ((cenotaphlaw02_From.f t482 t483).bind fun bt523 => ((cenotaphref02_Same.f k bt523.1 bt523.2 t474 t475).bind fun t527 => (some t527))) else (none)))) else (none)) = some r := H
         have A30 := Aside0.mk A300
         clear A300
         by_cases c31 : (t516 == t517) = true
         ·rw [if_pos c31] at H
          have c31b0 : (t516 == t517) = true := c31
          (try (have c31b1 : decide (t516 = t517) = true := by simpa using c31))
          (try (have c31b2 : (t516 == t517) = true := by simpa using c31))
          clear c31
          replace H := Option.bind_eq_some_iff.mp H
          obtain ⟨⟨t518, t519⟩, A320, H⟩ := H
          replace H : ((cenotaphref02_Same.f k t518 t519 t470 t471).bind fun t522 => (if t522 = true then ((cenotaphlaw02_From.f t482 t483).bind fun bt523 => ((cenotaphref02_Same.f k bt523.1 bt523.2 t474 t475).bind fun t527 => (some t527))) else (none))) = some r := H
          have A32 := Aside0.mk A320
          clear A320
          replace H := Option.bind_eq_some_iff.mp H
          obtain ⟨t522, A330, H⟩ := H
          replace H : (if t522 = true then ((cenotaphlaw02_From.f t482 t483).bind fun bt523 => ((cenotaphref02_Same.f k bt523.1 bt523.2 t474 t475).bind fun t527 => (some t527))) else (none)) = some r := H
          have A33 := Aside0.mk A330
          clear A330
          by_cases c34 : t522 = true
          ·subst c34
           have H1 : ((cenotaphlaw02_From.f t482 t483).bind fun bt523 => ((cenotaphref02_Same.f k bt523.1 bt523.2 t474 t475).bind fun t527 => (some t527))) = some r := by rw [if_pos rfl] at H; exact H
           clear H
           have H := H1
           clear H1
           replace H := Option.bind_eq_some_iff.mp H
           obtain ⟨⟨t523, t524⟩, A350, H⟩ := H
           replace H : ((cenotaphref02_Same.f k t523 t524 t474 t475).bind fun t527 => (some t527)) = some r := H
           have A35 := Aside0.mk A350
           clear A350
           replace H := Option.bind_eq_some_iff.mp H
           obtain ⟨t527, A360, H⟩ := H
           replace H : (some t527) = some r := H
           have A36 := Aside0.mk A360
           clear A360
           obtain rfl := Option.some.inj H
           go_enter Try.func9, Try.ntmps9
           try go_wp2_with (first | ((with_reducible refine gate_dst (N := 2) rfl ?_); refine box_event ?hg (N := 2) ?hd (cs := #[.int .i64 a0_0, .slice A0_1 l0_1.length c0_1]) (t := 30) ?hr ?_; (case hd => rfl); (case hg => rfl); (case hr => first | (go_simp; done) | (go_simp; rfl)); intro gb468 hg w37 hbox hb; have n0_ := Aside0.mk (below_step zq9x_30 hb); have n1_ := Aside0.mk (hbox); have n2_ := Aside0.mk (((by rw [hg]; exact (below_size zq9x_30)) : w.heap.size ≤ gb468)); have n3_ := Aside0.mk (((by rw [hg]; exact (below_size zq9x_30)) : w.heap.size ≤ gb468)); clear HB; have HB := n0_; have BK468 := n1_; have GW468 := n2_; have GE468 := n3_; clear n0_ n1_ n2_ n3_; clear hb hbox hg) | ((with_reducible refine gate_dst (N := 3) rfl ?_); refine box_event ?hg (N := 3) ?hd (cs := #[.int .i64 a1_0, .slice A1_1 l1_1.length c1_1]) (t := 30) ?hr ?_; (case hd => rfl); (case hg => rfl); (case hr => first | (go_simp; done) | (go_simp; rfl)); intro gb469 hg w38 hbox hb; have n0_ := Aside0.mk (blk_below (g := gb468) (o := .cells #[.int .i64 a0_0, .slice A0_1 l0_1.length c0_1] 30 (0, 0)) zq9x_31 hb); have n1_ := Aside0.mk (below_step zq9x_23 hb); have n2_ := Aside0.mk (hbox); have n3_ := Aside0.mk (((by rw [hg]; exact (below_size zq9x_23)) : w.heap.size ≤ gb469)); have n4_ := Aside0.mk (((by rw [hg]; exact (below_size zq9x_23)) : w.heap.size ≤ gb469)); have n5_ := Aside0.mk (((by rw [hg]; exact Nat.ne_of_lt (blk_lt (g := gb468) (o := .cells #[.int .i64 a0_0, .slice A0_1 l0_1.length c0_1] 30 (0, 0)) zq9x_31)) : gb468 ≠ gb469)); have n6_ := Aside0.mk (((by rw [hg]; exact Nat.ne_of_gt (blk_lt (g := gb468) (o := .cells #[.int .i64 a0_0, .slice A0_1 l0_1.length c0_1] 30 (0, 0)) zq9x_31)) : gb469 ≠ gb468)); clear BK468; clear HB; have BK468 := n0_; have HB := n1_; have BK469 := n2_; have GW469 := n3_; have GE469 := n4_; have NB468_469 := n5_; have NB469_468 := n6_; clear n0_ n1_ n2_ n3_ n4_ n5_ n6_; clear hb hbox hg))
           replace BK468 := Aside0.mk (blk_drew BK468.out)
           replace BK469 := Aside0.mk (blk_drew BK469.out)
           replace HB := Aside0.mk (below_drew1 HB.out)
           refine start_ (n := 6) (S := fun w' => w'.cell? ⟨gb468, 0, none⟩ = some (.int .i64 a0_0) ∧ w'.cell? ⟨gb468, 1, none⟩ = some (.slice A0_1 l0_1.length c0_1) ∧ w'.cell? ⟨gb469, 0, none⟩ = some (.int .i64 a1_0) ∧ w'.cell? ⟨gb469, 1, none⟩ = some (.slice A1_1 l1_1.length c1_1)) (ds := [4, 5]) #[bF9, bF9, bF9, bF9, bF9, bF9] (by kernel_rfl) rfl rfl ⟨zc_9 BK468 0, zc_9 BK468 1, zc_9 BK469 0, zc_9 BK469 1⟩ (fun hHeld => ?_)
           generalize w38.drew = w39 at BK468 BK469 HB hHeld ⊢
           refine take_ (i := 0) (N := some 9) (v := ?_) (a' := ?_) #[bT9, bF9, bF9, bF9, bF9, bF9] rfl rfl (by kernel_rfl) (fun _ _ _ h => h) (Or.inl ⟨by rfl, ?_⟩) hHeld ?_ ?_
           rotate_left
           ·rintro w' ⟨s0, s1, s2, s3⟩
            go_simp
            with_reducible rfl
           rotate_left
           ·simp only [Act.put, List.setIfInBounds_toArray, List.set_cons_zero, List.set_cons_succ, i64_w, i32_w]
            rfl
           refine take_ (i := 2) (N := some 11) (v := ?_) (a' := ?_) #[bT9, bF9, bT9, bF9, bF9, bF9] rfl rfl (by kernel_rfl) (fun _ _ _ h => h) (Or.inl ⟨by rfl, ?_⟩) hHeld ?_ ?_
           rotate_left
           ·rintro w' ⟨s0, s1, s2, s3⟩
            go_simp
            with_reducible rfl
           rotate_left
           ·simp only [Act.put, List.setIfInBounds_toArray, List.set_cons_zero, List.set_cons_succ, i64_w, i32_w]
            rfl
           refine one_ (i := 1) (N := some 10) #[bT9, bT9, bT9, bF9, bF9, bF9] rfl rfl (by kernel_rfl) (by decide) (fun K hK => ?_)
           refine goes_ Try.func17 (by kernel_rfl) rfl #[.agg #[.int .i64 a0_0, .slice A0_1 l0_1.length c0_1]] (by rfl) rfl rfl zq9x_29 ?_
           with_reducible refine (cenotaphref02_Fix.calls k a0_0 _ _ l0_1 t470 t471 _ ?side1 ?side2 A3.out).mono ?_
           (case side1 => repeat (first | exact (Kd.C_below HR0_1.out HB.out) | (with_reducible refine Kd.C_alloc ?_ _) | (with_reducible refine Kd.C_drewN ?_ _) | (with_reducible refine Kd.C_drew ?_)))
           (case side2 => exact HC0_1.out)
           rintro e w40 ⟨v472, rfl, ho0, hb⟩
           refine ⟨_, rfl, ?_⟩
           have HO473 := Aside0.mk (Kd.R_lower ho0 (below_size zq9x_22))
           replace BK468 := Aside0.mk (blk_below (g := gb468) (o := .cells #[.int .i64 a0_0, .slice A0_1 l0_1.length c0_1] 30 (0, 0)) zq9x_31 hb)
           replace BK469 := Aside0.mk (blk_below (g := gb469) (o := .cells #[.int .i64 a1_0, .slice A1_1 l1_1.length c1_1] 30 (0, 0)) zq9x_32 hb)
           replace HB := Aside0.mk (below_step zq9x_22 hb)
           (try clear hb)
           (try clear hb2)
           (try clear hk)
           (try clear hi)
           (try clear ho0)
           refine hK.out _ _ ⟨zc_9 BK468 0, zc_9 BK468 1, zc_9 BK469 0, zc_9 BK469 1⟩ (fun hHeld => ?_)
           clear hK K
           refine norm_ (a' := ?_) ?_ ?_
           rotate_left
           ·show Act.put _ (some 10) _ = _
            simp only [Act.put, List.setIfInBounds_toArray, List.set_cons_zero, List.set_cons_succ, i64_w, i32_w]
            rfl
           refine one_ (i := 3) (N := some 12) #[bT9, bT9, bT9, bT9, bF9, bF9] rfl rfl (by kernel_rfl) (by decide) (fun K hK => ?_)
           refine goes_ Try.func17 (by kernel_rfl) rfl #[.agg #[.int .i64 a1_0, .slice A1_1 l1_1.length c1_1]] (by rfl) rfl rfl zq9x_29 ?_
           with_reducible refine (cenotaphref02_Fix.calls k a1_0 _ _ l1_1 t474 t475 _ ?side1 ?side2 A4.out).mono ?_
           (case side1 => repeat (first | exact (Kd.C_below HR1_1.out HB.out) | (with_reducible refine Kd.C_alloc ?_ _) | (with_reducible refine Kd.C_drewN ?_ _) | (with_reducible refine Kd.C_drew ?_)))
           (case side2 => exact HC1_1.out)
           rintro e w41 ⟨v476, rfl, ho0, hb⟩
           refine ⟨_, rfl, ?_⟩
           have HO477 := Aside0.mk (Kd.R_lower (Kd.R_new' ho0 (Kd.R_lt zq9x_37)) (below_size zq9x_22))
           replace HO473 := Aside0.mk (Kd.R_elder' zq9x_37 (Kd.R_base ho0) hb)
           replace BK468 := Aside0.mk (blk_below (g := gb468) (o := .cells #[.int .i64 a0_0, .slice A0_1 l0_1.length c0_1] 30 (0, 0)) zq9x_31 hb)
           replace BK469 := Aside0.mk (blk_below (g := gb469) (o := .cells #[.int .i64 a1_0, .slice A1_1 l1_1.length c1_1] 30 (0, 0)) zq9x_32 hb)
           replace HB := Aside0.mk (below_step zq9x_22 hb)
           (try clear hb)
           (try clear hb2)
           (try clear hk)
           (try clear hi)
           (try clear ho0)
           obtain ⟨Ao43, co43, eo43⟩ := Kd.R_slice HO473.out
           (first | subst eo43 | (injection eo43 with f1_ f2_ f3_; have f4_ := f1_.symm; have f5_ := f3_.symm; clear f1_ f2_ f3_; subst f4_; subst f5_))
           obtain ⟨Ao46, co46, eo46⟩ := Kd.R_slice HO477.out
           (first | subst eo46 | (injection eo46 with f1_ f2_ f3_; have f4_ := f1_.symm; have f5_ := f3_.symm; clear f1_ f2_ f3_; subst f4_; subst f5_))
           refine hK.out _ _ ⟨zc_9 BK468 0, zc_9 BK468 1, zc_9 BK469 0, zc_9 BK469 1⟩ (fun hHeld => ?_)
           clear hK K
           refine norm_ (a' := ?_) ?_ ?_
           rotate_left
           ·show Act.put _ (some 12) _ = _
            simp only [Act.put, List.setIfInBounds_toArray, List.set_cons_zero, List.set_cons_succ, i64_w, i32_w]
            rfl
           refine last_ (i := 4) (N := none) #[bT9, bT9, bT9, bT9, bT9, bF9] rfl rfl (by kernel_rfl) (by decide) (fun K hK => ?_)
           have hs42 : w41.cell? ⟨gb468, 0, none⟩ = some (.int .i64 a0_0) := zc_9 BK468 0
           have hfs42 := blk_frozen BK468.out 0
           have hns42_1 := NB469_468.out
           have hms42_1 := NB468_469.out
           have hs44 : w41.cell? ⟨gb468, 1, none⟩ = some (.slice A0_1 l0_1.length c0_1) := zc_9 BK468 1
           have hfs44 := blk_frozen BK468.out 1
           have hns44_1 := NB469_468.out
           have hms44_1 := NB468_469.out
           refine skip_ (w1 := ?_) (by rfl) rfl ?_ ?_
           rotate_left
           ·go_simp
            rfl
           refine hK.out _ _ ?_
           clear hK K
           refine last_ (i := 5) (N := none) #[bT9, bT9, bT9, bT9, bT9, bT9] rfl rfl (by kernel_rfl) (by decide) (fun K hK => ?_)
           have hs45 : w41.cell? ⟨gb469, 0, none⟩ = some (.int .i64 a1_0) := zc_9 BK469 0
           have hfs45 := blk_frozen BK469.out 0
           have hns45_0 := NB468_469.out
           have hms45_0 := NB469_468.out
           have hs47 : w41.cell? ⟨gb469, 1, none⟩ = some (.slice A1_1 l1_1.length c1_1) := zc_9 BK469 1
           have hfs47 := blk_frozen BK469.out 1
           have hns47_0 := NB468_469.out
           have hms47_0 := NB469_468.out
           refine skip_ (w1 := ?_) (by rfl) rfl ?_ ?_
           rotate_left
           ·go_simp
            rfl
           refine hK.out _ _ ?_
           clear hK K
           refine done_ (by kernel_rfl) ?_
           try go_wp2
           have n0_ : Aside0 (Kd.R (Kd.int .i64) 3 ((((w41.setCell ⟨gb468, 0, none⟩ (.int .i64 t470)).setCell ⟨gb468, 1, none⟩ (.slice Ao43 t471.length co43)).setCell ⟨gb469, 0, none⟩ (.int .i64 t474)).setCell ⟨gb469, 1, none⟩ (.slice Ao46 t475.length co46)) w.heap.size (fun k_ => some k_ ≠ (.slice Ao46 t475.length co46 : Value).ownBlock) (.slice Ao43 t471.length co43) t471) := ⟨by (with_reducible repeat (first | apply Kd.R_alloc | apply Kd.R_drewN | apply Kd.R_drew)); exact Kd.R_mono (Kd.R_far (p := ⟨gb469, 1, none⟩) (Kd.R_far (p := ⟨gb469, 0, none⟩) (Kd.R_far (p := ⟨gb468, 1, none⟩) (Kd.R_far (p := ⟨gb468, 0, none⟩) (Kd.R_types (Kd.R_types HO473.out BK468.out (by decide)) BK469.out (by decide)) (fun _ hk => hk.1.2) (.int .i64 t470)) (fun _ hk => hk.1.2) (.slice Ao43 t471.length co43)) (fun _ hk => hk.2) (.int .i64 t474)) (fun _ hk => hk.2) (.slice Ao46 t475.length co46)) (fun _ hk => hk.1.1.2)⟩
           have n1_ : Aside0 (Kd.R (Kd.int .i64) 3 ((((w41.setCell ⟨gb468, 0, none⟩ (.int .i64 t470)).setCell ⟨gb468, 1, none⟩ (.slice Ao43 t471.length co43)).setCell ⟨gb469, 0, none⟩ (.int .i64 t474)).setCell ⟨gb469, 1, none⟩ (.slice Ao46 t475.length co46)) w.heap.size (fun k_ => some k_ ≠ (.slice Ao43 t471.length co43 : Value).ownBlock) (.slice Ao46 t475.length co46) t475) := ⟨by (with_reducible repeat (first | apply Kd.R_alloc | apply Kd.R_drewN | apply Kd.R_drew)); exact Kd.R_mono (Kd.R_far (p := ⟨gb469, 1, none⟩) (Kd.R_far (p := ⟨gb469, 0, none⟩) (Kd.R_far (p := ⟨gb468, 1, none⟩) (Kd.R_far (p := ⟨gb468, 0, none⟩) (Kd.R_types (Kd.R_types HO477.out BK468.out (by decide)) BK469.out (by decide)) (fun _ hk => hk.1.2) (.int .i64 t470)) (fun _ hk => hk.1.2) (.slice Ao43 t471.length co43)) (fun _ hk => hk.2) (.int .i64 t474)) (fun _ hk => hk.2) (.slice Ao46 t475.length co46)) (fun _ hk => hk.1.1.2)⟩
           have n2_ : Aside0 (((((w41.setCell ⟨gb468, 0, none⟩ (.int .i64 t470)).setCell ⟨gb468, 1, none⟩ (.slice Ao43 t471.length co43)).setCell ⟨gb469, 0, none⟩ (.int .i64 t474)).setCell ⟨gb469, 1, none⟩ (.slice Ao46 t475.length co46)).heap[gb468]? = some (.cells #[.int .i64 t470, .slice Ao43 t471.length co43] 30 (0, 0))) := ⟨by (with_reducible repeat (first | refine blk_drewN ?_ _ | refine blk_drew ?_ | refine blk_alloc ?_ _)); refine blk_far ?_ NB468_469.out _; (with_reducible repeat (first | refine blk_drewN ?_ _ | refine blk_drew ?_ | refine blk_alloc ?_ _)); refine blk_far ?_ NB468_469.out _; (with_reducible repeat (first | refine blk_drewN ?_ _ | refine blk_drew ?_ | refine blk_alloc ?_ _)); refine blk_put (cs := #[.int .i64 t470, .slice A0_1 l0_1.length c0_1]) ?_ 1 _ rfl; (with_reducible repeat (first | refine blk_drewN ?_ _ | refine blk_drew ?_ | refine blk_alloc ?_ _)); refine blk_put (cs := #[.int .i64 a0_0, .slice A0_1 l0_1.length c0_1]) ?_ 0 _ rfl; (with_reducible repeat (first | refine blk_drewN ?_ _ | refine blk_drew ?_ | refine blk_alloc ?_ _)); exact BK468.out⟩
           have n3_ : Aside0 (((((w41.setCell ⟨gb468, 0, none⟩ (.int .i64 t470)).setCell ⟨gb468, 1, none⟩ (.slice Ao43 t471.length co43)).setCell ⟨gb469, 0, none⟩ (.int .i64 t474)).setCell ⟨gb469, 1, none⟩ (.slice Ao46 t475.length co46)).heap[gb469]? = some (.cells #[.int .i64 t474, .slice Ao46 t475.length co46] 30 (0, 0))) := ⟨by (with_reducible repeat (first | refine blk_drewN ?_ _ | refine blk_drew ?_ | refine blk_alloc ?_ _)); refine blk_put (cs := #[.int .i64 t474, .slice A1_1 l1_1.length c1_1]) ?_ 1 _ rfl; (with_reducible repeat (first | refine blk_drewN ?_ _ | refine blk_drew ?_ | refine blk_alloc ?_ _)); refine blk_put (cs := #[.int .i64 a1_0, .slice A1_1 l1_1.length c1_1]) ?_ 0 _ rfl; (with_reducible repeat (first | refine blk_drewN ?_ _ | refine blk_drew ?_ | refine blk_alloc ?_ _)); refine blk_far ?_ NB469_468.out _; (with_reducible repeat (first | refine blk_drewN ?_ _ | refine blk_drew ?_ | refine blk_alloc ?_ _)); refine blk_far ?_ NB469_468.out _; (with_reducible repeat (first | refine blk_drewN ?_ _ | refine blk_drew ?_ | refine blk_alloc ?_ _)); exact BK469.out⟩
           have n4_ : Aside0 (Below w.heap.size w ((((w41.setCell ⟨gb468, 0, none⟩ (.int .i64 t470)).setCell ⟨gb468, 1, none⟩ (.slice Ao43 t471.length co43)).setCell ⟨gb469, 0, none⟩ (.int .i64 t474)).setCell ⟨gb469, 1, none⟩ (.slice Ao46 t475.length co46))) := ⟨by repeat (first | (with_reducible first | exact HB.out | apply below_alloc | apply pw_below_drewN | apply below_drew1 | refine below_set ?_ GE468.out | refine below_set ?_ GE469.out) | exact HB.out)⟩
           (try clear HO473)
           (try clear HO477)
           (try clear BK468)
           (try clear BK469)
           (try clear HB)
           generalize ((((w41.setCell ⟨gb468, 0, none⟩ (.int .i64 t470)).setCell ⟨gb468, 1, none⟩ (.slice Ao43 t471.length co43)).setCell ⟨gb469, 0, none⟩ (.int .i64 t474)).setCell ⟨gb469, 1, none⟩ (.slice Ao46 t475.length co46)) = w48 at n0_ n1_ n2_ n3_ n4_ ⊢
           have HO473 := n0_
           have HO477 := n1_
           have BK468 := n2_
           have BK469 := n3_
           have HB := n4_
           clear n0_ n1_ n2_ n3_ n4_
           replace HO473 := Aside0.mk (Kd.R_drew HO473.out)
           replace HO477 := Aside0.mk (Kd.R_drew HO477.out)
           replace BK468 := Aside0.mk (blk_drew BK468.out)
           replace BK469 := Aside0.mk (blk_drew BK469.out)
           replace HB := Aside0.mk (below_drew1 HB.out)
           refine start_ (n := 8) (S := fun w' => w'.cell? ⟨gb468, 0, none⟩ = some (.int .i64 t470) ∧ w'.cell? ⟨gb468, 1, none⟩ = some (.slice Ao43 t471.length co43) ∧ w'.cell? ⟨gb469, 0, none⟩ = some (.int .i64 t474) ∧ w'.cell? ⟨gb469, 1, none⟩ = some (.slice Ao46 t475.length co46)) (ds := []) #[bF9, bF9, bF9, bF9, bF9, bF9, bF9, bF9] (by kernel_rfl) rfl rfl ⟨zc_9 BK468 0, zc_9 BK468 1, zc_9 BK469 0, zc_9 BK469 1⟩ (fun hHeld => ?_); refine with_tabW cenotaphlaw02_SpanUnions.tab2 cenotaphlaw02_SpanUnions.bits2 (fun HT_ HW_ => ?_)
           generalize w48.drew = w49 at HO473 HO477 BK468 BK469 HB hHeld ⊢
           refine take_ (i := 0) (N := some 13) (v := ?_) (a' := ?_) #[bT9, bF9, bF9, bF9, bF9, bF9, bF9, bF9] rfl rfl (take_ofW HT_.out HW_.out (by kernel_rfl)) (fun _ _ _ h => h) (Or.inl ⟨by rfl, ?_⟩) hHeld ?_ ?_
           rotate_left
           ·rintro w' ⟨s0, s1, s2, s3⟩
            go_simp
            with_reducible rfl
           rotate_left
           ·simp only [Act.put, List.setIfInBounds_toArray, List.set_cons_zero, List.set_cons_succ, i64_w, i32_w]
            rfl
           refine take_ (i := 2) (N := some 15) (v := ?_) (a' := ?_) #[bT9, bF9, bT9, bF9, bF9, bF9, bF9, bF9] rfl rfl (take_ofW HT_.out HW_.out (by kernel_rfl)) (fun _ _ _ h => h) (Or.inl ⟨by rfl, ?_⟩) hHeld ?_ ?_
           rotate_left
           ·rintro w' ⟨s0, s1, s2, s3⟩
            go_simp
            with_reducible rfl
           rotate_left
           ·simp only [Act.put, List.setIfInBounds_toArray, List.set_cons_zero, List.set_cons_succ, i64_w, i32_w]
            rfl
           refine join_ (σ := Value × Value × Nat × Nat) 2 #[bT9, bT9, bT9, bT9, bT9, bT9, bF9, bF9] (fun s_ => [(14, .agg #[.int .i64 t478, s_.1]), (16, .agg #[.int .i64 t482, s_.2.1]), (5, .pointer (some ⟨s_.2.2.1, 0, none⟩)), (6, .pointer (some ⟨s_.2.2.2, 0, none⟩))]) (fun s_ w' => (w'.cell? ⟨gb468, 0, none⟩ = some (.int .i64 t470) ∧ w'.cell? ⟨gb468, 1, none⟩ = some (.slice Ao43 t471.length co43) ∧ w'.cell? ⟨gb469, 0, none⟩ = some (.int .i64 t474) ∧ w'.cell? ⟨gb469, 1, none⟩ = some (.slice Ao46 t475.length co46)) ∧ (Kd.R (Kd.int .i64) 3 w' w.heap.size (fun k_ => some k_ ≠ (.slice Ao46 t475.length co46 : Value).ownBlock ∧ some k_ ≠ (s_.1 : Value).ownBlock ∧ some k_ ≠ (s_.2.1 : Value).ownBlock) (.slice Ao43 t471.length co43) t471) ∧ (Kd.R (Kd.int .i64) 3 w' w.heap.size (fun k_ => some k_ ≠ (.slice Ao43 t471.length co43 : Value).ownBlock ∧ some k_ ≠ (s_.1 : Value).ownBlock ∧ some k_ ≠ (s_.2.1 : Value).ownBlock) (.slice Ao46 t475.length co46) t475) ∧ (Kd.R (Kd.int .i64) 3 w' w.heap.size (fun k_ => some k_ ≠ (.slice Ao43 t471.length co43 : Value).ownBlock ∧ some k_ ≠ (.slice Ao46 t475.length co46 : Value).ownBlock ∧ some k_ ≠ (s_.2.1 : Value).ownBlock) s_.1 t479) ∧ (Kd.R (Kd.int .i64) 3 w' w.heap.size (fun k_ => some k_ ≠ (.slice Ao43 t471.length co43 : Value).ownBlock ∧ some k_ ≠ (.slice Ao46 t475.length co46 : Value).ownBlock ∧ some k_ ≠ (s_.1 : Value).ownBlock) s_.2.1 t483) ∧ (w'.heap[gb468]? = some (.cells #[.int .i64 t470, .slice Ao43 t471.length co43] 30 (0, 0))) ∧ (w'.heap[gb469]? = some (.cells #[.int .i64 t474, .slice Ao46 t475.length co46] 30 (0, 0))) ∧ (w'.heap[s_.2.2.1]? = some (.cells #[.int .i64 0, .slice none 0 0] 24 (0, 0))) ∧ (w'.heap[s_.2.2.2]? = some (.cells #[.int .i64 0, .slice none 0 0] 24 (0, 0))) ∧ (w.heap.size ≤ s_.2.2.1) ∧ (w.heap.size ≤ s_.2.2.1) ∧ (gb468 ≠ s_.2.2.1) ∧ (s_.2.2.1 ≠ gb468) ∧ (gb469 ≠ s_.2.2.1) ∧ (s_.2.2.1 ≠ gb469) ∧ (s_.2.2.2 ≠ s_.2.2.1) ∧ (s_.2.2.1 ≠ s_.2.2.2) ∧ (w.heap.size ≤ s_.2.2.2) ∧ (w.heap.size ≤ s_.2.2.2) ∧ (gb468 ≠ s_.2.2.2) ∧ (s_.2.2.2 ≠ gb468) ∧ (gb469 ≠ s_.2.2.2) ∧ (s_.2.2.2 ≠ gb469) ∧ (Below w.heap.size w w')) ?_ ?_
           rotate_left
           ·intro hJ1_3_4_5
            refine join_ (σ := Value × Value × Nat) 3 #[bT9, bT9, bT9, bT9, bT9, bF9, bF9, bF9] (fun s_ => [(14, .agg #[.int .i64 t478, s_.1]), (16, .agg #[.int .i64 t482, s_.2.1]), (5, .pointer (some ⟨s_.2.2, 0, none⟩))]) (fun s_ w' => (w'.cell? ⟨gb468, 0, none⟩ = some (.int .i64 t470) ∧ w'.cell? ⟨gb468, 1, none⟩ = some (.slice Ao43 t471.length co43) ∧ w'.cell? ⟨gb469, 0, none⟩ = some (.int .i64 t474) ∧ w'.cell? ⟨gb469, 1, none⟩ = some (.slice Ao46 t475.length co46)) ∧ (Kd.R (Kd.int .i64) 3 w' w.heap.size (fun k_ => some k_ ≠ (.slice Ao46 t475.length co46 : Value).ownBlock ∧ some k_ ≠ (s_.1 : Value).ownBlock ∧ some k_ ≠ (s_.2.1 : Value).ownBlock) (.slice Ao43 t471.length co43) t471) ∧ (Kd.R (Kd.int .i64) 3 w' w.heap.size (fun k_ => some k_ ≠ (.slice Ao43 t471.length co43 : Value).ownBlock ∧ some k_ ≠ (s_.1 : Value).ownBlock ∧ some k_ ≠ (s_.2.1 : Value).ownBlock) (.slice Ao46 t475.length co46) t475) ∧ (Kd.R (Kd.int .i64) 3 w' w.heap.size (fun k_ => some k_ ≠ (.slice Ao43 t471.length co43 : Value).ownBlock ∧ some k_ ≠ (.slice Ao46 t475.length co46 : Value).ownBlock ∧ some k_ ≠ (s_.2.1 : Value).ownBlock) s_.1 t479) ∧ (Kd.R (Kd.int .i64) 3 w' w.heap.size (fun k_ => some k_ ≠ (.slice Ao43 t471.length co43 : Value).ownBlock ∧ some k_ ≠ (.slice Ao46 t475.length co46 : Value).ownBlock ∧ some k_ ≠ (s_.1 : Value).ownBlock) s_.2.1 t483) ∧ (w'.heap[gb468]? = some (.cells #[.int .i64 t470, .slice Ao43 t471.length co43] 30 (0, 0))) ∧ (w'.heap[gb469]? = some (.cells #[.int .i64 t474, .slice Ao46 t475.length co46] 30 (0, 0))) ∧ (w'.heap[s_.2.2]? = some (.cells #[.int .i64 0, .slice none 0 0] 24 (0, 0))) ∧ (w.heap.size ≤ s_.2.2) ∧ (w.heap.size ≤ s_.2.2) ∧ (gb468 ≠ s_.2.2) ∧ (s_.2.2 ≠ gb468) ∧ (gb469 ≠ s_.2.2) ∧ (s_.2.2 ≠ gb469) ∧ (Below w.heap.size w w')) ?_ ?_
            rotate_left
            ·intro hJ1_3_4
             refine join_ (σ := Value × Value × Nat) 3 #[bT9, bT9, bT9, bT9, bF9, bT9, bF9, bF9] (fun s_ => [(14, .agg #[.int .i64 t478, s_.1]), (16, .agg #[.int .i64 t482, s_.2.1]), (6, .pointer (some ⟨s_.2.2, 0, none⟩))]) (fun s_ w' => (w'.cell? ⟨gb468, 0, none⟩ = some (.int .i64 t470) ∧ w'.cell? ⟨gb468, 1, none⟩ = some (.slice Ao43 t471.length co43) ∧ w'.cell? ⟨gb469, 0, none⟩ = some (.int .i64 t474) ∧ w'.cell? ⟨gb469, 1, none⟩ = some (.slice Ao46 t475.length co46)) ∧ (Kd.R (Kd.int .i64) 3 w' w.heap.size (fun k_ => some k_ ≠ (.slice Ao46 t475.length co46 : Value).ownBlock ∧ some k_ ≠ (s_.1 : Value).ownBlock ∧ some k_ ≠ (s_.2.1 : Value).ownBlock) (.slice Ao43 t471.length co43) t471) ∧ (Kd.R (Kd.int .i64) 3 w' w.heap.size (fun k_ => some k_ ≠ (.slice Ao43 t471.length co43 : Value).ownBlock ∧ some k_ ≠ (s_.1 : Value).ownBlock ∧ some k_ ≠ (s_.2.1 : Value).ownBlock) (.slice Ao46 t475.length co46) t475) ∧ (Kd.R (Kd.int .i64) 3 w' w.heap.size (fun k_ => some k_ ≠ (.slice Ao43 t471.length co43 : Value).ownBlock ∧ some k_ ≠ (.slice Ao46 t475.length co46 : Value).ownBlock ∧ some k_ ≠ (s_.2.1 : Value).ownBlock) s_.1 t479) ∧ (Kd.R (Kd.int .i64) 3 w' w.heap.size (fun k_ => some k_ ≠ (.slice Ao43 t471.length co43 : Value).ownBlock ∧ some k_ ≠ (.slice Ao46 t475.length co46 : Value).ownBlock ∧ some k_ ≠ (s_.1 : Value).ownBlock) s_.2.1 t483) ∧ (w'.heap[gb468]? = some (.cells #[.int .i64 t470, .slice Ao43 t471.length co43] 30 (0, 0))) ∧ (w'.heap[gb469]? = some (.cells #[.int .i64 t474, .slice Ao46 t475.length co46] 30 (0, 0))) ∧ (w'.heap[s_.2.2]? = some (.cells #[.int .i64 0, .slice none 0 0] 24 (0, 0))) ∧ (w.heap.size ≤ s_.2.2) ∧ (w.heap.size ≤ s_.2.2) ∧ (gb468 ≠ s_.2.2) ∧ (s_.2.2 ≠ gb468) ∧ (gb469 ≠ s_.2.2) ∧ (s_.2.2 ≠ gb469) ∧ (Below w.heap.size w w')) ?_ ?_
             rotate_left
             ·intro hJ1_3_5
              refine join_ (σ := Value × Nat × Nat) 3 #[bT9, bT9, bT9, bF9, bT9, bT9, bF9, bF9] (fun s_ => [(14, .agg #[.int .i64 t478, s_.1]), (5, .pointer (some ⟨s_.2.1, 0, none⟩)), (6, .pointer (some ⟨s_.2.2, 0, none⟩))]) (fun s_ w' => (w'.cell? ⟨gb468, 0, none⟩ = some (.int .i64 t470) ∧ w'.cell? ⟨gb468, 1, none⟩ = some (.slice Ao43 t471.length co43) ∧ w'.cell? ⟨gb469, 0, none⟩ = some (.int .i64 t474) ∧ w'.cell? ⟨gb469, 1, none⟩ = some (.slice Ao46 t475.length co46)) ∧ (Kd.R (Kd.int .i64) 3 w' w.heap.size (fun k_ => some k_ ≠ (.slice Ao46 t475.length co46 : Value).ownBlock ∧ some k_ ≠ (s_.1 : Value).ownBlock) (.slice Ao43 t471.length co43) t471) ∧ (Kd.R (Kd.int .i64) 3 w' w.heap.size (fun k_ => some k_ ≠ (.slice Ao43 t471.length co43 : Value).ownBlock ∧ some k_ ≠ (s_.1 : Value).ownBlock) (.slice Ao46 t475.length co46) t475) ∧ (Kd.R (Kd.int .i64) 3 w' w.heap.size (fun k_ => some k_ ≠ (.slice Ao43 t471.length co43 : Value).ownBlock ∧ some k_ ≠ (.slice Ao46 t475.length co46 : Value).ownBlock) s_.1 t479) ∧ (w'.heap[gb468]? = some (.cells #[.int .i64 t470, .slice Ao43 t471.length co43] 30 (0, 0))) ∧ (w'.heap[gb469]? = some (.cells #[.int .i64 t474, .slice Ao46 t475.length co46] 30 (0, 0))) ∧ (w'.heap[s_.2.1]? = some (.cells #[.int .i64 0, .slice none 0 0] 24 (0, 0))) ∧ (w'.heap[s_.2.2]? = some (.cells #[.int .i64 0, .slice none 0 0] 24 (0, 0))) ∧ (w.heap.size ≤ s_.2.1) ∧ (w.heap.size ≤ s_.2.1) ∧ (gb468 ≠ s_.2.1) ∧ (s_.2.1 ≠ gb468) ∧ (gb469 ≠ s_.2.1) ∧ (s_.2.1 ≠ gb469) ∧ (s_.2.2 ≠ s_.2.1) ∧ (s_.2.1 ≠ s_.2.2) ∧ (w.heap.size ≤ s_.2.2) ∧ (w.heap.size ≤ s_.2.2) ∧ (gb468 ≠ s_.2.2) ∧ (s_.2.2 ≠ gb468) ∧ (gb469 ≠ s_.2.2) ∧ (s_.2.2 ≠ gb469) ∧ (Below w.heap.size w w')) ?_ ?_
              rotate_left
              ·intro hJ1_4_5
               refine join_ (σ := Value × Value) 4 #[bT9, bT9, bT9, bT9, bF9, bF9, bF9, bF9] (fun s_ => [(14, .agg #[.int .i64 t478, s_.1]), (16, .agg #[.int .i64 t482, s_.2])]) (fun s_ w' => (w'.cell? ⟨gb468, 0, none⟩ = some (.int .i64 t470) ∧ w'.cell? ⟨gb468, 1, none⟩ = some (.slice Ao43 t471.length co43) ∧ w'.cell? ⟨gb469, 0, none⟩ = some (.int .i64 t474) ∧ w'.cell? ⟨gb469, 1, none⟩ = some (.slice Ao46 t475.length co46)) ∧ (Kd.R (Kd.int .i64) 3 w' w.heap.size (fun k_ => some k_ ≠ (.slice Ao46 t475.length co46 : Value).ownBlock ∧ some k_ ≠ (s_.1 : Value).ownBlock ∧ some k_ ≠ (s_.2 : Value).ownBlock) (.slice Ao43 t471.length co43) t471) ∧ (Kd.R (Kd.int .i64) 3 w' w.heap.size (fun k_ => some k_ ≠ (.slice Ao43 t471.length co43 : Value).ownBlock ∧ some k_ ≠ (s_.1 : Value).ownBlock ∧ some k_ ≠ (s_.2 : Value).ownBlock) (.slice Ao46 t475.length co46) t475) ∧ (Kd.R (Kd.int .i64) 3 w' w.heap.size (fun k_ => some k_ ≠ (.slice Ao43 t471.length co43 : Value).ownBlock ∧ some k_ ≠ (.slice Ao46 t475.length co46 : Value).ownBlock ∧ some k_ ≠ (s_.2 : Value).ownBlock) s_.1 t479) ∧ (Kd.R (Kd.int .i64) 3 w' w.heap.size (fun k_ => some k_ ≠ (.slice Ao43 t471.length co43 : Value).ownBlock ∧ some k_ ≠ (.slice Ao46 t475.length co46 : Value).ownBlock ∧ some k_ ≠ (s_.1 : Value).ownBlock) s_.2 t483) ∧ (w'.heap[gb468]? = some (.cells #[.int .i64 t470, .slice Ao43 t471.length co43] 30 (0, 0))) ∧ (w'.heap[gb469]? = some (.cells #[.int .i64 t474, .slice Ao46 t475.length co46] 30 (0, 0))) ∧ (Below w.heap.size w w')) ?_ ?_
               rotate_left
               ·intro hJ1_3
                refine join_ (σ := Value × Nat) 4 #[bT9, bT9, bT9, bF9, bT9, bF9, bF9, bF9] (fun s_ => [(14, .agg #[.int .i64 t478, s_.1]), (5, .pointer (some ⟨s_.2, 0, none⟩))]) (fun s_ w' => (w'.cell? ⟨gb468, 0, none⟩ = some (.int .i64 t470) ∧ w'.cell? ⟨gb468, 1, none⟩ = some (.slice Ao43 t471.length co43) ∧ w'.cell? ⟨gb469, 0, none⟩ = some (.int .i64 t474) ∧ w'.cell? ⟨gb469, 1, none⟩ = some (.slice Ao46 t475.length co46)) ∧ (Kd.R (Kd.int .i64) 3 w' w.heap.size (fun k_ => some k_ ≠ (.slice Ao46 t475.length co46 : Value).ownBlock ∧ some k_ ≠ (s_.1 : Value).ownBlock) (.slice Ao43 t471.length co43) t471) ∧ (Kd.R (Kd.int .i64) 3 w' w.heap.size (fun k_ => some k_ ≠ (.slice Ao43 t471.length co43 : Value).ownBlock ∧ some k_ ≠ (s_.1 : Value).ownBlock) (.slice Ao46 t475.length co46) t475) ∧ (Kd.R (Kd.int .i64) 3 w' w.heap.size (fun k_ => some k_ ≠ (.slice Ao43 t471.length co43 : Value).ownBlock ∧ some k_ ≠ (.slice Ao46 t475.length co46 : Value).ownBlock) s_.1 t479) ∧ (w'.heap[gb468]? = some (.cells #[.int .i64 t470, .slice Ao43 t471.length co43] 30 (0, 0))) ∧ (w'.heap[gb469]? = some (.cells #[.int .i64 t474, .slice Ao46 t475.length co46] 30 (0, 0))) ∧ (w'.heap[s_.2]? = some (.cells #[.int .i64 0, .slice none 0 0] 24 (0, 0))) ∧ (w.heap.size ≤ s_.2) ∧ (w.heap.size ≤ s_.2) ∧ (gb468 ≠ s_.2) ∧ (s_.2 ≠ gb468) ∧ (gb469 ≠ s_.2) ∧ (s_.2 ≠ gb469) ∧ (Below w.heap.size w w')) ?_ ?_
                rotate_left
                ·intro hJ1_4
                 refine join_ (σ := Value × Nat) 4 #[bT9, bT9, bT9, bF9, bF9, bT9, bF9, bF9] (fun s_ => [(14, .agg #[.int .i64 t478, s_.1]), (6, .pointer (some ⟨s_.2, 0, none⟩))]) (fun s_ w' => (w'.cell? ⟨gb468, 0, none⟩ = some (.int .i64 t470) ∧ w'.cell? ⟨gb468, 1, none⟩ = some (.slice Ao43 t471.length co43) ∧ w'.cell? ⟨gb469, 0, none⟩ = some (.int .i64 t474) ∧ w'.cell? ⟨gb469, 1, none⟩ = some (.slice Ao46 t475.length co46)) ∧ (Kd.R (Kd.int .i64) 3 w' w.heap.size (fun k_ => some k_ ≠ (.slice Ao46 t475.length co46 : Value).ownBlock ∧ some k_ ≠ (s_.1 : Value).ownBlock) (.slice Ao43 t471.length co43) t471) ∧ (Kd.R (Kd.int .i64) 3 w' w.heap.size (fun k_ => some k_ ≠ (.slice Ao43 t471.length co43 : Value).ownBlock ∧ some k_ ≠ (s_.1 : Value).ownBlock) (.slice Ao46 t475.length co46) t475) ∧ (Kd.R (Kd.int .i64) 3 w' w.heap.size (fun k_ => some k_ ≠ (.slice Ao43 t471.length co43 : Value).ownBlock ∧ some k_ ≠ (.slice Ao46 t475.length co46 : Value).ownBlock) s_.1 t479) ∧ (w'.heap[gb468]? = some (.cells #[.int .i64 t470, .slice Ao43 t471.length co43] 30 (0, 0))) ∧ (w'.heap[gb469]? = some (.cells #[.int .i64 t474, .slice Ao46 t475.length co46] 30 (0, 0))) ∧ (w'.heap[s_.2]? = some (.cells #[.int .i64 0, .slice none 0 0] 24 (0, 0))) ∧ (w.heap.size ≤ s_.2) ∧ (w.heap.size ≤ s_.2) ∧ (gb468 ≠ s_.2) ∧ (s_.2 ≠ gb468) ∧ (gb469 ≠ s_.2) ∧ (s_.2 ≠ gb469) ∧ (Below w.heap.size w w')) ?_ ?_
                 rotate_left
                 ·intro hJ1_5
                  refine join_ (σ := Nat × Nat) 4 #[bT9, bF9, bT9, bF9, bT9, bT9, bF9, bF9] (fun s_ => [(5, .pointer (some ⟨s_.1, 0, none⟩)), (6, .pointer (some ⟨s_.2, 0, none⟩))]) (fun s_ w' => (w'.cell? ⟨gb468, 0, none⟩ = some (.int .i64 t470) ∧ w'.cell? ⟨gb468, 1, none⟩ = some (.slice Ao43 t471.length co43) ∧ w'.cell? ⟨gb469, 0, none⟩ = some (.int .i64 t474) ∧ w'.cell? ⟨gb469, 1, none⟩ = some (.slice Ao46 t475.length co46)) ∧ (Kd.R (Kd.int .i64) 3 w' w.heap.size (fun k_ => some k_ ≠ (.slice Ao46 t475.length co46 : Value).ownBlock) (.slice Ao43 t471.length co43) t471) ∧ (Kd.R (Kd.int .i64) 3 w' w.heap.size (fun k_ => some k_ ≠ (.slice Ao43 t471.length co43 : Value).ownBlock) (.slice Ao46 t475.length co46) t475) ∧ (w'.heap[gb468]? = some (.cells #[.int .i64 t470, .slice Ao43 t471.length co43] 30 (0, 0))) ∧ (w'.heap[gb469]? = some (.cells #[.int .i64 t474, .slice Ao46 t475.length co46] 30 (0, 0))) ∧ (w'.heap[s_.1]? = some (.cells #[.int .i64 0, .slice none 0 0] 24 (0, 0))) ∧ (w'.heap[s_.2]? = some (.cells #[.int .i64 0, .slice none 0 0] 24 (0, 0))) ∧ (w.heap.size ≤ s_.1) ∧ (w.heap.size ≤ s_.1) ∧ (gb468 ≠ s_.1) ∧ (s_.1 ≠ gb468) ∧ (gb469 ≠ s_.1) ∧ (s_.1 ≠ gb469) ∧ (s_.2 ≠ s_.1) ∧ (s_.1 ≠ s_.2) ∧ (w.heap.size ≤ s_.2) ∧ (w.heap.size ≤ s_.2) ∧ (gb468 ≠ s_.2) ∧ (s_.2 ≠ gb468) ∧ (gb469 ≠ s_.2) ∧ (s_.2 ≠ gb469) ∧ (Below w.heap.size w w')) ?_ ?_
                  rotate_left
                  ·intro hJ4_5
                   refine join_ (σ := Value) 5 #[bT9, bT9, bT9, bF9, bF9, bF9, bF9, bF9] (fun s_ => [(14, .agg #[.int .i64 t478, s_])]) (fun s_ w' => (w'.cell? ⟨gb468, 0, none⟩ = some (.int .i64 t470) ∧ w'.cell? ⟨gb468, 1, none⟩ = some (.slice Ao43 t471.length co43) ∧ w'.cell? ⟨gb469, 0, none⟩ = some (.int .i64 t474) ∧ w'.cell? ⟨gb469, 1, none⟩ = some (.slice Ao46 t475.length co46)) ∧ (Kd.R (Kd.int .i64) 3 w' w.heap.size (fun k_ => some k_ ≠ (.slice Ao46 t475.length co46 : Value).ownBlock ∧ some k_ ≠ (s_ : Value).ownBlock) (.slice Ao43 t471.length co43) t471) ∧ (Kd.R (Kd.int .i64) 3 w' w.heap.size (fun k_ => some k_ ≠ (.slice Ao43 t471.length co43 : Value).ownBlock ∧ some k_ ≠ (s_ : Value).ownBlock) (.slice Ao46 t475.length co46) t475) ∧ (Kd.R (Kd.int .i64) 3 w' w.heap.size (fun k_ => some k_ ≠ (.slice Ao43 t471.length co43 : Value).ownBlock ∧ some k_ ≠ (.slice Ao46 t475.length co46 : Value).ownBlock) s_ t479) ∧ (w'.heap[gb468]? = some (.cells #[.int .i64 t470, .slice Ao43 t471.length co43] 30 (0, 0))) ∧ (w'.heap[gb469]? = some (.cells #[.int .i64 t474, .slice Ao46 t475.length co46] 30 (0, 0))) ∧ (Below w.heap.size w w')) ?_ ?_
                   rotate_left
                   ·intro hJ1
                    refine join_ (σ := Nat) 5 #[bT9, bF9, bT9, bF9, bT9, bF9, bF9, bF9] (fun s_ => [(5, .pointer (some ⟨s_, 0, none⟩))]) (fun s_ w' => (w'.cell? ⟨gb468, 0, none⟩ = some (.int .i64 t470) ∧ w'.cell? ⟨gb468, 1, none⟩ = some (.slice Ao43 t471.length co43) ∧ w'.cell? ⟨gb469, 0, none⟩ = some (.int .i64 t474) ∧ w'.cell? ⟨gb469, 1, none⟩ = some (.slice Ao46 t475.length co46)) ∧ (Kd.R (Kd.int .i64) 3 w' w.heap.size (fun k_ => some k_ ≠ (.slice Ao46 t475.length co46 : Value).ownBlock) (.slice Ao43 t471.length co43) t471) ∧ (Kd.R (Kd.int .i64) 3 w' w.heap.size (fun k_ => some k_ ≠ (.slice Ao43 t471.length co43 : Value).ownBlock) (.slice Ao46 t475.length co46) t475) ∧ (w'.heap[gb468]? = some (.cells #[.int .i64 t470, .slice Ao43 t471.length co43] 30 (0, 0))) ∧ (w'.heap[gb469]? = some (.cells #[.int .i64 t474, .slice Ao46 t475.length co46] 30 (0, 0))) ∧ (w'.heap[s_]? = some (.cells #[.int .i64 0, .slice none 0 0] 24 (0, 0))) ∧ (w.heap.size ≤ s_) ∧ (w.heap.size ≤ s_) ∧ (gb468 ≠ s_) ∧ (s_ ≠ gb468) ∧ (gb469 ≠ s_) ∧ (s_ ≠ gb469) ∧ (Below w.heap.size w w')) ?_ ?_
                    rotate_left
                    ·intro hJ4
                     refine join_ (σ := Nat) 5 #[bT9, bF9, bT9, bF9, bF9, bT9, bF9, bF9] (fun s_ => [(6, .pointer (some ⟨s_, 0, none⟩))]) (fun s_ w' => (w'.cell? ⟨gb468, 0, none⟩ = some (.int .i64 t470) ∧ w'.cell? ⟨gb468, 1, none⟩ = some (.slice Ao43 t471.length co43) ∧ w'.cell? ⟨gb469, 0, none⟩ = some (.int .i64 t474) ∧ w'.cell? ⟨gb469, 1, none⟩ = some (.slice Ao46 t475.length co46)) ∧ (Kd.R (Kd.int .i64) 3 w' w.heap.size (fun k_ => some k_ ≠ (.slice Ao46 t475.length co46 : Value).ownBlock) (.slice Ao43 t471.length co43) t471) ∧ (Kd.R (Kd.int .i64) 3 w' w.heap.size (fun k_ => some k_ ≠ (.slice Ao43 t471.length co43 : Value).ownBlock) (.slice Ao46 t475.length co46) t475) ∧ (w'.heap[gb468]? = some (.cells #[.int .i64 t470, .slice Ao43 t471.length co43] 30 (0, 0))) ∧ (w'.heap[gb469]? = some (.cells #[.int .i64 t474, .slice Ao46 t475.length co46] 30 (0, 0))) ∧ (w'.heap[s_]? = some (.cells #[.int .i64 0, .slice none 0 0] 24 (0, 0))) ∧ (w.heap.size ≤ s_) ∧ (w.heap.size ≤ s_) ∧ (gb468 ≠ s_) ∧ (s_ ≠ gb468) ∧ (gb469 ≠ s_) ∧ (s_ ≠ gb469) ∧ (Below w.heap.size w w')) ?_ ?_
                     rotate_left
                     ·intro hJ5
                      refine three_ (i := 1) (j := 4) (k := 5) (Ni := some 14) (Nj := some 5) (Nk := some 6) #[bT9, bT9, bT9, bF9, bF9, bF9, bF9, bF9] #[bT9, bF9, bT9, bF9, bT9, bF9, bF9, bF9] #[bT9, bF9, bT9, bF9, bF9, bT9, bF9, bF9] rfl rfl rfl rfl rfl rfl (three_of HT_.out (by kernel_rfl)) (by decide) (by decide) (by decide) (fun K hK => ?_) (fun K hK => ?_) (fun K hK => ?_)
                      ·skip
                       refine goes_ Try.func15 (by kernel_rfl) rfl #[.agg #[.int .i64 t470, .slice Ao43 t471.length co43]] (by rfl) rfl rfl zq9x_29 ?_
                       with_reducible refine (cenotaphlaw02_To.calls t470 _ _ t471 t478 t479 _ ?side1 ?side2 A5.out).mono ?_
                       (case side1 => repeat (first | exact (Kd.R_reads' HO473.out).2.2 | (with_reducible refine Kd.C_alloc ?_ _) | (with_reducible refine Kd.C_drewN ?_ _) | (with_reducible refine Kd.C_drew ?_)))
                       (case side2 => exact (Kd.R_reads' HO473.out).2.1)
                       rintro e w50 ⟨v480, rfl, ho0, hb⟩
                       refine ⟨_, rfl, ?_⟩
                       have HO481 := Aside0.mk (Kd.R_lower (Kd.R_new' (Kd.R_new' ho0 (Kd.R_lt zq9x_37)) (Kd.R_lt zq9x_38)) (below_size zq9x_22))
                       replace HO473 := Aside0.mk (Kd.R_elder' zq9x_37 (Kd.R_base ho0) hb)
                       replace HO477 := Aside0.mk (Kd.R_elder' zq9x_38 (Kd.R_base ho0) hb)
                       replace BK468 := Aside0.mk (blk_below (g := gb468) (o := .cells #[.int .i64 t470, .slice Ao43 t471.length co43] 30 (0, 0)) zq9x_31 hb)
                       replace BK469 := Aside0.mk (blk_below (g := gb469) (o := .cells #[.int .i64 t474, .slice Ao46 t475.length co46] 30 (0, 0)) zq9x_32 hb)
                       replace HB := Aside0.mk (below_step zq9x_22 hb)
                       (try clear hb)
                       (try clear hb2)
                       (try clear hk)
                       (try clear hi)
                       (try clear ho0)
                       refine hK.out _ _ ⟨zc_9 BK468 0, zc_9 BK468 1, zc_9 BK469 0, zc_9 BK469 1⟩ (fun hHeld => ?_)
                       clear hK K
                       refine norm_ (a' := ?_) ?_ ?_
                       rotate_left
                       ·show Act.put _ (some 14) _ = _
                        simp only [Act.put, List.setIfInBounds_toArray, List.set_cons_zero, List.set_cons_succ, i64_w, i32_w]
                        rfl
                       exact norm_ zq9x_21 (hJ1 (v480) _ ⟨hHeld, zq9x_37, zq9x_38, zq9x_28, zq9x_31, zq9x_32, zq9x_22⟩)
                      ·skip
                       refine box_step ?hg (N := 5) ?hd (cs := #[.int .i64 0, .slice none 0 0]) (t := 24) ?hr ?_; (case hd => rfl); (case hg => rfl); (case hr => first | (go_simp; done) | (go_simp; rfl))
                       intro gb486 hg w50 hbox hb
                       have n0_ := Aside0.mk (Kd.R_below zq9x_37 hb)
                       have n1_ := Aside0.mk (Kd.R_below zq9x_38 hb)
                       have n2_ := Aside0.mk (blk_below (g := gb468) (o := .cells #[.int .i64 t470, .slice Ao43 t471.length co43] 30 (0, 0)) zq9x_31 hb)
                       have n3_ := Aside0.mk (blk_below (g := gb469) (o := .cells #[.int .i64 t474, .slice Ao46 t475.length co46] 30 (0, 0)) zq9x_32 hb)
                       have n4_ := Aside0.mk (below_step zq9x_22 hb)
                       have n5_ := Aside0.mk (hbox)
                       have n6_ := Aside0.mk ((zq9x_14 : w.heap.size ≤ gb486))
                       have n7_ := Aside0.mk ((zq9x_14 : w.heap.size ≤ gb486))
                       have n8_ := Aside0.mk ((zq9x_10 : gb468 ≠ gb486))
                       have n9_ := Aside0.mk ((zq9x_11 : gb486 ≠ gb468))
                       have n10_ := Aside0.mk ((zq9x_12 : gb469 ≠ gb486))
                       have n11_ := Aside0.mk ((zq9x_13 : gb486 ≠ gb469))
                       clear HO473 HO477 BK468 BK469 HB
                       have HO473 := n0_
                       have HO477 := n1_
                       have BK468 := n2_
                       have BK469 := n3_
                       have HB := n4_
                       have BK486 := n5_
                       have GW486 := n6_
                       have GE486 := n7_
                       have NB468_486 := n8_
                       have NB486_468 := n9_
                       have NB469_486 := n10_
                       have NB486_469 := n11_
                       clear n0_ n1_ n2_ n3_ n4_ n5_ n6_ n7_ n8_ n9_ n10_ n11_ hb hbox hg
                       refine hK.out _ _ ⟨zc_9 BK468 0, zc_9 BK468 1, zc_9 BK469 0, zc_9 BK469 1⟩ (fun hHeld => ?_)
                       clear hK K
                       refine norm_ (a' := ?_) ?_ ?_
                       rotate_left
                       ·show Act.put _ (some 5) _ = _
                        simp only [Act.put, List.setIfInBounds_toArray, List.set_cons_zero, List.set_cons_succ, i64_w, i32_w]
                        rfl
                       exact norm_ zq9x_21 (hJ4 (gb486) _ ⟨hHeld, zq9x_37, zq9x_38, zq9x_31, zq9x_32, zq9x_33, GW486.out, GE486.out, NB468_486.out, NB486_468.out, NB469_486.out, NB486_469.out, zq9x_15⟩)
                      ·skip
                       refine box_step ?hg (N := 6) ?hd (cs := #[.int .i64 0, .slice none 0 0]) (t := 24) ?hr ?_; (case hd => rfl); (case hg => rfl); (case hr => first | (go_simp; done) | (go_simp; rfl))
                       intro gb487 hg w50 hbox hb
                       have n0_ := Aside0.mk (Kd.R_below zq9x_37 hb)
                       have n1_ := Aside0.mk (Kd.R_below zq9x_38 hb)
                       have n2_ := Aside0.mk (blk_below (g := gb468) (o := .cells #[.int .i64 t470, .slice Ao43 t471.length co43] 30 (0, 0)) zq9x_31 hb)
                       have n3_ := Aside0.mk (blk_below (g := gb469) (o := .cells #[.int .i64 t474, .slice Ao46 t475.length co46] 30 (0, 0)) zq9x_32 hb)
                       have n4_ := Aside0.mk (below_step zq9x_22 hb)
                       have n5_ := Aside0.mk (hbox)
                       have n6_ := Aside0.mk ((zq9x_14 : w.heap.size ≤ gb487))
                       have n7_ := Aside0.mk ((zq9x_14 : w.heap.size ≤ gb487))
                       have n8_ := Aside0.mk ((zq9x_10 : gb468 ≠ gb487))
                       have n9_ := Aside0.mk ((zq9x_11 : gb487 ≠ gb468))
                       have n10_ := Aside0.mk ((zq9x_12 : gb469 ≠ gb487))
                       have n11_ := Aside0.mk ((zq9x_13 : gb487 ≠ gb469))
                       clear HO473 HO477 BK468 BK469 HB
                       have HO473 := n0_
                       have HO477 := n1_
                       have BK468 := n2_
                       have BK469 := n3_
                       have HB := n4_
                       have BK487 := n5_
                       have GW487 := n6_
                       have GE487 := n7_
                       have NB468_487 := n8_
                       have NB487_468 := n9_
                       have NB469_487 := n10_
                       have NB487_469 := n11_
                       clear n0_ n1_ n2_ n3_ n4_ n5_ n6_ n7_ n8_ n9_ n10_ n11_ hb hbox hg
                       refine hK.out _ _ ⟨zc_9 BK468 0, zc_9 BK468 1, zc_9 BK469 0, zc_9 BK469 1⟩ (fun hHeld => ?_)
                       clear hK K
                       refine norm_ (a' := ?_) ?_ ?_
                       rotate_left
                       ·show Act.put _ (some 6) _ = _
                        simp only [Act.put, List.setIfInBounds_toArray, List.set_cons_zero, List.set_cons_succ, i64_w, i32_w]
                        rfl
                       exact norm_ zq9x_21 (hJ5 (gb487) _ ⟨hHeld, zq9x_37, zq9x_38, zq9x_31, zq9x_32, zq9x_34, GW487.out, GE487.out, NB468_487.out, NB487_468.out, NB469_487.out, NB487_469.out, zq9x_16⟩)
                     ·skip
                      rintro gb487 w51 ⟨hS_, h0_, h1_, h2_, h3_, h4_, h5_, h6_, h7_, h8_, h9_, h10_, h11_⟩
                      have n0_ : Aside0 (Kd.R (Kd.int .i64) 3 w51 w.heap.size (fun k_ => some k_ ≠ (.slice Ao46 t475.length co46 : Value).ownBlock) (.slice Ao43 t471.length co43) t471) := ⟨h0_⟩
                      have n1_ : Aside0 (Kd.R (Kd.int .i64) 3 w51 w.heap.size (fun k_ => some k_ ≠ (.slice Ao43 t471.length co43 : Value).ownBlock) (.slice Ao46 t475.length co46) t475) := ⟨h1_⟩
                      have n2_ : Aside0 (w51.heap[gb468]? = some (.cells #[.int .i64 t470, .slice Ao43 t471.length co43] 30 (0, 0))) := ⟨h2_⟩
                      have n3_ : Aside0 (w51.heap[gb469]? = some (.cells #[.int .i64 t474, .slice Ao46 t475.length co46] 30 (0, 0))) := ⟨h3_⟩
                      have n4_ : Aside0 (w51.heap[gb487]? = some (.cells #[.int .i64 0, .slice none 0 0] 24 (0, 0))) := ⟨h4_⟩
                      have n5_ : Aside0 (w.heap.size ≤ gb487) := ⟨h5_⟩
                      have n6_ : Aside0 (w.heap.size ≤ gb487) := ⟨h6_⟩
                      have n7_ : Aside0 (gb468 ≠ gb487) := ⟨h7_⟩
                      have n8_ : Aside0 (gb487 ≠ gb468) := ⟨h8_⟩
                      have n9_ : Aside0 (gb469 ≠ gb487) := ⟨h9_⟩
                      have n10_ : Aside0 (gb487 ≠ gb469) := ⟨h10_⟩
                      have n11_ : Aside0 (Below w.heap.size w w51) := ⟨h11_⟩
                      clear HO473 HO477 BK468 BK469 HB h0_ h1_ h2_ h3_ h4_ h5_ h6_ h7_ h8_ h9_ h10_ h11_
                      have HO473 := n0_
                      have HO477 := n1_
                      have BK468 := n2_
                      have BK469 := n3_
                      have BK487 := n4_
                      have GW487 := n5_
                      have GE487 := n6_
                      have NB468_487 := n7_
                      have NB487_468 := n8_
                      have NB469_487 := n9_
                      have NB487_469 := n10_
                      have HB := n11_
                      clear n0_ n1_ n2_ n3_ n4_ n5_ n6_ n7_ n8_ n9_ n10_ n11_
                      have hHeld : w51.cell? ⟨gb468, 0, none⟩ = some (.int .i64 t470) ∧ w51.cell? ⟨gb468, 1, none⟩ = some (.slice Ao43 t471.length co43) ∧ w51.cell? ⟨gb469, 0, none⟩ = some (.int .i64 t474) ∧ w51.cell? ⟨gb469, 1, none⟩ = some (.slice Ao46 t475.length co46) := hS_
                      refine norm_ (a' := ?_) ?_ ?_
                      rotate_left
                      ·simp only [putAll, Act.put, List.setIfInBounds_toArray, List.set_cons_zero, List.set_cons_succ]
                       rfl
                      refine two_ (i := 1) (j := 4) (Ni := some 14) (Nj := some 5) #[bT9, bT9, bT9, bF9, bF9, bT9, bF9, bF9] #[bT9, bF9, bT9, bF9, bT9, bT9, bF9, bF9] rfl rfl rfl rfl (two_of HT_.out (by kernel_rfl)) (by decide) (by decide) (fun K hK => ?_) (fun K hK => ?_)
                      ·skip
                       refine goes_ Try.func15 (by kernel_rfl) rfl #[.agg #[.int .i64 t470, .slice Ao43 t471.length co43]] (by rfl) rfl rfl zq9x_29 ?_
                       with_reducible refine (cenotaphlaw02_To.calls t470 _ _ t471 t478 t479 _ ?side1 ?side2 A5.out).mono ?_
                       (case side1 => repeat (first | exact (Kd.R_reads' HO473.out).2.2 | (with_reducible refine Kd.C_alloc ?_ _) | (with_reducible refine Kd.C_drewN ?_ _) | (with_reducible refine Kd.C_drew ?_)))
                       (case side2 => exact (Kd.R_reads' HO473.out).2.1)
                       rintro e w52 ⟨v480, rfl, ho0, hb⟩
                       refine ⟨_, rfl, ?_⟩
                       have HO481 := Aside0.mk (Kd.R_lower (Kd.R_new' (Kd.R_new' ho0 (Kd.R_lt zq9x_37)) (Kd.R_lt zq9x_38)) (below_size zq9x_16))
                       replace HO473 := Aside0.mk (Kd.R_elder' zq9x_37 (Kd.R_base ho0) hb)
                       replace HO477 := Aside0.mk (Kd.R_elder' zq9x_38 (Kd.R_base ho0) hb)
                       replace BK468 := Aside0.mk (blk_below (g := gb468) (o := .cells #[.int .i64 t470, .slice Ao43 t471.length co43] 30 (0, 0)) zq9x_31 hb)
                       replace BK469 := Aside0.mk (blk_below (g := gb469) (o := .cells #[.int .i64 t474, .slice Ao46 t475.length co46] 30 (0, 0)) zq9x_32 hb)
                       replace BK487 := Aside0.mk (blk_below (g := gb487) (o := .cells #[.int .i64 0, .slice none 0 0] 24 (0, 0)) zq9x_34 hb)
                       replace HB := Aside0.mk (below_step zq9x_16 hb)
                       (try clear hb)
                       (try clear hb2)
                       (try clear hk)
                       (try clear hi)
                       (try clear ho0)
                       refine hK.out _ _ ⟨zc_9 BK468 0, zc_9 BK468 1, zc_9 BK469 0, zc_9 BK469 1⟩ (fun hHeld => ?_)
                       clear hK K
                       refine norm_ (a' := ?_) ?_ ?_
                       rotate_left
                       ·show Act.put _ (some 14) _ = _
                        simp only [Act.put, List.setIfInBounds_toArray, List.set_cons_zero, List.set_cons_succ, i64_w, i32_w]
                        rfl
                       exact norm_ zq9x_21 (hJ1_5 (v480, gb487) _ ⟨hHeld, zq9x_37, zq9x_38, zq9x_28, zq9x_31, zq9x_32, zq9x_34, GW487.out, GE487.out, NB468_487.out, NB487_468.out, NB469_487.out, NB487_469.out, zq9x_16⟩)
                      ·skip
                       refine box_step ?hg (N := 5) ?hd (cs := #[.int .i64 0, .slice none 0 0]) (t := 24) ?hr ?_; (case hd => rfl); (case hg => rfl); (case hr => first | (go_simp; done) | (go_simp; rfl))
                       intro gb486 hg w52 hbox hb
                       have n0_ := Aside0.mk (Kd.R_below zq9x_37 hb)
                       have n1_ := Aside0.mk (Kd.R_below zq9x_38 hb)
                       have n2_ := Aside0.mk (blk_below (g := gb468) (o := .cells #[.int .i64 t470, .slice Ao43 t471.length co43] 30 (0, 0)) zq9x_31 hb)
                       have n3_ := Aside0.mk (blk_below (g := gb469) (o := .cells #[.int .i64 t474, .slice Ao46 t475.length co46] 30 (0, 0)) zq9x_32 hb)
                       have n4_ := Aside0.mk (blk_below (g := gb487) (o := .cells #[.int .i64 0, .slice none 0 0] 24 (0, 0)) zq9x_34 hb)
                       have n5_ := Aside0.mk (below_step zq9x_16 hb)
                       have n6_ := Aside0.mk (hbox)
                       have n7_ := Aside0.mk ((zq9x_6 : w.heap.size ≤ gb486))
                       have n8_ := Aside0.mk ((zq9x_6 : w.heap.size ≤ gb486))
                       have n9_ := Aside0.mk ((zq9x_10 : gb468 ≠ gb486))
                       have n10_ := Aside0.mk ((zq9x_11 : gb486 ≠ gb468))
                       have n11_ := Aside0.mk ((zq9x_12 : gb469 ≠ gb486))
                       have n12_ := Aside0.mk ((zq9x_13 : gb486 ≠ gb469))
                       have n13_ := Aside0.mk ((zq9x_17 : gb487 ≠ gb486))
                       have n14_ := Aside0.mk ((zq9x_18 : gb486 ≠ gb487))
                       clear HO473 HO477 BK468 BK469 BK487 HB
                       have HO473 := n0_
                       have HO477 := n1_
                       have BK468 := n2_
                       have BK469 := n3_
                       have BK487 := n4_
                       have HB := n5_
                       have BK486 := n6_
                       have GW486 := n7_
                       have GE486 := n8_
                       have NB468_486 := n9_
                       have NB486_468 := n10_
                       have NB469_486 := n11_
                       have NB486_469 := n12_
                       have NB487_486 := n13_
                       have NB486_487 := n14_
                       clear n0_ n1_ n2_ n3_ n4_ n5_ n6_ n7_ n8_ n9_ n10_ n11_ n12_ n13_ n14_ hb hbox hg
                       refine hK.out _ _ ⟨zc_9 BK468 0, zc_9 BK468 1, zc_9 BK469 0, zc_9 BK469 1⟩ (fun hHeld => ?_)
                       clear hK K
                       refine norm_ (a' := ?_) ?_ ?_
                       rotate_left
                       ·show Act.put _ (some 5) _ = _
                        simp only [Act.put, List.setIfInBounds_toArray, List.set_cons_zero, List.set_cons_succ, i64_w, i32_w]
                        rfl
                       exact norm_ zq9x_21 (hJ4_5 (gb486, gb487) _ ⟨hHeld, zq9x_37, zq9x_38, zq9x_31, zq9x_32, zq9x_33, zq9x_34, GW486.out, GE486.out, NB468_486.out, NB486_468.out, NB469_486.out, NB486_469.out, NB487_486.out, NB486_487.out, GW487.out, GE487.out, NB468_487.out, NB487_468.out, NB469_487.out, NB487_469.out, zq9x_8⟩)
                    ·skip
                     rintro gb486 w51 ⟨hS_, h0_, h1_, h2_, h3_, h4_, h5_, h6_, h7_, h8_, h9_, h10_, h11_⟩
                     have n0_ : Aside0 (Kd.R (Kd.int .i64) 3 w51 w.heap.size (fun k_ => some k_ ≠ (.slice Ao46 t475.length co46 : Value).ownBlock) (.slice Ao43 t471.length co43) t471) := ⟨h0_⟩
                     have n1_ : Aside0 (Kd.R (Kd.int .i64) 3 w51 w.heap.size (fun k_ => some k_ ≠ (.slice Ao43 t471.length co43 : Value).ownBlock) (.slice Ao46 t475.length co46) t475) := ⟨h1_⟩
                     have n2_ : Aside0 (w51.heap[gb468]? = some (.cells #[.int .i64 t470, .slice Ao43 t471.length co43] 30 (0, 0))) := ⟨h2_⟩
                     have n3_ : Aside0 (w51.heap[gb469]? = some (.cells #[.int .i64 t474, .slice Ao46 t475.length co46] 30 (0, 0))) := ⟨h3_⟩
                     have n4_ : Aside0 (w51.heap[gb486]? = some (.cells #[.int .i64 0, .slice none 0 0] 24 (0, 0))) := ⟨h4_⟩
                     have n5_ : Aside0 (w.heap.size ≤ gb486) := ⟨h5_⟩
                     have n6_ : Aside0 (w.heap.size ≤ gb486) := ⟨h6_⟩
                     have n7_ : Aside0 (gb468 ≠ gb486) := ⟨h7_⟩
                     have n8_ : Aside0 (gb486 ≠ gb468) := ⟨h8_⟩
                     have n9_ : Aside0 (gb469 ≠ gb486) := ⟨h9_⟩
                     have n10_ : Aside0 (gb486 ≠ gb469) := ⟨h10_⟩
                     have n11_ : Aside0 (Below w.heap.size w w51) := ⟨h11_⟩
                     clear HO473 HO477 BK468 BK469 HB h0_ h1_ h2_ h3_ h4_ h5_ h6_ h7_ h8_ h9_ h10_ h11_
                     have HO473 := n0_
                     have HO477 := n1_
                     have BK468 := n2_
                     have BK469 := n3_
                     have BK486 := n4_
                     have GW486 := n5_
                     have GE486 := n6_
                     have NB468_486 := n7_
                     have NB486_468 := n8_
                     have NB469_486 := n9_
                     have NB486_469 := n10_
                     have HB := n11_
                     clear n0_ n1_ n2_ n3_ n4_ n5_ n6_ n7_ n8_ n9_ n10_ n11_
                     have hHeld : w51.cell? ⟨gb468, 0, none⟩ = some (.int .i64 t470) ∧ w51.cell? ⟨gb468, 1, none⟩ = some (.slice Ao43 t471.length co43) ∧ w51.cell? ⟨gb469, 0, none⟩ = some (.int .i64 t474) ∧ w51.cell? ⟨gb469, 1, none⟩ = some (.slice Ao46 t475.length co46) := hS_
                     refine norm_ (a' := ?_) ?_ ?_
                     rotate_left
                     ·simp only [putAll, Act.put, List.setIfInBounds_toArray, List.set_cons_zero, List.set_cons_succ]
                      rfl
                     refine two_ (i := 1) (j := 5) (Ni := some 14) (Nj := some 6) #[bT9, bT9, bT9, bF9, bT9, bF9, bF9, bF9] #[bT9, bF9, bT9, bF9, bT9, bT9, bF9, bF9] rfl rfl rfl rfl (two_of HT_.out (by kernel_rfl)) (by decide) (by decide) (fun K hK => ?_) (fun K hK => ?_)
                     ·skip
                      refine goes_ Try.func15 (by kernel_rfl) rfl #[.agg #[.int .i64 t470, .slice Ao43 t471.length co43]] (by rfl) rfl rfl zq9x_29 ?_
                      with_reducible refine (cenotaphlaw02_To.calls t470 _ _ t471 t478 t479 _ ?side1 ?side2 A5.out).mono ?_
                      (case side1 => repeat (first | exact (Kd.R_reads' HO473.out).2.2 | (with_reducible refine Kd.C_alloc ?_ _) | (with_reducible refine Kd.C_drewN ?_ _) | (with_reducible refine Kd.C_drew ?_)))
                      (case side2 => exact (Kd.R_reads' HO473.out).2.1)
                      rintro e w52 ⟨v480, rfl, ho0, hb⟩
                      refine ⟨_, rfl, ?_⟩
                      have HO481 := Aside0.mk (Kd.R_lower (Kd.R_new' (Kd.R_new' ho0 (Kd.R_lt zq9x_37)) (Kd.R_lt zq9x_38)) (below_size zq9x_15))
                      replace HO473 := Aside0.mk (Kd.R_elder' zq9x_37 (Kd.R_base ho0) hb)
                      replace HO477 := Aside0.mk (Kd.R_elder' zq9x_38 (Kd.R_base ho0) hb)
                      replace BK468 := Aside0.mk (blk_below (g := gb468) (o := .cells #[.int .i64 t470, .slice Ao43 t471.length co43] 30 (0, 0)) zq9x_31 hb)
                      replace BK469 := Aside0.mk (blk_below (g := gb469) (o := .cells #[.int .i64 t474, .slice Ao46 t475.length co46] 30 (0, 0)) zq9x_32 hb)
                      replace BK486 := Aside0.mk (blk_below (g := gb486) (o := .cells #[.int .i64 0, .slice none 0 0] 24 (0, 0)) zq9x_33 hb)
                      replace HB := Aside0.mk (below_step zq9x_15 hb)
                      (try clear hb)
                      (try clear hb2)
                      (try clear hk)
                      (try clear hi)
                      (try clear ho0)
                      refine hK.out _ _ ⟨zc_9 BK468 0, zc_9 BK468 1, zc_9 BK469 0, zc_9 BK469 1⟩ (fun hHeld => ?_)
                      clear hK K
                      refine norm_ (a' := ?_) ?_ ?_
                      rotate_left
                      ·show Act.put _ (some 14) _ = _
                       simp only [Act.put, List.setIfInBounds_toArray, List.set_cons_zero, List.set_cons_succ, i64_w, i32_w]
                       rfl
                      exact norm_ zq9x_21 (hJ1_4 (v480, gb486) _ ⟨hHeld, zq9x_37, zq9x_38, zq9x_28, zq9x_31, zq9x_32, zq9x_33, GW486.out, GE486.out, NB468_486.out, NB486_468.out, NB469_486.out, NB486_469.out, zq9x_15⟩)
                     ·skip
                      refine box_step ?hg (N := 6) ?hd (cs := #[.int .i64 0, .slice none 0 0]) (t := 24) ?hr ?_; (case hd => rfl); (case hg => rfl); (case hr => first | (go_simp; done) | (go_simp; rfl))
                      intro gb487 hg w52 hbox hb
                      have n0_ := Aside0.mk (Kd.R_below zq9x_37 hb)
                      have n1_ := Aside0.mk (Kd.R_below zq9x_38 hb)
                      have n2_ := Aside0.mk (blk_below (g := gb468) (o := .cells #[.int .i64 t470, .slice Ao43 t471.length co43] 30 (0, 0)) zq9x_31 hb)
                      have n3_ := Aside0.mk (blk_below (g := gb469) (o := .cells #[.int .i64 t474, .slice Ao46 t475.length co46] 30 (0, 0)) zq9x_32 hb)
                      have n4_ := Aside0.mk (blk_below (g := gb486) (o := .cells #[.int .i64 0, .slice none 0 0] 24 (0, 0)) zq9x_33 hb)
                      have n5_ := Aside0.mk (below_step zq9x_15 hb)
                      have n6_ := Aside0.mk (hbox)
                      have n7_ := Aside0.mk ((zq9x_7 : w.heap.size ≤ gb487))
                      have n8_ := Aside0.mk ((zq9x_7 : w.heap.size ≤ gb487))
                      have n9_ := Aside0.mk ((zq9x_10 : gb468 ≠ gb487))
                      have n10_ := Aside0.mk ((zq9x_11 : gb487 ≠ gb468))
                      have n11_ := Aside0.mk ((zq9x_12 : gb469 ≠ gb487))
                      have n12_ := Aside0.mk ((zq9x_13 : gb487 ≠ gb469))
                      have n13_ := Aside0.mk ((zq9x_19 : gb486 ≠ gb487))
                      have n14_ := Aside0.mk ((zq9x_20 : gb487 ≠ gb486))
                      clear HO473 HO477 BK468 BK469 BK486 HB
                      have HO473 := n0_
                      have HO477 := n1_
                      have BK468 := n2_
                      have BK469 := n3_
                      have BK486 := n4_
                      have HB := n5_
                      have BK487 := n6_
                      have GW487 := n7_
                      have GE487 := n8_
                      have NB468_487 := n9_
                      have NB487_468 := n10_
                      have NB469_487 := n11_
                      have NB487_469 := n12_
                      have NB486_487 := n13_
                      have NB487_486 := n14_
                      clear n0_ n1_ n2_ n3_ n4_ n5_ n6_ n7_ n8_ n9_ n10_ n11_ n12_ n13_ n14_ hb hbox hg
                      refine hK.out _ _ ⟨zc_9 BK468 0, zc_9 BK468 1, zc_9 BK469 0, zc_9 BK469 1⟩ (fun hHeld => ?_)
                      clear hK K
                      refine norm_ (a' := ?_) ?_ ?_
                      rotate_left
                      ·show Act.put _ (some 6) _ = _
                       simp only [Act.put, List.setIfInBounds_toArray, List.set_cons_zero, List.set_cons_succ, i64_w, i32_w]
                       rfl
                      exact norm_ zq9x_21 (hJ4_5 (gb486, gb487) _ ⟨hHeld, zq9x_37, zq9x_38, zq9x_31, zq9x_32, zq9x_33, zq9x_34, GW486.out, GE486.out, NB468_486.out, NB486_468.out, NB469_486.out, NB486_469.out, NB487_486.out, NB486_487.out, GW487.out, GE487.out, NB468_487.out, NB487_468.out, NB469_487.out, NB487_469.out, zq9x_9⟩)
                   ·skip
                    rintro v480 w51 ⟨hS_, h0_, h1_, h2_, h3_, h4_, h5_⟩
                    have n0_ : Aside0 (Kd.R (Kd.int .i64) 3 w51 w.heap.size (fun k_ => some k_ ≠ (.slice Ao46 t475.length co46 : Value).ownBlock ∧ some k_ ≠ (v480 : Value).ownBlock) (.slice Ao43 t471.length co43) t471) := ⟨h0_⟩
                    have n1_ : Aside0 (Kd.R (Kd.int .i64) 3 w51 w.heap.size (fun k_ => some k_ ≠ (.slice Ao43 t471.length co43 : Value).ownBlock ∧ some k_ ≠ (v480 : Value).ownBlock) (.slice Ao46 t475.length co46) t475) := ⟨h1_⟩
                    have n2_ : Aside0 (Kd.R (Kd.int .i64) 3 w51 w.heap.size (fun k_ => some k_ ≠ (.slice Ao43 t471.length co43 : Value).ownBlock ∧ some k_ ≠ (.slice Ao46 t475.length co46 : Value).ownBlock) v480 t479) := ⟨h2_⟩
                    have n3_ : Aside0 (w51.heap[gb468]? = some (.cells #[.int .i64 t470, .slice Ao43 t471.length co43] 30 (0, 0))) := ⟨h3_⟩
                    have n4_ : Aside0 (w51.heap[gb469]? = some (.cells #[.int .i64 t474, .slice Ao46 t475.length co46] 30 (0, 0))) := ⟨h4_⟩
                    have n5_ : Aside0 (Below w.heap.size w w51) := ⟨h5_⟩
                    clear HO473 HO477 BK468 BK469 HB h0_ h1_ h2_ h3_ h4_ h5_
                    have HO473 := n0_
                    have HO477 := n1_
                    have HO481 := n2_
                    have BK468 := n3_
                    have BK469 := n4_
                    have HB := n5_
                    clear n0_ n1_ n2_ n3_ n4_ n5_
                    have hHeld : w51.cell? ⟨gb468, 0, none⟩ = some (.int .i64 t470) ∧ w51.cell? ⟨gb468, 1, none⟩ = some (.slice Ao43 t471.length co43) ∧ w51.cell? ⟨gb469, 0, none⟩ = some (.int .i64 t474) ∧ w51.cell? ⟨gb469, 1, none⟩ = some (.slice Ao46 t475.length co46) := hS_
                    refine norm_ (a' := ?_) ?_ ?_
                    rotate_left
                    ·simp only [putAll, Act.put, List.setIfInBounds_toArray, List.set_cons_zero, List.set_cons_succ]
                     rfl
                    refine three_ (i := 3) (j := 4) (k := 5) (Ni := some 16) (Nj := some 5) (Nk := some 6) #[bT9, bT9, bT9, bT9, bF9, bF9, bF9, bF9] #[bT9, bT9, bT9, bF9, bT9, bF9, bF9, bF9] #[bT9, bT9, bT9, bF9, bF9, bT9, bF9, bF9] rfl rfl rfl rfl rfl rfl (three_of HT_.out (by kernel_rfl)) (by decide) (by decide) (by decide) (fun K hK => ?_) (fun K hK => ?_) (fun K hK => ?_)
                    ·skip
                     refine goes_ Try.func15 (by kernel_rfl) rfl #[.agg #[.int .i64 t474, .slice Ao46 t475.length co46]] (by rfl) rfl rfl zq9x_29 ?_
                     with_reducible refine (cenotaphlaw02_To.calls t474 _ _ t475 t482 t483 _ ?side1 ?side2 A6.out).mono ?_
                     (case side1 => repeat (first | exact (Kd.R_reads' HO477.out).2.2 | (with_reducible refine Kd.C_alloc ?_ _) | (with_reducible refine Kd.C_drewN ?_ _) | (with_reducible refine Kd.C_drew ?_)))
                     (case side2 => exact (Kd.R_reads' HO477.out).2.1)
                     rintro e w52 ⟨v484, rfl, ho0, hb⟩
                     refine ⟨_, rfl, ?_⟩
                     have HO485 := Aside0.mk (Kd.R_lower (Kd.R_new' (Kd.R_new' (Kd.R_new' ho0 (Kd.R_lt zq9x_37)) (Kd.R_lt zq9x_38)) (Kd.R_lt zq9x_39)) (below_size zq9x_22))
                     replace HO473 := Aside0.mk (Kd.R_elder' zq9x_37 (Kd.R_base ho0) hb)
                     replace HO477 := Aside0.mk (Kd.R_elder' zq9x_38 (Kd.R_base ho0) hb)
                     replace HO481 := Aside0.mk (Kd.R_elder' zq9x_39 (Kd.R_base ho0) hb)
                     replace BK468 := Aside0.mk (blk_below (g := gb468) (o := .cells #[.int .i64 t470, .slice Ao43 t471.length co43] 30 (0, 0)) zq9x_31 hb)
                     replace BK469 := Aside0.mk (blk_below (g := gb469) (o := .cells #[.int .i64 t474, .slice Ao46 t475.length co46] 30 (0, 0)) zq9x_32 hb)
                     replace HB := Aside0.mk (below_step zq9x_22 hb)
                     (try clear hb)
                     (try clear hb2)
                     (try clear hk)
                     (try clear hi)
                     (try clear ho0)
                     refine hK.out _ _ ⟨zc_9 BK468 0, zc_9 BK468 1, zc_9 BK469 0, zc_9 BK469 1⟩ (fun hHeld => ?_)
                     clear hK K
                     refine norm_ (a' := ?_) ?_ ?_
                     rotate_left
                     ·show Act.put _ (some 16) _ = _
                      simp only [Act.put, List.setIfInBounds_toArray, List.set_cons_zero, List.set_cons_succ, i64_w, i32_w]
                      rfl
                     exact norm_ zq9x_21 (hJ1_3 (v480, v484) _ ⟨hHeld, zq9x_25, zq9x_26, zq9x_27, zq9x_24, zq9x_31, zq9x_32, zq9x_22⟩)
                    ·skip
                     refine box_step ?hg (N := 5) ?hd (cs := #[.int .i64 0, .slice none 0 0]) (t := 24) ?hr ?_; (case hd => rfl); (case hg => rfl); (case hr => first | (go_simp; done) | (go_simp; rfl))
                     intro gb486 hg w52 hbox hb
                     have n0_ := Aside0.mk (Kd.R_below zq9x_37 hb)
                     have n1_ := Aside0.mk (Kd.R_below zq9x_38 hb)
                     have n2_ := Aside0.mk (Kd.R_below zq9x_39 hb)
                     have n3_ := Aside0.mk (blk_below (g := gb468) (o := .cells #[.int .i64 t470, .slice Ao43 t471.length co43] 30 (0, 0)) zq9x_31 hb)
                     have n4_ := Aside0.mk (blk_below (g := gb469) (o := .cells #[.int .i64 t474, .slice Ao46 t475.length co46] 30 (0, 0)) zq9x_32 hb)
                     have n5_ := Aside0.mk (below_step zq9x_22 hb)
                     have n6_ := Aside0.mk (hbox)
                     have n7_ := Aside0.mk ((zq9x_14 : w.heap.size ≤ gb486))
                     have n8_ := Aside0.mk ((zq9x_14 : w.heap.size ≤ gb486))
                     have n9_ := Aside0.mk ((zq9x_10 : gb468 ≠ gb486))
                     have n10_ := Aside0.mk ((zq9x_11 : gb486 ≠ gb468))
                     have n11_ := Aside0.mk ((zq9x_12 : gb469 ≠ gb486))
                     have n12_ := Aside0.mk ((zq9x_13 : gb486 ≠ gb469))
                     clear HO473 HO477 HO481 BK468 BK469 HB
                     have HO473 := n0_
                     have HO477 := n1_
                     have HO481 := n2_
                     have BK468 := n3_
                     have BK469 := n4_
                     have HB := n5_
                     have BK486 := n6_
                     have GW486 := n7_
                     have GE486 := n8_
                     have NB468_486 := n9_
                     have NB486_468 := n10_
                     have NB469_486 := n11_
                     have NB486_469 := n12_
                     clear n0_ n1_ n2_ n3_ n4_ n5_ n6_ n7_ n8_ n9_ n10_ n11_ n12_ hb hbox hg
                     refine hK.out _ _ ⟨zc_9 BK468 0, zc_9 BK468 1, zc_9 BK469 0, zc_9 BK469 1⟩ (fun hHeld => ?_)
                     clear hK K
                     refine norm_ (a' := ?_) ?_ ?_
                     rotate_left
                     ·show Act.put _ (some 5) _ = _
                      simp only [Act.put, List.setIfInBounds_toArray, List.set_cons_zero, List.set_cons_succ, i64_w, i32_w]
                      rfl
                     exact norm_ zq9x_21 (hJ1_4 (v480, gb486) _ ⟨hHeld, zq9x_37, zq9x_38, zq9x_39, zq9x_31, zq9x_32, zq9x_33, GW486.out, GE486.out, NB468_486.out, NB486_468.out, NB469_486.out, NB486_469.out, zq9x_15⟩)
                    ·skip
                     refine box_step ?hg (N := 6) ?hd (cs := #[.int .i64 0, .slice none 0 0]) (t := 24) ?hr ?_; (case hd => rfl); (case hg => rfl); (case hr => first | (go_simp; done) | (go_simp; rfl))
                     intro gb487 hg w52 hbox hb
                     have n0_ := Aside0.mk (Kd.R_below zq9x_37 hb)
                     have n1_ := Aside0.mk (Kd.R_below zq9x_38 hb)
                     have n2_ := Aside0.mk (Kd.R_below zq9x_39 hb)
                     have n3_ := Aside0.mk (blk_below (g := gb468) (o := .cells #[.int .i64 t470, .slice Ao43 t471.length co43] 30 (0, 0)) zq9x_31 hb)
                     have n4_ := Aside0.mk (blk_below (g := gb469) (o := .cells #[.int .i64 t474, .slice Ao46 t475.length co46] 30 (0, 0)) zq9x_32 hb)
                     have n5_ := Aside0.mk (below_step zq9x_22 hb)
                     have n6_ := Aside0.mk (hbox)
                     have n7_ := Aside0.mk ((zq9x_14 : w.heap.size ≤ gb487))
                     have n8_ := Aside0.mk ((zq9x_14 : w.heap.size ≤ gb487))
                     have n9_ := Aside0.mk ((zq9x_10 : gb468 ≠ gb487))
                     have n10_ := Aside0.mk ((zq9x_11 : gb487 ≠ gb468))
                     have n11_ := Aside0.mk ((zq9x_12 : gb469 ≠ gb487))
                     have n12_ := Aside0.mk ((zq9x_13 : gb487 ≠ gb469))
                     clear HO473 HO477 HO481 BK468 BK469 HB
                     have HO473 := n0_
                     have HO477 := n1_
                     have HO481 := n2_
                     have BK468 := n3_
                     have BK469 := n4_
                     have HB := n5_
                     have BK487 := n6_
                     have GW487 := n7_
                     have GE487 := n8_
                     have NB468_487 := n9_
                     have NB487_468 := n10_
                     have NB469_487 := n11_
                     have NB487_469 := n12_
                     clear n0_ n1_ n2_ n3_ n4_ n5_ n6_ n7_ n8_ n9_ n10_ n11_ n12_ hb hbox hg
                     refine hK.out _ _ ⟨zc_9 BK468 0, zc_9 BK468 1, zc_9 BK469 0, zc_9 BK469 1⟩ (fun hHeld => ?_)
                     clear hK K
                     refine norm_ (a' := ?_) ?_ ?_
                     rotate_left
                     ·show Act.put _ (some 6) _ = _
                      simp only [Act.put, List.setIfInBounds_toArray, List.set_cons_zero, List.set_cons_succ, i64_w, i32_w]
                      rfl
                     exact norm_ zq9x_21 (hJ1_5 (v480, gb487) _ ⟨hHeld, zq9x_37, zq9x_38, zq9x_39, zq9x_31, zq9x_32, zq9x_34, GW487.out, GE487.out, NB468_487.out, NB487_468.out, NB469_487.out, NB487_469.out, zq9x_16⟩)
                  ·skip
                   rintro ⟨gb486, gb487⟩ w52 ⟨hS_, h0_, h1_, h2_, h3_, h4_, h5_, h6_, h7_, h8_, h9_, h10_, h11_, h12_, h13_, h14_, h15_, h16_, h17_, h18_, h19_, h20_⟩
                   have n0_ : Aside0 (Kd.R (Kd.int .i64) 3 w52 w.heap.size (fun k_ => some k_ ≠ (.slice Ao46 t475.length co46 : Value).ownBlock) (.slice Ao43 t471.length co43) t471) := ⟨h0_⟩
                   have n1_ : Aside0 (Kd.R (Kd.int .i64) 3 w52 w.heap.size (fun k_ => some k_ ≠ (.slice Ao43 t471.length co43 : Value).ownBlock) (.slice Ao46 t475.length co46) t475) := ⟨h1_⟩
                   have n2_ : Aside0 (w52.heap[gb468]? = some (.cells #[.int .i64 t470, .slice Ao43 t471.length co43] 30 (0, 0))) := ⟨h2_⟩
                   have n3_ : Aside0 (w52.heap[gb469]? = some (.cells #[.int .i64 t474, .slice Ao46 t475.length co46] 30 (0, 0))) := ⟨h3_⟩
                   have n4_ : Aside0 (w52.heap[gb486]? = some (.cells #[.int .i64 0, .slice none 0 0] 24 (0, 0))) := ⟨h4_⟩
                   have n5_ : Aside0 (w52.heap[gb487]? = some (.cells #[.int .i64 0, .slice none 0 0] 24 (0, 0))) := ⟨h5_⟩
                   have n6_ : Aside0 (w.heap.size ≤ gb486) := ⟨h6_⟩
                   have n7_ : Aside0 (w.heap.size ≤ gb486) := ⟨h7_⟩
                   have n8_ : Aside0 (gb468 ≠ gb486) := ⟨h8_⟩
                   have n9_ : Aside0 (gb486 ≠ gb468) := ⟨h9_⟩
                   have n10_ : Aside0 (gb469 ≠ gb486) := ⟨h10_⟩
                   have n11_ : Aside0 (gb486 ≠ gb469) := ⟨h11_⟩
                   have n12_ : Aside0 (gb487 ≠ gb486) := ⟨h12_⟩
                   have n13_ : Aside0 (gb486 ≠ gb487) := ⟨h13_⟩
                   have n14_ : Aside0 (w.heap.size ≤ gb487) := ⟨h14_⟩
                   have n15_ : Aside0 (w.heap.size ≤ gb487) := ⟨h15_⟩
                   have n16_ : Aside0 (gb468 ≠ gb487) := ⟨h16_⟩
                   have n17_ : Aside0 (gb487 ≠ gb468) := ⟨h17_⟩
                   have n18_ : Aside0 (gb469 ≠ gb487) := ⟨h18_⟩
                   have n19_ : Aside0 (gb487 ≠ gb469) := ⟨h19_⟩
                   have n20_ : Aside0 (Below w.heap.size w w52) := ⟨h20_⟩
                   clear HO473 HO477 BK468 BK469 HB h0_ h1_ h2_ h3_ h4_ h5_ h6_ h7_ h8_ h9_ h10_ h11_ h12_ h13_ h14_ h15_ h16_ h17_ h18_ h19_ h20_
                   have HO473 := n0_
                   have HO477 := n1_
                   have BK468 := n2_
                   have BK469 := n3_
                   have BK486 := n4_
                   have BK487 := n5_
                   have GW486 := n6_
                   have GE486 := n7_
                   have NB468_486 := n8_
                   have NB486_468 := n9_
                   have NB469_486 := n10_
                   have NB486_469 := n11_
                   have NB487_486 := n12_
                   have NB486_487 := n13_
                   have GW487 := n14_
                   have GE487 := n15_
                   have NB468_487 := n16_
                   have NB487_468 := n17_
                   have NB469_487 := n18_
                   have NB487_469 := n19_
                   have HB := n20_
                   clear n0_ n1_ n2_ n3_ n4_ n5_ n6_ n7_ n8_ n9_ n10_ n11_ n12_ n13_ n14_ n15_ n16_ n17_ n18_ n19_ n20_
                   have hHeld : w52.cell? ⟨gb468, 0, none⟩ = some (.int .i64 t470) ∧ w52.cell? ⟨gb468, 1, none⟩ = some (.slice Ao43 t471.length co43) ∧ w52.cell? ⟨gb469, 0, none⟩ = some (.int .i64 t474) ∧ w52.cell? ⟨gb469, 1, none⟩ = some (.slice Ao46 t475.length co46) := hS_
                   refine norm_ (a' := ?_) ?_ ?_
                   rotate_left
                   ·simp only [putAll, Act.put, List.setIfInBounds_toArray, List.set_cons_zero, List.set_cons_succ]
                    rfl
                   refine one_ (i := 1) (N := some 14) #[bT9, bT9, bT9, bF9, bT9, bT9, bF9, bF9] rfl rfl (one_of HT_.out (by kernel_rfl)) (by decide) (fun K hK => ?_)
                   refine goes_ Try.func15 (by kernel_rfl) rfl #[.agg #[.int .i64 t470, .slice Ao43 t471.length co43]] (by rfl) rfl rfl zq9x_29 ?_
                   with_reducible refine (cenotaphlaw02_To.calls t470 _ _ t471 t478 t479 _ ?side1 ?side2 A5.out).mono ?_
                   (case side1 => repeat (first | exact (Kd.R_reads' HO473.out).2.2 | (with_reducible refine Kd.C_alloc ?_ _) | (with_reducible refine Kd.C_drewN ?_ _) | (with_reducible refine Kd.C_drew ?_)))
                   (case side2 => exact (Kd.R_reads' HO473.out).2.1)
                   rintro e w53 ⟨v480, rfl, ho0, hb⟩
                   refine ⟨_, rfl, ?_⟩
                   have HO481 := Aside0.mk (Kd.R_lower (Kd.R_new' (Kd.R_new' ho0 (Kd.R_lt zq9x_37)) (Kd.R_lt zq9x_38)) (below_size zq9x_9))
                   replace HO473 := Aside0.mk (Kd.R_elder' zq9x_37 (Kd.R_base ho0) hb)
                   replace HO477 := Aside0.mk (Kd.R_elder' zq9x_38 (Kd.R_base ho0) hb)
                   replace BK468 := Aside0.mk (blk_below (g := gb468) (o := .cells #[.int .i64 t470, .slice Ao43 t471.length co43] 30 (0, 0)) zq9x_31 hb)
                   replace BK469 := Aside0.mk (blk_below (g := gb469) (o := .cells #[.int .i64 t474, .slice Ao46 t475.length co46] 30 (0, 0)) zq9x_32 hb)
                   replace BK486 := Aside0.mk (blk_below (g := gb486) (o := .cells #[.int .i64 0, .slice none 0 0] 24 (0, 0)) zq9x_33 hb)
                   replace BK487 := Aside0.mk (blk_below (g := gb487) (o := .cells #[.int .i64 0, .slice none 0 0] 24 (0, 0)) zq9x_34 hb)
                   replace HB := Aside0.mk (below_step zq9x_9 hb)
                   (try clear hb)
                   (try clear hb2)
                   (try clear hk)
                   (try clear hi)
                   (try clear ho0)
                   refine hK.out _ _ ⟨zc_9 BK468 0, zc_9 BK468 1, zc_9 BK469 0, zc_9 BK469 1⟩ (fun hHeld => ?_)
                   clear hK K
                   refine norm_ (a' := ?_) ?_ ?_
                   rotate_left
                   ·show Act.put _ (some 14) _ = _
                    simp only [Act.put, List.setIfInBounds_toArray, List.set_cons_zero, List.set_cons_succ, i64_w, i32_w]
                    rfl
                   exact norm_ zq9x_21 (hJ1_4_5 (v480, gb486, gb487) _ ⟨hHeld, zq9x_37, zq9x_38, zq9x_28, zq9x_31, zq9x_32, zq9x_33, zq9x_34, GW486.out, GE486.out, NB468_486.out, NB486_468.out, NB469_486.out, NB486_469.out, NB487_486.out, NB486_487.out, GW487.out, GE487.out, NB468_487.out, NB487_468.out, NB469_487.out, NB487_469.out, zq9x_9⟩)
                 ·skip
                  rintro ⟨v480, gb487⟩ w52 ⟨hS_, h0_, h1_, h2_, h3_, h4_, h5_, h6_, h7_, h8_, h9_, h10_, h11_, h12_⟩
                  have n0_ : Aside0 (Kd.R (Kd.int .i64) 3 w52 w.heap.size (fun k_ => some k_ ≠ (.slice Ao46 t475.length co46 : Value).ownBlock ∧ some k_ ≠ (v480 : Value).ownBlock) (.slice Ao43 t471.length co43) t471) := ⟨h0_⟩
                  have n1_ : Aside0 (Kd.R (Kd.int .i64) 3 w52 w.heap.size (fun k_ => some k_ ≠ (.slice Ao43 t471.length co43 : Value).ownBlock ∧ some k_ ≠ (v480 : Value).ownBlock) (.slice Ao46 t475.length co46) t475) := ⟨h1_⟩
                  have n2_ : Aside0 (Kd.R (Kd.int .i64) 3 w52 w.heap.size (fun k_ => some k_ ≠ (.slice Ao43 t471.length co43 : Value).ownBlock ∧ some k_ ≠ (.slice Ao46 t475.length co46 : Value).ownBlock) v480 t479) := ⟨h2_⟩
                  have n3_ : Aside0 (w52.heap[gb468]? = some (.cells #[.int .i64 t470, .slice Ao43 t471.length co43] 30 (0, 0))) := ⟨h3_⟩
                  have n4_ : Aside0 (w52.heap[gb469]? = some (.cells #[.int .i64 t474, .slice Ao46 t475.length co46] 30 (0, 0))) := ⟨h4_⟩
                  have n5_ : Aside0 (w52.heap[gb487]? = some (.cells #[.int .i64 0, .slice none 0 0] 24 (0, 0))) := ⟨h5_⟩
                  have n6_ : Aside0 (w.heap.size ≤ gb487) := ⟨h6_⟩
                  have n7_ : Aside0 (w.heap.size ≤ gb487) := ⟨h7_⟩
                  have n8_ : Aside0 (gb468 ≠ gb487) := ⟨h8_⟩
                  have n9_ : Aside0 (gb487 ≠ gb468) := ⟨h9_⟩
                  have n10_ : Aside0 (gb469 ≠ gb487) := ⟨h10_⟩
                  have n11_ : Aside0 (gb487 ≠ gb469) := ⟨h11_⟩
                  have n12_ : Aside0 (Below w.heap.size w w52) := ⟨h12_⟩
                  clear HO473 HO477 BK468 BK469 HB h0_ h1_ h2_ h3_ h4_ h5_ h6_ h7_ h8_ h9_ h10_ h11_ h12_
                  have HO473 := n0_
                  have HO477 := n1_
                  have HO481 := n2_
                  have BK468 := n3_
                  have BK469 := n4_
                  have BK487 := n5_
                  have GW487 := n6_
                  have GE487 := n7_
                  have NB468_487 := n8_
                  have NB487_468 := n9_
                  have NB469_487 := n10_
                  have NB487_469 := n11_
                  have HB := n12_
                  clear n0_ n1_ n2_ n3_ n4_ n5_ n6_ n7_ n8_ n9_ n10_ n11_ n12_
                  have hHeld : w52.cell? ⟨gb468, 0, none⟩ = some (.int .i64 t470) ∧ w52.cell? ⟨gb468, 1, none⟩ = some (.slice Ao43 t471.length co43) ∧ w52.cell? ⟨gb469, 0, none⟩ = some (.int .i64 t474) ∧ w52.cell? ⟨gb469, 1, none⟩ = some (.slice Ao46 t475.length co46) := hS_
                  refine norm_ (a' := ?_) ?_ ?_
                  rotate_left
                  ·simp only [putAll, Act.put, List.setIfInBounds_toArray, List.set_cons_zero, List.set_cons_succ]
                   rfl
                  refine two_ (i := 3) (j := 4) (Ni := some 16) (Nj := some 5) #[bT9, bT9, bT9, bT9, bF9, bT9, bF9, bF9] #[bT9, bT9, bT9, bF9, bT9, bT9, bF9, bF9] rfl rfl rfl rfl (two_of HT_.out (by kernel_rfl)) (by decide) (by decide) (fun K hK => ?_) (fun K hK => ?_)
                  ·skip
                   refine goes_ Try.func15 (by kernel_rfl) rfl #[.agg #[.int .i64 t474, .slice Ao46 t475.length co46]] (by rfl) rfl rfl zq9x_29 ?_
                   with_reducible refine (cenotaphlaw02_To.calls t474 _ _ t475 t482 t483 _ ?side1 ?side2 A6.out).mono ?_
                   (case side1 => repeat (first | exact (Kd.R_reads' HO477.out).2.2 | (with_reducible refine Kd.C_alloc ?_ _) | (with_reducible refine Kd.C_drewN ?_ _) | (with_reducible refine Kd.C_drew ?_)))
                   (case side2 => exact (Kd.R_reads' HO477.out).2.1)
                   rintro e w53 ⟨v484, rfl, ho0, hb⟩
                   refine ⟨_, rfl, ?_⟩
                   have HO485 := Aside0.mk (Kd.R_lower (Kd.R_new' (Kd.R_new' (Kd.R_new' ho0 (Kd.R_lt zq9x_37)) (Kd.R_lt zq9x_38)) (Kd.R_lt zq9x_39)) (below_size zq9x_16))
                   replace HO473 := Aside0.mk (Kd.R_elder' zq9x_37 (Kd.R_base ho0) hb)
                   replace HO477 := Aside0.mk (Kd.R_elder' zq9x_38 (Kd.R_base ho0) hb)
                   replace HO481 := Aside0.mk (Kd.R_elder' zq9x_39 (Kd.R_base ho0) hb)
                   replace BK468 := Aside0.mk (blk_below (g := gb468) (o := .cells #[.int .i64 t470, .slice Ao43 t471.length co43] 30 (0, 0)) zq9x_31 hb)
                   replace BK469 := Aside0.mk (blk_below (g := gb469) (o := .cells #[.int .i64 t474, .slice Ao46 t475.length co46] 30 (0, 0)) zq9x_32 hb)
                   replace BK487 := Aside0.mk (blk_below (g := gb487) (o := .cells #[.int .i64 0, .slice none 0 0] 24 (0, 0)) zq9x_34 hb)
                   replace HB := Aside0.mk (below_step zq9x_16 hb)
                   (try clear hb)
                   (try clear hb2)
                   (try clear hk)
                   (try clear hi)
                   (try clear ho0)
                   refine hK.out _ _ ⟨zc_9 BK468 0, zc_9 BK468 1, zc_9 BK469 0, zc_9 BK469 1⟩ (fun hHeld => ?_)
                   clear hK K
                   refine norm_ (a' := ?_) ?_ ?_
                   rotate_left
                   ·show Act.put _ (some 16) _ = _
                    simp only [Act.put, List.setIfInBounds_toArray, List.set_cons_zero, List.set_cons_succ, i64_w, i32_w]
                    rfl
                   exact norm_ zq9x_21 (hJ1_3_5 (v480, v484, gb487) _ ⟨hHeld, zq9x_25, zq9x_26, zq9x_27, zq9x_24, zq9x_31, zq9x_32, zq9x_34, GW487.out, GE487.out, NB468_487.out, NB487_468.out, NB469_487.out, NB487_469.out, zq9x_16⟩)
                  ·skip
                   refine box_step ?hg (N := 5) ?hd (cs := #[.int .i64 0, .slice none 0 0]) (t := 24) ?hr ?_; (case hd => rfl); (case hg => rfl); (case hr => first | (go_simp; done) | (go_simp; rfl))
                   intro gb486 hg w53 hbox hb
                   have n0_ := Aside0.mk (Kd.R_below zq9x_37 hb)
                   have n1_ := Aside0.mk (Kd.R_below zq9x_38 hb)
                   have n2_ := Aside0.mk (Kd.R_below zq9x_39 hb)
                   have n3_ := Aside0.mk (blk_below (g := gb468) (o := .cells #[.int .i64 t470, .slice Ao43 t471.length co43] 30 (0, 0)) zq9x_31 hb)
                   have n4_ := Aside0.mk (blk_below (g := gb469) (o := .cells #[.int .i64 t474, .slice Ao46 t475.length co46] 30 (0, 0)) zq9x_32 hb)
                   have n5_ := Aside0.mk (blk_below (g := gb487) (o := .cells #[.int .i64 0, .slice none 0 0] 24 (0, 0)) zq9x_34 hb)
                   have n6_ := Aside0.mk (below_step zq9x_16 hb)
                   have n7_ := Aside0.mk (hbox)
                   have n8_ := Aside0.mk ((zq9x_6 : w.heap.size ≤ gb486))
                   have n9_ := Aside0.mk ((zq9x_6 : w.heap.size ≤ gb486))
                   have n10_ := Aside0.mk ((zq9x_10 : gb468 ≠ gb486))
                   have n11_ := Aside0.mk ((zq9x_11 : gb486 ≠ gb468))
                   have n12_ := Aside0.mk ((zq9x_12 : gb469 ≠ gb486))
                   have n13_ := Aside0.mk ((zq9x_13 : gb486 ≠ gb469))
                   have n14_ := Aside0.mk ((zq9x_17 : gb487 ≠ gb486))
                   have n15_ := Aside0.mk ((zq9x_18 : gb486 ≠ gb487))
                   clear HO473 HO477 HO481 BK468 BK469 BK487 HB
                   have HO473 := n0_
                   have HO477 := n1_
                   have HO481 := n2_
                   have BK468 := n3_
                   have BK469 := n4_
                   have BK487 := n5_
                   have HB := n6_
                   have BK486 := n7_
                   have GW486 := n8_
                   have GE486 := n9_
                   have NB468_486 := n10_
                   have NB486_468 := n11_
                   have NB469_486 := n12_
                   have NB486_469 := n13_
                   have NB487_486 := n14_
                   have NB486_487 := n15_
                   clear n0_ n1_ n2_ n3_ n4_ n5_ n6_ n7_ n8_ n9_ n10_ n11_ n12_ n13_ n14_ n15_ hb hbox hg
                   refine hK.out _ _ ⟨zc_9 BK468 0, zc_9 BK468 1, zc_9 BK469 0, zc_9 BK469 1⟩ (fun hHeld => ?_)
                   clear hK K
                   refine norm_ (a' := ?_) ?_ ?_
                   rotate_left
                   ·show Act.put _ (some 5) _ = _
                    simp only [Act.put, List.setIfInBounds_toArray, List.set_cons_zero, List.set_cons_succ, i64_w, i32_w]
                    rfl
                   exact norm_ zq9x_21 (hJ1_4_5 (v480, gb486, gb487) _ ⟨hHeld, zq9x_37, zq9x_38, zq9x_39, zq9x_31, zq9x_32, zq9x_33, zq9x_34, GW486.out, GE486.out, NB468_486.out, NB486_468.out, NB469_486.out, NB486_469.out, NB487_486.out, NB486_487.out, GW487.out, GE487.out, NB468_487.out, NB487_468.out, NB469_487.out, NB487_469.out, zq9x_8⟩)
                ·skip
                 rintro ⟨v480, gb486⟩ w52 ⟨hS_, h0_, h1_, h2_, h3_, h4_, h5_, h6_, h7_, h8_, h9_, h10_, h11_, h12_⟩
                 have n0_ : Aside0 (Kd.R (Kd.int .i64) 3 w52 w.heap.size (fun k_ => some k_ ≠ (.slice Ao46 t475.length co46 : Value).ownBlock ∧ some k_ ≠ (v480 : Value).ownBlock) (.slice Ao43 t471.length co43) t471) := ⟨h0_⟩
                 have n1_ : Aside0 (Kd.R (Kd.int .i64) 3 w52 w.heap.size (fun k_ => some k_ ≠ (.slice Ao43 t471.length co43 : Value).ownBlock ∧ some k_ ≠ (v480 : Value).ownBlock) (.slice Ao46 t475.length co46) t475) := ⟨h1_⟩
                 have n2_ : Aside0 (Kd.R (Kd.int .i64) 3 w52 w.heap.size (fun k_ => some k_ ≠ (.slice Ao43 t471.length co43 : Value).ownBlock ∧ some k_ ≠ (.slice Ao46 t475.length co46 : Value).ownBlock) v480 t479) := ⟨h2_⟩
                 have n3_ : Aside0 (w52.heap[gb468]? = some (.cells #[.int .i64 t470, .slice Ao43 t471.length co43] 30 (0, 0))) := ⟨h3_⟩
                 have n4_ : Aside0 (w52.heap[gb469]? = some (.cells #[.int .i64 t474, .slice Ao46 t475.length co46] 30 (0, 0))) := ⟨h4_⟩
                 have n5_ : Aside0 (w52.heap[gb486]? = some (.cells #[.int .i64 0, .slice none 0 0] 24 (0, 0))) := ⟨h5_⟩
                 have n6_ : Aside0 (w.heap.size ≤ gb486) := ⟨h6_⟩
                 have n7_ : Aside0 (w.heap.size ≤ gb486) := ⟨h7_⟩
                 have n8_ : Aside0 (gb468 ≠ gb486) := ⟨h8_⟩
                 have n9_ : Aside0 (gb486 ≠ gb468) := ⟨h9_⟩
                 have n10_ : Aside0 (gb469 ≠ gb486) := ⟨h10_⟩
                 have n11_ : Aside0 (gb486 ≠ gb469) := ⟨h11_⟩
                 have n12_ : Aside0 (Below w.heap.size w w52) := ⟨h12_⟩
                 clear HO473 HO477 BK468 BK469 HB h0_ h1_ h2_ h3_ h4_ h5_ h6_ h7_ h8_ h9_ h10_ h11_ h12_
                 have HO473 := n0_
                 have HO477 := n1_
                 have HO481 := n2_
                 have BK468 := n3_
                 have BK469 := n4_
                 have BK486 := n5_
                 have GW486 := n6_
                 have GE486 := n7_
                 have NB468_486 := n8_
                 have NB486_468 := n9_
                 have NB469_486 := n10_
                 have NB486_469 := n11_
                 have HB := n12_
                 clear n0_ n1_ n2_ n3_ n4_ n5_ n6_ n7_ n8_ n9_ n10_ n11_ n12_
                 have hHeld : w52.cell? ⟨gb468, 0, none⟩ = some (.int .i64 t470) ∧ w52.cell? ⟨gb468, 1, none⟩ = some (.slice Ao43 t471.length co43) ∧ w52.cell? ⟨gb469, 0, none⟩ = some (.int .i64 t474) ∧ w52.cell? ⟨gb469, 1, none⟩ = some (.slice Ao46 t475.length co46) := hS_
                 refine norm_ (a' := ?_) ?_ ?_
                 rotate_left
                 ·simp only [putAll, Act.put, List.setIfInBounds_toArray, List.set_cons_zero, List.set_cons_succ]
                  rfl
                 refine two_ (i := 3) (j := 5) (Ni := some 16) (Nj := some 6) #[bT9, bT9, bT9, bT9, bT9, bF9, bF9, bF9] #[bT9, bT9, bT9, bF9, bT9, bT9, bF9, bF9] rfl rfl rfl rfl (two_of HT_.out (by kernel_rfl)) (by decide) (by decide) (fun K hK => ?_) (fun K hK => ?_)
                 ·skip
                  refine goes_ Try.func15 (by kernel_rfl) rfl #[.agg #[.int .i64 t474, .slice Ao46 t475.length co46]] (by rfl) rfl rfl zq9x_29 ?_
                  with_reducible refine (cenotaphlaw02_To.calls t474 _ _ t475 t482 t483 _ ?side1 ?side2 A6.out).mono ?_
                  (case side1 => repeat (first | exact (Kd.R_reads' HO477.out).2.2 | (with_reducible refine Kd.C_alloc ?_ _) | (with_reducible refine Kd.C_drewN ?_ _) | (with_reducible refine Kd.C_drew ?_)))
                  (case side2 => exact (Kd.R_reads' HO477.out).2.1)
                  rintro e w53 ⟨v484, rfl, ho0, hb⟩
                  refine ⟨_, rfl, ?_⟩
                  have HO485 := Aside0.mk (Kd.R_lower (Kd.R_new' (Kd.R_new' (Kd.R_new' ho0 (Kd.R_lt zq9x_37)) (Kd.R_lt zq9x_38)) (Kd.R_lt zq9x_39)) (below_size zq9x_15))
                  replace HO473 := Aside0.mk (Kd.R_elder' zq9x_37 (Kd.R_base ho0) hb)
                  replace HO477 := Aside0.mk (Kd.R_elder' zq9x_38 (Kd.R_base ho0) hb)
                  replace HO481 := Aside0.mk (Kd.R_elder' zq9x_39 (Kd.R_base ho0) hb)
                  replace BK468 := Aside0.mk (blk_below (g := gb468) (o := .cells #[.int .i64 t470, .slice Ao43 t471.length co43] 30 (0, 0)) zq9x_31 hb)
                  replace BK469 := Aside0.mk (blk_below (g := gb469) (o := .cells #[.int .i64 t474, .slice Ao46 t475.length co46] 30 (0, 0)) zq9x_32 hb)
                  replace BK486 := Aside0.mk (blk_below (g := gb486) (o := .cells #[.int .i64 0, .slice none 0 0] 24 (0, 0)) zq9x_33 hb)
                  replace HB := Aside0.mk (below_step zq9x_15 hb)
                  (try clear hb)
                  (try clear hb2)
                  (try clear hk)
                  (try clear hi)
                  (try clear ho0)
                  refine hK.out _ _ ⟨zc_9 BK468 0, zc_9 BK468 1, zc_9 BK469 0, zc_9 BK469 1⟩ (fun hHeld => ?_)
                  clear hK K
                  refine norm_ (a' := ?_) ?_ ?_
                  rotate_left
                  ·show Act.put _ (some 16) _ = _
                   simp only [Act.put, List.setIfInBounds_toArray, List.set_cons_zero, List.set_cons_succ, i64_w, i32_w]
                   rfl
                  exact norm_ zq9x_21 (hJ1_3_4 (v480, v484, gb486) _ ⟨hHeld, zq9x_25, zq9x_26, zq9x_27, zq9x_24, zq9x_31, zq9x_32, zq9x_33, GW486.out, GE486.out, NB468_486.out, NB486_468.out, NB469_486.out, NB486_469.out, zq9x_15⟩)
                 ·skip
                  refine box_step ?hg (N := 6) ?hd (cs := #[.int .i64 0, .slice none 0 0]) (t := 24) ?hr ?_; (case hd => rfl); (case hg => rfl); (case hr => first | (go_simp; done) | (go_simp; rfl))
                  intro gb487 hg w53 hbox hb
                  have n0_ := Aside0.mk (Kd.R_below zq9x_37 hb)
                  have n1_ := Aside0.mk (Kd.R_below zq9x_38 hb)
                  have n2_ := Aside0.mk (Kd.R_below zq9x_39 hb)
                  have n3_ := Aside0.mk (blk_below (g := gb468) (o := .cells #[.int .i64 t470, .slice Ao43 t471.length co43] 30 (0, 0)) zq9x_31 hb)
                  have n4_ := Aside0.mk (blk_below (g := gb469) (o := .cells #[.int .i64 t474, .slice Ao46 t475.length co46] 30 (0, 0)) zq9x_32 hb)
                  have n5_ := Aside0.mk (blk_below (g := gb486) (o := .cells #[.int .i64 0, .slice none 0 0] 24 (0, 0)) zq9x_33 hb)
                  have n6_ := Aside0.mk (below_step zq9x_15 hb)
                  have n7_ := Aside0.mk (hbox)
                  have n8_ := Aside0.mk ((zq9x_7 : w.heap.size ≤ gb487))
                  have n9_ := Aside0.mk ((zq9x_7 : w.heap.size ≤ gb487))
                  have n10_ := Aside0.mk ((zq9x_10 : gb468 ≠ gb487))
                  have n11_ := Aside0.mk ((zq9x_11 : gb487 ≠ gb468))
                  have n12_ := Aside0.mk ((zq9x_12 : gb469 ≠ gb487))
                  have n13_ := Aside0.mk ((zq9x_13 : gb487 ≠ gb469))
                  have n14_ := Aside0.mk ((zq9x_19 : gb486 ≠ gb487))
                  have n15_ := Aside0.mk ((zq9x_20 : gb487 ≠ gb486))
                  clear HO473 HO477 HO481 BK468 BK469 BK486 HB
                  have HO473 := n0_
                  have HO477 := n1_
                  have HO481 := n2_
                  have BK468 := n3_
                  have BK469 := n4_
                  have BK486 := n5_
                  have HB := n6_
                  have BK487 := n7_
                  have GW487 := n8_
                  have GE487 := n9_
                  have NB468_487 := n10_
                  have NB487_468 := n11_
                  have NB469_487 := n12_
                  have NB487_469 := n13_
                  have NB486_487 := n14_
                  have NB487_486 := n15_
                  clear n0_ n1_ n2_ n3_ n4_ n5_ n6_ n7_ n8_ n9_ n10_ n11_ n12_ n13_ n14_ n15_ hb hbox hg
                  refine hK.out _ _ ⟨zc_9 BK468 0, zc_9 BK468 1, zc_9 BK469 0, zc_9 BK469 1⟩ (fun hHeld => ?_)
                  clear hK K
                  refine norm_ (a' := ?_) ?_ ?_
                  rotate_left
                  ·show Act.put _ (some 6) _ = _
                   simp only [Act.put, List.setIfInBounds_toArray, List.set_cons_zero, List.set_cons_succ, i64_w, i32_w]
                   rfl
                  exact norm_ zq9x_21 (hJ1_4_5 (v480, gb486, gb487) _ ⟨hHeld, zq9x_37, zq9x_38, zq9x_39, zq9x_31, zq9x_32, zq9x_33, zq9x_34, GW486.out, GE486.out, NB468_486.out, NB486_468.out, NB469_486.out, NB486_469.out, NB487_486.out, NB486_487.out, GW487.out, GE487.out, NB468_487.out, NB487_468.out, NB469_487.out, NB487_469.out, zq9x_9⟩)
               ·skip
                rintro ⟨v480, v484⟩ w52 ⟨hS_, h0_, h1_, h2_, h3_, h4_, h5_, h6_⟩
                have n0_ : Aside0 (Kd.R (Kd.int .i64) 3 w52 w.heap.size (fun k_ => some k_ ≠ (.slice Ao46 t475.length co46 : Value).ownBlock ∧ some k_ ≠ (v480 : Value).ownBlock ∧ some k_ ≠ (v484 : Value).ownBlock) (.slice Ao43 t471.length co43) t471) := ⟨h0_⟩
                have n1_ : Aside0 (Kd.R (Kd.int .i64) 3 w52 w.heap.size (fun k_ => some k_ ≠ (.slice Ao43 t471.length co43 : Value).ownBlock ∧ some k_ ≠ (v480 : Value).ownBlock ∧ some k_ ≠ (v484 : Value).ownBlock) (.slice Ao46 t475.length co46) t475) := ⟨h1_⟩
                have n2_ : Aside0 (Kd.R (Kd.int .i64) 3 w52 w.heap.size (fun k_ => some k_ ≠ (.slice Ao43 t471.length co43 : Value).ownBlock ∧ some k_ ≠ (.slice Ao46 t475.length co46 : Value).ownBlock ∧ some k_ ≠ (v484 : Value).ownBlock) v480 t479) := ⟨h2_⟩
                have n3_ : Aside0 (Kd.R (Kd.int .i64) 3 w52 w.heap.size (fun k_ => some k_ ≠ (.slice Ao43 t471.length co43 : Value).ownBlock ∧ some k_ ≠ (.slice Ao46 t475.length co46 : Value).ownBlock ∧ some k_ ≠ (v480 : Value).ownBlock) v484 t483) := ⟨h3_⟩
                have n4_ : Aside0 (w52.heap[gb468]? = some (.cells #[.int .i64 t470, .slice Ao43 t471.length co43] 30 (0, 0))) := ⟨h4_⟩
                have n5_ : Aside0 (w52.heap[gb469]? = some (.cells #[.int .i64 t474, .slice Ao46 t475.length co46] 30 (0, 0))) := ⟨h5_⟩
                have n6_ : Aside0 (Below w.heap.size w w52) := ⟨h6_⟩
                clear HO473 HO477 BK468 BK469 HB h0_ h1_ h2_ h3_ h4_ h5_ h6_
                have HO473 := n0_
                have HO477 := n1_
                have HO481 := n2_
                have HO485 := n3_
                have BK468 := n4_
                have BK469 := n5_
                have HB := n6_
                clear n0_ n1_ n2_ n3_ n4_ n5_ n6_
                have hHeld : w52.cell? ⟨gb468, 0, none⟩ = some (.int .i64 t470) ∧ w52.cell? ⟨gb468, 1, none⟩ = some (.slice Ao43 t471.length co43) ∧ w52.cell? ⟨gb469, 0, none⟩ = some (.int .i64 t474) ∧ w52.cell? ⟨gb469, 1, none⟩ = some (.slice Ao46 t475.length co46) := hS_
                refine norm_ (a' := ?_) ?_ ?_
                rotate_left
                ·simp only [putAll, Act.put, List.setIfInBounds_toArray, List.set_cons_zero, List.set_cons_succ]
                 rfl
                refine two_ (i := 4) (j := 5) (Ni := some 5) (Nj := some 6) #[bT9, bT9, bT9, bT9, bT9, bF9, bF9, bF9] #[bT9, bT9, bT9, bT9, bF9, bT9, bF9, bF9] rfl rfl rfl rfl (two_of HT_.out (by kernel_rfl)) (by decide) (by decide) (fun K hK => ?_) (fun K hK => ?_)
                ·skip
                 refine box_step ?hg (N := 5) ?hd (cs := #[.int .i64 0, .slice none 0 0]) (t := 24) ?hr ?_; (case hd => rfl); (case hg => rfl); (case hr => first | (go_simp; done) | (go_simp; rfl))
                 intro gb486 hg w53 hbox hb
                 have n0_ := Aside0.mk (Kd.R_below zq9x_37 hb)
                 have n1_ := Aside0.mk (Kd.R_below zq9x_38 hb)
                 have n2_ := Aside0.mk (Kd.R_below zq9x_39 hb)
                 have n3_ := Aside0.mk (Kd.R_below zq9x_40 hb)
                 have n4_ := Aside0.mk (blk_below (g := gb468) (o := .cells #[.int .i64 t470, .slice Ao43 t471.length co43] 30 (0, 0)) zq9x_31 hb)
                 have n5_ := Aside0.mk (blk_below (g := gb469) (o := .cells #[.int .i64 t474, .slice Ao46 t475.length co46] 30 (0, 0)) zq9x_32 hb)
                 have n6_ := Aside0.mk (below_step zq9x_22 hb)
                 have n7_ := Aside0.mk (hbox)
                 have n8_ := Aside0.mk ((zq9x_14 : w.heap.size ≤ gb486))
                 have n9_ := Aside0.mk ((zq9x_14 : w.heap.size ≤ gb486))
                 have n10_ := Aside0.mk ((zq9x_10 : gb468 ≠ gb486))
                 have n11_ := Aside0.mk ((zq9x_11 : gb486 ≠ gb468))
                 have n12_ := Aside0.mk ((zq9x_12 : gb469 ≠ gb486))
                 have n13_ := Aside0.mk ((zq9x_13 : gb486 ≠ gb469))
                 clear HO473 HO477 HO481 HO485 BK468 BK469 HB
                 have HO473 := n0_
                 have HO477 := n1_
                 have HO481 := n2_
                 have HO485 := n3_
                 have BK468 := n4_
                 have BK469 := n5_
                 have HB := n6_
                 have BK486 := n7_
                 have GW486 := n8_
                 have GE486 := n9_
                 have NB468_486 := n10_
                 have NB486_468 := n11_
                 have NB469_486 := n12_
                 have NB486_469 := n13_
                 clear n0_ n1_ n2_ n3_ n4_ n5_ n6_ n7_ n8_ n9_ n10_ n11_ n12_ n13_ hb hbox hg
                 refine hK.out _ _ ⟨zc_9 BK468 0, zc_9 BK468 1, zc_9 BK469 0, zc_9 BK469 1⟩ (fun hHeld => ?_)
                 clear hK K
                 refine norm_ (a' := ?_) ?_ ?_
                 rotate_left
                 ·show Act.put _ (some 5) _ = _
                  simp only [Act.put, List.setIfInBounds_toArray, List.set_cons_zero, List.set_cons_succ, i64_w, i32_w]
                  rfl
                 exact norm_ zq9x_21 (hJ1_3_4 (v480, v484, gb486) _ ⟨hHeld, zq9x_37, zq9x_38, zq9x_39, zq9x_40, zq9x_31, zq9x_32, zq9x_33, GW486.out, GE486.out, NB468_486.out, NB486_468.out, NB469_486.out, NB486_469.out, zq9x_15⟩)
                ·skip
                 refine box_step ?hg (N := 6) ?hd (cs := #[.int .i64 0, .slice none 0 0]) (t := 24) ?hr ?_; (case hd => rfl); (case hg => rfl); (case hr => first | (go_simp; done) | (go_simp; rfl))
                 intro gb487 hg w53 hbox hb
                 have n0_ := Aside0.mk (Kd.R_below zq9x_37 hb)
                 have n1_ := Aside0.mk (Kd.R_below zq9x_38 hb)
                 have n2_ := Aside0.mk (Kd.R_below zq9x_39 hb)
                 have n3_ := Aside0.mk (Kd.R_below zq9x_40 hb)
                 have n4_ := Aside0.mk (blk_below (g := gb468) (o := .cells #[.int .i64 t470, .slice Ao43 t471.length co43] 30 (0, 0)) zq9x_31 hb)
                 have n5_ := Aside0.mk (blk_below (g := gb469) (o := .cells #[.int .i64 t474, .slice Ao46 t475.length co46] 30 (0, 0)) zq9x_32 hb)
                 have n6_ := Aside0.mk (below_step zq9x_22 hb)
                 have n7_ := Aside0.mk (hbox)
                 have n8_ := Aside0.mk ((zq9x_14 : w.heap.size ≤ gb487))
                 have n9_ := Aside0.mk ((zq9x_14 : w.heap.size ≤ gb487))
                 have n10_ := Aside0.mk ((zq9x_10 : gb468 ≠ gb487))
                 have n11_ := Aside0.mk ((zq9x_11 : gb487 ≠ gb468))
                 have n12_ := Aside0.mk ((zq9x_12 : gb469 ≠ gb487))
                 have n13_ := Aside0.mk ((zq9x_13 : gb487 ≠ gb469))
                 clear HO473 HO477 HO481 HO485 BK468 BK469 HB
                 have HO473 := n0_
                 have HO477 := n1_
                 have HO481 := n2_
                 have HO485 := n3_
                 have BK468 := n4_
                 have BK469 := n5_
                 have HB := n6_
                 have BK487 := n7_
                 have GW487 := n8_
                 have GE487 := n9_
                 have NB468_487 := n10_
                 have NB487_468 := n11_
                 have NB469_487 := n12_
                 have NB487_469 := n13_
                 clear n0_ n1_ n2_ n3_ n4_ n5_ n6_ n7_ n8_ n9_ n10_ n11_ n12_ n13_ hb hbox hg
                 refine hK.out _ _ ⟨zc_9 BK468 0, zc_9 BK468 1, zc_9 BK469 0, zc_9 BK469 1⟩ (fun hHeld => ?_)
                 clear hK K
                 refine norm_ (a' := ?_) ?_ ?_
                 rotate_left
                 ·show Act.put _ (some 6) _ = _
                  simp only [Act.put, List.setIfInBounds_toArray, List.set_cons_zero, List.set_cons_succ, i64_w, i32_w]
                  rfl
                 exact norm_ zq9x_21 (hJ1_3_5 (v480, v484, gb487) _ ⟨hHeld, zq9x_37, zq9x_38, zq9x_39, zq9x_40, zq9x_31, zq9x_32, zq9x_34, GW487.out, GE487.out, NB468_487.out, NB487_468.out, NB469_487.out, NB487_469.out, zq9x_16⟩)
              ·skip
               rintro ⟨v480, gb486, gb487⟩ w53 ⟨hS_, h0_, h1_, h2_, h3_, h4_, h5_, h6_, h7_, h8_, h9_, h10_, h11_, h12_, h13_, h14_, h15_, h16_, h17_, h18_, h19_, h20_, h21_⟩
               have n0_ : Aside0 (Kd.R (Kd.int .i64) 3 w53 w.heap.size (fun k_ => some k_ ≠ (.slice Ao46 t475.length co46 : Value).ownBlock ∧ some k_ ≠ (v480 : Value).ownBlock) (.slice Ao43 t471.length co43) t471) := ⟨h0_⟩
               have n1_ : Aside0 (Kd.R (Kd.int .i64) 3 w53 w.heap.size (fun k_ => some k_ ≠ (.slice Ao43 t471.length co43 : Value).ownBlock ∧ some k_ ≠ (v480 : Value).ownBlock) (.slice Ao46 t475.length co46) t475) := ⟨h1_⟩
               have n2_ : Aside0 (Kd.R (Kd.int .i64) 3 w53 w.heap.size (fun k_ => some k_ ≠ (.slice Ao43 t471.length co43 : Value).ownBlock ∧ some k_ ≠ (.slice Ao46 t475.length co46 : Value).ownBlock) v480 t479) := ⟨h2_⟩
               have n3_ : Aside0 (w53.heap[gb468]? = some (.cells #[.int .i64 t470, .slice Ao43 t471.length co43] 30 (0, 0))) := ⟨h3_⟩
               have n4_ : Aside0 (w53.heap[gb469]? = some (.cells #[.int .i64 t474, .slice Ao46 t475.length co46] 30 (0, 0))) := ⟨h4_⟩
               have n5_ : Aside0 (w53.heap[gb486]? = some (.cells #[.int .i64 0, .slice none 0 0] 24 (0, 0))) := ⟨h5_⟩
               have n6_ : Aside0 (w53.heap[gb487]? = some (.cells #[.int .i64 0, .slice none 0 0] 24 (0, 0))) := ⟨h6_⟩
               have n7_ : Aside0 (w.heap.size ≤ gb486) := ⟨h7_⟩
               have n8_ : Aside0 (w.heap.size ≤ gb486) := ⟨h8_⟩
               have n9_ : Aside0 (gb468 ≠ gb486) := ⟨h9_⟩
               have n10_ : Aside0 (gb486 ≠ gb468) := ⟨h10_⟩
               have n11_ : Aside0 (gb469 ≠ gb486) := ⟨h11_⟩
               have n12_ : Aside0 (gb486 ≠ gb469) := ⟨h12_⟩
               have n13_ : Aside0 (gb487 ≠ gb486) := ⟨h13_⟩
               have n14_ : Aside0 (gb486 ≠ gb487) := ⟨h14_⟩
               have n15_ : Aside0 (w.heap.size ≤ gb487) := ⟨h15_⟩
               have n16_ : Aside0 (w.heap.size ≤ gb487) := ⟨h16_⟩
               have n17_ : Aside0 (gb468 ≠ gb487) := ⟨h17_⟩
               have n18_ : Aside0 (gb487 ≠ gb468) := ⟨h18_⟩
               have n19_ : Aside0 (gb469 ≠ gb487) := ⟨h19_⟩
               have n20_ : Aside0 (gb487 ≠ gb469) := ⟨h20_⟩
               have n21_ : Aside0 (Below w.heap.size w w53) := ⟨h21_⟩
               clear HO473 HO477 BK468 BK469 HB h0_ h1_ h2_ h3_ h4_ h5_ h6_ h7_ h8_ h9_ h10_ h11_ h12_ h13_ h14_ h15_ h16_ h17_ h18_ h19_ h20_ h21_
               have HO473 := n0_
               have HO477 := n1_
               have HO481 := n2_
               have BK468 := n3_
               have BK469 := n4_
               have BK486 := n5_
               have BK487 := n6_
               have GW486 := n7_
               have GE486 := n8_
               have NB468_486 := n9_
               have NB486_468 := n10_
               have NB469_486 := n11_
               have NB486_469 := n12_
               have NB487_486 := n13_
               have NB486_487 := n14_
               have GW487 := n15_
               have GE487 := n16_
               have NB468_487 := n17_
               have NB487_468 := n18_
               have NB469_487 := n19_
               have NB487_469 := n20_
               have HB := n21_
               clear n0_ n1_ n2_ n3_ n4_ n5_ n6_ n7_ n8_ n9_ n10_ n11_ n12_ n13_ n14_ n15_ n16_ n17_ n18_ n19_ n20_ n21_
               have hHeld : w53.cell? ⟨gb468, 0, none⟩ = some (.int .i64 t470) ∧ w53.cell? ⟨gb468, 1, none⟩ = some (.slice Ao43 t471.length co43) ∧ w53.cell? ⟨gb469, 0, none⟩ = some (.int .i64 t474) ∧ w53.cell? ⟨gb469, 1, none⟩ = some (.slice Ao46 t475.length co46) := hS_
               refine norm_ (a' := ?_) ?_ ?_
               rotate_left
               ·simp only [putAll, Act.put, List.setIfInBounds_toArray, List.set_cons_zero, List.set_cons_succ]
                rfl
               refine one_ (i := 3) (N := some 16) #[bT9, bT9, bT9, bT9, bT9, bT9, bF9, bF9] rfl rfl (one_of HT_.out (by kernel_rfl)) (by decide) (fun K hK => ?_)
               refine goes_ Try.func15 (by kernel_rfl) rfl #[.agg #[.int .i64 t474, .slice Ao46 t475.length co46]] (by rfl) rfl rfl zq9x_29 ?_
               with_reducible refine (cenotaphlaw02_To.calls t474 _ _ t475 t482 t483 _ ?side1 ?side2 A6.out).mono ?_
               (case side1 => repeat (first | exact (Kd.R_reads' HO477.out).2.2 | (with_reducible refine Kd.C_alloc ?_ _) | (with_reducible refine Kd.C_drewN ?_ _) | (with_reducible refine Kd.C_drew ?_)))
               (case side2 => exact (Kd.R_reads' HO477.out).2.1)
               rintro e w54 ⟨v484, rfl, ho0, hb⟩
               refine ⟨_, rfl, ?_⟩
               have HO485 := Aside0.mk (Kd.R_lower (Kd.R_new' (Kd.R_new' (Kd.R_new' ho0 (Kd.R_lt zq9x_37)) (Kd.R_lt zq9x_38)) (Kd.R_lt zq9x_39)) (below_size zq9x_9))
               replace HO473 := Aside0.mk (Kd.R_elder' zq9x_37 (Kd.R_base ho0) hb)
               replace HO477 := Aside0.mk (Kd.R_elder' zq9x_38 (Kd.R_base ho0) hb)
               replace HO481 := Aside0.mk (Kd.R_elder' zq9x_39 (Kd.R_base ho0) hb)
               replace BK468 := Aside0.mk (blk_below (g := gb468) (o := .cells #[.int .i64 t470, .slice Ao43 t471.length co43] 30 (0, 0)) zq9x_31 hb)
               replace BK469 := Aside0.mk (blk_below (g := gb469) (o := .cells #[.int .i64 t474, .slice Ao46 t475.length co46] 30 (0, 0)) zq9x_32 hb)
               replace BK486 := Aside0.mk (blk_below (g := gb486) (o := .cells #[.int .i64 0, .slice none 0 0] 24 (0, 0)) zq9x_33 hb)
               replace BK487 := Aside0.mk (blk_below (g := gb487) (o := .cells #[.int .i64 0, .slice none 0 0] 24 (0, 0)) zq9x_34 hb)
               replace HB := Aside0.mk (below_step zq9x_9 hb)
               (try clear hb)
               (try clear hb2)
               (try clear hk)
               (try clear hi)
               (try clear ho0)
               refine hK.out _ _ ⟨zc_9 BK468 0, zc_9 BK468 1, zc_9 BK469 0, zc_9 BK469 1⟩ (fun hHeld => ?_)
               clear hK K
               refine norm_ (a' := ?_) ?_ ?_
               rotate_left
               ·show Act.put _ (some 16) _ = _
                simp only [Act.put, List.setIfInBounds_toArray, List.set_cons_zero, List.set_cons_succ, i64_w, i32_w]
                rfl
               exact norm_ zq9x_21 (hJ1_3_4_5 (v480, v484, gb486, gb487) _ ⟨hHeld, zq9x_25, zq9x_26, zq9x_27, zq9x_24, zq9x_31, zq9x_32, zq9x_33, zq9x_34, GW486.out, GE486.out, NB468_486.out, NB486_468.out, NB469_486.out, NB486_469.out, NB487_486.out, NB486_487.out, GW487.out, GE487.out, NB468_487.out, NB487_468.out, NB469_487.out, NB487_469.out, zq9x_9⟩)
             ·skip
              rintro ⟨v480, v484, gb487⟩ w53 ⟨hS_, h0_, h1_, h2_, h3_, h4_, h5_, h6_, h7_, h8_, h9_, h10_, h11_, h12_, h13_⟩
              have n0_ : Aside0 (Kd.R (Kd.int .i64) 3 w53 w.heap.size (fun k_ => some k_ ≠ (.slice Ao46 t475.length co46 : Value).ownBlock ∧ some k_ ≠ (v480 : Value).ownBlock ∧ some k_ ≠ (v484 : Value).ownBlock) (.slice Ao43 t471.length co43) t471) := ⟨h0_⟩
              have n1_ : Aside0 (Kd.R (Kd.int .i64) 3 w53 w.heap.size (fun k_ => some k_ ≠ (.slice Ao43 t471.length co43 : Value).ownBlock ∧ some k_ ≠ (v480 : Value).ownBlock ∧ some k_ ≠ (v484 : Value).ownBlock) (.slice Ao46 t475.length co46) t475) := ⟨h1_⟩
              have n2_ : Aside0 (Kd.R (Kd.int .i64) 3 w53 w.heap.size (fun k_ => some k_ ≠ (.slice Ao43 t471.length co43 : Value).ownBlock ∧ some k_ ≠ (.slice Ao46 t475.length co46 : Value).ownBlock ∧ some k_ ≠ (v484 : Value).ownBlock) v480 t479) := ⟨h2_⟩
              have n3_ : Aside0 (Kd.R (Kd.int .i64) 3 w53 w.heap.size (fun k_ => some k_ ≠ (.slice Ao43 t471.length co43 : Value).ownBlock ∧ some k_ ≠ (.slice Ao46 t475.length co46 : Value).ownBlock ∧ some k_ ≠ (v480 : Value).ownBlock) v484 t483) := ⟨h3_⟩
              have n4_ : Aside0 (w53.heap[gb468]? = some (.cells #[.int .i64 t470, .slice Ao43 t471.length co43] 30 (0, 0))) := ⟨h4_⟩
              have n5_ : Aside0 (w53.heap[gb469]? = some (.cells #[.int .i64 t474, .slice Ao46 t475.length co46] 30 (0, 0))) := ⟨h5_⟩
              have n6_ : Aside0 (w53.heap[gb487]? = some (.cells #[.int .i64 0, .slice none 0 0] 24 (0, 0))) := ⟨h6_⟩
              have n7_ : Aside0 (w.heap.size ≤ gb487) := ⟨h7_⟩
              have n8_ : Aside0 (w.heap.size ≤ gb487) := ⟨h8_⟩
              have n9_ : Aside0 (gb468 ≠ gb487) := ⟨h9_⟩
              have n10_ : Aside0 (gb487 ≠ gb468) := ⟨h10_⟩
              have n11_ : Aside0 (gb469 ≠ gb487) := ⟨h11_⟩
              have n12_ : Aside0 (gb487 ≠ gb469) := ⟨h12_⟩
              have n13_ : Aside0 (Below w.heap.size w w53) := ⟨h13_⟩
              clear HO473 HO477 BK468 BK469 HB h0_ h1_ h2_ h3_ h4_ h5_ h6_ h7_ h8_ h9_ h10_ h11_ h12_ h13_
              have HO473 := n0_
              have HO477 := n1_
              have HO481 := n2_
              have HO485 := n3_
              have BK468 := n4_
              have BK469 := n5_
              have BK487 := n6_
              have GW487 := n7_
              have GE487 := n8_
              have NB468_487 := n9_
              have NB487_468 := n10_
              have NB469_487 := n11_
              have NB487_469 := n12_
              have HB := n13_
              clear n0_ n1_ n2_ n3_ n4_ n5_ n6_ n7_ n8_ n9_ n10_ n11_ n12_ n13_
              have hHeld : w53.cell? ⟨gb468, 0, none⟩ = some (.int .i64 t470) ∧ w53.cell? ⟨gb468, 1, none⟩ = some (.slice Ao43 t471.length co43) ∧ w53.cell? ⟨gb469, 0, none⟩ = some (.int .i64 t474) ∧ w53.cell? ⟨gb469, 1, none⟩ = some (.slice Ao46 t475.length co46) := hS_
              refine norm_ (a' := ?_) ?_ ?_
              rotate_left
              ·simp only [putAll, Act.put, List.setIfInBounds_toArray, List.set_cons_zero, List.set_cons_succ]
               rfl
              refine one_ (i := 4) (N := some 5) #[bT9, bT9, bT9, bT9, bT9, bT9, bF9, bF9] rfl rfl (one_of HT_.out (by kernel_rfl)) (by decide) (fun K hK => ?_)
              refine box_step ?hg (N := 5) ?hd (cs := #[.int .i64 0, .slice none 0 0]) (t := 24) ?hr ?_; (case hd => rfl); (case hg => rfl); (case hr => first | (go_simp; done) | (go_simp; rfl))
              intro gb486 hg w54 hbox hb
              have n0_ := Aside0.mk (Kd.R_below zq9x_37 hb)
              have n1_ := Aside0.mk (Kd.R_below zq9x_38 hb)
              have n2_ := Aside0.mk (Kd.R_below zq9x_39 hb)
              have n3_ := Aside0.mk (Kd.R_below zq9x_40 hb)
              have n4_ := Aside0.mk (blk_below (g := gb468) (o := .cells #[.int .i64 t470, .slice Ao43 t471.length co43] 30 (0, 0)) zq9x_31 hb)
              have n5_ := Aside0.mk (blk_below (g := gb469) (o := .cells #[.int .i64 t474, .slice Ao46 t475.length co46] 30 (0, 0)) zq9x_32 hb)
              have n6_ := Aside0.mk (blk_below (g := gb487) (o := .cells #[.int .i64 0, .slice none 0 0] 24 (0, 0)) zq9x_34 hb)
              have n7_ := Aside0.mk (below_step zq9x_16 hb)
              have n8_ := Aside0.mk (hbox)
              have n9_ := Aside0.mk ((zq9x_6 : w.heap.size ≤ gb486))
              have n10_ := Aside0.mk ((zq9x_6 : w.heap.size ≤ gb486))
              have n11_ := Aside0.mk ((zq9x_10 : gb468 ≠ gb486))
              have n12_ := Aside0.mk ((zq9x_11 : gb486 ≠ gb468))
              have n13_ := Aside0.mk ((zq9x_12 : gb469 ≠ gb486))
              have n14_ := Aside0.mk ((zq9x_13 : gb486 ≠ gb469))
              have n15_ := Aside0.mk ((zq9x_17 : gb487 ≠ gb486))
              have n16_ := Aside0.mk ((zq9x_18 : gb486 ≠ gb487))
              clear HO473 HO477 HO481 HO485 BK468 BK469 BK487 HB
              have HO473 := n0_
              have HO477 := n1_
              have HO481 := n2_
              have HO485 := n3_
              have BK468 := n4_
              have BK469 := n5_
              have BK487 := n6_
              have HB := n7_
              have BK486 := n8_
              have GW486 := n9_
              have GE486 := n10_
              have NB468_486 := n11_
              have NB486_468 := n12_
              have NB469_486 := n13_
              have NB486_469 := n14_
              have NB487_486 := n15_
              have NB486_487 := n16_
              clear n0_ n1_ n2_ n3_ n4_ n5_ n6_ n7_ n8_ n9_ n10_ n11_ n12_ n13_ n14_ n15_ n16_ hb hbox hg
              refine hK.out _ _ ⟨zc_9 BK468 0, zc_9 BK468 1, zc_9 BK469 0, zc_9 BK469 1⟩ (fun hHeld => ?_)
              clear hK K
              refine norm_ (a' := ?_) ?_ ?_
              rotate_left
              ·show Act.put _ (some 5) _ = _
               simp only [Act.put, List.setIfInBounds_toArray, List.set_cons_zero, List.set_cons_succ, i64_w, i32_w]
               rfl
              exact norm_ zq9x_21 (hJ1_3_4_5 (v480, v484, gb486, gb487) _ ⟨hHeld, zq9x_37, zq9x_38, zq9x_39, zq9x_40, zq9x_31, zq9x_32, zq9x_33, zq9x_34, GW486.out, GE486.out, NB468_486.out, NB486_468.out, NB469_486.out, NB486_469.out, NB487_486.out, NB486_487.out, GW487.out, GE487.out, NB468_487.out, NB487_468.out, NB469_487.out, NB487_469.out, zq9x_8⟩)
            ·skip
             rintro ⟨v480, v484, gb486⟩ w53 ⟨hS_, h0_, h1_, h2_, h3_, h4_, h5_, h6_, h7_, h8_, h9_, h10_, h11_, h12_, h13_⟩
             have n0_ : Aside0 (Kd.R (Kd.int .i64) 3 w53 w.heap.size (fun k_ => some k_ ≠ (.slice Ao46 t475.length co46 : Value).ownBlock ∧ some k_ ≠ (v480 : Value).ownBlock ∧ some k_ ≠ (v484 : Value).ownBlock) (.slice Ao43 t471.length co43) t471) := ⟨h0_⟩
             have n1_ : Aside0 (Kd.R (Kd.int .i64) 3 w53 w.heap.size (fun k_ => some k_ ≠ (.slice Ao43 t471.length co43 : Value).ownBlock ∧ some k_ ≠ (v480 : Value).ownBlock ∧ some k_ ≠ (v484 : Value).ownBlock) (.slice Ao46 t475.length co46) t475) := ⟨h1_⟩
             have n2_ : Aside0 (Kd.R (Kd.int .i64) 3 w53 w.heap.size (fun k_ => some k_ ≠ (.slice Ao43 t471.length co43 : Value).ownBlock ∧ some k_ ≠ (.slice Ao46 t475.length co46 : Value).ownBlock ∧ some k_ ≠ (v484 : Value).ownBlock) v480 t479) := ⟨h2_⟩
             have n3_ : Aside0 (Kd.R (Kd.int .i64) 3 w53 w.heap.size (fun k_ => some k_ ≠ (.slice Ao43 t471.length co43 : Value).ownBlock ∧ some k_ ≠ (.slice Ao46 t475.length co46 : Value).ownBlock ∧ some k_ ≠ (v480 : Value).ownBlock) v484 t483) := ⟨h3_⟩
             have n4_ : Aside0 (w53.heap[gb468]? = some (.cells #[.int .i64 t470, .slice Ao43 t471.length co43] 30 (0, 0))) := ⟨h4_⟩
             have n5_ : Aside0 (w53.heap[gb469]? = some (.cells #[.int .i64 t474, .slice Ao46 t475.length co46] 30 (0, 0))) := ⟨h5_⟩
             have n6_ : Aside0 (w53.heap[gb486]? = some (.cells #[.int .i64 0, .slice none 0 0] 24 (0, 0))) := ⟨h6_⟩
             have n7_ : Aside0 (w.heap.size ≤ gb486) := ⟨h7_⟩
             have n8_ : Aside0 (w.heap.size ≤ gb486) := ⟨h8_⟩
             have n9_ : Aside0 (gb468 ≠ gb486) := ⟨h9_⟩
             have n10_ : Aside0 (gb486 ≠ gb468) := ⟨h10_⟩
             have n11_ : Aside0 (gb469 ≠ gb486) := ⟨h11_⟩
             have n12_ : Aside0 (gb486 ≠ gb469) := ⟨h12_⟩
             have n13_ : Aside0 (Below w.heap.size w w53) := ⟨h13_⟩
             clear HO473 HO477 BK468 BK469 HB h0_ h1_ h2_ h3_ h4_ h5_ h6_ h7_ h8_ h9_ h10_ h11_ h12_ h13_
             have HO473 := n0_
             have HO477 := n1_
             have HO481 := n2_
             have HO485 := n3_
             have BK468 := n4_
             have BK469 := n5_
             have BK486 := n6_
             have GW486 := n7_
             have GE486 := n8_
             have NB468_486 := n9_
             have NB486_468 := n10_
             have NB469_486 := n11_
             have NB486_469 := n12_
             have HB := n13_
             clear n0_ n1_ n2_ n3_ n4_ n5_ n6_ n7_ n8_ n9_ n10_ n11_ n12_ n13_
             have hHeld : w53.cell? ⟨gb468, 0, none⟩ = some (.int .i64 t470) ∧ w53.cell? ⟨gb468, 1, none⟩ = some (.slice Ao43 t471.length co43) ∧ w53.cell? ⟨gb469, 0, none⟩ = some (.int .i64 t474) ∧ w53.cell? ⟨gb469, 1, none⟩ = some (.slice Ao46 t475.length co46) := hS_
             refine norm_ (a' := ?_) ?_ ?_
             rotate_left
             ·simp only [putAll, Act.put, List.setIfInBounds_toArray, List.set_cons_zero, List.set_cons_succ]
              rfl
             refine one_ (i := 5) (N := some 6) #[bT9, bT9, bT9, bT9, bT9, bT9, bF9, bF9] rfl rfl (one_of HT_.out (by kernel_rfl)) (by decide) (fun K hK => ?_)
             refine box_step ?hg (N := 6) ?hd (cs := #[.int .i64 0, .slice none 0 0]) (t := 24) ?hr ?_; (case hd => rfl); (case hg => rfl); (case hr => first | (go_simp; done) | (go_simp; rfl))
             intro gb487 hg w54 hbox hb
             have n0_ := Aside0.mk (Kd.R_below zq9x_37 hb)
             have n1_ := Aside0.mk (Kd.R_below zq9x_38 hb)
             have n2_ := Aside0.mk (Kd.R_below zq9x_39 hb)
             have n3_ := Aside0.mk (Kd.R_below zq9x_40 hb)
             have n4_ := Aside0.mk (blk_below (g := gb468) (o := .cells #[.int .i64 t470, .slice Ao43 t471.length co43] 30 (0, 0)) zq9x_31 hb)
             have n5_ := Aside0.mk (blk_below (g := gb469) (o := .cells #[.int .i64 t474, .slice Ao46 t475.length co46] 30 (0, 0)) zq9x_32 hb)
             have n6_ := Aside0.mk (blk_below (g := gb486) (o := .cells #[.int .i64 0, .slice none 0 0] 24 (0, 0)) zq9x_33 hb)
             have n7_ := Aside0.mk (below_step zq9x_15 hb)
             have n8_ := Aside0.mk (hbox)
             have n9_ := Aside0.mk ((zq9x_7 : w.heap.size ≤ gb487))
             have n10_ := Aside0.mk ((zq9x_7 : w.heap.size ≤ gb487))
             have n11_ := Aside0.mk ((zq9x_10 : gb468 ≠ gb487))
             have n12_ := Aside0.mk ((zq9x_11 : gb487 ≠ gb468))
             have n13_ := Aside0.mk ((zq9x_12 : gb469 ≠ gb487))
             have n14_ := Aside0.mk ((zq9x_13 : gb487 ≠ gb469))
             have n15_ := Aside0.mk ((zq9x_19 : gb486 ≠ gb487))
             have n16_ := Aside0.mk ((zq9x_20 : gb487 ≠ gb486))
             clear HO473 HO477 HO481 HO485 BK468 BK469 BK486 HB
             have HO473 := n0_
             have HO477 := n1_
             have HO481 := n2_
             have HO485 := n3_
             have BK468 := n4_
             have BK469 := n5_
             have BK486 := n6_
             have HB := n7_
             have BK487 := n8_
             have GW487 := n9_
             have GE487 := n10_
             have NB468_487 := n11_
             have NB487_468 := n12_
             have NB469_487 := n13_
             have NB487_469 := n14_
             have NB486_487 := n15_
             have NB487_486 := n16_
             clear n0_ n1_ n2_ n3_ n4_ n5_ n6_ n7_ n8_ n9_ n10_ n11_ n12_ n13_ n14_ n15_ n16_ hb hbox hg
             refine hK.out _ _ ⟨zc_9 BK468 0, zc_9 BK468 1, zc_9 BK469 0, zc_9 BK469 1⟩ (fun hHeld => ?_)
             clear hK K
             refine norm_ (a' := ?_) ?_ ?_
             rotate_left
             ·show Act.put _ (some 6) _ = _
              simp only [Act.put, List.setIfInBounds_toArray, List.set_cons_zero, List.set_cons_succ, i64_w, i32_w]
              rfl
             exact norm_ zq9x_21 (hJ1_3_4_5 (v480, v484, gb486, gb487) _ ⟨hHeld, zq9x_37, zq9x_38, zq9x_39, zq9x_40, zq9x_31, zq9x_32, zq9x_33, zq9x_34, GW486.out, GE486.out, NB468_486.out, NB486_468.out, NB469_486.out, NB486_469.out, NB487_486.out, NB486_487.out, GW487.out, GE487.out, NB468_487.out, NB487_468.out, NB469_487.out, NB487_469.out, zq9x_9⟩)
           rintro ⟨v480, v484, gb486, gb487⟩ w54 ⟨hS_, h0_, h1_, h2_, h3_, h4_, h5_, h6_, h7_, h8_, h9_, h10_, h11_, h12_, h13_, h14_, h15_, h16_, h17_, h18_, h19_, h20_, h21_, h22_⟩
           have n0_ : Aside0 (Kd.R (Kd.int .i64) 3 w54 w.heap.size (fun k_ => some k_ ≠ (.slice Ao46 t475.length co46 : Value).ownBlock ∧ some k_ ≠ (v480 : Value).ownBlock ∧ some k_ ≠ (v484 : Value).ownBlock) (.slice Ao43 t471.length co43) t471) := ⟨h0_⟩
           have n1_ : Aside0 (Kd.R (Kd.int .i64) 3 w54 w.heap.size (fun k_ => some k_ ≠ (.slice Ao43 t471.length co43 : Value).ownBlock ∧ some k_ ≠ (v480 : Value).ownBlock ∧ some k_ ≠ (v484 : Value).ownBlock) (.slice Ao46 t475.length co46) t475) := ⟨h1_⟩
           have n2_ : Aside0 (Kd.R (Kd.int .i64) 3 w54 w.heap.size (fun k_ => some k_ ≠ (.slice Ao43 t471.length co43 : Value).ownBlock ∧ some k_ ≠ (.slice Ao46 t475.length co46 : Value).ownBlock ∧ some k_ ≠ (v484 : Value).ownBlock) v480 t479) := ⟨h2_⟩
           have n3_ : Aside0 (Kd.R (Kd.int .i64) 3 w54 w.heap.size (fun k_ => some k_ ≠ (.slice Ao43 t471.length co43 : Value).ownBlock ∧ some k_ ≠ (.slice Ao46 t475.length co46 : Value).ownBlock ∧ some k_ ≠ (v480 : Value).ownBlock) v484 t483) := ⟨h3_⟩
           have n4_ : Aside0 (w54.heap[gb468]? = some (.cells #[.int .i64 t470, .slice Ao43 t471.length co43] 30 (0, 0))) := ⟨h4_⟩
           have n5_ : Aside0 (w54.heap[gb469]? = some (.cells #[.int .i64 t474, .slice Ao46 t475.length co46] 30 (0, 0))) := ⟨h5_⟩
           have n6_ : Aside0 (w54.heap[gb486]? = some (.cells #[.int .i64 0, .slice none 0 0] 24 (0, 0))) := ⟨h6_⟩
           have n7_ : Aside0 (w54.heap[gb487]? = some (.cells #[.int .i64 0, .slice none 0 0] 24 (0, 0))) := ⟨h7_⟩
           have n8_ : Aside0 (w.heap.size ≤ gb486) := ⟨h8_⟩
           have n9_ : Aside0 (w.heap.size ≤ gb486) := ⟨h9_⟩
           have n10_ : Aside0 (gb468 ≠ gb486) := ⟨h10_⟩
           have n11_ : Aside0 (gb486 ≠ gb468) := ⟨h11_⟩
           have n12_ : Aside0 (gb469 ≠ gb486) := ⟨h12_⟩
           have n13_ : Aside0 (gb486 ≠ gb469) := ⟨h13_⟩
           have n14_ : Aside0 (gb487 ≠ gb486) := ⟨h14_⟩
           have n15_ : Aside0 (gb486 ≠ gb487) := ⟨h15_⟩
           have n16_ : Aside0 (w.heap.size ≤ gb487) := ⟨h16_⟩
           have n17_ : Aside0 (w.heap.size ≤ gb487) := ⟨h17_⟩
           have n18_ : Aside0 (gb468 ≠ gb487) := ⟨h18_⟩
           have n19_ : Aside0 (gb487 ≠ gb468) := ⟨h19_⟩
           have n20_ : Aside0 (gb469 ≠ gb487) := ⟨h20_⟩
           have n21_ : Aside0 (gb487 ≠ gb469) := ⟨h21_⟩
           have n22_ : Aside0 (Below w.heap.size w w54) := ⟨h22_⟩
           clear HO473 HO477 BK468 BK469 HB h0_ h1_ h2_ h3_ h4_ h5_ h6_ h7_ h8_ h9_ h10_ h11_ h12_ h13_ h14_ h15_ h16_ h17_ h18_ h19_ h20_ h21_ h22_
           have HO473 := n0_
           have HO477 := n1_
           have HO481 := n2_
           have HO485 := n3_
           have BK468 := n4_
           have BK469 := n5_
           have BK486 := n6_
           have BK487 := n7_
           have GW486 := n8_
           have GE486 := n9_
           have NB468_486 := n10_
           have NB486_468 := n11_
           have NB469_486 := n12_
           have NB486_469 := n13_
           have NB487_486 := n14_
           have NB486_487 := n15_
           have GW487 := n16_
           have GE487 := n17_
           have NB468_487 := n18_
           have NB487_468 := n19_
           have NB469_487 := n20_
           have NB487_469 := n21_
           have HB := n22_
           clear n0_ n1_ n2_ n3_ n4_ n5_ n6_ n7_ n8_ n9_ n10_ n11_ n12_ n13_ n14_ n15_ n16_ n17_ n18_ n19_ n20_ n21_ n22_
           have hHeld : w54.cell? ⟨gb468, 0, none⟩ = some (.int .i64 t470) ∧ w54.cell? ⟨gb468, 1, none⟩ = some (.slice Ao43 t471.length co43) ∧ w54.cell? ⟨gb469, 0, none⟩ = some (.int .i64 t474) ∧ w54.cell? ⟨gb469, 1, none⟩ = some (.slice Ao46 t475.length co46) := hS_
           obtain ⟨Ao56, co56, eo56⟩ := Kd.R_slice HO481.out
           (first | subst eo56 | (injection eo56 with f1_ f2_ f3_; have f4_ := f1_.symm; have f5_ := f3_.symm; clear f1_ f2_ f3_; subst f4_; subst f5_))
           obtain ⟨Ao59, co59, eo59⟩ := Kd.R_slice HO485.out
           (first | subst eo59 | (injection eo59 with f1_ f2_ f3_; have f4_ := f1_.symm; have f5_ := f3_.symm; clear f1_ f2_ f3_; subst f4_; subst f5_))
           refine norm_ (a' := ?_) ?_ ?_
           rotate_left
           ·simp only [putAll, Act.put, List.setIfInBounds_toArray, List.set_cons_zero, List.set_cons_succ]
            rfl
           refine one_ (i := 6) (N := none) #[bT9, bT9, bT9, bT9, bT9, bT9, bT9, bF9] rfl rfl (one_of HT_.out (by kernel_rfl)) (by decide) (fun K hK => ?_)
           have hs55 : w54.cell? ⟨gb486, 0, none⟩ = some (.int .i64 0) := zc_9 BK486 0
           have hfs55 := blk_frozen BK486.out 0
           have hns55_0 := NB468_486.out
           have hns55_1 := NB469_486.out
           have hns55_3 := NB487_486.out
           have hms55_0 := NB486_468.out
           have hms55_1 := NB486_469.out
           have hms55_3 := NB486_487.out
           have hs57 : w54.cell? ⟨gb486, 1, none⟩ = some (.slice none 0 0) := zc_9 BK486 1
           have hfs57 := blk_frozen BK486.out 1
           have hns57_0 := NB468_486.out
           have hns57_1 := NB469_486.out
           have hns57_3 := NB487_486.out
           have hms57_0 := NB486_468.out
           have hms57_1 := NB486_469.out
           have hms57_3 := NB486_487.out
           refine skip_ (w1 := ?_) (by rfl) rfl ?_ ?_
           rotate_left
           ·go_simp
            rfl
           refine hK.out _ _ ⟨((cell_far (p := ⟨gb486, _, none⟩) NB468_486.out _).trans (((cell_far (p := ⟨gb486, _, none⟩) NB468_486.out _).trans (hHeld.1)))), ((cell_far (p := ⟨gb486, _, none⟩) NB468_486.out _).trans (((cell_far (p := ⟨gb486, _, none⟩) NB468_486.out _).trans (hHeld.2.1)))), ((cell_far (p := ⟨gb486, _, none⟩) NB469_486.out _).trans (((cell_far (p := ⟨gb486, _, none⟩) NB469_486.out _).trans (hHeld.2.2.1)))), ((cell_far (p := ⟨gb486, _, none⟩) NB469_486.out _).trans (((cell_far (p := ⟨gb486, _, none⟩) NB469_486.out _).trans (hHeld.2.2.2))))⟩ (fun hHeld => ?_)
           clear hK K
           refine one_ (i := 7) (N := none) #[bT9, bT9, bT9, bT9, bT9, bT9, bT9, bT9] rfl rfl (one_of HT_.out (by kernel_rfl)) (by decide) (fun K hK => ?_)
           have hs58 : w54.cell? ⟨gb487, 0, none⟩ = some (.int .i64 0) := zc_9 BK487 0
           have hfs58 := blk_frozen BK487.out 0
           have hns58_0 := NB468_487.out
           have hns58_1 := NB469_487.out
           have hns58_2 := NB486_487.out
           have hms58_0 := NB487_468.out
           have hms58_1 := NB487_469.out
           have hms58_2 := NB487_486.out
           have hs60 : w54.cell? ⟨gb487, 1, none⟩ = some (.slice none 0 0) := zc_9 BK487 1
           have hfs60 := blk_frozen BK487.out 1
           have hns60_0 := NB468_487.out
           have hns60_1 := NB469_487.out
           have hns60_2 := NB486_487.out
           have hms60_0 := NB487_468.out
           have hms60_1 := NB487_469.out
           have hms60_2 := NB487_486.out
           refine skip_ (w1 := ?_) (by rfl) rfl ?_ ?_
           rotate_left
           ·go_simp
            rfl
           refine hK.out _ _ ⟨((cell_far (p := ⟨gb487, _, none⟩) NB468_487.out _).trans (((cell_far (p := ⟨gb487, _, none⟩) NB468_487.out _).trans (hHeld.1)))), ((cell_far (p := ⟨gb487, _, none⟩) NB468_487.out _).trans (((cell_far (p := ⟨gb487, _, none⟩) NB468_487.out _).trans (hHeld.2.1)))), ((cell_far (p := ⟨gb487, _, none⟩) NB469_487.out _).trans (((cell_far (p := ⟨gb487, _, none⟩) NB469_487.out _).trans (hHeld.2.2.1)))), ((cell_far (p := ⟨gb487, _, none⟩) NB469_487.out _).trans (((cell_far (p := ⟨gb487, _, none⟩) NB469_487.out _).trans (hHeld.2.2.2))))⟩ (fun hHeld => ?_)
           clear hK K
           refine done_ (done_of HT_.out (by kernel_rfl)) ?_
           have hnb61 := NB486_468.out
           have hnc61 := NB468_486.out
           have hnb62 := NB486_469.out
           have hnc62 := NB469_486.out
           have hnb63 := NB486_487.out
           have hnc63 := NB487_486.out
           have hcz64_0 : w54.cell? ⟨gb486, 0, none⟩ = some (.int .i64 0) := zc_9 BK486 0
           have hcz64_1 : w54.cell? ⟨gb486, 1, none⟩ = some (.slice none 0 0) := zc_9 BK486 1
           have hfz64_0 := blk_frozen BK486.out 0
           have hfz64_1 := blk_frozen BK486.out 1
           have hnb65 := NB487_468.out
           have hnc65 := NB468_487.out
           have hnb66 := NB487_469.out
           have hnc66 := NB469_487.out
           have hcz67_0 : w54.cell? ⟨gb487, 0, none⟩ = some (.int .i64 0) := zc_9 BK487 0
           have hcz67_1 : w54.cell? ⟨gb487, 1, none⟩ = some (.slice none 0 0) := zc_9 BK487 1
           have hfz67_0 := blk_frozen BK487.out 0
           have hfz67_1 := blk_frozen BK487.out 1
           try go_wp2_with (first | ((with_reducible refine gate_callee (f := 27) rfl ?_); refine goesL_ (some 19) rfl rfl Try.func27 (by kernel_rfl) rfl #[.agg #[.int .i64 t478, .slice Ao56 t479.length co56], .agg #[.int .i64 t482, .slice Ao59 t483.length co59]] rfl zq9x_29 ?_; (with_reducible refine (span_Union.calls k t478 _ _ t479 t482 _ _ t483 t488 t489 _ ?side1 ?side2 ?side3 ?side4 A7.out).mono ?_); (case side1 => refine (Kd.R_reads' (e := 3) (base := w.heap.size) (ok := fun k_ => (some k_ ≠ (.slice Ao43 t471.length co43 : Value).ownBlock ∧ (some k_ ≠ (.slice Ao46 t475.length co46 : Value).ownBlock ∧ some k_ ≠ (.slice Ao59 t483.length co59 : Value).ownBlock))) (n := t479.length) (c := co56) ?_).2.2; exact zq9x_0); (case side2 => exact (Kd.R_reads' HO481.out).2.1); (case side3 => refine (Kd.R_reads' (e := 3) (base := w.heap.size) (ok := fun k_ => (some k_ ≠ (.slice Ao43 t471.length co43 : Value).ownBlock ∧ (some k_ ≠ (.slice Ao46 t475.length co46 : Value).ownBlock ∧ some k_ ≠ (.slice Ao56 t479.length co56 : Value).ownBlock))) (n := t483.length) (c := co59) ?_).2.2; exact zq9x_1); (case side4 => exact (Kd.R_reads' HO485.out).2.1); rintro e w68 ⟨v490, rfl, ho0, hb⟩; refine ⟨_, rfl, ?_⟩; have n0_ := Aside0.mk (Kd.R_elder' (by (with_reducible repeat (first | apply Kd.R_alloc | apply Kd.R_drewN | apply Kd.R_drew)); exact (Kd.R_mono (Kd.R_mono (Kd.R_far (p := ⟨gb487, 1, none⟩) (Kd.R_far (p := ⟨gb487, 0, none⟩) (Kd.R_far (p := ⟨gb486, 1, none⟩) (Kd.R_far (p := ⟨gb486, 0, none⟩) (Kd.R_types (Kd.R_types HO473.out BK486.out (by decide)) BK487.out (by decide)) (fun _ hk => hk.1.2) (.int .i64 t478)) (fun _ hk => hk.1.2) (.slice Ao56 t479.length co56)) (fun _ hk => hk.2) (.int .i64 t482)) (fun _ hk => hk.2) (.slice Ao59 t483.length co59)) (fun _ h_ => h_.1)) (fun _ h_ => h_.1))) (Kd.R_base ho0) hb); have n1_ := Aside0.mk (Kd.R_elder' (by (with_reducible repeat (first | apply Kd.R_alloc | apply Kd.R_drewN | apply Kd.R_drew)); exact (Kd.R_mono (Kd.R_mono (Kd.R_far (p := ⟨gb487, 1, none⟩) (Kd.R_far (p := ⟨gb487, 0, none⟩) (Kd.R_far (p := ⟨gb486, 1, none⟩) (Kd.R_far (p := ⟨gb486, 0, none⟩) (Kd.R_types (Kd.R_types HO477.out BK486.out (by decide)) BK487.out (by decide)) (fun _ hk => hk.1.2) (.int .i64 t478)) (fun _ hk => hk.1.2) (.slice Ao56 t479.length co56)) (fun _ hk => hk.2) (.int .i64 t482)) (fun _ hk => hk.2) (.slice Ao59 t483.length co59)) (fun _ h_ => h_.1)) (fun _ h_ => h_.1))) (Kd.R_base ho0) hb); have n2_ := Aside0.mk (Kd.R_elder' zq9x_0 (Kd.R_base ho0) hb); have n3_ := Aside0.mk (Kd.R_elder' zq9x_1 (Kd.R_base ho0) hb); have n4_ := Aside0.mk (Kd.R_lower (Kd.R_new' (Kd.R_new' (Kd.R_new' (Kd.R_new' ho0 (Kd.R_lt (by (with_reducible repeat (first | apply Kd.R_alloc | apply Kd.R_drewN | apply Kd.R_drew)); exact (Kd.R_mono (Kd.R_mono (Kd.R_far (p := ⟨gb487, 1, none⟩) (Kd.R_far (p := ⟨gb487, 0, none⟩) (Kd.R_far (p := ⟨gb486, 1, none⟩) (Kd.R_far (p := ⟨gb486, 0, none⟩) (Kd.R_types (Kd.R_types HO473.out BK486.out (by decide)) BK487.out (by decide)) (fun _ hk => hk.1.2) (.int .i64 t478)) (fun _ hk => hk.1.2) (.slice Ao56 t479.length co56)) (fun _ hk => hk.2) (.int .i64 t482)) (fun _ hk => hk.2) (.slice Ao59 t483.length co59)) (fun _ h_ => h_.1)) (fun _ h_ => h_.1))))) (Kd.R_lt (by (with_reducible repeat (first | apply Kd.R_alloc | apply Kd.R_drewN | apply Kd.R_drew)); exact (Kd.R_mono (Kd.R_mono (Kd.R_far (p := ⟨gb487, 1, none⟩) (Kd.R_far (p := ⟨gb487, 0, none⟩) (Kd.R_far (p := ⟨gb486, 1, none⟩) (Kd.R_far (p := ⟨gb486, 0, none⟩) (Kd.R_types (Kd.R_types HO477.out BK486.out (by decide)) BK487.out (by decide)) (fun _ hk => hk.1.2) (.int .i64 t478)) (fun _ hk => hk.1.2) (.slice Ao56 t479.length co56)) (fun _ hk => hk.2) (.int .i64 t482)) (fun _ hk => hk.2) (.slice Ao59 t483.length co59)) (fun _ h_ => h_.1)) (fun _ h_ => h_.1))))) (Kd.R_lt zq9x_0)) (Kd.R_lt zq9x_1)) (below_size zq9x_9)); have n5_ := Aside0.mk (blk_below (g := gb468) (o := .cells #[.int .i64 t470, .slice Ao43 t471.length co43] 30 (0, 0)) (by (with_reducible repeat (first | refine blk_drewN ?_ _ | refine blk_drew ?_ | refine blk_alloc ?_ _)); refine blk_far ?_ NB468_487.out _; (with_reducible repeat (first | refine blk_drewN ?_ _ | refine blk_drew ?_ | refine blk_alloc ?_ _)); refine blk_far ?_ NB468_487.out _; (with_reducible repeat (first | refine blk_drewN ?_ _ | refine blk_drew ?_ | refine blk_alloc ?_ _)); refine blk_far ?_ NB468_486.out _; (with_reducible repeat (first | refine blk_drewN ?_ _ | refine blk_drew ?_ | refine blk_alloc ?_ _)); refine blk_far ?_ NB468_486.out _; (with_reducible repeat (first | refine blk_drewN ?_ _ | refine blk_drew ?_ | refine blk_alloc ?_ _)); exact BK468.out) hb); have n6_ := Aside0.mk (blk_below (g := gb469) (o := .cells #[.int .i64 t474, .slice Ao46 t475.length co46] 30 (0, 0)) (by (with_reducible repeat (first | refine blk_drewN ?_ _ | refine blk_drew ?_ | refine blk_alloc ?_ _)); refine blk_far ?_ NB469_487.out _; (with_reducible repeat (first | refine blk_drewN ?_ _ | refine blk_drew ?_ | refine blk_alloc ?_ _)); refine blk_far ?_ NB469_487.out _; (with_reducible repeat (first | refine blk_drewN ?_ _ | refine blk_drew ?_ | refine blk_alloc ?_ _)); refine blk_far ?_ NB469_486.out _; (with_reducible repeat (first | refine blk_drewN ?_ _ | refine blk_drew ?_ | refine blk_alloc ?_ _)); refine blk_far ?_ NB469_486.out _; (with_reducible repeat (first | refine blk_drewN ?_ _ | refine blk_drew ?_ | refine blk_alloc ?_ _)); exact BK469.out) hb); have n7_ := Aside0.mk (blk_below (g := gb486) (o := .cells #[.int .i64 t478, .slice Ao56 t479.length co56] 24 (0, 0)) (by (with_reducible repeat (first | refine blk_drewN ?_ _ | refine blk_drew ?_ | refine blk_alloc ?_ _)); refine blk_far ?_ NB486_487.out _; (with_reducible repeat (first | refine blk_drewN ?_ _ | refine blk_drew ?_ | refine blk_alloc ?_ _)); refine blk_far ?_ NB486_487.out _; (with_reducible repeat (first | refine blk_drewN ?_ _ | refine blk_drew ?_ | refine blk_alloc ?_ _)); refine blk_put (cs := #[.int .i64 t478, .slice none 0 0]) ?_ 1 _ rfl; (with_reducible repeat (first | refine blk_drewN ?_ _ | refine blk_drew ?_ | refine blk_alloc ?_ _)); refine blk_put (cs := #[.int .i64 0, .slice none 0 0]) ?_ 0 _ rfl; (with_reducible repeat (first | refine blk_drewN ?_ _ | refine blk_drew ?_ | refine blk_alloc ?_ _)); exact BK486.out) hb); have n8_ := Aside0.mk (blk_below (g := gb487) (o := .cells #[.int .i64 t482, .slice Ao59 t483.length co59] 24 (0, 0)) (by (with_reducible repeat (first | refine blk_drewN ?_ _ | refine blk_drew ?_ | refine blk_alloc ?_ _)); refine blk_put (cs := #[.int .i64 t482, .slice none 0 0]) ?_ 1 _ rfl; (with_reducible repeat (first | refine blk_drewN ?_ _ | refine blk_drew ?_ | refine blk_alloc ?_ _)); refine blk_put (cs := #[.int .i64 0, .slice none 0 0]) ?_ 0 _ rfl; (with_reducible repeat (first | refine blk_drewN ?_ _ | refine blk_drew ?_ | refine blk_alloc ?_ _)); refine blk_far ?_ NB487_486.out _; (with_reducible repeat (first | refine blk_drewN ?_ _ | refine blk_drew ?_ | refine blk_alloc ?_ _)); refine blk_far ?_ NB487_486.out _; (with_reducible repeat (first | refine blk_drewN ?_ _ | refine blk_drew ?_ | refine blk_alloc ?_ _)); exact BK487.out) hb); have n9_ := Aside0.mk (below_step zq9x_9 hb); clear HO473; clear HO477; clear HO481; clear HO485; clear BK468; clear BK469; clear BK486; clear BK487; clear HB; have HO473 := n0_; have HO477 := n1_; have HO481 := n2_; have HO485 := n3_; have HO491 := n4_; have BK468 := n5_; have BK469 := n6_; have BK486 := n7_; have BK487 := n8_; have HB := n9_; clear n0_ n1_ n2_ n3_ n4_ n5_ n6_ n7_ n8_ n9_; (try clear hb); (try clear hb2); (try clear hk); (try clear hi); (try clear ho0)) | ((with_reducible refine gate_dst (N := 7) rfl ?_); refine box_event ?hg (N := 7) ?hd (cs := #[.int .i64 0, .slice none 0 0]) (t := 24) ?hr ?_; (case hd => rfl); (case hg => rfl); (case hr => first | (go_simp; done) | (go_simp; rfl)); intro gb492 hg w69 hbox hb; have n0_ := Aside0.mk (Kd.R_below zq9x_37 hb); have n1_ := Aside0.mk (Kd.R_below zq9x_38 hb); have n2_ := Aside0.mk (Kd.R_below zq9x_39 hb); have n3_ := Aside0.mk (Kd.R_below zq9x_40 hb); have n4_ := Aside0.mk (Kd.R_below zq9x_41 hb); have n5_ := Aside0.mk (blk_below (g := gb468) (o := .cells #[.int .i64 t470, .slice Ao43 t471.length co43] 30 (0, 0)) zq9x_31 hb); have n6_ := Aside0.mk (blk_below (g := gb469) (o := .cells #[.int .i64 t474, .slice Ao46 t475.length co46] 30 (0, 0)) zq9x_32 hb); have n7_ := Aside0.mk (blk_below (g := gb486) (o := .cells #[.int .i64 t478, .slice Ao56 t479.length co56] 24 (0, 0)) zq9x_33 hb); have n8_ := Aside0.mk (blk_below (g := gb487) (o := .cells #[.int .i64 t482, .slice Ao59 t483.length co59] 24 (0, 0)) zq9x_34 hb); have n9_ := Aside0.mk (below_step zq9x_9 hb); have n10_ := Aside0.mk (hbox); have n11_ := Aside0.mk (((by rw [hg]; exact (below_size zq9x_9)) : w.heap.size ≤ gb492)); have n12_ := Aside0.mk (((by rw [hg]; exact (below_size zq9x_9)) : w.heap.size ≤ gb492)); have n13_ := Aside0.mk ((zq9x_10 : gb468 ≠ gb492)); have n14_ := Aside0.mk ((zq9x_11 : gb492 ≠ gb468)); have n15_ := Aside0.mk ((zq9x_12 : gb469 ≠ gb492)); have n16_ := Aside0.mk ((zq9x_13 : gb492 ≠ gb469)); have n17_ := Aside0.mk (((by rw [hg]; exact Nat.ne_of_lt (blk_lt (g := gb486) (o := .cells #[.int .i64 t478, .slice Ao56 t479.length co56] 24 (0, 0)) zq9x_33)) : gb486 ≠ gb492)); have n18_ := Aside0.mk (((by rw [hg]; exact Nat.ne_of_gt (blk_lt (g := gb486) (o := .cells #[.int .i64 t478, .slice Ao56 t479.length co56] 24 (0, 0)) zq9x_33)) : gb492 ≠ gb486)); have n19_ := Aside0.mk (((by rw [hg]; exact Nat.ne_of_lt (blk_lt (g := gb487) (o := .cells #[.int .i64 t482, .slice Ao59 t483.length co59] 24 (0, 0)) zq9x_34)) : gb487 ≠ gb492)); have n20_ := Aside0.mk (((by rw [hg]; exact Nat.ne_of_gt (blk_lt (g := gb487) (o := .cells #[.int .i64 t482, .slice Ao59 t483.length co59] 24 (0, 0)) zq9x_34)) : gb492 ≠ gb487)); clear HO473; clear HO477; clear HO481; clear HO485; clear HO491; clear BK468; clear BK469; clear BK486; clear BK487; clear HB; have HO473 := n0_; have HO477 := n1_; have HO481 := n2_; have HO485 := n3_; have HO491 := n4_; have BK468 := n5_; have BK469 := n6_; have BK486 := n7_; have BK487 := n8_; have HB := n9_; have BK492 := n10_; have GW492 := n11_; have GE492 := n12_; have NB468_492 := n13_; have NB492_468 := n14_; have NB469_492 := n15_; have NB492_469 := n16_; have NB486_492 := n17_; have NB492_486 := n18_; have NB487_492 := n19_; have NB492_487 := n20_; clear n0_ n1_ n2_ n3_ n4_ n5_ n6_ n7_ n8_ n9_ n10_ n11_ n12_ n13_ n14_ n15_ n16_ n17_ n18_ n19_ n20_; clear hb hbox hg; have hnb70 := NB492_468.out; have hnc70 := NB468_492.out; have hnb71 := NB492_469.out; have hnc71 := NB469_492.out; have hnb72 := NB492_486.out; have hnc72 := NB486_492.out; have hnb73 := NB492_487.out; have hnc73 := NB487_492.out; have hcz74_0 : w69.cell? ⟨gb492, 0, none⟩ = some (.int .i64 0) := zc_9 BK492 0; have hcz74_1 : w69.cell? ⟨gb492, 1, none⟩ = some (.slice none 0 0) := zc_9 BK492 1; have hfz74_0 := blk_frozen BK492.out 0; have hfz74_1 := blk_frozen BK492.out 1; obtain ⟨Ao75, co75, eo75⟩ := Kd.R_slice HO491.out; subst eo75; have hcz76_0 : w69.cell? ⟨gb487, 0, none⟩ = some (.int .i64 t482) := zc_9 BK487 0; have hcz76_1 : w69.cell? ⟨gb487, 1, none⟩ = some (.slice Ao59 t483.length co59) := zc_9 BK487 1; have hfz76_0 := blk_frozen BK487.out 0; have hfz76_1 := blk_frozen BK487.out 1; have hcz77_0 : w69.cell? ⟨gb486, 0, none⟩ = some (.int .i64 t478) := zc_9 BK486 0; have hcz77_1 : w69.cell? ⟨gb486, 1, none⟩ = some (.slice Ao56 t479.length co56) := zc_9 BK486 1; have hfz77_0 := blk_frozen BK486.out 0; have hfz77_1 := blk_frozen BK486.out 1) | ((with_reducible refine gate_callee (f := 27) rfl ?_); refine goesL_ (some 22) rfl rfl Try.func27 (by kernel_rfl) rfl #[.agg #[.int .i64 t482, .slice Ao59 t483.length co59], .agg #[.int .i64 t478, .slice Ao56 t479.length co56]] rfl zq9x_29 ?_; (with_reducible refine (span_Union.calls k t482 _ _ t483 t478 _ _ t479 t493 t494 _ ?side1 ?side2 ?side3 ?side4 A8.out).mono ?_); (case side1 => refine (Kd.R_reads' (e := 3) (base := w.heap.size) (ok := fun k_ => ((some k_ ≠ (.slice Ao43 t471.length co43 : Value).ownBlock ∧ (some k_ ≠ (.slice Ao46 t475.length co46 : Value).ownBlock ∧ some k_ ≠ (.slice Ao56 t479.length co56 : Value).ownBlock)) ∧ some k_ ≠ (.slice Ao75 t489.length co75 : Value).ownBlock)) (n := t483.length) (c := co59) ?_).2.2; exact zq9x_2); (case side2 => exact (Kd.R_reads' HO485.out).2.1); (case side3 => refine (Kd.R_reads' (e := 3) (base := w.heap.size) (ok := fun k_ => ((some k_ ≠ (.slice Ao43 t471.length co43 : Value).ownBlock ∧ (some k_ ≠ (.slice Ao46 t475.length co46 : Value).ownBlock ∧ some k_ ≠ (.slice Ao59 t483.length co59 : Value).ownBlock)) ∧ some k_ ≠ (.slice Ao75 t489.length co75 : Value).ownBlock)) (n := t479.length) (c := co56) ?_).2.2; exact zq9x_3); (case side4 => exact (Kd.R_reads' HO481.out).2.1); rintro e w78 ⟨v495, rfl, ho0, hb⟩; refine ⟨_, rfl, ?_⟩; have n0_ := Aside0.mk (Kd.R_elder' (by (with_reducible repeat (first | apply Kd.R_alloc | apply Kd.R_drewN | apply Kd.R_drew)); exact (Kd.R_mono (Kd.R_far (p := ⟨gb492, 1, none⟩) (Kd.R_far (p := ⟨gb492, 0, none⟩) (Kd.R_types HO473.out BK492.out (by decide)) (fun _ hk => hk.2) (.int .i64 t488)) (fun _ hk => hk.2) (.slice Ao75 t489.length co75)) (fun _ h_ => h_.1))) (Kd.R_base ho0) hb); have n1_ := Aside0.mk (Kd.R_elder' (by (with_reducible repeat (first | apply Kd.R_alloc | apply Kd.R_drewN | apply Kd.R_drew)); exact (Kd.R_mono (Kd.R_far (p := ⟨gb492, 1, none⟩) (Kd.R_far (p := ⟨gb492, 0, none⟩) (Kd.R_types HO477.out BK492.out (by decide)) (fun _ hk => hk.2) (.int .i64 t488)) (fun _ hk => hk.2) (.slice Ao75 t489.length co75)) (fun _ h_ => h_.1))) (Kd.R_base ho0) hb); have n2_ := Aside0.mk (Kd.R_elder' zq9x_3 (Kd.R_base ho0) hb); have n3_ := Aside0.mk (Kd.R_elder' zq9x_2 (Kd.R_base ho0) hb); have n4_ := Aside0.mk (Kd.R_elder' (by (with_reducible repeat (first | apply Kd.R_alloc | apply Kd.R_drewN | apply Kd.R_drew)); exact (Kd.R_mono (Kd.R_far (p := ⟨gb492, 1, none⟩) (Kd.R_far (p := ⟨gb492, 0, none⟩) (Kd.R_types HO491.out BK492.out (by decide)) (fun _ hk => hk.2) (.int .i64 t488)) (fun _ hk => hk.2) (.slice Ao75 t489.length co75)) (fun _ h_ => h_.1))) (Kd.R_base ho0) hb); have n5_ := Aside0.mk (Kd.R_lower (Kd.R_new' (Kd.R_new' (Kd.R_new' (Kd.R_new' (Kd.R_new' ho0 (Kd.R_lt (by (with_reducible repeat (first | apply Kd.R_alloc | apply Kd.R_drewN | apply Kd.R_drew)); exact (Kd.R_mono (Kd.R_far (p := ⟨gb492, 1, none⟩) (Kd.R_far (p := ⟨gb492, 0, none⟩) (Kd.R_types HO473.out BK492.out (by decide)) (fun _ hk => hk.2) (.int .i64 t488)) (fun _ hk => hk.2) (.slice Ao75 t489.length co75)) (fun _ h_ => h_.1))))) (Kd.R_lt (by (with_reducible repeat (first | apply Kd.R_alloc | apply Kd.R_drewN | apply Kd.R_drew)); exact (Kd.R_mono (Kd.R_far (p := ⟨gb492, 1, none⟩) (Kd.R_far (p := ⟨gb492, 0, none⟩) (Kd.R_types HO477.out BK492.out (by decide)) (fun _ hk => hk.2) (.int .i64 t488)) (fun _ hk => hk.2) (.slice Ao75 t489.length co75)) (fun _ h_ => h_.1))))) (Kd.R_lt zq9x_3)) (Kd.R_lt zq9x_2)) (Kd.R_lt (by (with_reducible repeat (first | apply Kd.R_alloc | apply Kd.R_drewN | apply Kd.R_drew)); exact (Kd.R_mono (Kd.R_far (p := ⟨gb492, 1, none⟩) (Kd.R_far (p := ⟨gb492, 0, none⟩) (Kd.R_types HO491.out BK492.out (by decide)) (fun _ hk => hk.2) (.int .i64 t488)) (fun _ hk => hk.2) (.slice Ao75 t489.length co75)) (fun _ h_ => h_.1))))) (below_size zq9x_5)); have n6_ := Aside0.mk (blk_below (g := gb468) (o := .cells #[.int .i64 t470, .slice Ao43 t471.length co43] 30 (0, 0)) (by (with_reducible repeat (first | refine blk_drewN ?_ _ | refine blk_drew ?_ | refine blk_alloc ?_ _)); refine blk_far ?_ NB468_492.out _; (with_reducible repeat (first | refine blk_drewN ?_ _ | refine blk_drew ?_ | refine blk_alloc ?_ _)); refine blk_far ?_ NB468_492.out _; (with_reducible repeat (first | refine blk_drewN ?_ _ | refine blk_drew ?_ | refine blk_alloc ?_ _)); exact BK468.out) hb); have n7_ := Aside0.mk (blk_below (g := gb469) (o := .cells #[.int .i64 t474, .slice Ao46 t475.length co46] 30 (0, 0)) (by (with_reducible repeat (first | refine blk_drewN ?_ _ | refine blk_drew ?_ | refine blk_alloc ?_ _)); refine blk_far ?_ NB469_492.out _; (with_reducible repeat (first | refine blk_drewN ?_ _ | refine blk_drew ?_ | refine blk_alloc ?_ _)); refine blk_far ?_ NB469_492.out _; (with_reducible repeat (first | refine blk_drewN ?_ _ | refine blk_drew ?_ | refine blk_alloc ?_ _)); exact BK469.out) hb); have n8_ := Aside0.mk (blk_below (g := gb486) (o := .cells #[.int .i64 t478, .slice Ao56 t479.length co56] 24 (0, 0)) (by (with_reducible repeat (first | refine blk_drewN ?_ _ | refine blk_drew ?_ | refine blk_alloc ?_ _)); refine blk_far ?_ NB486_492.out _; (with_reducible repeat (first | refine blk_drewN ?_ _ | refine blk_drew ?_ | refine blk_alloc ?_ _)); refine blk_far ?_ NB486_492.out _; (with_reducible repeat (first | refine blk_drewN ?_ _ | refine blk_drew ?_ | refine blk_alloc ?_ _)); exact BK486.out) hb); have n9_ := Aside0.mk (blk_below (g := gb487) (o := .cells #[.int .i64 t482, .slice Ao59 t483.length co59] 24 (0, 0)) (by (with_reducible repeat (first | refine blk_drewN ?_ _ | refine blk_drew ?_ | refine blk_alloc ?_ _)); refine blk_far ?_ NB487_492.out _; (with_reducible repeat (first | refine blk_drewN ?_ _ | refine blk_drew ?_ | refine blk_alloc ?_ _)); refine blk_far ?_ NB487_492.out _; (with_reducible repeat (first | refine blk_drewN ?_ _ | refine blk_drew ?_ | refine blk_alloc ?_ _)); exact BK487.out) hb); have n10_ := Aside0.mk (blk_below (g := gb492) (o := .cells #[.int .i64 t488, .slice Ao75 t489.length co75] 24 (0, 0)) (by (with_reducible repeat (first | refine blk_drewN ?_ _ | refine blk_drew ?_ | refine blk_alloc ?_ _)); refine blk_put (cs := #[.int .i64 t488, .slice none 0 0]) ?_ 1 _ rfl; (with_reducible repeat (first | refine blk_drewN ?_ _ | refine blk_drew ?_ | refine blk_alloc ?_ _)); refine blk_put (cs := #[.int .i64 0, .slice none 0 0]) ?_ 0 _ rfl; (with_reducible repeat (first | refine blk_drewN ?_ _ | refine blk_drew ?_ | refine blk_alloc ?_ _)); exact BK492.out) hb); have n11_ := Aside0.mk (below_step zq9x_5 hb); clear HO473; clear HO477; clear HO481; clear HO485; clear HO491; clear BK468; clear BK469; clear BK486; clear BK487; clear BK492; clear HB; have HO473 := n0_; have HO477 := n1_; have HO481 := n2_; have HO485 := n3_; have HO491 := n4_; have HO496 := n5_; have BK468 := n6_; have BK469 := n7_; have BK486 := n8_; have BK487 := n9_; have BK492 := n10_; have HB := n11_; clear n0_ n1_ n2_ n3_ n4_ n5_ n6_ n7_ n8_ n9_ n10_ n11_; (try clear hb); (try clear hb2); (try clear hk); (try clear hi); (try clear ho0)) | ((with_reducible refine gate_dst (N := 8) rfl ?_); refine box_event ?hg (N := 8) ?hd (cs := #[.int .i64 0, .slice none 0 0]) (t := 24) ?hr ?_; (case hd => rfl); (case hg => rfl); (case hr => first | (go_simp; done) | (go_simp; rfl)); intro gb497 hg w79 hbox hb; have n0_ := Aside0.mk (Kd.R_below zq9x_37 hb); have n1_ := Aside0.mk (Kd.R_below zq9x_38 hb); have n2_ := Aside0.mk (Kd.R_below zq9x_39 hb); have n3_ := Aside0.mk (Kd.R_below zq9x_40 hb); have n4_ := Aside0.mk (Kd.R_below zq9x_41 hb); have n5_ := Aside0.mk (Kd.R_below zq9x_42 hb); have n6_ := Aside0.mk (blk_below (g := gb468) (o := .cells #[.int .i64 t470, .slice Ao43 t471.length co43] 30 (0, 0)) zq9x_31 hb); have n7_ := Aside0.mk (blk_below (g := gb469) (o := .cells #[.int .i64 t474, .slice Ao46 t475.length co46] 30 (0, 0)) zq9x_32 hb); have n8_ := Aside0.mk (blk_below (g := gb486) (o := .cells #[.int .i64 t478, .slice Ao56 t479.length co56] 24 (0, 0)) zq9x_33 hb); have n9_ := Aside0.mk (blk_below (g := gb487) (o := .cells #[.int .i64 t482, .slice Ao59 t483.length co59] 24 (0, 0)) zq9x_34 hb); have n10_ := Aside0.mk (blk_below (g := gb492) (o := .cells #[.int .i64 t488, .slice Ao75 t489.length co75] 24 (0, 0)) zq9x_35 hb); have n11_ := Aside0.mk (below_step zq9x_5 hb); have n12_ := Aside0.mk (hbox); have n13_ := Aside0.mk (((by rw [hg]; exact (below_size zq9x_5)) : w.heap.size ≤ gb497)); have n14_ := Aside0.mk (((by rw [hg]; exact (below_size zq9x_5)) : w.heap.size ≤ gb497)); have n15_ := Aside0.mk ((zq9x_10 : gb468 ≠ gb497)); have n16_ := Aside0.mk ((zq9x_11 : gb497 ≠ gb468)); have n17_ := Aside0.mk ((zq9x_12 : gb469 ≠ gb497)); have n18_ := Aside0.mk ((zq9x_13 : gb497 ≠ gb469)); have n19_ := Aside0.mk (((by rw [hg]; exact Nat.ne_of_lt (blk_lt (g := gb486) (o := .cells #[.int .i64 t478, .slice Ao56 t479.length co56] 24 (0, 0)) zq9x_33)) : gb486 ≠ gb497)); have n20_ := Aside0.mk (((by rw [hg]; exact Nat.ne_of_gt (blk_lt (g := gb486) (o := .cells #[.int .i64 t478, .slice Ao56 t479.length co56] 24 (0, 0)) zq9x_33)) : gb497 ≠ gb486)); have n21_ := Aside0.mk (((by rw [hg]; exact Nat.ne_of_lt (blk_lt (g := gb487) (o := .cells #[.int .i64 t482, .slice Ao59 t483.length co59] 24 (0, 0)) zq9x_34)) : gb487 ≠ gb497)); have n22_ := Aside0.mk (((by rw [hg]; exact Nat.ne_of_gt (blk_lt (g := gb487) (o := .cells #[.int .i64 t482, .slice Ao59 t483.length co59] 24 (0, 0)) zq9x_34)) : gb497 ≠ gb487)); have n23_ := Aside0.mk (((by rw [hg]; exact Nat.ne_of_lt (blk_lt (g := gb492) (o := .cells #[.int .i64 t488, .slice Ao75 t489.length co75] 24 (0, 0)) zq9x_35)) : gb492 ≠ gb497)); have n24_ := Aside0.mk (((by rw [hg]; exact Nat.ne_of_gt (blk_lt (g := gb492) (o := .cells #[.int .i64 t488, .slice Ao75 t489.length co75] 24 (0, 0)) zq9x_35)) : gb497 ≠ gb492)); clear HO473; clear HO477; clear HO481; clear HO485; clear HO491; clear HO496; clear BK468; clear BK469; clear BK486; clear BK487; clear BK492; clear HB; have HO473 := n0_; have HO477 := n1_; have HO481 := n2_; have HO485 := n3_; have HO491 := n4_; have HO496 := n5_; have BK468 := n6_; have BK469 := n7_; have BK486 := n8_; have BK487 := n9_; have BK492 := n10_; have HB := n11_; have BK497 := n12_; have GW497 := n13_; have GE497 := n14_; have NB468_497 := n15_; have NB497_468 := n16_; have NB469_497 := n17_; have NB497_469 := n18_; have NB486_497 := n19_; have NB497_486 := n20_; have NB487_497 := n21_; have NB497_487 := n22_; have NB492_497 := n23_; have NB497_492 := n24_; clear n0_ n1_ n2_ n3_ n4_ n5_ n6_ n7_ n8_ n9_ n10_ n11_ n12_ n13_ n14_ n15_ n16_ n17_ n18_ n19_ n20_ n21_ n22_ n23_ n24_; clear hb hbox hg; have hnb80 := NB497_468.out; have hnc80 := NB468_497.out; have hnb81 := NB497_469.out; have hnc81 := NB469_497.out; have hnb82 := NB497_486.out; have hnc82 := NB486_497.out; have hnb83 := NB497_487.out; have hnc83 := NB487_497.out; have hnb84 := NB497_492.out; have hnc84 := NB492_497.out; have hcz85_0 : w79.cell? ⟨gb497, 0, none⟩ = some (.int .i64 0) := zc_9 BK497 0; have hcz85_1 : w79.cell? ⟨gb497, 1, none⟩ = some (.slice none 0 0) := zc_9 BK497 1; have hfz85_0 := blk_frozen BK497.out 0; have hfz85_1 := blk_frozen BK497.out 1; obtain ⟨Ao86, co86, eo86⟩ := Kd.R_slice HO496.out; subst eo86))
           have n0_ : Aside0 (Kd.R (Kd.int .i64) 3 ((w79.setCell ⟨gb497, 0, none⟩ (.int .i64 t493)).setCell ⟨gb497, 1, none⟩ (.slice Ao86 t494.length co86)) w.heap.size (fun k_ => some k_ ≠ (.slice Ao46 t475.length co46 : Value).ownBlock ∧ some k_ ≠ (.slice Ao56 t479.length co56 : Value).ownBlock ∧ some k_ ≠ (.slice Ao59 t483.length co59 : Value).ownBlock ∧ some k_ ≠ (.slice Ao75 t489.length co75 : Value).ownBlock ∧ some k_ ≠ (.slice Ao86 t494.length co86 : Value).ownBlock) (.slice Ao43 t471.length co43) t471) := ⟨by (with_reducible repeat (first | apply Kd.R_alloc | apply Kd.R_drewN | apply Kd.R_drew)); exact Kd.R_mono (Kd.R_far (p := ⟨gb497, 1, none⟩) (Kd.R_far (p := ⟨gb497, 0, none⟩) (Kd.R_types HO473.out BK497.out (by decide)) (fun _ hk => hk.2) (.int .i64 t493)) (fun _ hk => hk.2) (.slice Ao86 t494.length co86)) (fun _ hk => ⟨hk.1.1.1.1, ⟨hk.1.1.1.2.1, ⟨hk.1.1.1.2.2, ⟨hk.1.1.2, hk.1.2⟩⟩⟩⟩)⟩
           have n1_ : Aside0 (Kd.R (Kd.int .i64) 3 ((w79.setCell ⟨gb497, 0, none⟩ (.int .i64 t493)).setCell ⟨gb497, 1, none⟩ (.slice Ao86 t494.length co86)) w.heap.size (fun k_ => some k_ ≠ (.slice Ao43 t471.length co43 : Value).ownBlock ∧ some k_ ≠ (.slice Ao56 t479.length co56 : Value).ownBlock ∧ some k_ ≠ (.slice Ao59 t483.length co59 : Value).ownBlock ∧ some k_ ≠ (.slice Ao75 t489.length co75 : Value).ownBlock ∧ some k_ ≠ (.slice Ao86 t494.length co86 : Value).ownBlock) (.slice Ao46 t475.length co46) t475) := ⟨by (with_reducible repeat (first | apply Kd.R_alloc | apply Kd.R_drewN | apply Kd.R_drew)); exact Kd.R_mono (Kd.R_far (p := ⟨gb497, 1, none⟩) (Kd.R_far (p := ⟨gb497, 0, none⟩) (Kd.R_types HO477.out BK497.out (by decide)) (fun _ hk => hk.2) (.int .i64 t493)) (fun _ hk => hk.2) (.slice Ao86 t494.length co86)) (fun _ hk => ⟨hk.1.1.1.1, ⟨hk.1.1.1.2.1, ⟨hk.1.1.1.2.2, ⟨hk.1.1.2, hk.1.2⟩⟩⟩⟩)⟩
           have n2_ : Aside0 (Kd.R (Kd.int .i64) 3 ((w79.setCell ⟨gb497, 0, none⟩ (.int .i64 t493)).setCell ⟨gb497, 1, none⟩ (.slice Ao86 t494.length co86)) w.heap.size (fun k_ => some k_ ≠ (.slice Ao43 t471.length co43 : Value).ownBlock ∧ some k_ ≠ (.slice Ao46 t475.length co46 : Value).ownBlock ∧ some k_ ≠ (.slice Ao59 t483.length co59 : Value).ownBlock ∧ some k_ ≠ (.slice Ao75 t489.length co75 : Value).ownBlock ∧ some k_ ≠ (.slice Ao86 t494.length co86 : Value).ownBlock) (.slice Ao56 t479.length co56) t479) := ⟨by (with_reducible repeat (first | apply Kd.R_alloc | apply Kd.R_drewN | apply Kd.R_drew)); exact Kd.R_mono (Kd.R_far (p := ⟨gb497, 1, none⟩) (Kd.R_far (p := ⟨gb497, 0, none⟩) (Kd.R_types HO481.out BK497.out (by decide)) (fun _ hk => hk.2) (.int .i64 t493)) (fun _ hk => hk.2) (.slice Ao86 t494.length co86)) (fun _ hk => ⟨hk.1.1.1.1, ⟨hk.1.1.1.2.1, ⟨hk.1.1.1.2.2, ⟨hk.1.1.2, hk.1.2⟩⟩⟩⟩)⟩
           have n3_ : Aside0 (Kd.R (Kd.int .i64) 3 ((w79.setCell ⟨gb497, 0, none⟩ (.int .i64 t493)).setCell ⟨gb497, 1, none⟩ (.slice Ao86 t494.length co86)) w.heap.size (fun k_ => some k_ ≠ (.slice Ao43 t471.length co43 : Value).ownBlock ∧ some k_ ≠ (.slice Ao46 t475.length co46 : Value).ownBlock ∧ some k_ ≠ (.slice Ao56 t479.length co56 : Value).ownBlock ∧ some k_ ≠ (.slice Ao75 t489.length co75 : Value).ownBlock ∧ some k_ ≠ (.slice Ao86 t494.length co86 : Value).ownBlock) (.slice Ao59 t483.length co59) t483) := ⟨by (with_reducible repeat (first | apply Kd.R_alloc | apply Kd.R_drewN | apply Kd.R_drew)); exact Kd.R_mono (Kd.R_far (p := ⟨gb497, 1, none⟩) (Kd.R_far (p := ⟨gb497, 0, none⟩) (Kd.R_types HO485.out BK497.out (by decide)) (fun _ hk => hk.2) (.int .i64 t493)) (fun _ hk => hk.2) (.slice Ao86 t494.length co86)) (fun _ hk => ⟨hk.1.1.1.1, ⟨hk.1.1.1.2.1, ⟨hk.1.1.1.2.2, ⟨hk.1.1.2, hk.1.2⟩⟩⟩⟩)⟩
           have n4_ : Aside0 (Kd.R (Kd.int .i64) 3 ((w79.setCell ⟨gb497, 0, none⟩ (.int .i64 t493)).setCell ⟨gb497, 1, none⟩ (.slice Ao86 t494.length co86)) w.heap.size (fun k_ => some k_ ≠ (.slice Ao43 t471.length co43 : Value).ownBlock ∧ some k_ ≠ (.slice Ao46 t475.length co46 : Value).ownBlock ∧ some k_ ≠ (.slice Ao56 t479.length co56 : Value).ownBlock ∧ some k_ ≠ (.slice Ao59 t483.length co59 : Value).ownBlock ∧ some k_ ≠ (.slice Ao86 t494.length co86 : Value).ownBlock) (.slice Ao75 t489.length co75) t489) := ⟨by (with_reducible repeat (first | apply Kd.R_alloc | apply Kd.R_drewN | apply Kd.R_drew)); exact Kd.R_mono (Kd.R_far (p := ⟨gb497, 1, none⟩) (Kd.R_far (p := ⟨gb497, 0, none⟩) (Kd.R_types HO491.out BK497.out (by decide)) (fun _ hk => hk.2) (.int .i64 t493)) (fun _ hk => hk.2) (.slice Ao86 t494.length co86)) (fun _ hk => ⟨hk.1.1.1.1.1.2, ⟨hk.1.1.1.1.2, ⟨hk.1.1.1.2, ⟨hk.1.1.2, hk.1.2⟩⟩⟩⟩)⟩
           have n5_ : Aside0 (Kd.R (Kd.int .i64) 3 ((w79.setCell ⟨gb497, 0, none⟩ (.int .i64 t493)).setCell ⟨gb497, 1, none⟩ (.slice Ao86 t494.length co86)) w.heap.size (fun k_ => some k_ ≠ (.slice Ao43 t471.length co43 : Value).ownBlock ∧ some k_ ≠ (.slice Ao46 t475.length co46 : Value).ownBlock ∧ some k_ ≠ (.slice Ao56 t479.length co56 : Value).ownBlock ∧ some k_ ≠ (.slice Ao59 t483.length co59 : Value).ownBlock ∧ some k_ ≠ (.slice Ao75 t489.length co75 : Value).ownBlock) (.slice Ao86 t494.length co86) t494) := ⟨by (with_reducible repeat (first | apply Kd.R_alloc | apply Kd.R_drewN | apply Kd.R_drew)); exact Kd.R_mono (Kd.R_far (p := ⟨gb497, 1, none⟩) (Kd.R_far (p := ⟨gb497, 0, none⟩) (Kd.R_types HO496.out BK497.out (by decide)) (fun _ hk => hk.2) (.int .i64 t493)) (fun _ hk => hk.2) (.slice Ao86 t494.length co86)) (fun _ hk => ⟨hk.1.1.1.1.1.2, ⟨hk.1.1.1.1.2, ⟨hk.1.1.1.2, ⟨hk.1.1.2, hk.1.2⟩⟩⟩⟩)⟩
           have n6_ : Aside0 (((w79.setCell ⟨gb497, 0, none⟩ (.int .i64 t493)).setCell ⟨gb497, 1, none⟩ (.slice Ao86 t494.length co86)).heap[gb468]? = some (.cells #[.int .i64 t470, .slice Ao43 t471.length co43] 30 (0, 0))) := ⟨by (with_reducible repeat (first | refine blk_drewN ?_ _ | refine blk_drew ?_ | refine blk_alloc ?_ _)); refine blk_far ?_ NB468_497.out _; (with_reducible repeat (first | refine blk_drewN ?_ _ | refine blk_drew ?_ | refine blk_alloc ?_ _)); refine blk_far ?_ NB468_497.out _; (with_reducible repeat (first | refine blk_drewN ?_ _ | refine blk_drew ?_ | refine blk_alloc ?_ _)); exact BK468.out⟩
           have n7_ : Aside0 (((w79.setCell ⟨gb497, 0, none⟩ (.int .i64 t493)).setCell ⟨gb497, 1, none⟩ (.slice Ao86 t494.length co86)).heap[gb469]? = some (.cells #[.int .i64 t474, .slice Ao46 t475.length co46] 30 (0, 0))) := ⟨by (with_reducible repeat (first | refine blk_drewN ?_ _ | refine blk_drew ?_ | refine blk_alloc ?_ _)); refine blk_far ?_ NB469_497.out _; (with_reducible repeat (first | refine blk_drewN ?_ _ | refine blk_drew ?_ | refine blk_alloc ?_ _)); refine blk_far ?_ NB469_497.out _; (with_reducible repeat (first | refine blk_drewN ?_ _ | refine blk_drew ?_ | refine blk_alloc ?_ _)); exact BK469.out⟩
           have n8_ : Aside0 (((w79.setCell ⟨gb497, 0, none⟩ (.int .i64 t493)).setCell ⟨gb497, 1, none⟩ (.slice Ao86 t494.length co86)).heap[gb486]? = some (.cells #[.int .i64 t478, .slice Ao56 t479.length co56] 24 (0, 0))) := ⟨by (with_reducible repeat (first | refine blk_drewN ?_ _ | refine blk_drew ?_ | refine blk_alloc ?_ _)); refine blk_far ?_ NB486_497.out _; (with_reducible repeat (first | refine blk_drewN ?_ _ | refine blk_drew ?_ | refine blk_alloc ?_ _)); refine blk_far ?_ NB486_497.out _; (with_reducible repeat (first | refine blk_drewN ?_ _ | refine blk_drew ?_ | refine blk_alloc ?_ _)); exact BK486.out⟩
           have n9_ : Aside0 (((w79.setCell ⟨gb497, 0, none⟩ (.int .i64 t493)).setCell ⟨gb497, 1, none⟩ (.slice Ao86 t494.length co86)).heap[gb487]? = some (.cells #[.int .i64 t482, .slice Ao59 t483.length co59] 24 (0, 0))) := ⟨by (with_reducible repeat (first | refine blk_drewN ?_ _ | refine blk_drew ?_ | refine blk_alloc ?_ _)); refine blk_far ?_ NB487_497.out _; (with_reducible repeat (first | refine blk_drewN ?_ _ | refine blk_drew ?_ | refine blk_alloc ?_ _)); refine blk_far ?_ NB487_497.out _; (with_reducible repeat (first | refine blk_drewN ?_ _ | refine blk_drew ?_ | refine blk_alloc ?_ _)); exact BK487.out⟩
           have n10_ : Aside0 (((w79.setCell ⟨gb497, 0, none⟩ (.int .i64 t493)).setCell ⟨gb497, 1, none⟩ (.slice Ao86 t494.length co86)).heap[gb492]? = some (.cells #[.int .i64 t488, .slice Ao75 t489.length co75] 24 (0, 0))) := ⟨by (with_reducible repeat (first | refine blk_drewN ?_ _ | refine blk_drew ?_ | refine blk_alloc ?_ _)); refine blk_far ?_ NB492_497.out _; (with_reducible repeat (first | refine blk_drewN ?_ _ | refine blk_drew ?_ | refine blk_alloc ?_ _)); refine blk_far ?_ NB492_497.out _; (with_reducible repeat (first | refine blk_drewN ?_ _ | refine blk_drew ?_ | refine blk_alloc ?_ _)); exact BK492.out⟩
           have n11_ : Aside0 (((w79.setCell ⟨gb497, 0, none⟩ (.int .i64 t493)).setCell ⟨gb497, 1, none⟩ (.slice Ao86 t494.length co86)).heap[gb497]? = some (.cells #[.int .i64 t493, .slice Ao86 t494.length co86] 24 (0, 0))) := ⟨by (with_reducible repeat (first | refine blk_drewN ?_ _ | refine blk_drew ?_ | refine blk_alloc ?_ _)); refine blk_put (cs := #[.int .i64 t493, .slice none 0 0]) ?_ 1 _ rfl; (with_reducible repeat (first | refine blk_drewN ?_ _ | refine blk_drew ?_ | refine blk_alloc ?_ _)); refine blk_put (cs := #[.int .i64 0, .slice none 0 0]) ?_ 0 _ rfl; (with_reducible repeat (first | refine blk_drewN ?_ _ | refine blk_drew ?_ | refine blk_alloc ?_ _)); exact BK497.out⟩
           have n12_ : Aside0 (Below w.heap.size w ((w79.setCell ⟨gb497, 0, none⟩ (.int .i64 t493)).setCell ⟨gb497, 1, none⟩ (.slice Ao86 t494.length co86))) := ⟨by repeat (first | (with_reducible first | exact HB.out | apply below_alloc | apply pw_below_drewN | apply below_drew1 | refine below_set ?_ GE468.out | refine below_set ?_ GE469.out | refine below_set ?_ GE486.out | refine below_set ?_ GE487.out | refine below_set ?_ GE492.out | refine below_set ?_ GE497.out) | exact HB.out)⟩
           (try clear HO473)
           (try clear HO477)
           (try clear HO481)
           (try clear HO485)
           (try clear HO491)
           (try clear HO496)
           (try clear BK468)
           (try clear BK469)
           (try clear BK486)
           (try clear BK487)
           (try clear BK492)
           (try clear BK497)
           (try clear HB)
           generalize ((w79.setCell ⟨gb497, 0, none⟩ (.int .i64 t493)).setCell ⟨gb497, 1, none⟩ (.slice Ao86 t494.length co86)) = w87 at n0_ n1_ n2_ n3_ n4_ n5_ n6_ n7_ n8_ n9_ n10_ n11_ n12_ ⊢
           have HO473 := n0_
           have HO477 := n1_
           have HO481 := n2_
           have HO485 := n3_
           have HO491 := n4_
           have HO496 := n5_
           have BK468 := n6_
           have BK469 := n7_
           have BK486 := n8_
           have BK487 := n9_
           have BK492 := n10_
           have BK497 := n11_
           have HB := n12_
           clear n0_ n1_ n2_ n3_ n4_ n5_ n6_ n7_ n8_ n9_ n10_ n11_ n12_
           replace HO473 := Aside0.mk (Kd.R_drew HO473.out)
           replace HO477 := Aside0.mk (Kd.R_drew HO477.out)
           replace HO481 := Aside0.mk (Kd.R_drew HO481.out)
           replace HO485 := Aside0.mk (Kd.R_drew HO485.out)
           replace HO491 := Aside0.mk (Kd.R_drew HO491.out)
           replace HO496 := Aside0.mk (Kd.R_drew HO496.out)
           replace BK468 := Aside0.mk (blk_drew BK468.out)
           replace BK469 := Aside0.mk (blk_drew BK469.out)
           replace BK486 := Aside0.mk (blk_drew BK486.out)
           replace BK487 := Aside0.mk (blk_drew BK487.out)
           replace BK492 := Aside0.mk (blk_drew BK492.out)
           replace BK497 := Aside0.mk (blk_drew BK497.out)
           replace HB := Aside0.mk (below_drew1 HB.out)
           refine start_ (n := 40) (S := fun w' => w'.cell? ⟨gb492, 0, none⟩ = some (.int .i64 t488) ∧ w'.cell? ⟨gb492, 1, none⟩ = some (.slice Ao75 t489.length co75) ∧ w'.cell? ⟨gb468, 0, none⟩ = some (.int .i64 t470) ∧ w'.cell? ⟨gb468, 1, none⟩ = some (.slice Ao43 t471.length co43) ∧ w'.cell? ⟨gb469, 0, none⟩ = some (.int .i64 t474) ∧ w'.cell? ⟨gb469, 1, none⟩ = some (.slice Ao46 t475.length co46) ∧ w'.cell? ⟨gb497, 0, none⟩ = some (.int .i64 t493) ∧ w'.cell? ⟨gb497, 1, none⟩ = some (.slice Ao86 t494.length co86) ∧ w'.cell? ⟨gb486, 0, none⟩ = some (.int .i64 t478) ∧ w'.cell? ⟨gb486, 1, none⟩ = some (.slice Ao56 t479.length co56) ∧ w'.cell? ⟨gb487, 0, none⟩ = some (.int .i64 t482) ∧ w'.cell? ⟨gb487, 1, none⟩ = some (.slice Ao59 t483.length co59)) (ds := []) #[bF9, bF9, bF9, bF9, bF9, bF9, bF9, bF9, bF9, bF9, bF9, bF9, bF9, bF9, bF9, bF9, bF9, bF9, bF9, bF9, bF9, bF9, bF9, bF9, bF9, bF9, bF9, bF9, bF9, bF9, bF9, bF9, bF9, bF9, bF9, bF9, bF9, bF9, bF9, bF9] (by kernel_rfl) rfl rfl ⟨zc_9 BK492 0, zc_9 BK492 1, zc_9 BK468 0, zc_9 BK468 1, zc_9 BK469 0, zc_9 BK469 1, zc_9 BK497 0, zc_9 BK497 1, zc_9 BK486 0, zc_9 BK486 1, zc_9 BK487 0, zc_9 BK487 1⟩ (fun hHeld => ?_); refine with_tabW cenotaphlaw02_SpanUnions.tab5 cenotaphlaw02_SpanUnions.bits5 (fun HT_ HW_ => ?_)
           generalize w87.drew = w88 at HO473 HO477 HO481 HO485 HO491 HO496 BK468 BK469 BK486 BK487 BK492 BK497 HB hHeld ⊢
           refine one_ (i := 0) (N := some 23) #[bT9, bF9, bF9, bF9, bF9, bF9, bF9, bF9, bF9, bF9, bF9, bF9, bF9, bF9, bF9, bF9, bF9, bF9, bF9, bF9, bF9, bF9, bF9, bF9, bF9, bF9, bF9, bF9, bF9, bF9, bF9, bF9, bF9, bF9, bF9, bF9, bF9, bF9, bF9, bF9] rfl rfl (one_of HT_.out (by kernel_rfl)) (by decide) (fun K hK => ?_)
           refine goes_ Try.func11 (by kernel_rfl) rfl #[] (by rfl) rfl rfl zq9x_29 ?_
           with_reducible refine (cenotaphlaw02_told.calls k  true _ A9.out).mono ?_
           rintro e w89 ⟨rfl, hb⟩
           refine ⟨_, rfl, ?_⟩
           replace HO473 := Aside0.mk (Kd.R_below zq9x_37 hb)
           replace HO477 := Aside0.mk (Kd.R_below zq9x_38 hb)
           replace HO481 := Aside0.mk (Kd.R_below zq9x_39 hb)
           replace HO485 := Aside0.mk (Kd.R_below zq9x_40 hb)
           replace HO491 := Aside0.mk (Kd.R_below zq9x_41 hb)
           replace HO496 := Aside0.mk (Kd.R_below zq9x_42 hb)
           replace BK468 := Aside0.mk (blk_below (g := gb468) (o := .cells #[.int .i64 t470, .slice Ao43 t471.length co43] 30 (0, 0)) zq9x_31 hb)
           replace BK469 := Aside0.mk (blk_below (g := gb469) (o := .cells #[.int .i64 t474, .slice Ao46 t475.length co46] 30 (0, 0)) zq9x_32 hb)
           replace BK486 := Aside0.mk (blk_below (g := gb486) (o := .cells #[.int .i64 t478, .slice Ao56 t479.length co56] 24 (0, 0)) zq9x_33 hb)
           replace BK487 := Aside0.mk (blk_below (g := gb487) (o := .cells #[.int .i64 t482, .slice Ao59 t483.length co59] 24 (0, 0)) zq9x_34 hb)
           replace BK492 := Aside0.mk (blk_below (g := gb492) (o := .cells #[.int .i64 t488, .slice Ao75 t489.length co75] 24 (0, 0)) zq9x_35 hb)
           replace BK497 := Aside0.mk (blk_below (g := gb497) (o := .cells #[.int .i64 t493, .slice Ao86 t494.length co86] 24 (0, 0)) zq9x_36 hb)
           replace HB := Aside0.mk (below_step zq9x_4 hb)
           (try clear hb)
           (try clear hb2)
           (try clear hk)
           (try clear hi)
           refine hK.out _ _ ⟨zc_9 BK492 0, zc_9 BK492 1, zc_9 BK468 0, zc_9 BK468 1, zc_9 BK469 0, zc_9 BK469 1, zc_9 BK497 0, zc_9 BK497 1, zc_9 BK486 0, zc_9 BK486 1, zc_9 BK487 0, zc_9 BK487 1⟩ (fun hHeld => ?_)
           clear hK K
           refine norm_ (a' := ?_) ?_ ?_
           rotate_left
           ·show Act.put _ (some 23) _ = _
            simp only [Act.put, List.setIfInBounds_toArray, List.set_cons_zero, List.set_cons_succ, i64_w, i32_w]
            rfl
           refine pure_ (i := 1) (N := some 24) (v := ?_) (a' := ?_) #[bT9, bT9, bF9, bF9, bF9, bF9, bF9, bF9, bF9, bF9, bF9, bF9, bF9, bF9, bF9, bF9, bF9, bF9, bF9, bF9, bF9, bF9, bF9, bF9, bF9, bF9, bF9, bF9, bF9, bF9, bF9, bF9, bF9, bF9, bF9, bF9, bF9, bF9, bF9, bF9] rfl rfl (any_of HT_.out (by kernel_rfl)) (fun _ _ _ h => h) (Or.inl ⟨by rfl, ?_⟩) ?_ ?_
           rotate_left
           ·intro w'
            go_simp
            with_reducible rfl
           rotate_left
           ·simp only [Act.put, List.setIfInBounds_toArray, List.set_cons_zero, List.set_cons_succ, i64_w, i32_w]
            rfl
           refine pure_ (i := 2) (N := some 25) (v := ?_) (a' := ?_) #[bT9, bT9, bT9, bF9, bF9, bF9, bF9, bF9, bF9, bF9, bF9, bF9, bF9, bF9, bF9, bF9, bF9, bF9, bF9, bF9, bF9, bF9, bF9, bF9, bF9, bF9, bF9, bF9, bF9, bF9, bF9, bF9, bF9, bF9, bF9, bF9, bF9, bF9, bF9, bF9] rfl rfl (any_of HT_.out (by kernel_rfl)) (fun _ _ _ h => h) (Or.inl ⟨by rfl, ?_⟩) ?_ ?_
           rotate_left
           ·intro w'
            go_simp
            with_reducible rfl
           rotate_left
           ·simp only [Act.put, List.setIfInBounds_toArray, List.set_cons_zero, List.set_cons_succ, i64_w, i32_w]
            rfl
           refine take_ (i := 3) (N := some 26) (v := ?_) (a' := ?_) #[bT9, bT9, bT9, bT9, bF9, bF9, bF9, bF9, bF9, bF9, bF9, bF9, bF9, bF9, bF9, bF9, bF9, bF9, bF9, bF9, bF9, bF9, bF9, bF9, bF9, bF9, bF9, bF9, bF9, bF9, bF9, bF9, bF9, bF9, bF9, bF9, bF9, bF9, bF9, bF9] rfl rfl (take_ofW HT_.out HW_.out (by kernel_rfl)) (fun _ _ _ h => h) (Or.inl ⟨by rfl, ?_⟩) hHeld ?_ ?_
           rotate_left
           ·rintro w' ⟨s0, s1, s2, s3, s4, s5, s6, s7, s8, s9, s10, s11⟩
            go_simp
            with_reducible rfl
           rotate_left
           ·simp only [Act.put, List.setIfInBounds_toArray, List.set_cons_zero, List.set_cons_succ, i64_w, i32_w]
            rfl
           refine take_ (i := 5) (N := some 28) (v := ?_) (a' := ?_) #[bT9, bT9, bT9, bT9, bF9, bT9, bF9, bF9, bF9, bF9, bF9, bF9, bF9, bF9, bF9, bF9, bF9, bF9, bF9, bF9, bF9, bF9, bF9, bF9, bF9, bF9, bF9, bF9, bF9, bF9, bF9, bF9, bF9, bF9, bF9, bF9, bF9, bF9, bF9, bF9] rfl rfl (take_ofW HT_.out HW_.out (by kernel_rfl)) (fun _ _ _ h => h) (Or.inl ⟨by rfl, ?_⟩) hHeld ?_ ?_
           rotate_left
           ·rintro w' ⟨s0, s1, s2, s3, s4, s5, s6, s7, s8, s9, s10, s11⟩
            go_simp
            with_reducible rfl
           rotate_left
           ·simp only [Act.put, List.setIfInBounds_toArray, List.set_cons_zero, List.set_cons_succ, i64_w, i32_w]
            rfl
           refine take_ (i := 6) (N := some 29) (v := ?_) (a' := ?_) #[bT9, bT9, bT9, bT9, bF9, bT9, bT9, bF9, bF9, bF9, bF9, bF9, bF9, bF9, bF9, bF9, bF9, bF9, bF9, bF9, bF9, bF9, bF9, bF9, bF9, bF9, bF9, bF9, bF9, bF9, bF9, bF9, bF9, bF9, bF9, bF9, bF9, bF9, bF9, bF9] rfl rfl (take_ofW HT_.out HW_.out (by kernel_rfl)) (fun _ _ _ h => h) (Or.inl ⟨by rfl, ?_⟩) hHeld ?_ ?_
           rotate_left
           ·rintro w' ⟨s0, s1, s2, s3, s4, s5, s6, s7, s8, s9, s10, s11⟩
            go_simp
            with_reducible rfl
           rotate_left
           ·simp only [Act.put, List.setIfInBounds_toArray, List.set_cons_zero, List.set_cons_succ, i64_w, i32_w]
            rfl
           refine one_ (i := 4) (N := some 27) #[bT9, bT9, bT9, bT9, bT9, bT9, bT9, bF9, bF9, bF9, bF9, bF9, bF9, bF9, bF9, bF9, bF9, bF9, bF9, bF9, bF9, bF9, bF9, bF9, bF9, bF9, bF9, bF9, bF9, bF9, bF9, bF9, bF9, bF9, bF9, bF9, bF9, bF9, bF9, bF9] rfl rfl (one_of HT_.out (by kernel_rfl)) (by decide) (fun K hK => ?_)
           refine goes_ Try.func21 (by kernel_rfl) rfl #[.agg #[.int .i64 t488, .slice Ao75 t489.length co75]] (by rfl) rfl rfl zq9x_29 ?_
           with_reducible refine (cenotaphlaw02_From.calls t488 _ _ t489 t499 t500 _ ?side1 ?side2 A11.out).mono ?_
           (case side1 => repeat (first | exact (Kd.R_reads' HO491.out).2.2 | (with_reducible refine Kd.C_alloc ?_ _) | (with_reducible refine Kd.C_drewN ?_ _) | (with_reducible refine Kd.C_drew ?_)))
           (case side2 => exact (Kd.R_reads' HO491.out).2.1)
           rintro e w90 ⟨v501, rfl, ho0, hb⟩
           refine ⟨_, rfl, ?_⟩
           have HO502 := Aside0.mk (Kd.R_lower (Kd.R_new' (Kd.R_new' (Kd.R_new' (Kd.R_new' (Kd.R_new' (Kd.R_new' ho0 (Kd.R_lt zq9x_37)) (Kd.R_lt zq9x_38)) (Kd.R_lt zq9x_39)) (Kd.R_lt zq9x_40)) (Kd.R_lt zq9x_41)) (Kd.R_lt zq9x_42)) (below_size zq9x_4))
           replace HO473 := Aside0.mk (Kd.R_elder' zq9x_37 (Kd.R_base ho0) hb)
           replace HO477 := Aside0.mk (Kd.R_elder' zq9x_38 (Kd.R_base ho0) hb)
           replace HO481 := Aside0.mk (Kd.R_elder' zq9x_39 (Kd.R_base ho0) hb)
           replace HO485 := Aside0.mk (Kd.R_elder' zq9x_40 (Kd.R_base ho0) hb)
           replace HO491 := Aside0.mk (Kd.R_elder' zq9x_41 (Kd.R_base ho0) hb)
           replace HO496 := Aside0.mk (Kd.R_elder' zq9x_42 (Kd.R_base ho0) hb)
           replace BK468 := Aside0.mk (blk_below (g := gb468) (o := .cells #[.int .i64 t470, .slice Ao43 t471.length co43] 30 (0, 0)) zq9x_31 hb)
           replace BK469 := Aside0.mk (blk_below (g := gb469) (o := .cells #[.int .i64 t474, .slice Ao46 t475.length co46] 30 (0, 0)) zq9x_32 hb)
           replace BK486 := Aside0.mk (blk_below (g := gb486) (o := .cells #[.int .i64 t478, .slice Ao56 t479.length co56] 24 (0, 0)) zq9x_33 hb)
           replace BK487 := Aside0.mk (blk_below (g := gb487) (o := .cells #[.int .i64 t482, .slice Ao59 t483.length co59] 24 (0, 0)) zq9x_34 hb)
           replace BK492 := Aside0.mk (blk_below (g := gb492) (o := .cells #[.int .i64 t488, .slice Ao75 t489.length co75] 24 (0, 0)) zq9x_35 hb)
           replace BK497 := Aside0.mk (blk_below (g := gb497) (o := .cells #[.int .i64 t493, .slice Ao86 t494.length co86] 24 (0, 0)) zq9x_36 hb)
           replace HB := Aside0.mk (below_step zq9x_4 hb)
           (try clear hb)
           (try clear hb2)
           (try clear hk)
           (try clear hi)
           (try clear ho0)
           refine hK.out _ _ ⟨zc_9 BK492 0, zc_9 BK492 1, zc_9 BK468 0, zc_9 BK468 1, zc_9 BK469 0, zc_9 BK469 1, zc_9 BK497 0, zc_9 BK497 1, zc_9 BK486 0, zc_9 BK486 1, zc_9 BK487 0, zc_9 BK487 1⟩ (fun hHeld => ?_)
           clear hK K
           refine norm_ (a' := ?_) ?_ ?_
           rotate_left
           ·show Act.put _ (some 27) _ = _
            simp only [Act.put, List.setIfInBounds_toArray, List.set_cons_zero, List.set_cons_succ, i64_w, i32_w]
            rfl
           refine one_ (i := 7) (N := some 30) #[bT9, bT9, bT9, bT9, bT9, bT9, bT9, bT9, bF9, bF9, bF9, bF9, bF9, bF9, bF9, bF9, bF9, bF9, bF9, bF9, bF9, bF9, bF9, bF9, bF9, bF9, bF9, bF9, bF9, bF9, bF9, bF9, bF9, bF9, bF9, bF9, bF9, bF9, bF9, bF9] rfl rfl (one_of HT_.out (by kernel_rfl)) (by decide) (fun K hK => ?_)
           refine goes_ Try.func29 (by kernel_rfl) rfl #[.agg #[.int .i64 t470, .slice Ao43 t471.length co43], .agg #[.int .i64 t474, .slice Ao46 t475.length co46]] (by rfl) rfl rfl zq9x_29 ?_
           with_reducible refine (cenotaphref02_Union.calls k t470 _ _ t471 t474 _ _ t475 t503 t504 _ ?side1 ?side2 ?side3 ?side4 A12.out).mono ?_
           (case side1 => repeat (first | exact (Kd.R_reads' HO473.out).2.2 | (with_reducible refine Kd.C_alloc ?_ _) | (with_reducible refine Kd.C_drewN ?_ _) | (with_reducible refine Kd.C_drew ?_)))
           (case side2 => exact (Kd.R_reads' HO473.out).2.1)
           (case side3 => repeat (first | exact (Kd.R_reads' HO477.out).2.2 | (with_reducible refine Kd.C_alloc ?_ _) | (with_reducible refine Kd.C_drewN ?_ _) | (with_reducible refine Kd.C_drew ?_)))
           (case side4 => exact (Kd.R_reads' HO477.out).2.1)
           rintro e w91 ⟨v505, rfl, ho0, hb⟩
           refine ⟨_, rfl, ?_⟩
           have HO506 := Aside0.mk (Kd.R_lower (Kd.R_new' (Kd.R_new' (Kd.R_new' (Kd.R_new' (Kd.R_new' (Kd.R_new' (Kd.R_new' ho0 (Kd.R_lt zq9x_37)) (Kd.R_lt zq9x_38)) (Kd.R_lt zq9x_39)) (Kd.R_lt zq9x_40)) (Kd.R_lt zq9x_41)) (Kd.R_lt zq9x_42)) (Kd.R_lt zq9x_43)) (below_size zq9x_4))
           replace HO473 := Aside0.mk (Kd.R_elder' zq9x_37 (Kd.R_base ho0) hb)
           replace HO477 := Aside0.mk (Kd.R_elder' zq9x_38 (Kd.R_base ho0) hb)
           replace HO481 := Aside0.mk (Kd.R_elder' zq9x_39 (Kd.R_base ho0) hb)
           replace HO485 := Aside0.mk (Kd.R_elder' zq9x_40 (Kd.R_base ho0) hb)
           replace HO491 := Aside0.mk (Kd.R_elder' zq9x_41 (Kd.R_base ho0) hb)
           replace HO496 := Aside0.mk (Kd.R_elder' zq9x_42 (Kd.R_base ho0) hb)
           replace HO502 := Aside0.mk (Kd.R_elder' zq9x_43 (Kd.R_base ho0) hb)
           replace BK468 := Aside0.mk (blk_below (g := gb468) (o := .cells #[.int .i64 t470, .slice Ao43 t471.length co43] 30 (0, 0)) zq9x_31 hb)
           replace BK469 := Aside0.mk (blk_below (g := gb469) (o := .cells #[.int .i64 t474, .slice Ao46 t475.length co46] 30 (0, 0)) zq9x_32 hb)
           replace BK486 := Aside0.mk (blk_below (g := gb486) (o := .cells #[.int .i64 t478, .slice Ao56 t479.length co56] 24 (0, 0)) zq9x_33 hb)
           replace BK487 := Aside0.mk (blk_below (g := gb487) (o := .cells #[.int .i64 t482, .slice Ao59 t483.length co59] 24 (0, 0)) zq9x_34 hb)
           replace BK492 := Aside0.mk (blk_below (g := gb492) (o := .cells #[.int .i64 t488, .slice Ao75 t489.length co75] 24 (0, 0)) zq9x_35 hb)
           replace BK497 := Aside0.mk (blk_below (g := gb497) (o := .cells #[.int .i64 t493, .slice Ao86 t494.length co86] 24 (0, 0)) zq9x_36 hb)
           replace HB := Aside0.mk (below_step zq9x_4 hb)
           (try clear hb)
           (try clear hb2)
           (try clear hk)
           (try clear hi)
           (try clear ho0)
           obtain ⟨Ao92, co92, eo92⟩ := Kd.R_slice HO502.out
           (first | subst eo92 | (injection eo92 with f1_ f2_ f3_; have f4_ := f1_.symm; have f5_ := f3_.symm; clear f1_ f2_ f3_; subst f4_; subst f5_))
           obtain ⟨Ao93, co93, eo93⟩ := Kd.R_slice HO506.out
           (first | subst eo93 | (injection eo93 with f1_ f2_ f3_; have f4_ := f1_.symm; have f5_ := f3_.symm; clear f1_ f2_ f3_; subst f4_; subst f5_))
           refine hK.out _ _ ⟨zc_9 BK492 0, zc_9 BK492 1, zc_9 BK468 0, zc_9 BK468 1, zc_9 BK469 0, zc_9 BK469 1, zc_9 BK497 0, zc_9 BK497 1, zc_9 BK486 0, zc_9 BK486 1, zc_9 BK487 0, zc_9 BK487 1⟩ (fun hHeld => ?_)
           clear hK K
           refine norm_ (a' := ?_) ?_ ?_
           rotate_left
           ·show Act.put _ (some 30) _ = _
            simp only [Act.put, List.setIfInBounds_toArray, List.set_cons_zero, List.set_cons_succ, i64_w, i32_w]
            rfl
           refine one_ (i := 8) (N := some 31) #[bT9, bT9, bT9, bT9, bT9, bT9, bT9, bT9, bT9, bF9, bF9, bF9, bF9, bF9, bF9, bF9, bF9, bF9, bF9, bF9, bF9, bF9, bF9, bF9, bF9, bF9, bF9, bF9, bF9, bF9, bF9, bF9, bF9, bF9, bF9, bF9, bF9, bF9, bF9, bF9] rfl rfl (one_of HT_.out (by kernel_rfl)) (by decide) (fun K hK => ?_)
           refine goes_ Try.func20 (by kernel_rfl) rfl #[.agg #[.int .i64 t499, .slice Ao92 t500.length co92], .agg #[.int .i64 t503, .slice Ao93 t504.length co93]] (by rfl) rfl rfl zq9x_29 ?_
           with_reducible refine (cenotaphref02_Same.calls k t499 _ _ t500 t503 _ _ t504 true _ ?side1 ?side2 ?side3 ?side4 A13.out).mono ?_
           (case side1 => repeat (first | exact (Kd.R_reads' HO502.out).2.2 | (with_reducible refine Kd.C_alloc ?_ _) | (with_reducible refine Kd.C_drewN ?_ _) | (with_reducible refine Kd.C_drew ?_)))
           (case side2 => exact (Kd.R_reads' HO502.out).2.1)
           (case side3 => repeat (first | exact (Kd.R_reads' HO506.out).2.2 | (with_reducible refine Kd.C_alloc ?_ _) | (with_reducible refine Kd.C_drewN ?_ _) | (with_reducible refine Kd.C_drew ?_)))
           (case side4 => exact (Kd.R_reads' HO506.out).2.1)
           rintro e w94 ⟨rfl, hb⟩
           refine ⟨_, rfl, ?_⟩
           replace HO473 := Aside0.mk (Kd.R_below zq9x_37 hb)
           replace HO477 := Aside0.mk (Kd.R_below zq9x_38 hb)
           replace HO481 := Aside0.mk (Kd.R_below zq9x_39 hb)
           replace HO485 := Aside0.mk (Kd.R_below zq9x_40 hb)
           replace HO491 := Aside0.mk (Kd.R_below zq9x_41 hb)
           replace HO496 := Aside0.mk (Kd.R_below zq9x_42 hb)
           replace HO502 := Aside0.mk (Kd.R_below zq9x_43 hb)
           replace HO506 := Aside0.mk (Kd.R_below zq9x_44 hb)
           replace BK468 := Aside0.mk (blk_below (g := gb468) (o := .cells #[.int .i64 t470, .slice Ao43 t471.length co43] 30 (0, 0)) zq9x_31 hb)
           replace BK469 := Aside0.mk (blk_below (g := gb469) (o := .cells #[.int .i64 t474, .slice Ao46 t475.length co46] 30 (0, 0)) zq9x_32 hb)
           replace BK486 := Aside0.mk (blk_below (g := gb486) (o := .cells #[.int .i64 t478, .slice Ao56 t479.length co56] 24 (0, 0)) zq9x_33 hb)
           replace BK487 := Aside0.mk (blk_below (g := gb487) (o := .cells #[.int .i64 t482, .slice Ao59 t483.length co59] 24 (0, 0)) zq9x_34 hb)
           replace BK492 := Aside0.mk (blk_below (g := gb492) (o := .cells #[.int .i64 t488, .slice Ao75 t489.length co75] 24 (0, 0)) zq9x_35 hb)
           replace BK497 := Aside0.mk (blk_below (g := gb497) (o := .cells #[.int .i64 t493, .slice Ao86 t494.length co86] 24 (0, 0)) zq9x_36 hb)
           replace HB := Aside0.mk (below_step zq9x_4 hb)
           (try clear hb)
           (try clear hb2)
           (try clear hk)
           (try clear hi)
           refine hK.out _ _ ⟨zc_9 BK492 0, zc_9 BK492 1, zc_9 BK468 0, zc_9 BK468 1, zc_9 BK469 0, zc_9 BK469 1, zc_9 BK497 0, zc_9 BK497 1, zc_9 BK486 0, zc_9 BK486 1, zc_9 BK487 0, zc_9 BK487 1⟩ (fun hHeld => ?_)
           clear hK K
           refine norm_ (a' := ?_) ?_ ?_
           rotate_left
           ·show Act.put _ (some 31) _ = _
            simp only [Act.put, List.setIfInBounds_toArray, List.set_cons_zero, List.set_cons_succ, i64_w, i32_w]
            rfl
           refine pure_ (i := 9) (N := some 32) (v := ?_) (a' := ?_) #[bT9, bT9, bT9, bT9, bT9, bT9, bT9, bT9, bT9, bT9, bF9, bF9, bF9, bF9, bF9, bF9, bF9, bF9, bF9, bF9, bF9, bF9, bF9, bF9, bF9, bF9, bF9, bF9, bF9, bF9, bF9, bF9, bF9, bF9, bF9, bF9, bF9, bF9, bF9, bF9] rfl rfl (any_of HT_.out (by kernel_rfl)) (fun _ _ _ h => h) (Or.inl ⟨by rfl, ?_⟩) ?_ ?_
           rotate_left
           ·intro w'
            go_simp
            with_reducible rfl
           rotate_left
           ·simp only [Act.put, List.setIfInBounds_toArray, List.set_cons_zero, List.set_cons_succ, i64_w, i32_w]
            rfl
           refine pure_ (i := 10) (N := some 33) (v := ?_) (a' := ?_) #[bT9, bT9, bT9, bT9, bT9, bT9, bT9, bT9, bT9, bT9, bT9, bF9, bF9, bF9, bF9, bF9, bF9, bF9, bF9, bF9, bF9, bF9, bF9, bF9, bF9, bF9, bF9, bF9, bF9, bF9, bF9, bF9, bF9, bF9, bF9, bF9, bF9, bF9, bF9, bF9] rfl rfl (any_of HT_.out (by kernel_rfl)) (fun _ _ _ h => h) (Or.inl ⟨by rfl, ?_⟩) ?_ ?_
           rotate_left
           ·intro w'
            go_simp
            with_reducible rfl
           rotate_left
           ·simp only [Act.put, List.setIfInBounds_toArray, List.set_cons_zero, List.set_cons_succ, i64_w, i32_w]
            rfl
           refine pure_ (i := 11) (N := some 34) (v := ?_) (a' := ?_) #[bT9, bT9, bT9, bT9, bT9, bT9, bT9, bT9, bT9, bT9, bT9, bT9, bF9, bF9, bF9, bF9, bF9, bF9, bF9, bF9, bF9, bF9, bF9, bF9, bF9, bF9, bF9, bF9, bF9, bF9, bF9, bF9, bF9, bF9, bF9, bF9, bF9, bF9, bF9, bF9] rfl rfl (any_of HT_.out (by kernel_rfl)) (fun _ _ _ h => h) (Or.inl ⟨by rfl, ?_⟩) ?_ ?_
           rotate_left
           ·intro w'
            go_simp
            with_reducible rfl
           rotate_left
           ·simp only [Act.put, List.setIfInBounds_toArray, List.set_cons_zero, List.set_cons_succ, i64_w, i32_w]
            rfl
           refine take_ (i := 12) (N := some 35) (v := ?_) (a' := ?_) #[bT9, bT9, bT9, bT9, bT9, bT9, bT9, bT9, bT9, bT9, bT9, bT9, bT9, bF9, bF9, bF9, bF9, bF9, bF9, bF9, bF9, bF9, bF9, bF9, bF9, bF9, bF9, bF9, bF9, bF9, bF9, bF9, bF9, bF9, bF9, bF9, bF9, bF9, bF9, bF9] rfl rfl (take_ofW HT_.out HW_.out (by kernel_rfl)) (fun _ _ _ h => h) (Or.inl ⟨by rfl, ?_⟩) hHeld ?_ ?_
           rotate_left
           ·rintro w' ⟨s0, s1, s2, s3, s4, s5, s6, s7, s8, s9, s10, s11⟩
            go_simp
            with_reducible rfl
           rotate_left
           ·simp only [Act.put, List.setIfInBounds_toArray, List.set_cons_zero, List.set_cons_succ, i64_w, i32_w]
            rfl
           refine take_ (i := 13) (N := some 36) (v := ?_) (a' := ?_) #[bT9, bT9, bT9, bT9, bT9, bT9, bT9, bT9, bT9, bT9, bT9, bT9, bT9, bT9, bF9, bF9, bF9, bF9, bF9, bF9, bF9, bF9, bF9, bF9, bF9, bF9, bF9, bF9, bF9, bF9, bF9, bF9, bF9, bF9, bF9, bF9, bF9, bF9, bF9, bF9] rfl rfl (take_ofW HT_.out HW_.out (by kernel_rfl)) (fun _ _ _ h => h) (Or.inl ⟨by rfl, ?_⟩) hHeld ?_ ?_
           rotate_left
           ·rintro w' ⟨s0, s1, s2, s3, s4, s5, s6, s7, s8, s9, s10, s11⟩
            go_simp
            with_reducible rfl
           rotate_left
           ·simp only [Act.put, List.setIfInBounds_toArray, List.set_cons_zero, List.set_cons_succ, i64_w, i32_w]
            rfl
           refine one_ (i := 14) (N := some 37) #[bT9, bT9, bT9, bT9, bT9, bT9, bT9, bT9, bT9, bT9, bT9, bT9, bT9, bT9, bT9, bF9, bF9, bF9, bF9, bF9, bF9, bF9, bF9, bF9, bF9, bF9, bF9, bF9, bF9, bF9, bF9, bF9, bF9, bF9, bF9, bF9, bF9, bF9, bF9, bF9] rfl rfl (one_of HT_.out (by kernel_rfl)) (by decide) (fun K hK => ?_)
           refine goes_ Try.func26 (by kernel_rfl) rfl #[.agg #[.int .i64 t488, .slice Ao75 t489.length co75], .agg #[.int .i64 t493, .slice Ao86 t494.length co86]] (by rfl) rfl rfl zq9x_29 ?_
           with_reducible refine (span_Same.calls k t488 _ _ t489 t493 _ _ t494 true _ ?side1 ?side2 ?side3 ?side4 A15.out).mono ?_
           (case side1 => repeat (first | exact (Kd.R_reads' HO491.out).2.2 | (with_reducible refine Kd.C_alloc ?_ _) | (with_reducible refine Kd.C_drewN ?_ _) | (with_reducible refine Kd.C_drew ?_)))
           (case side2 => exact (Kd.R_reads' HO491.out).2.1)
           (case side3 => repeat (first | exact (Kd.R_reads' HO496.out).2.2 | (with_reducible refine Kd.C_alloc ?_ _) | (with_reducible refine Kd.C_drewN ?_ _) | (with_reducible refine Kd.C_drew ?_)))
           (case side4 => exact (Kd.R_reads' HO496.out).2.1)
           rintro e w95 ⟨rfl, hb⟩
           refine ⟨_, rfl, ?_⟩
           replace HO473 := Aside0.mk (Kd.R_below zq9x_37 hb)
           replace HO477 := Aside0.mk (Kd.R_below zq9x_38 hb)
           replace HO481 := Aside0.mk (Kd.R_below zq9x_39 hb)
           replace HO485 := Aside0.mk (Kd.R_below zq9x_40 hb)
           replace HO491 := Aside0.mk (Kd.R_below zq9x_41 hb)
           replace HO496 := Aside0.mk (Kd.R_below zq9x_42 hb)
           replace HO502 := Aside0.mk (Kd.R_below zq9x_43 hb)
           replace HO506 := Aside0.mk (Kd.R_below zq9x_44 hb)
           replace BK468 := Aside0.mk (blk_below (g := gb468) (o := .cells #[.int .i64 t470, .slice Ao43 t471.length co43] 30 (0, 0)) zq9x_31 hb)
           replace BK469 := Aside0.mk (blk_below (g := gb469) (o := .cells #[.int .i64 t474, .slice Ao46 t475.length co46] 30 (0, 0)) zq9x_32 hb)
           replace BK486 := Aside0.mk (blk_below (g := gb486) (o := .cells #[.int .i64 t478, .slice Ao56 t479.length co56] 24 (0, 0)) zq9x_33 hb)
           replace BK487 := Aside0.mk (blk_below (g := gb487) (o := .cells #[.int .i64 t482, .slice Ao59 t483.length co59] 24 (0, 0)) zq9x_34 hb)
           replace BK492 := Aside0.mk (blk_below (g := gb492) (o := .cells #[.int .i64 t488, .slice Ao75 t489.length co75] 24 (0, 0)) zq9x_35 hb)
           replace BK497 := Aside0.mk (blk_below (g := gb497) (o := .cells #[.int .i64 t493, .slice Ao86 t494.length co86] 24 (0, 0)) zq9x_36 hb)
           replace HB := Aside0.mk (below_step zq9x_4 hb)
           (try clear hb)
           (try clear hb2)
           (try clear hk)
           (try clear hi)
           refine hK.out _ _ ⟨zc_9 BK492 0, zc_9 BK492 1, zc_9 BK468 0, zc_9 BK468 1, zc_9 BK469 0, zc_9 BK469 1, zc_9 BK497 0, zc_9 BK497 1, zc_9 BK486 0, zc_9 BK486 1, zc_9 BK487 0, zc_9 BK487 1⟩ (fun hHeld => ?_)
           clear hK K
           refine norm_ (a' := ?_) ?_ ?_
           rotate_left
           ·show Act.put _ (some 37) _ = _
            simp only [Act.put, List.setIfInBounds_toArray, List.set_cons_zero, List.set_cons_succ, i64_w, i32_w]
            rfl
           refine pure_ (i := 15) (N := some 38) (v := ?_) (a' := ?_) #[bT9, bT9, bT9, bT9, bT9, bT9, bT9, bT9, bT9, bT9, bT9, bT9, bT9, bT9, bT9, bT9, bF9, bF9, bF9, bF9, bF9, bF9, bF9, bF9, bF9, bF9, bF9, bF9, bF9, bF9, bF9, bF9, bF9, bF9, bF9, bF9, bF9, bF9, bF9, bF9] rfl rfl (any_of HT_.out (by kernel_rfl)) (fun _ _ _ h => h) (Or.inl ⟨by rfl, ?_⟩) ?_ ?_
           rotate_left
           ·intro w'
            go_simp
            with_reducible rfl
           rotate_left
           ·simp only [Act.put, List.setIfInBounds_toArray, List.set_cons_zero, List.set_cons_succ, i64_w, i32_w]
            rfl
           refine pure_ (i := 16) (N := some 39) (v := ?_) (a' := ?_) #[bT9, bT9, bT9, bT9, bT9, bT9, bT9, bT9, bT9, bT9, bT9, bT9, bT9, bT9, bT9, bT9, bT9, bF9, bF9, bF9, bF9, bF9, bF9, bF9, bF9, bF9, bF9, bF9, bF9, bF9, bF9, bF9, bF9, bF9, bF9, bF9, bF9, bF9, bF9, bF9] rfl rfl (any_of HT_.out (by kernel_rfl)) (fun _ _ _ h => h) (Or.inl ⟨by rfl, ?_⟩) ?_ ?_
           rotate_left
           ·intro w'
            go_simp
            with_reducible rfl
           rotate_left
           ·simp only [Act.put, List.setIfInBounds_toArray, List.set_cons_zero, List.set_cons_succ, i64_w, i32_w]
            rfl
           refine pure_ (i := 17) (N := some 40) (v := ?_) (a' := ?_) #[bT9, bT9, bT9, bT9, bT9, bT9, bT9, bT9, bT9, bT9, bT9, bT9, bT9, bT9, bT9, bT9, bT9, bT9, bF9, bF9, bF9, bF9, bF9, bF9, bF9, bF9, bF9, bF9, bF9, bF9, bF9, bF9, bF9, bF9, bF9, bF9, bF9, bF9, bF9, bF9] rfl rfl (any_of HT_.out (by kernel_rfl)) (fun _ _ _ h => h) (Or.inl ⟨by rfl, ?_⟩) ?_ ?_
           rotate_left
           ·intro w'
            go_simp
            with_reducible rfl
           rotate_left
           ·simp only [Act.put, List.setIfInBounds_toArray, List.set_cons_zero, List.set_cons_succ, i64_w, i32_w]
            rfl
           refine take_ (i := 18) (N := some 41) (v := ?_) (a' := ?_) #[bT9, bT9, bT9, bT9, bT9, bT9, bT9, bT9, bT9, bT9, bT9, bT9, bT9, bT9, bT9, bT9, bT9, bT9, bT9, bF9, bF9, bF9, bF9, bF9, bF9, bF9, bF9, bF9, bF9, bF9, bF9, bF9, bF9, bF9, bF9, bF9, bF9, bF9, bF9, bF9] rfl rfl (take_ofW HT_.out HW_.out (by kernel_rfl)) (fun _ _ _ h => h) (Or.inl ⟨by rfl, ?_⟩) hHeld ?_ ?_
           rotate_left
           ·rintro w' ⟨s0, s1, s2, s3, s4, s5, s6, s7, s8, s9, s10, s11⟩
            go_simp
            with_reducible rfl
           rotate_left
           ·simp only [Act.put, List.setIfInBounds_toArray, List.set_cons_zero, List.set_cons_succ, i64_w, i32_w]
            rfl
           refine one_ (i := 19) (N := some 42) #[bT9, bT9, bT9, bT9, bT9, bT9, bT9, bT9, bT9, bT9, bT9, bT9, bT9, bT9, bT9, bT9, bT9, bT9, bT9, bT9, bF9, bF9, bF9, bF9, bF9, bF9, bF9, bF9, bF9, bF9, bF9, bF9, bF9, bF9, bF9, bF9, bF9, bF9, bF9, bF9] rfl rfl (one_of HT_.out (by kernel_rfl)) (by decide) (fun K hK => ?_)
           refine goes_ Try.func14 (by kernel_rfl) rfl #[.agg #[.int .i64 t488, .slice Ao75 t489.length co75]] (by rfl) rfl rfl zq9x_29 ?_
           with_reducible refine (span_Right.calls k t488 _ _ t489 true _ ?side1 ?side2 A17.out).mono ?_
           (case side1 => repeat (first | exact (Kd.R_reads' HO491.out).2.2 | (with_reducible refine Kd.C_alloc ?_ _) | (with_reducible refine Kd.C_drewN ?_ _) | (with_reducible refine Kd.C_drew ?_)))
           (case side2 => exact (Kd.R_reads' HO491.out).2.1)
           rintro e w96 ⟨rfl, hb⟩
           refine ⟨_, rfl, ?_⟩
           replace HO473 := Aside0.mk (Kd.R_below zq9x_37 hb)
           replace HO477 := Aside0.mk (Kd.R_below zq9x_38 hb)
           replace HO481 := Aside0.mk (Kd.R_below zq9x_39 hb)
           replace HO485 := Aside0.mk (Kd.R_below zq9x_40 hb)
           replace HO491 := Aside0.mk (Kd.R_below zq9x_41 hb)
           replace HO496 := Aside0.mk (Kd.R_below zq9x_42 hb)
           replace HO502 := Aside0.mk (Kd.R_below zq9x_43 hb)
           replace HO506 := Aside0.mk (Kd.R_below zq9x_44 hb)
           replace BK468 := Aside0.mk (blk_below (g := gb468) (o := .cells #[.int .i64 t470, .slice Ao43 t471.length co43] 30 (0, 0)) zq9x_31 hb)
           replace BK469 := Aside0.mk (blk_below (g := gb469) (o := .cells #[.int .i64 t474, .slice Ao46 t475.length co46] 30 (0, 0)) zq9x_32 hb)
           replace BK486 := Aside0.mk (blk_below (g := gb486) (o := .cells #[.int .i64 t478, .slice Ao56 t479.length co56] 24 (0, 0)) zq9x_33 hb)
           replace BK487 := Aside0.mk (blk_below (g := gb487) (o := .cells #[.int .i64 t482, .slice Ao59 t483.length co59] 24 (0, 0)) zq9x_34 hb)
           replace BK492 := Aside0.mk (blk_below (g := gb492) (o := .cells #[.int .i64 t488, .slice Ao75 t489.length co75] 24 (0, 0)) zq9x_35 hb)
           replace BK497 := Aside0.mk (blk_below (g := gb497) (o := .cells #[.int .i64 t493, .slice Ao86 t494.length co86] 24 (0, 0)) zq9x_36 hb)
           replace HB := Aside0.mk (below_step zq9x_4 hb)
           (try clear hb)
           (try clear hb2)
           (try clear hk)
           (try clear hi)
           refine hK.out _ _ ⟨zc_9 BK492 0, zc_9 BK492 1, zc_9 BK468 0, zc_9 BK468 1, zc_9 BK469 0, zc_9 BK469 1, zc_9 BK497 0, zc_9 BK497 1, zc_9 BK486 0, zc_9 BK486 1, zc_9 BK487 0, zc_9 BK487 1⟩ (fun hHeld => ?_)
           clear hK K
           refine norm_ (a' := ?_) ?_ ?_
           rotate_left
           ·show Act.put _ (some 42) _ = _
            simp only [Act.put, List.setIfInBounds_toArray, List.set_cons_zero, List.set_cons_succ, i64_w, i32_w]
            rfl
           refine pure_ (i := 20) (N := some 43) (v := ?_) (a' := ?_) #[bT9, bT9, bT9, bT9, bT9, bT9, bT9, bT9, bT9, bT9, bT9, bT9, bT9, bT9, bT9, bT9, bT9, bT9, bT9, bT9, bT9, bF9, bF9, bF9, bF9, bF9, bF9, bF9, bF9, bF9, bF9, bF9, bF9, bF9, bF9, bF9, bF9, bF9, bF9, bF9] rfl rfl (any_of HT_.out (by kernel_rfl)) (fun _ _ _ h => h) (Or.inl ⟨by rfl, ?_⟩) ?_ ?_
           rotate_left
           ·intro w'
            go_simp
            with_reducible rfl
           rotate_left
           ·simp only [Act.put, List.setIfInBounds_toArray, List.set_cons_zero, List.set_cons_succ, i64_w, i32_w]
            rfl
           refine pure_ (i := 21) (N := some 44) (v := ?_) (a' := ?_) #[bT9, bT9, bT9, bT9, bT9, bT9, bT9, bT9, bT9, bT9, bT9, bT9, bT9, bT9, bT9, bT9, bT9, bT9, bT9, bT9, bT9, bT9, bF9, bF9, bF9, bF9, bF9, bF9, bF9, bF9, bF9, bF9, bF9, bF9, bF9, bF9, bF9, bF9, bF9, bF9] rfl rfl (any_of HT_.out (by kernel_rfl)) (fun _ _ _ h => h) (Or.inl ⟨by rfl, ?_⟩) ?_ ?_
           rotate_left
           ·intro w'
            go_simp
            with_reducible rfl
           rotate_left
           ·simp only [Act.put, List.setIfInBounds_toArray, List.set_cons_zero, List.set_cons_succ, i64_w, i32_w]
            rfl
           refine pure_ (i := 22) (N := some 45) (v := ?_) (a' := ?_) #[bT9, bT9, bT9, bT9, bT9, bT9, bT9, bT9, bT9, bT9, bT9, bT9, bT9, bT9, bT9, bT9, bT9, bT9, bT9, bT9, bT9, bT9, bT9, bF9, bF9, bF9, bF9, bF9, bF9, bF9, bF9, bF9, bF9, bF9, bF9, bF9, bF9, bF9, bF9, bF9] rfl rfl (any_of HT_.out (by kernel_rfl)) (fun _ _ _ h => h) (Or.inl ⟨by rfl, ?_⟩) ?_ ?_
           rotate_left
           ·intro w'
            go_simp
            with_reducible rfl
           rotate_left
           ·simp only [Act.put, List.setIfInBounds_toArray, List.set_cons_zero, List.set_cons_succ, i64_w, i32_w]
            rfl
           refine take_ (i := 23) (N := some 46) (v := ?_) (a' := ?_) #[bT9, bT9, bT9, bT9, bT9, bT9, bT9, bT9, bT9, bT9, bT9, bT9, bT9, bT9, bT9, bT9, bT9, bT9, bT9, bT9, bT9, bT9, bT9, bT9, bF9, bF9, bF9, bF9, bF9, bF9, bF9, bF9, bF9, bF9, bF9, bF9, bF9, bF9, bF9, bF9] rfl rfl (take_ofW HT_.out HW_.out (by kernel_rfl)) (fun _ _ _ h => h) (Or.inl ⟨by rfl, ?_⟩) hHeld ?_ ?_
           rotate_left
           ·rintro w' ⟨s0, s1, s2, s3, s4, s5, s6, s7, s8, s9, s10, s11⟩
            go_simp
            with_reducible rfl
           rotate_left
           ·simp only [Act.put, List.setIfInBounds_toArray, List.set_cons_zero, List.set_cons_succ, i64_w, i32_w]
            rfl
           refine take_ (i := 24) (N := some 47) (v := ?_) (a' := ?_) #[bT9, bT9, bT9, bT9, bT9, bT9, bT9, bT9, bT9, bT9, bT9, bT9, bT9, bT9, bT9, bT9, bT9, bT9, bT9, bT9, bT9, bT9, bT9, bT9, bT9, bF9, bF9, bF9, bF9, bF9, bF9, bF9, bF9, bF9, bF9, bF9, bF9, bF9, bF9, bF9] rfl rfl (take_ofW HT_.out HW_.out (by kernel_rfl)) (fun _ _ _ h => h) (Or.inl ⟨by rfl, ?_⟩) hHeld ?_ ?_
           rotate_left
           ·rintro w' ⟨s0, s1, s2, s3, s4, s5, s6, s7, s8, s9, s10, s11⟩
            go_simp
            with_reducible rfl
           rotate_left
           ·simp only [Act.put, List.setIfInBounds_toArray, List.set_cons_zero, List.set_cons_succ, i64_w, i32_w]
            rfl
           refine take_ (i := 26) (N := some 49) (v := ?_) (a' := ?_) #[bT9, bT9, bT9, bT9, bT9, bT9, bT9, bT9, bT9, bT9, bT9, bT9, bT9, bT9, bT9, bT9, bT9, bT9, bT9, bT9, bT9, bT9, bT9, bT9, bT9, bF9, bT9, bF9, bF9, bF9, bF9, bF9, bF9, bF9, bF9, bF9, bF9, bF9, bF9, bF9] rfl rfl (take_ofW HT_.out HW_.out (by kernel_rfl)) (fun _ _ _ h => h) (Or.inl ⟨by rfl, ?_⟩) hHeld ?_ ?_
           rotate_left
           ·rintro w' ⟨s0, s1, s2, s3, s4, s5, s6, s7, s8, s9, s10, s11⟩
            go_simp
            with_reducible rfl
           rotate_left
           ·simp only [Act.put, List.setIfInBounds_toArray, List.set_cons_zero, List.set_cons_succ, i64_w, i32_w]
            rfl
           refine take_ (i := 27) (N := some 50) (v := ?_) (a' := ?_) #[bT9, bT9, bT9, bT9, bT9, bT9, bT9, bT9, bT9, bT9, bT9, bT9, bT9, bT9, bT9, bT9, bT9, bT9, bT9, bT9, bT9, bT9, bT9, bT9, bT9, bF9, bT9, bT9, bF9, bF9, bF9, bF9, bF9, bF9, bF9, bF9, bF9, bF9, bF9, bF9] rfl rfl (take_ofW HT_.out HW_.out (by kernel_rfl)) (fun _ _ _ h => h) (Or.inl ⟨by rfl, ?_⟩) hHeld ?_ ?_
           rotate_left
           ·rintro w' ⟨s0, s1, s2, s3, s4, s5, s6, s7, s8, s9, s10, s11⟩
            go_simp
            with_reducible rfl
           rotate_left
           ·simp only [Act.put, List.setIfInBounds_toArray, List.set_cons_zero, List.set_cons_succ, i64_w, i32_w]
            rfl
           refine one_ (i := 25) (N := some 48) #[bT9, bT9, bT9, bT9, bT9, bT9, bT9, bT9, bT9, bT9, bT9, bT9, bT9, bT9, bT9, bT9, bT9, bT9, bT9, bT9, bT9, bT9, bT9, bT9, bT9, bT9, bT9, bT9, bF9, bF9, bF9, bF9, bF9, bF9, bF9, bF9, bF9, bF9, bF9, bF9] rfl rfl (one_of HT_.out (by kernel_rfl)) (by decide) (fun K hK => ?_)
           refine goes_ Try.func28 (by kernel_rfl) rfl #[.agg #[.int .i64 t478, .slice Ao56 t479.length co56], .agg #[.int .i64 t482, .slice Ao59 t483.length co59]] (by rfl) rfl rfl zq9x_29 ?_
           with_reducible refine (span_Within.calls k t478 _ _ t479 t482 _ _ t483 t510 _ ?side1 ?side2 ?side3 ?side4 A19.out).mono ?_
           (case side1 => repeat (first | exact (Kd.R_reads' HO481.out).2.2 | (with_reducible refine Kd.C_alloc ?_ _) | (with_reducible refine Kd.C_drewN ?_ _) | (with_reducible refine Kd.C_drew ?_)))
           (case side2 => exact (Kd.R_reads' HO481.out).2.1)
           (case side3 => repeat (first | exact (Kd.R_reads' HO485.out).2.2 | (with_reducible refine Kd.C_alloc ?_ _) | (with_reducible refine Kd.C_drewN ?_ _) | (with_reducible refine Kd.C_drew ?_)))
           (case side4 => exact (Kd.R_reads' HO485.out).2.1)
           rintro e w97 ⟨rfl, hb⟩
           refine ⟨_, rfl, ?_⟩
           replace HO473 := Aside0.mk (Kd.R_below zq9x_37 hb)
           replace HO477 := Aside0.mk (Kd.R_below zq9x_38 hb)
           replace HO481 := Aside0.mk (Kd.R_below zq9x_39 hb)
           replace HO485 := Aside0.mk (Kd.R_below zq9x_40 hb)
           replace HO491 := Aside0.mk (Kd.R_below zq9x_41 hb)
           replace HO496 := Aside0.mk (Kd.R_below zq9x_42 hb)
           replace HO502 := Aside0.mk (Kd.R_below zq9x_43 hb)
           replace HO506 := Aside0.mk (Kd.R_below zq9x_44 hb)
           replace BK468 := Aside0.mk (blk_below (g := gb468) (o := .cells #[.int .i64 t470, .slice Ao43 t471.length co43] 30 (0, 0)) zq9x_31 hb)
           replace BK469 := Aside0.mk (blk_below (g := gb469) (o := .cells #[.int .i64 t474, .slice Ao46 t475.length co46] 30 (0, 0)) zq9x_32 hb)
           replace BK486 := Aside0.mk (blk_below (g := gb486) (o := .cells #[.int .i64 t478, .slice Ao56 t479.length co56] 24 (0, 0)) zq9x_33 hb)
           replace BK487 := Aside0.mk (blk_below (g := gb487) (o := .cells #[.int .i64 t482, .slice Ao59 t483.length co59] 24 (0, 0)) zq9x_34 hb)
           replace BK492 := Aside0.mk (blk_below (g := gb492) (o := .cells #[.int .i64 t488, .slice Ao75 t489.length co75] 24 (0, 0)) zq9x_35 hb)
           replace BK497 := Aside0.mk (blk_below (g := gb497) (o := .cells #[.int .i64 t493, .slice Ao86 t494.length co86] 24 (0, 0)) zq9x_36 hb)
           replace HB := Aside0.mk (below_step zq9x_4 hb)
           (try clear hb)
           (try clear hb2)
           (try clear hk)
           (try clear hi)
           refine hK.out _ _ ⟨zc_9 BK492 0, zc_9 BK492 1, zc_9 BK468 0, zc_9 BK468 1, zc_9 BK469 0, zc_9 BK469 1, zc_9 BK497 0, zc_9 BK497 1, zc_9 BK486 0, zc_9 BK486 1, zc_9 BK487 0, zc_9 BK487 1⟩ (fun hHeld => ?_)
           clear hK K
           refine norm_ (a' := ?_) ?_ ?_
           rotate_left
           ·show Act.put _ (some 48) _ = _
            simp only [Act.put, List.setIfInBounds_toArray, List.set_cons_zero, List.set_cons_succ, i64_w, i32_w]
            rfl
           refine one_ (i := 28) (N := some 51) #[bT9, bT9, bT9, bT9, bT9, bT9, bT9, bT9, bT9, bT9, bT9, bT9, bT9, bT9, bT9, bT9, bT9, bT9, bT9, bT9, bT9, bT9, bT9, bT9, bT9, bT9, bT9, bT9, bT9, bF9, bF9, bF9, bF9, bF9, bF9, bF9, bF9, bF9, bF9, bF9] rfl rfl (one_of HT_.out (by kernel_rfl)) (by decide) (fun K hK => ?_)
           refine goes_ Try.func30 (by kernel_rfl) rfl #[.agg #[.int .i64 t470, .slice Ao43 t471.length co43], .agg #[.int .i64 t474, .slice Ao46 t475.length co46]] (by rfl) rfl rfl zq9x_29 ?_
           with_reducible refine (cenotaphref02_Within.calls k t470 _ _ t471 t474 _ _ t475 t511 _ ?side1 ?side2 ?side3 ?side4 A20.out).mono ?_
           (case side1 => repeat (first | exact (Kd.R_reads' HO473.out).2.2 | (with_reducible refine Kd.C_alloc ?_ _) | (with_reducible refine Kd.C_drewN ?_ _) | (with_reducible refine Kd.C_drew ?_)))
           (case side2 => exact (Kd.R_reads' HO473.out).2.1)
           (case side3 => repeat (first | exact (Kd.R_reads' HO477.out).2.2 | (with_reducible refine Kd.C_alloc ?_ _) | (with_reducible refine Kd.C_drewN ?_ _) | (with_reducible refine Kd.C_drew ?_)))
           (case side4 => exact (Kd.R_reads' HO477.out).2.1)
           rintro e w98 ⟨rfl, hb⟩
           refine ⟨_, rfl, ?_⟩
           replace HO473 := Aside0.mk (Kd.R_below zq9x_37 hb)
           replace HO477 := Aside0.mk (Kd.R_below zq9x_38 hb)
           replace HO481 := Aside0.mk (Kd.R_below zq9x_39 hb)
           replace HO485 := Aside0.mk (Kd.R_below zq9x_40 hb)
           replace HO491 := Aside0.mk (Kd.R_below zq9x_41 hb)
           replace HO496 := Aside0.mk (Kd.R_below zq9x_42 hb)
           replace HO502 := Aside0.mk (Kd.R_below zq9x_43 hb)
           replace HO506 := Aside0.mk (Kd.R_below zq9x_44 hb)
           replace BK468 := Aside0.mk (blk_below (g := gb468) (o := .cells #[.int .i64 t470, .slice Ao43 t471.length co43] 30 (0, 0)) zq9x_31 hb)
           replace BK469 := Aside0.mk (blk_below (g := gb469) (o := .cells #[.int .i64 t474, .slice Ao46 t475.length co46] 30 (0, 0)) zq9x_32 hb)
           replace BK486 := Aside0.mk (blk_below (g := gb486) (o := .cells #[.int .i64 t478, .slice Ao56 t479.length co56] 24 (0, 0)) zq9x_33 hb)
           replace BK487 := Aside0.mk (blk_below (g := gb487) (o := .cells #[.int .i64 t482, .slice Ao59 t483.length co59] 24 (0, 0)) zq9x_34 hb)
           replace BK492 := Aside0.mk (blk_below (g := gb492) (o := .cells #[.int .i64 t488, .slice Ao75 t489.length co75] 24 (0, 0)) zq9x_35 hb)
           replace BK497 := Aside0.mk (blk_below (g := gb497) (o := .cells #[.int .i64 t493, .slice Ao86 t494.length co86] 24 (0, 0)) zq9x_36 hb)
           replace HB := Aside0.mk (below_step zq9x_4 hb)
           (try clear hb)
           (try clear hb2)
           (try clear hk)
           (try clear hi)
           refine hK.out _ _ ⟨zc_9 BK492 0, zc_9 BK492 1, zc_9 BK468 0, zc_9 BK468 1, zc_9 BK469 0, zc_9 BK469 1, zc_9 BK497 0, zc_9 BK497 1, zc_9 BK486 0, zc_9 BK486 1, zc_9 BK487 0, zc_9 BK487 1⟩ (fun hHeld => ?_)
           clear hK K
           refine norm_ (a' := ?_) ?_ ?_
           rotate_left
           ·show Act.put _ (some 51) _ = _
            simp only [Act.put, List.setIfInBounds_toArray, List.set_cons_zero, List.set_cons_succ, i64_w, i32_w]
            rfl
           refine pure_ (i := 29) (N := some 52) (v := ?_) (a' := ?_) #[bT9, bT9, bT9, bT9, bT9, bT9, bT9, bT9, bT9, bT9, bT9, bT9, bT9, bT9, bT9, bT9, bT9, bT9, bT9, bT9, bT9, bT9, bT9, bT9, bT9, bT9, bT9, bT9, bT9, bT9, bF9, bF9, bF9, bF9, bF9, bF9, bF9, bF9, bF9, bF9] rfl rfl (any_of HT_.out (by kernel_rfl)) (fun _ _ _ h => h) (Or.inl ⟨by rfl, ?_⟩) ?_ ?_
           rotate_left
           ·intro w'
            go_simp
            with_reducible rfl
           rotate_left
           ·simp only [Act.put, List.setIfInBounds_toArray, List.set_cons_zero, List.set_cons_succ, i64_w, i32_w]
            rfl
           refine pure_ (i := 30) (N := some 53) (v := ?_) (a' := ?_) #[bT9, bT9, bT9, bT9, bT9, bT9, bT9, bT9, bT9, bT9, bT9, bT9, bT9, bT9, bT9, bT9, bT9, bT9, bT9, bT9, bT9, bT9, bT9, bT9, bT9, bT9, bT9, bT9, bT9, bT9, bT9, bF9, bF9, bF9, bF9, bF9, bF9, bF9, bF9, bF9] rfl rfl (any_of HT_.out (by kernel_rfl)) (fun _ _ _ h => h) (Or.inl ⟨by rfl, ?_⟩) ?_ ?_
           rotate_left
           ·intro w'
            go_simp
            with_reducible rfl
           rotate_left
           ·simp only [Act.put, List.setIfInBounds_toArray, List.set_cons_zero, List.set_cons_succ, i64_w, i32_w]
            rfl
           refine pure_ (i := 31) (N := some 54) (v := ?_) (a' := ?_) #[bT9, bT9, bT9, bT9, bT9, bT9, bT9, bT9, bT9, bT9, bT9, bT9, bT9, bT9, bT9, bT9, bT9, bT9, bT9, bT9, bT9, bT9, bT9, bT9, bT9, bT9, bT9, bT9, bT9, bT9, bT9, bT9, bF9, bF9, bF9, bF9, bF9, bF9, bF9, bF9] rfl rfl (any_of HT_.out (by kernel_rfl)) (fun _ _ _ h => h) (Or.inl ⟨by rfl, ?_⟩) ?_ ?_
           rotate_left
           ·intro w'
            go_simp
            with_reducible rfl
           rotate_left
           ·simp only [Act.put, List.setIfInBounds_toArray, List.set_cons_zero, List.set_cons_succ, i64_w, i32_w]
            rfl
           refine take_ (i := 32) (N := some 55) (v := ?_) (a' := ?_) #[bT9, bT9, bT9, bT9, bT9, bT9, bT9, bT9, bT9, bT9, bT9, bT9, bT9, bT9, bT9, bT9, bT9, bT9, bT9, bT9, bT9, bT9, bT9, bT9, bT9, bT9, bT9, bT9, bT9, bT9, bT9, bT9, bT9, bF9, bF9, bF9, bF9, bF9, bF9, bF9] rfl rfl (take_ofW HT_.out HW_.out (by kernel_rfl)) (fun _ _ _ h => h) (Or.inl ⟨by rfl, ?_⟩) hHeld ?_ ?_
           rotate_left
           ·rintro w' ⟨s0, s1, s2, s3, s4, s5, s6, s7, s8, s9, s10, s11⟩
            go_simp
            with_reducible rfl
           rotate_left
           ·simp only [Act.put, List.setIfInBounds_toArray, List.set_cons_zero, List.set_cons_succ, i64_w, i32_w]
            rfl
           refine take_ (i := 33) (N := some 56) (v := ?_) (a' := ?_) #[bT9, bT9, bT9, bT9, bT9, bT9, bT9, bT9, bT9, bT9, bT9, bT9, bT9, bT9, bT9, bT9, bT9, bT9, bT9, bT9, bT9, bT9, bT9, bT9, bT9, bT9, bT9, bT9, bT9, bT9, bT9, bT9, bT9, bT9, bF9, bF9, bF9, bF9, bF9, bF9] rfl rfl (take_ofW HT_.out HW_.out (by kernel_rfl)) (fun _ _ _ h => h) (Or.inl ⟨by rfl, ?_⟩) hHeld ?_ ?_
           rotate_left
           ·rintro w' ⟨s0, s1, s2, s3, s4, s5, s6, s7, s8, s9, s10, s11⟩
            go_simp
            with_reducible rfl
           rotate_left
           ·simp only [Act.put, List.setIfInBounds_toArray, List.set_cons_zero, List.set_cons_succ, i64_w, i32_w]
            rfl
           refine take_ (i := 35) (N := some 58) (v := ?_) (a' := ?_) #[bT9, bT9, bT9, bT9, bT9, bT9, bT9, bT9, bT9, bT9, bT9, bT9, bT9, bT9, bT9, bT9, bT9, bT9, bT9, bT9, bT9, bT9, bT9, bT9, bT9, bT9, bT9, bT9, bT9, bT9, bT9, bT9, bT9, bT9, bF9, bT9, bF9, bF9, bF9, bF9] rfl rfl (take_ofW HT_.out HW_.out (by kernel_rfl)) (fun _ _ _ h => h) (Or.inl ⟨by rfl, ?_⟩) hHeld ?_ ?_
           rotate_left
           ·rintro w' ⟨s0, s1, s2, s3, s4, s5, s6, s7, s8, s9, s10, s11⟩
            go_simp
            with_reducible rfl
           rotate_left
           ·simp only [Act.put, List.setIfInBounds_toArray, List.set_cons_zero, List.set_cons_succ, i64_w, i32_w]
            rfl
           refine take_ (i := 36) (N := some 59) (v := ?_) (a' := ?_) #[bT9, bT9, bT9, bT9, bT9, bT9, bT9, bT9, bT9, bT9, bT9, bT9, bT9, bT9, bT9, bT9, bT9, bT9, bT9, bT9, bT9, bT9, bT9, bT9, bT9, bT9, bT9, bT9, bT9, bT9, bT9, bT9, bT9, bT9, bF9, bT9, bT9, bF9, bF9, bF9] rfl rfl (take_ofW HT_.out HW_.out (by kernel_rfl)) (fun _ _ _ h => h) (Or.inl ⟨by rfl, ?_⟩) hHeld ?_ ?_
           rotate_left
           ·rintro w' ⟨s0, s1, s2, s3, s4, s5, s6, s7, s8, s9, s10, s11⟩
            go_simp
            with_reducible rfl
           rotate_left
           ·simp only [Act.put, List.setIfInBounds_toArray, List.set_cons_zero, List.set_cons_succ, i64_w, i32_w]
            rfl
           refine one_ (i := 34) (N := some 57) #[bT9, bT9, bT9, bT9, bT9, bT9, bT9, bT9, bT9, bT9, bT9, bT9, bT9, bT9, bT9, bT9, bT9, bT9, bT9, bT9, bT9, bT9, bT9, bT9, bT9, bT9, bT9, bT9, bT9, bT9, bT9, bT9, bT9, bT9, bT9, bT9, bT9, bF9, bF9, bF9] rfl rfl (one_of HT_.out (by kernel_rfl)) (by decide) (fun K hK => ?_)
           refine goes_ Try.func26 (by kernel_rfl) rfl #[.agg #[.int .i64 t478, .slice Ao56 t479.length co56], .agg #[.int .i64 t482, .slice Ao59 t483.length co59]] (by rfl) rfl rfl zq9x_29 ?_
           with_reducible refine (span_Same.calls k t478 _ _ t479 t482 _ _ t483 t512 _ ?side1 ?side2 ?side3 ?side4 A22.out).mono ?_
           (case side1 => repeat (first | exact (Kd.R_reads' HO481.out).2.2 | (with_reducible refine Kd.C_alloc ?_ _) | (with_reducible refine Kd.C_drewN ?_ _) | (with_reducible refine Kd.C_drew ?_)))
           (case side2 => exact (Kd.R_reads' HO481.out).2.1)
           (case side3 => repeat (first | exact (Kd.R_reads' HO485.out).2.2 | (with_reducible refine Kd.C_alloc ?_ _) | (with_reducible refine Kd.C_drewN ?_ _) | (with_reducible refine Kd.C_drew ?_)))
           (case side4 => exact (Kd.R_reads' HO485.out).2.1)
           rintro e w99 ⟨rfl, hb⟩
           refine ⟨_, rfl, ?_⟩
           replace HO473 := Aside0.mk (Kd.R_below zq9x_37 hb)
           replace HO477 := Aside0.mk (Kd.R_below zq9x_38 hb)
           replace HO481 := Aside0.mk (Kd.R_below zq9x_39 hb)
           replace HO485 := Aside0.mk (Kd.R_below zq9x_40 hb)
           replace HO491 := Aside0.mk (Kd.R_below zq9x_41 hb)
           replace HO496 := Aside0.mk (Kd.R_below zq9x_42 hb)
           replace HO502 := Aside0.mk (Kd.R_below zq9x_43 hb)
           replace HO506 := Aside0.mk (Kd.R_below zq9x_44 hb)
           replace BK468 := Aside0.mk (blk_below (g := gb468) (o := .cells #[.int .i64 t470, .slice Ao43 t471.length co43] 30 (0, 0)) zq9x_31 hb)
           replace BK469 := Aside0.mk (blk_below (g := gb469) (o := .cells #[.int .i64 t474, .slice Ao46 t475.length co46] 30 (0, 0)) zq9x_32 hb)
           replace BK486 := Aside0.mk (blk_below (g := gb486) (o := .cells #[.int .i64 t478, .slice Ao56 t479.length co56] 24 (0, 0)) zq9x_33 hb)
           replace BK487 := Aside0.mk (blk_below (g := gb487) (o := .cells #[.int .i64 t482, .slice Ao59 t483.length co59] 24 (0, 0)) zq9x_34 hb)
           replace BK492 := Aside0.mk (blk_below (g := gb492) (o := .cells #[.int .i64 t488, .slice Ao75 t489.length co75] 24 (0, 0)) zq9x_35 hb)
           replace BK497 := Aside0.mk (blk_below (g := gb497) (o := .cells #[.int .i64 t493, .slice Ao86 t494.length co86] 24 (0, 0)) zq9x_36 hb)
           replace HB := Aside0.mk (below_step zq9x_4 hb)
           (try clear hb)
           (try clear hb2)
           (try clear hk)
           (try clear hi)
           refine hK.out _ _ ⟨zc_9 BK492 0, zc_9 BK492 1, zc_9 BK468 0, zc_9 BK468 1, zc_9 BK469 0, zc_9 BK469 1, zc_9 BK497 0, zc_9 BK497 1, zc_9 BK486 0, zc_9 BK486 1, zc_9 BK487 0, zc_9 BK487 1⟩ (fun hHeld => ?_)
           clear hK K
           refine norm_ (a' := ?_) ?_ ?_
           rotate_left
           ·show Act.put _ (some 57) _ = _
            simp only [Act.put, List.setIfInBounds_toArray, List.set_cons_zero, List.set_cons_succ, i64_w, i32_w]
            rfl
           refine one_ (i := 37) (N := some 60) #[bT9, bT9, bT9, bT9, bT9, bT9, bT9, bT9, bT9, bT9, bT9, bT9, bT9, bT9, bT9, bT9, bT9, bT9, bT9, bT9, bT9, bT9, bT9, bT9, bT9, bT9, bT9, bT9, bT9, bT9, bT9, bT9, bT9, bT9, bT9, bT9, bT9, bT9, bF9, bF9] rfl rfl (one_of HT_.out (by kernel_rfl)) (by decide) (fun K hK => ?_)
           refine goes_ Try.func20 (by kernel_rfl) rfl #[.agg #[.int .i64 t470, .slice Ao43 t471.length co43], .agg #[.int .i64 t474, .slice Ao46 t475.length co46]] (by rfl) rfl rfl zq9x_29 ?_
           with_reducible refine (cenotaphref02_Same.calls k t470 _ _ t471 t474 _ _ t475 t513 _ ?side1 ?side2 ?side3 ?side4 A23.out).mono ?_
           (case side1 => repeat (first | exact (Kd.R_reads' HO473.out).2.2 | (with_reducible refine Kd.C_alloc ?_ _) | (with_reducible refine Kd.C_drewN ?_ _) | (with_reducible refine Kd.C_drew ?_)))
           (case side2 => exact (Kd.R_reads' HO473.out).2.1)
           (case side3 => repeat (first | exact (Kd.R_reads' HO477.out).2.2 | (with_reducible refine Kd.C_alloc ?_ _) | (with_reducible refine Kd.C_drewN ?_ _) | (with_reducible refine Kd.C_drew ?_)))
           (case side4 => exact (Kd.R_reads' HO477.out).2.1)
           rintro e w100 ⟨rfl, hb⟩
           refine ⟨_, rfl, ?_⟩
           replace HO473 := Aside0.mk (Kd.R_below zq9x_37 hb)
           replace HO477 := Aside0.mk (Kd.R_below zq9x_38 hb)
           replace HO481 := Aside0.mk (Kd.R_below zq9x_39 hb)
           replace HO485 := Aside0.mk (Kd.R_below zq9x_40 hb)
           replace HO491 := Aside0.mk (Kd.R_below zq9x_41 hb)
           replace HO496 := Aside0.mk (Kd.R_below zq9x_42 hb)
           replace HO502 := Aside0.mk (Kd.R_below zq9x_43 hb)
           replace HO506 := Aside0.mk (Kd.R_below zq9x_44 hb)
           replace BK468 := Aside0.mk (blk_below (g := gb468) (o := .cells #[.int .i64 t470, .slice Ao43 t471.length co43] 30 (0, 0)) zq9x_31 hb)
           replace BK469 := Aside0.mk (blk_below (g := gb469) (o := .cells #[.int .i64 t474, .slice Ao46 t475.length co46] 30 (0, 0)) zq9x_32 hb)
           replace BK486 := Aside0.mk (blk_below (g := gb486) (o := .cells #[.int .i64 t478, .slice Ao56 t479.length co56] 24 (0, 0)) zq9x_33 hb)
           replace BK487 := Aside0.mk (blk_below (g := gb487) (o := .cells #[.int .i64 t482, .slice Ao59 t483.length co59] 24 (0, 0)) zq9x_34 hb)
           replace BK492 := Aside0.mk (blk_below (g := gb492) (o := .cells #[.int .i64 t488, .slice Ao75 t489.length co75] 24 (0, 0)) zq9x_35 hb)
           replace BK497 := Aside0.mk (blk_below (g := gb497) (o := .cells #[.int .i64 t493, .slice Ao86 t494.length co86] 24 (0, 0)) zq9x_36 hb)
           replace HB := Aside0.mk (below_step zq9x_4 hb)
           (try clear hb)
           (try clear hb2)
           (try clear hk)
           (try clear hi)
           refine hK.out _ _ ⟨zc_9 BK492 0, zc_9 BK492 1, zc_9 BK468 0, zc_9 BK468 1, zc_9 BK469 0, zc_9 BK469 1, zc_9 BK497 0, zc_9 BK497 1, zc_9 BK486 0, zc_9 BK486 1, zc_9 BK487 0, zc_9 BK487 1⟩ (fun hHeld => ?_)
           clear hK K
           refine norm_ (a' := ?_) ?_ ?_
           rotate_left
           ·show Act.put _ (some 60) _ = _
            simp only [Act.put, List.setIfInBounds_toArray, List.set_cons_zero, List.set_cons_succ, i64_w, i32_w]
            rfl
           refine pure_ (i := 38) (N := some 61) (v := ?_) (a' := ?_) #[bT9, bT9, bT9, bT9, bT9, bT9, bT9, bT9, bT9, bT9, bT9, bT9, bT9, bT9, bT9, bT9, bT9, bT9, bT9, bT9, bT9, bT9, bT9, bT9, bT9, bT9, bT9, bT9, bT9, bT9, bT9, bT9, bT9, bT9, bT9, bT9, bT9, bT9, bT9, bF9] rfl rfl (any_of HT_.out (by kernel_rfl)) (fun _ _ _ h => h) (Or.inl ⟨by rfl, ?_⟩) ?_ ?_
           rotate_left
           ·intro w'
            go_simp
            with_reducible rfl
           rotate_left
           ·simp only [Act.put, List.setIfInBounds_toArray, List.set_cons_zero, List.set_cons_succ, i64_w, i32_w]
            rfl
           refine pure_ (i := 39) (N := some 62) (v := ?_) (a' := ?_) #[bT9, bT9, bT9, bT9, bT9, bT9, bT9, bT9, bT9, bT9, bT9, bT9, bT9, bT9, bT9, bT9, bT9, bT9, bT9, bT9, bT9, bT9, bT9, bT9, bT9, bT9, bT9, bT9, bT9, bT9, bT9, bT9, bT9, bT9, bT9, bT9, bT9, bT9, bT9, bT9] rfl rfl (any_of HT_.out (by kernel_rfl)) (fun _ _ _ h => h) (Or.inl ⟨by rfl, ?_⟩) ?_ ?_
           rotate_left
           ·intro w'
            go_simp
            with_reducible rfl
           rotate_left
           ·simp only [Act.put, List.setIfInBounds_toArray, List.set_cons_zero, List.set_cons_succ, i64_w, i32_w]
            rfl
           refine done_ (done_of HT_.out (by kernel_rfl)) ?_
           try go_wp2
           replace HO473 := Aside0.mk (Kd.R_drew HO473.out)
           replace HO477 := Aside0.mk (Kd.R_drew HO477.out)
           replace HO481 := Aside0.mk (Kd.R_drew HO481.out)
           replace HO485 := Aside0.mk (Kd.R_drew HO485.out)
           replace HO491 := Aside0.mk (Kd.R_drew HO491.out)
           replace HO496 := Aside0.mk (Kd.R_drew HO496.out)
           replace HO502 := Aside0.mk (Kd.R_drew HO502.out)
           replace HO506 := Aside0.mk (Kd.R_drew HO506.out)
           replace BK468 := Aside0.mk (blk_drew BK468.out)
           replace BK469 := Aside0.mk (blk_drew BK469.out)
           replace BK486 := Aside0.mk (blk_drew BK486.out)
           replace BK487 := Aside0.mk (blk_drew BK487.out)
           replace BK492 := Aside0.mk (blk_drew BK492.out)
           replace BK497 := Aside0.mk (blk_drew BK497.out)
           replace HB := Aside0.mk (below_drew1 HB.out)
           refine start_ (n := 30) (S := fun w' => w'.cell? ⟨gb486, 0, none⟩ = some (.int .i64 t478) ∧ w'.cell? ⟨gb486, 1, none⟩ = some (.slice Ao56 t479.length co56) ∧ w'.cell? ⟨gb492, 0, none⟩ = some (.int .i64 t488) ∧ w'.cell? ⟨gb492, 1, none⟩ = some (.slice Ao75 t489.length co75) ∧ w'.cell? ⟨gb487, 0, none⟩ = some (.int .i64 t482) ∧ w'.cell? ⟨gb487, 1, none⟩ = some (.slice Ao59 t483.length co59) ∧ w'.cell? ⟨gb468, 0, none⟩ = some (.int .i64 t470) ∧ w'.cell? ⟨gb468, 1, none⟩ = some (.slice Ao43 t471.length co43) ∧ w'.cell? ⟨gb469, 0, none⟩ = some (.int .i64 t474) ∧ w'.cell? ⟨gb469, 1, none⟩ = some (.slice Ao46 t475.length co46)) (ds := []) #[bF9, bF9, bF9, bF9, bF9, bF9, bF9, bF9, bF9, bF9, bF9, bF9, bF9, bF9, bF9, bF9, bF9, bF9, bF9, bF9, bF9, bF9, bF9, bF9, bF9, bF9, bF9, bF9, bF9, bF9] (by kernel_rfl) rfl rfl ⟨zc_9 BK486 0, zc_9 BK486 1, zc_9 BK492 0, zc_9 BK492 1, zc_9 BK487 0, zc_9 BK487 1, zc_9 BK468 0, zc_9 BK468 1, zc_9 BK469 0, zc_9 BK469 1⟩ (fun hHeld => ?_); refine with_tabW cenotaphlaw02_SpanUnions.tab7 cenotaphlaw02_SpanUnions.bits7 (fun HT_ HW_ => ?_)
           generalize w100.drew = w101 at HO473 HO477 HO481 HO485 HO491 HO496 HO502 HO506 BK468 BK469 BK486 BK487 BK492 BK497 HB hHeld ⊢
           refine take_ (i := 0) (N := some 63) (v := ?_) (a' := ?_) #[bT9, bF9, bF9, bF9, bF9, bF9, bF9, bF9, bF9, bF9, bF9, bF9, bF9, bF9, bF9, bF9, bF9, bF9, bF9, bF9, bF9, bF9, bF9, bF9, bF9, bF9, bF9, bF9, bF9, bF9] rfl rfl (take_ofW HT_.out HW_.out (by kernel_rfl)) (fun _ _ _ h => h) (Or.inl ⟨by rfl, ?_⟩) hHeld ?_ ?_
           rotate_left
           ·rintro w' ⟨s0, s1, s2, s3, s4, s5, s6, s7, s8, s9⟩
            go_simp
            with_reducible rfl
           rotate_left
           ·simp only [Act.put, List.setIfInBounds_toArray, List.set_cons_zero, List.set_cons_succ, i64_w, i32_w]
            rfl
           refine take_ (i := 1) (N := some 64) (v := ?_) (a' := ?_) #[bT9, bT9, bF9, bF9, bF9, bF9, bF9, bF9, bF9, bF9, bF9, bF9, bF9, bF9, bF9, bF9, bF9, bF9, bF9, bF9, bF9, bF9, bF9, bF9, bF9, bF9, bF9, bF9, bF9, bF9] rfl rfl (take_ofW HT_.out HW_.out (by kernel_rfl)) (fun _ _ _ h => h) (Or.inl ⟨by rfl, ?_⟩) hHeld ?_ ?_
           rotate_left
           ·rintro w' ⟨s0, s1, s2, s3, s4, s5, s6, s7, s8, s9⟩
            go_simp
            with_reducible rfl
           rotate_left
           ·simp only [Act.put, List.setIfInBounds_toArray, List.set_cons_zero, List.set_cons_succ, i64_w, i32_w]
            rfl
           refine one_ (i := 2) (N := some 65) #[bT9, bT9, bT9, bF9, bF9, bF9, bF9, bF9, bF9, bF9, bF9, bF9, bF9, bF9, bF9, bF9, bF9, bF9, bF9, bF9, bF9, bF9, bF9, bF9, bF9, bF9, bF9, bF9, bF9, bF9] rfl rfl (one_of HT_.out (by kernel_rfl)) (by decide) (fun K hK => ?_)
           refine goes_ Try.func28 (by kernel_rfl) rfl #[.agg #[.int .i64 t478, .slice Ao56 t479.length co56], .agg #[.int .i64 t488, .slice Ao75 t489.length co75]] (by rfl) rfl rfl zq9x_29 ?_
           with_reducible refine (span_Within.calls k t478 _ _ t479 t488 _ _ t489 true _ ?side1 ?side2 ?side3 ?side4 A25.out).mono ?_
           (case side1 => repeat (first | exact (Kd.R_reads' HO481.out).2.2 | (with_reducible refine Kd.C_alloc ?_ _) | (with_reducible refine Kd.C_drewN ?_ _) | (with_reducible refine Kd.C_drew ?_)))
           (case side2 => exact (Kd.R_reads' HO481.out).2.1)
           (case side3 => repeat (first | exact (Kd.R_reads' HO491.out).2.2 | (with_reducible refine Kd.C_alloc ?_ _) | (with_reducible refine Kd.C_drewN ?_ _) | (with_reducible refine Kd.C_drew ?_)))
           (case side4 => exact (Kd.R_reads' HO491.out).2.1)
           rintro e w102 ⟨rfl, hb⟩
           refine ⟨_, rfl, ?_⟩
           replace HO473 := Aside0.mk (Kd.R_below zq9x_37 hb)
           replace HO477 := Aside0.mk (Kd.R_below zq9x_38 hb)
           replace HO481 := Aside0.mk (Kd.R_below zq9x_39 hb)
           replace HO485 := Aside0.mk (Kd.R_below zq9x_40 hb)
           replace HO491 := Aside0.mk (Kd.R_below zq9x_41 hb)
           replace HO496 := Aside0.mk (Kd.R_below zq9x_42 hb)
           replace HO502 := Aside0.mk (Kd.R_below zq9x_43 hb)
           replace HO506 := Aside0.mk (Kd.R_below zq9x_44 hb)
           replace BK468 := Aside0.mk (blk_below (g := gb468) (o := .cells #[.int .i64 t470, .slice Ao43 t471.length co43] 30 (0, 0)) zq9x_31 hb)
           replace BK469 := Aside0.mk (blk_below (g := gb469) (o := .cells #[.int .i64 t474, .slice Ao46 t475.length co46] 30 (0, 0)) zq9x_32 hb)
           replace BK486 := Aside0.mk (blk_below (g := gb486) (o := .cells #[.int .i64 t478, .slice Ao56 t479.length co56] 24 (0, 0)) zq9x_33 hb)
           replace BK487 := Aside0.mk (blk_below (g := gb487) (o := .cells #[.int .i64 t482, .slice Ao59 t483.length co59] 24 (0, 0)) zq9x_34 hb)
           replace BK492 := Aside0.mk (blk_below (g := gb492) (o := .cells #[.int .i64 t488, .slice Ao75 t489.length co75] 24 (0, 0)) zq9x_35 hb)
           replace BK497 := Aside0.mk (blk_below (g := gb497) (o := .cells #[.int .i64 t493, .slice Ao86 t494.length co86] 24 (0, 0)) zq9x_36 hb)
           replace HB := Aside0.mk (below_step zq9x_4 hb)
           (try clear hb)
           (try clear hb2)
           (try clear hk)
           (try clear hi)
           refine hK.out _ _ ⟨zc_9 BK486 0, zc_9 BK486 1, zc_9 BK492 0, zc_9 BK492 1, zc_9 BK487 0, zc_9 BK487 1, zc_9 BK468 0, zc_9 BK468 1, zc_9 BK469 0, zc_9 BK469 1⟩ (fun hHeld => ?_)
           clear hK K
           refine norm_ (a' := ?_) ?_ ?_
           rotate_left
           ·show Act.put _ (some 65) _ = _
            simp only [Act.put, List.setIfInBounds_toArray, List.set_cons_zero, List.set_cons_succ, i64_w, i32_w]
            rfl
           refine pure_ (i := 3) (N := some 66) (v := ?_) (a' := ?_) #[bT9, bT9, bT9, bT9, bF9, bF9, bF9, bF9, bF9, bF9, bF9, bF9, bF9, bF9, bF9, bF9, bF9, bF9, bF9, bF9, bF9, bF9, bF9, bF9, bF9, bF9, bF9, bF9, bF9, bF9] rfl rfl (any_of HT_.out (by kernel_rfl)) (fun _ _ _ h => h) (Or.inl ⟨by rfl, ?_⟩) ?_ ?_
           rotate_left
           ·intro w'
            go_simp
            with_reducible rfl
           rotate_left
           ·simp only [Act.put, List.setIfInBounds_toArray, List.set_cons_zero, List.set_cons_succ, i64_w, i32_w]
            rfl
           refine take_ (i := 4) (N := some 67) (v := ?_) (a' := ?_) #[bT9, bT9, bT9, bT9, bT9, bF9, bF9, bF9, bF9, bF9, bF9, bF9, bF9, bF9, bF9, bF9, bF9, bF9, bF9, bF9, bF9, bF9, bF9, bF9, bF9, bF9, bF9, bF9, bF9, bF9] rfl rfl (take_ofW HT_.out HW_.out (by kernel_rfl)) (fun _ _ _ h => h) (Or.inl ⟨by rfl, ?_⟩) hHeld ?_ ?_
           rotate_left
           ·rintro w' ⟨s0, s1, s2, s3, s4, s5, s6, s7, s8, s9⟩
            go_simp
            with_reducible rfl
           rotate_left
           ·simp only [Act.put, List.setIfInBounds_toArray, List.set_cons_zero, List.set_cons_succ, i64_w, i32_w]
            rfl
           refine take_ (i := 5) (N := some 68) (v := ?_) (a' := ?_) #[bT9, bT9, bT9, bT9, bT9, bT9, bF9, bF9, bF9, bF9, bF9, bF9, bF9, bF9, bF9, bF9, bF9, bF9, bF9, bF9, bF9, bF9, bF9, bF9, bF9, bF9, bF9, bF9, bF9, bF9] rfl rfl (take_ofW HT_.out HW_.out (by kernel_rfl)) (fun _ _ _ h => h) (Or.inl ⟨by rfl, ?_⟩) hHeld ?_ ?_
           rotate_left
           ·rintro w' ⟨s0, s1, s2, s3, s4, s5, s6, s7, s8, s9⟩
            go_simp
            with_reducible rfl
           rotate_left
           ·simp only [Act.put, List.setIfInBounds_toArray, List.set_cons_zero, List.set_cons_succ, i64_w, i32_w]
            rfl
           refine one_ (i := 6) (N := some 69) #[bT9, bT9, bT9, bT9, bT9, bT9, bT9, bF9, bF9, bF9, bF9, bF9, bF9, bF9, bF9, bF9, bF9, bF9, bF9, bF9, bF9, bF9, bF9, bF9, bF9, bF9, bF9, bF9, bF9, bF9] rfl rfl (one_of HT_.out (by kernel_rfl)) (by decide) (fun K hK => ?_)
           refine goes_ Try.func28 (by kernel_rfl) rfl #[.agg #[.int .i64 t482, .slice Ao59 t483.length co59], .agg #[.int .i64 t488, .slice Ao75 t489.length co75]] (by rfl) rfl rfl zq9x_29 ?_
           with_reducible refine (span_Within.calls k t482 _ _ t483 t488 _ _ t489 true _ ?side1 ?side2 ?side3 ?side4 A27.out).mono ?_
           (case side1 => repeat (first | exact (Kd.R_reads' HO485.out).2.2 | (with_reducible refine Kd.C_alloc ?_ _) | (with_reducible refine Kd.C_drewN ?_ _) | (with_reducible refine Kd.C_drew ?_)))
           (case side2 => exact (Kd.R_reads' HO485.out).2.1)
           (case side3 => repeat (first | exact (Kd.R_reads' HO491.out).2.2 | (with_reducible refine Kd.C_alloc ?_ _) | (with_reducible refine Kd.C_drewN ?_ _) | (with_reducible refine Kd.C_drew ?_)))
           (case side4 => exact (Kd.R_reads' HO491.out).2.1)
           rintro e w103 ⟨rfl, hb⟩
           refine ⟨_, rfl, ?_⟩
           replace HO473 := Aside0.mk (Kd.R_below zq9x_37 hb)
           replace HO477 := Aside0.mk (Kd.R_below zq9x_38 hb)
           replace HO481 := Aside0.mk (Kd.R_below zq9x_39 hb)
           replace HO485 := Aside0.mk (Kd.R_below zq9x_40 hb)
           replace HO491 := Aside0.mk (Kd.R_below zq9x_41 hb)
           replace HO496 := Aside0.mk (Kd.R_below zq9x_42 hb)
           replace HO502 := Aside0.mk (Kd.R_below zq9x_43 hb)
           replace HO506 := Aside0.mk (Kd.R_below zq9x_44 hb)
           replace BK468 := Aside0.mk (blk_below (g := gb468) (o := .cells #[.int .i64 t470, .slice Ao43 t471.length co43] 30 (0, 0)) zq9x_31 hb)
           replace BK469 := Aside0.mk (blk_below (g := gb469) (o := .cells #[.int .i64 t474, .slice Ao46 t475.length co46] 30 (0, 0)) zq9x_32 hb)
           replace BK486 := Aside0.mk (blk_below (g := gb486) (o := .cells #[.int .i64 t478, .slice Ao56 t479.length co56] 24 (0, 0)) zq9x_33 hb)
           replace BK487 := Aside0.mk (blk_below (g := gb487) (o := .cells #[.int .i64 t482, .slice Ao59 t483.length co59] 24 (0, 0)) zq9x_34 hb)
           replace BK492 := Aside0.mk (blk_below (g := gb492) (o := .cells #[.int .i64 t488, .slice Ao75 t489.length co75] 24 (0, 0)) zq9x_35 hb)
           replace BK497 := Aside0.mk (blk_below (g := gb497) (o := .cells #[.int .i64 t493, .slice Ao86 t494.length co86] 24 (0, 0)) zq9x_36 hb)
           replace HB := Aside0.mk (below_step zq9x_4 hb)
           (try clear hb)
           (try clear hb2)
           (try clear hk)
           (try clear hi)
           refine hK.out _ _ ⟨zc_9 BK486 0, zc_9 BK486 1, zc_9 BK492 0, zc_9 BK492 1, zc_9 BK487 0, zc_9 BK487 1, zc_9 BK468 0, zc_9 BK468 1, zc_9 BK469 0, zc_9 BK469 1⟩ (fun hHeld => ?_)
           clear hK K
           refine norm_ (a' := ?_) ?_ ?_
           rotate_left
           ·show Act.put _ (some 69) _ = _
            simp only [Act.put, List.setIfInBounds_toArray, List.set_cons_zero, List.set_cons_succ, i64_w, i32_w]
            rfl
           refine pure_ (i := 7) (N := some 70) (v := ?_) (a' := ?_) #[bT9, bT9, bT9, bT9, bT9, bT9, bT9, bT9, bF9, bF9, bF9, bF9, bF9, bF9, bF9, bF9, bF9, bF9, bF9, bF9, bF9, bF9, bF9, bF9, bF9, bF9, bF9, bF9, bF9, bF9] rfl rfl (any_of HT_.out (by kernel_rfl)) (fun _ _ _ h => h) (Or.inl ⟨by rfl, ?_⟩) ?_ ?_
           rotate_left
           ·intro w'
            go_simp
            with_reducible rfl
           rotate_left
           ·simp only [Act.put, List.setIfInBounds_toArray, List.set_cons_zero, List.set_cons_succ, i64_w, i32_w]
            rfl
           refine pure_ (i := 8) (N := some 71) (v := ?_) (a' := ?_) #[bT9, bT9, bT9, bT9, bT9, bT9, bT9, bT9, bT9, bF9, bF9, bF9, bF9, bF9, bF9, bF9, bF9, bF9, bF9, bF9, bF9, bF9, bF9, bF9, bF9, bF9, bF9, bF9, bF9, bF9] rfl rfl (any_of HT_.out (by kernel_rfl)) (fun _ _ _ h => h) (Or.inl ⟨by rfl, ?_⟩) ?_ ?_
           rotate_left
           ·intro w'
            go_simp
            with_reducible rfl
           rotate_left
           ·simp only [Act.put, List.setIfInBounds_toArray, List.set_cons_zero, List.set_cons_succ, i64_w, i32_w]
            rfl
           refine take_ (i := 9) (N := some 72) (v := ?_) (a' := ?_) #[bT9, bT9, bT9, bT9, bT9, bT9, bT9, bT9, bT9, bT9, bF9, bF9, bF9, bF9, bF9, bF9, bF9, bF9, bF9, bF9, bF9, bF9, bF9, bF9, bF9, bF9, bF9, bF9, bF9, bF9] rfl rfl (take_ofW HT_.out HW_.out (by kernel_rfl)) (fun _ _ _ h => h) (Or.inl ⟨by rfl, ?_⟩) hHeld ?_ ?_
           rotate_left
           ·rintro w' ⟨s0, s1, s2, s3, s4, s5, s6, s7, s8, s9⟩
            go_simp
            with_reducible rfl
           rotate_left
           ·simp only [Act.put, List.setIfInBounds_toArray, List.set_cons_zero, List.set_cons_succ, i64_w, i32_w]
            rfl
           refine take_ (i := 10) (N := some 73) (v := ?_) (a' := ?_) #[bT9, bT9, bT9, bT9, bT9, bT9, bT9, bT9, bT9, bT9, bT9, bF9, bF9, bF9, bF9, bF9, bF9, bF9, bF9, bF9, bF9, bF9, bF9, bF9, bF9, bF9, bF9, bF9, bF9, bF9] rfl rfl (take_ofW HT_.out HW_.out (by kernel_rfl)) (fun _ _ _ h => h) (Or.inl ⟨by rfl, ?_⟩) hHeld ?_ ?_
           rotate_left
           ·rintro w' ⟨s0, s1, s2, s3, s4, s5, s6, s7, s8, s9⟩
            go_simp
            with_reducible rfl
           rotate_left
           ·simp only [Act.put, List.setIfInBounds_toArray, List.set_cons_zero, List.set_cons_succ, i64_w, i32_w]
            rfl
           refine take_ (i := 12) (N := some 75) (v := ?_) (a' := ?_) #[bT9, bT9, bT9, bT9, bT9, bT9, bT9, bT9, bT9, bT9, bT9, bF9, bT9, bF9, bF9, bF9, bF9, bF9, bF9, bF9, bF9, bF9, bF9, bF9, bF9, bF9, bF9, bF9, bF9, bF9] rfl rfl (take_ofW HT_.out HW_.out (by kernel_rfl)) (fun _ _ _ h => h) (Or.inl ⟨by rfl, ?_⟩) hHeld ?_ ?_
           rotate_left
           ·rintro w' ⟨s0, s1, s2, s3, s4, s5, s6, s7, s8, s9⟩
            go_simp
            with_reducible rfl
           rotate_left
           ·simp only [Act.put, List.setIfInBounds_toArray, List.set_cons_zero, List.set_cons_succ, i64_w, i32_w]
            rfl
           refine take_ (i := 13) (N := some 76) (v := ?_) (a' := ?_) #[bT9, bT9, bT9, bT9, bT9, bT9, bT9, bT9, bT9, bT9, bT9, bF9, bT9, bT9, bF9, bF9, bF9, bF9, bF9, bF9, bF9, bF9, bF9, bF9, bF9, bF9, bF9, bF9, bF9, bF9] rfl rfl (take_ofW HT_.out HW_.out (by kernel_rfl)) (fun _ _ _ h => h) (Or.inl ⟨by rfl, ?_⟩) hHeld ?_ ?_
           rotate_left
           ·rintro w' ⟨s0, s1, s2, s3, s4, s5, s6, s7, s8, s9⟩
            go_simp
            with_reducible rfl
           rotate_left
           ·simp only [Act.put, List.setIfInBounds_toArray, List.set_cons_zero, List.set_cons_succ, i64_w, i32_w]
            rfl
           refine one_ (i := 11) (N := some 74) #[bT9, bT9, bT9, bT9, bT9, bT9, bT9, bT9, bT9, bT9, bT9, bT9, bT9, bT9, bF9, bF9, bF9, bF9, bF9, bF9, bF9, bF9, bF9, bF9, bF9, bF9, bF9, bF9, bF9, bF9] rfl rfl (one_of HT_.out (by kernel_rfl)) (by decide) (fun K hK => ?_)
           refine goes_ Try.func28 (by kernel_rfl) rfl #[.agg #[.int .i64 t478, .slice Ao56 t479.length co56], .agg #[.int .i64 t482, .slice Ao59 t483.length co59]] (by rfl) rfl rfl zq9x_29 ?_
           with_reducible refine (span_Within.calls k t478 _ _ t479 t482 _ _ t483 t516 _ ?side1 ?side2 ?side3 ?side4 A29.out).mono ?_
           (case side1 => repeat (first | exact (Kd.R_reads' HO481.out).2.2 | (with_reducible refine Kd.C_alloc ?_ _) | (with_reducible refine Kd.C_drewN ?_ _) | (with_reducible refine Kd.C_drew ?_)))
           (case side2 => exact (Kd.R_reads' HO481.out).2.1)
           (case side3 => repeat (first | exact (Kd.R_reads' HO485.out).2.2 | (with_reducible refine Kd.C_alloc ?_ _) | (with_reducible refine Kd.C_drewN ?_ _) | (with_reducible refine Kd.C_drew ?_)))
           (case side4 => exact (Kd.R_reads' HO485.out).2.1)
           rintro e w104 ⟨rfl, hb⟩
           refine ⟨_, rfl, ?_⟩
           replace HO473 := Aside0.mk (Kd.R_below zq9x_37 hb)
           replace HO477 := Aside0.mk (Kd.R_below zq9x_38 hb)
           replace HO481 := Aside0.mk (Kd.R_below zq9x_39 hb)
           replace HO485 := Aside0.mk (Kd.R_below zq9x_40 hb)
           replace HO491 := Aside0.mk (Kd.R_below zq9x_41 hb)
           replace HO496 := Aside0.mk (Kd.R_below zq9x_42 hb)
           replace HO502 := Aside0.mk (Kd.R_below zq9x_43 hb)
           replace HO506 := Aside0.mk (Kd.R_below zq9x_44 hb)
           replace BK468 := Aside0.mk (blk_below (g := gb468) (o := .cells #[.int .i64 t470, .slice Ao43 t471.length co43] 30 (0, 0)) zq9x_31 hb)
           replace BK469 := Aside0.mk (blk_below (g := gb469) (o := .cells #[.int .i64 t474, .slice Ao46 t475.length co46] 30 (0, 0)) zq9x_32 hb)
           replace BK486 := Aside0.mk (blk_below (g := gb486) (o := .cells #[.int .i64 t478, .slice Ao56 t479.length co56] 24 (0, 0)) zq9x_33 hb)
           replace BK487 := Aside0.mk (blk_below (g := gb487) (o := .cells #[.int .i64 t482, .slice Ao59 t483.length co59] 24 (0, 0)) zq9x_34 hb)
           replace BK492 := Aside0.mk (blk_below (g := gb492) (o := .cells #[.int .i64 t488, .slice Ao75 t489.length co75] 24 (0, 0)) zq9x_35 hb)
           replace BK497 := Aside0.mk (blk_below (g := gb497) (o := .cells #[.int .i64 t493, .slice Ao86 t494.length co86] 24 (0, 0)) zq9x_36 hb)
           replace HB := Aside0.mk (below_step zq9x_4 hb)
           (try clear hb)
           (try clear hb2)
           (try clear hk)
           (try clear hi)
           refine hK.out _ _ ⟨zc_9 BK486 0, zc_9 BK486 1, zc_9 BK492 0, zc_9 BK492 1, zc_9 BK487 0, zc_9 BK487 1, zc_9 BK468 0, zc_9 BK468 1, zc_9 BK469 0, zc_9 BK469 1⟩ (fun hHeld => ?_)
           clear hK K
           refine norm_ (a' := ?_) ?_ ?_
           rotate_left
           ·show Act.put _ (some 74) _ = _
            simp only [Act.put, List.setIfInBounds_toArray, List.set_cons_zero, List.set_cons_succ, i64_w, i32_w]
            rfl
           refine one_ (i := 14) (N := some 77) #[bT9, bT9, bT9, bT9, bT9, bT9, bT9, bT9, bT9, bT9, bT9, bT9, bT9, bT9, bT9, bF9, bF9, bF9, bF9, bF9, bF9, bF9, bF9, bF9, bF9, bF9, bF9, bF9, bF9, bF9] rfl rfl (one_of HT_.out (by kernel_rfl)) (by decide) (fun K hK => ?_)
           refine goes_ Try.func26 (by kernel_rfl) rfl #[.agg #[.int .i64 t488, .slice Ao75 t489.length co75], .agg #[.int .i64 t482, .slice Ao59 t483.length co59]] (by rfl) rfl rfl zq9x_29 ?_
           with_reducible refine (span_Same.calls k t488 _ _ t489 t482 _ _ t483 t517 _ ?side1 ?side2 ?side3 ?side4 A30.out).mono ?_
           (case side1 => repeat (first | exact (Kd.R_reads' HO491.out).2.2 | (with_reducible refine Kd.C_alloc ?_ _) | (with_reducible refine Kd.C_drewN ?_ _) | (with_reducible refine Kd.C_drew ?_)))
           (case side2 => exact (Kd.R_reads' HO491.out).2.1)
           (case side3 => repeat (first | exact (Kd.R_reads' HO485.out).2.2 | (with_reducible refine Kd.C_alloc ?_ _) | (with_reducible refine Kd.C_drewN ?_ _) | (with_reducible refine Kd.C_drew ?_)))
           (case side4 => exact (Kd.R_reads' HO485.out).2.1)
           rintro e w105 ⟨rfl, hb⟩
           refine ⟨_, rfl, ?_⟩
           replace HO473 := Aside0.mk (Kd.R_below zq9x_37 hb)
           replace HO477 := Aside0.mk (Kd.R_below zq9x_38 hb)
           replace HO481 := Aside0.mk (Kd.R_below zq9x_39 hb)
           replace HO485 := Aside0.mk (Kd.R_below zq9x_40 hb)
           replace HO491 := Aside0.mk (Kd.R_below zq9x_41 hb)
           replace HO496 := Aside0.mk (Kd.R_below zq9x_42 hb)
           replace HO502 := Aside0.mk (Kd.R_below zq9x_43 hb)
           replace HO506 := Aside0.mk (Kd.R_below zq9x_44 hb)
           replace BK468 := Aside0.mk (blk_below (g := gb468) (o := .cells #[.int .i64 t470, .slice Ao43 t471.length co43] 30 (0, 0)) zq9x_31 hb)
           replace BK469 := Aside0.mk (blk_below (g := gb469) (o := .cells #[.int .i64 t474, .slice Ao46 t475.length co46] 30 (0, 0)) zq9x_32 hb)
           replace BK486 := Aside0.mk (blk_below (g := gb486) (o := .cells #[.int .i64 t478, .slice Ao56 t479.length co56] 24 (0, 0)) zq9x_33 hb)
           replace BK487 := Aside0.mk (blk_below (g := gb487) (o := .cells #[.int .i64 t482, .slice Ao59 t483.length co59] 24 (0, 0)) zq9x_34 hb)
           replace BK492 := Aside0.mk (blk_below (g := gb492) (o := .cells #[.int .i64 t488, .slice Ao75 t489.length co75] 24 (0, 0)) zq9x_35 hb)
           replace BK497 := Aside0.mk (blk_below (g := gb497) (o := .cells #[.int .i64 t493, .slice Ao86 t494.length co86] 24 (0, 0)) zq9x_36 hb)
           replace HB := Aside0.mk (below_step zq9x_4 hb)
           (try clear hb)
           (try clear hb2)
           (try clear hk)
           (try clear hi)
           refine hK.out _ _ ⟨zc_9 BK486 0, zc_9 BK486 1, zc_9 BK492 0, zc_9 BK492 1, zc_9 BK487 0, zc_9 BK487 1, zc_9 BK468 0, zc_9 BK468 1, zc_9 BK469 0, zc_9 BK469 1⟩ (fun hHeld => ?_)
           clear hK K
           refine norm_ (a' := ?_) ?_ ?_
           rotate_left
           ·show Act.put _ (some 77) _ = _
            simp only [Act.put, List.setIfInBounds_toArray, List.set_cons_zero, List.set_cons_succ, i64_w, i32_w]
            rfl
           refine pure_ (i := 15) (N := some 78) (v := ?_) (a' := ?_) #[bT9, bT9, bT9, bT9, bT9, bT9, bT9, bT9, bT9, bT9, bT9, bT9, bT9, bT9, bT9, bT9, bF9, bF9, bF9, bF9, bF9, bF9, bF9, bF9, bF9, bF9, bF9, bF9, bF9, bF9] rfl rfl (any_of HT_.out (by kernel_rfl)) (fun _ _ _ h => h) (Or.inl ⟨by rfl, ?_⟩) ?_ ?_
           rotate_left
           ·intro w'
            go_simp
            with_reducible rfl
           rotate_left
           ·simp only [Act.put, List.setIfInBounds_toArray, List.set_cons_zero, List.set_cons_succ, i64_w, i32_w]
            rfl
           refine pure_ (i := 16) (N := some 79) (v := ?_) (a' := ?_) #[bT9, bT9, bT9, bT9, bT9, bT9, bT9, bT9, bT9, bT9, bT9, bT9, bT9, bT9, bT9, bT9, bT9, bF9, bF9, bF9, bF9, bF9, bF9, bF9, bF9, bF9, bF9, bF9, bF9, bF9] rfl rfl (any_of HT_.out (by kernel_rfl)) (fun _ _ _ h => h) (Or.inl ⟨by rfl, ?_⟩) ?_ ?_
           rotate_left
           ·intro w'
            go_simp
            with_reducible rfl
           rotate_left
           ·simp only [Act.put, List.setIfInBounds_toArray, List.set_cons_zero, List.set_cons_succ, i64_w, i32_w]
            rfl
           refine pure_ (i := 17) (N := some 80) (v := ?_) (a' := ?_) #[bT9, bT9, bT9, bT9, bT9, bT9, bT9, bT9, bT9, bT9, bT9, bT9, bT9, bT9, bT9, bT9, bT9, bT9, bF9, bF9, bF9, bF9, bF9, bF9, bF9, bF9, bF9, bF9, bF9, bF9] rfl rfl (any_of HT_.out (by kernel_rfl)) (fun _ _ _ h => h) (Or.inl ⟨by rfl, ?_⟩) ?_ ?_
           rotate_left
           ·intro w'
            go_simp
            with_reducible rfl
           rotate_left
           ·simp only [Act.put, List.setIfInBounds_toArray, List.set_cons_zero, List.set_cons_succ, i64_w, i32_w]
            rfl
           refine take_ (i := 18) (N := some 81) (v := ?_) (a' := ?_) #[bT9, bT9, bT9, bT9, bT9, bT9, bT9, bT9, bT9, bT9, bT9, bT9, bT9, bT9, bT9, bT9, bT9, bT9, bT9, bF9, bF9, bF9, bF9, bF9, bF9, bF9, bF9, bF9, bF9, bF9] rfl rfl (take_ofW HT_.out HW_.out (by kernel_rfl)) (fun _ _ _ h => h) (Or.inl ⟨by rfl, ?_⟩) hHeld ?_ ?_
           rotate_left
           ·rintro w' ⟨s0, s1, s2, s3, s4, s5, s6, s7, s8, s9⟩
            go_simp
            with_reducible rfl
           rotate_left
           ·simp only [Act.put, List.setIfInBounds_toArray, List.set_cons_zero, List.set_cons_succ, i64_w, i32_w]
            rfl
           refine take_ (i := 20) (N := some 83) (v := ?_) (a' := ?_) #[bT9, bT9, bT9, bT9, bT9, bT9, bT9, bT9, bT9, bT9, bT9, bT9, bT9, bT9, bT9, bT9, bT9, bT9, bT9, bF9, bT9, bF9, bF9, bF9, bF9, bF9, bF9, bF9, bF9, bF9] rfl rfl (take_ofW HT_.out HW_.out (by kernel_rfl)) (fun _ _ _ h => h) (Or.inl ⟨by rfl, ?_⟩) hHeld ?_ ?_
           rotate_left
           ·rintro w' ⟨s0, s1, s2, s3, s4, s5, s6, s7, s8, s9⟩
            go_simp
            with_reducible rfl
           rotate_left
           ·simp only [Act.put, List.setIfInBounds_toArray, List.set_cons_zero, List.set_cons_succ, i64_w, i32_w]
            rfl
           refine one_ (i := 19) (N := some 82) #[bT9, bT9, bT9, bT9, bT9, bT9, bT9, bT9, bT9, bT9, bT9, bT9, bT9, bT9, bT9, bT9, bT9, bT9, bT9, bT9, bT9, bF9, bF9, bF9, bF9, bF9, bF9, bF9, bF9, bF9] rfl rfl (one_of HT_.out (by kernel_rfl)) (by decide) (fun K hK => ?_)
           refine goes_ Try.func21 (by kernel_rfl) rfl #[.agg #[.int .i64 t478, .slice Ao56 t479.length co56]] (by rfl) rfl rfl zq9x_29 ?_
           with_reducible refine (cenotaphlaw02_From.calls t478 _ _ t479 t518 t519 _ ?side1 ?side2 A32.out).mono ?_
           (case side1 => repeat (first | exact (Kd.R_reads' HO481.out).2.2 | (with_reducible refine Kd.C_alloc ?_ _) | (with_reducible refine Kd.C_drewN ?_ _) | (with_reducible refine Kd.C_drew ?_)))
           (case side2 => exact (Kd.R_reads' HO481.out).2.1)
           rintro e w106 ⟨v520, rfl, ho0, hb⟩
           refine ⟨_, rfl, ?_⟩
           have HO521 := Aside0.mk (Kd.R_lower (Kd.R_new' (Kd.R_new' (Kd.R_new' (Kd.R_new' (Kd.R_new' (Kd.R_new' (Kd.R_new' (Kd.R_new' ho0 (Kd.R_lt zq9x_37)) (Kd.R_lt zq9x_38)) (Kd.R_lt zq9x_39)) (Kd.R_lt zq9x_40)) (Kd.R_lt zq9x_41)) (Kd.R_lt zq9x_42)) (Kd.R_lt zq9x_43)) (Kd.R_lt zq9x_44)) (below_size zq9x_4))
           replace HO473 := Aside0.mk (Kd.R_elder' zq9x_37 (Kd.R_base ho0) hb)
           replace HO477 := Aside0.mk (Kd.R_elder' zq9x_38 (Kd.R_base ho0) hb)
           replace HO481 := Aside0.mk (Kd.R_elder' zq9x_39 (Kd.R_base ho0) hb)
           replace HO485 := Aside0.mk (Kd.R_elder' zq9x_40 (Kd.R_base ho0) hb)
           replace HO491 := Aside0.mk (Kd.R_elder' zq9x_41 (Kd.R_base ho0) hb)
           replace HO496 := Aside0.mk (Kd.R_elder' zq9x_42 (Kd.R_base ho0) hb)
           replace HO502 := Aside0.mk (Kd.R_elder' zq9x_43 (Kd.R_base ho0) hb)
           replace HO506 := Aside0.mk (Kd.R_elder' zq9x_44 (Kd.R_base ho0) hb)
           replace BK468 := Aside0.mk (blk_below (g := gb468) (o := .cells #[.int .i64 t470, .slice Ao43 t471.length co43] 30 (0, 0)) zq9x_31 hb)
           replace BK469 := Aside0.mk (blk_below (g := gb469) (o := .cells #[.int .i64 t474, .slice Ao46 t475.length co46] 30 (0, 0)) zq9x_32 hb)
           replace BK486 := Aside0.mk (blk_below (g := gb486) (o := .cells #[.int .i64 t478, .slice Ao56 t479.length co56] 24 (0, 0)) zq9x_33 hb)
           replace BK487 := Aside0.mk (blk_below (g := gb487) (o := .cells #[.int .i64 t482, .slice Ao59 t483.length co59] 24 (0, 0)) zq9x_34 hb)
           replace BK492 := Aside0.mk (blk_below (g := gb492) (o := .cells #[.int .i64 t488, .slice Ao75 t489.length co75] 24 (0, 0)) zq9x_35 hb)
           replace BK497 := Aside0.mk (blk_below (g := gb497) (o := .cells #[.int .i64 t493, .slice Ao86 t494.length co86] 24 (0, 0)) zq9x_36 hb)
           replace HB := Aside0.mk (below_step zq9x_4 hb)
           (try clear hb)
           (try clear hb2)
           (try clear hk)
           (try clear hi)
           (try clear ho0)
           obtain ⟨Ao107, co107, eo107⟩ := Kd.R_slice HO521.out
           (first | subst eo107 | (injection eo107 with f1_ f2_ f3_; have f4_ := f1_.symm; have f5_ := f3_.symm; clear f1_ f2_ f3_; subst f4_; subst f5_))
           refine hK.out _ _ ⟨zc_9 BK486 0, zc_9 BK486 1, zc_9 BK492 0, zc_9 BK492 1, zc_9 BK487 0, zc_9 BK487 1, zc_9 BK468 0, zc_9 BK468 1, zc_9 BK469 0, zc_9 BK469 1⟩ (fun hHeld => ?_)
           clear hK K
           refine norm_ (a' := ?_) ?_ ?_
           rotate_left
           ·show Act.put _ (some 82) _ = _
            simp only [Act.put, List.setIfInBounds_toArray, List.set_cons_zero, List.set_cons_succ, i64_w, i32_w]
            rfl
           refine one_ (i := 21) (N := some 84) #[bT9, bT9, bT9, bT9, bT9, bT9, bT9, bT9, bT9, bT9, bT9, bT9, bT9, bT9, bT9, bT9, bT9, bT9, bT9, bT9, bT9, bT9, bF9, bF9, bF9, bF9, bF9, bF9, bF9, bF9] rfl rfl (one_of HT_.out (by kernel_rfl)) (by decide) (fun K hK => ?_)
           refine goes_ Try.func20 (by kernel_rfl) rfl #[.agg #[.int .i64 t518, .slice Ao107 t519.length co107], .agg #[.int .i64 t470, .slice Ao43 t471.length co43]] (by rfl) rfl rfl zq9x_29 ?_
           with_reducible refine (cenotaphref02_Same.calls k t518 _ _ t519 t470 _ _ t471 true _ ?side1 ?side2 ?side3 ?side4 A33.out).mono ?_
           (case side1 => repeat (first | exact (Kd.R_reads' HO521.out).2.2 | (with_reducible refine Kd.C_alloc ?_ _) | (with_reducible refine Kd.C_drewN ?_ _) | (with_reducible refine Kd.C_drew ?_)))
           (case side2 => exact (Kd.R_reads' HO521.out).2.1)
           (case side3 => repeat (first | exact (Kd.R_reads' HO473.out).2.2 | (with_reducible refine Kd.C_alloc ?_ _) | (with_reducible refine Kd.C_drewN ?_ _) | (with_reducible refine Kd.C_drew ?_)))
           (case side4 => exact (Kd.R_reads' HO473.out).2.1)
           rintro e w108 ⟨rfl, hb⟩
           refine ⟨_, rfl, ?_⟩
           replace HO473 := Aside0.mk (Kd.R_below zq9x_37 hb)
           replace HO477 := Aside0.mk (Kd.R_below zq9x_38 hb)
           replace HO481 := Aside0.mk (Kd.R_below zq9x_39 hb)
           replace HO485 := Aside0.mk (Kd.R_below zq9x_40 hb)
           replace HO491 := Aside0.mk (Kd.R_below zq9x_41 hb)
           replace HO496 := Aside0.mk (Kd.R_below zq9x_42 hb)
           replace HO502 := Aside0.mk (Kd.R_below zq9x_43 hb)
           replace HO506 := Aside0.mk (Kd.R_below zq9x_44 hb)
           replace HO521 := Aside0.mk (Kd.R_below zq9x_45 hb)
           replace BK468 := Aside0.mk (blk_below (g := gb468) (o := .cells #[.int .i64 t470, .slice Ao43 t471.length co43] 30 (0, 0)) zq9x_31 hb)
           replace BK469 := Aside0.mk (blk_below (g := gb469) (o := .cells #[.int .i64 t474, .slice Ao46 t475.length co46] 30 (0, 0)) zq9x_32 hb)
           replace BK486 := Aside0.mk (blk_below (g := gb486) (o := .cells #[.int .i64 t478, .slice Ao56 t479.length co56] 24 (0, 0)) zq9x_33 hb)
           replace BK487 := Aside0.mk (blk_below (g := gb487) (o := .cells #[.int .i64 t482, .slice Ao59 t483.length co59] 24 (0, 0)) zq9x_34 hb)
           replace BK492 := Aside0.mk (blk_below (g := gb492) (o := .cells #[.int .i64 t488, .slice Ao75 t489.length co75] 24 (0, 0)) zq9x_35 hb)
           replace BK497 := Aside0.mk (blk_below (g := gb497) (o := .cells #[.int .i64 t493, .slice Ao86 t494.length co86] 24 (0, 0)) zq9x_36 hb)
           replace HB := Aside0.mk (below_step zq9x_4 hb)
           (try clear hb)
           (try clear hb2)
           (try clear hk)
           (try clear hi)
           refine hK.out _ _ ⟨zc_9 BK486 0, zc_9 BK486 1, zc_9 BK492 0, zc_9 BK492 1, zc_9 BK487 0, zc_9 BK487 1, zc_9 BK468 0, zc_9 BK468 1, zc_9 BK469 0, zc_9 BK469 1⟩ (fun hHeld => ?_)
           clear hK K
           refine norm_ (a' := ?_) ?_ ?_
           rotate_left
           ·show Act.put _ (some 84) _ = _
            simp only [Act.put, List.setIfInBounds_toArray, List.set_cons_zero, List.set_cons_succ, i64_w, i32_w]
            rfl
           refine pure_ (i := 22) (N := some 85) (v := ?_) (a' := ?_) #[bT9, bT9, bT9, bT9, bT9, bT9, bT9, bT9, bT9, bT9, bT9, bT9, bT9, bT9, bT9, bT9, bT9, bT9, bT9, bT9, bT9, bT9, bT9, bF9, bF9, bF9, bF9, bF9, bF9, bF9] rfl rfl (any_of HT_.out (by kernel_rfl)) (fun _ _ _ h => h) (Or.inl ⟨by rfl, ?_⟩) ?_ ?_
           rotate_left
           ·intro w'
            go_simp
            with_reducible rfl
           rotate_left
           ·simp only [Act.put, List.setIfInBounds_toArray, List.set_cons_zero, List.set_cons_succ, i64_w, i32_w]
            rfl
           refine pure_ (i := 23) (N := some 86) (v := ?_) (a' := ?_) #[bT9, bT9, bT9, bT9, bT9, bT9, bT9, bT9, bT9, bT9, bT9, bT9, bT9, bT9, bT9, bT9, bT9, bT9, bT9, bT9, bT9, bT9, bT9, bT9, bF9, bF9, bF9, bF9, bF9, bF9] rfl rfl (any_of HT_.out (by kernel_rfl)) (fun _ _ _ h => h) (Or.inl ⟨by rfl, ?_⟩) ?_ ?_
           rotate_left
           ·intro w'
            go_simp
            with_reducible rfl
           rotate_left
           ·simp only [Act.put, List.setIfInBounds_toArray, List.set_cons_zero, List.set_cons_succ, i64_w, i32_w]
            rfl
           refine take_ (i := 24) (N := some 87) (v := ?_) (a' := ?_) #[bT9, bT9, bT9, bT9, bT9, bT9, bT9, bT9, bT9, bT9, bT9, bT9, bT9, bT9, bT9, bT9, bT9, bT9, bT9, bT9, bT9, bT9, bT9, bT9, bT9, bF9, bF9, bF9, bF9, bF9] rfl rfl (take_ofW HT_.out HW_.out (by kernel_rfl)) (fun _ _ _ h => h) (Or.inl ⟨by rfl, ?_⟩) hHeld ?_ ?_
           rotate_left
           ·rintro w' ⟨s0, s1, s2, s3, s4, s5, s6, s7, s8, s9⟩
            go_simp
            with_reducible rfl
           rotate_left
           ·simp only [Act.put, List.setIfInBounds_toArray, List.set_cons_zero, List.set_cons_succ, i64_w, i32_w]
            rfl
           refine take_ (i := 26) (N := some 89) (v := ?_) (a' := ?_) #[bT9, bT9, bT9, bT9, bT9, bT9, bT9, bT9, bT9, bT9, bT9, bT9, bT9, bT9, bT9, bT9, bT9, bT9, bT9, bT9, bT9, bT9, bT9, bT9, bT9, bF9, bT9, bF9, bF9, bF9] rfl rfl (take_ofW HT_.out HW_.out (by kernel_rfl)) (fun _ _ _ h => h) (Or.inl ⟨by rfl, ?_⟩) hHeld ?_ ?_
           rotate_left
           ·rintro w' ⟨s0, s1, s2, s3, s4, s5, s6, s7, s8, s9⟩
            go_simp
            with_reducible rfl
           rotate_left
           ·simp only [Act.put, List.setIfInBounds_toArray, List.set_cons_zero, List.set_cons_succ, i64_w, i32_w]
            rfl
           refine one_ (i := 25) (N := some 88) #[bT9, bT9, bT9, bT9, bT9, bT9, bT9, bT9, bT9, bT9, bT9, bT9, bT9, bT9, bT9, bT9, bT9, bT9, bT9, bT9, bT9, bT9, bT9, bT9, bT9, bT9, bT9, bF9, bF9, bF9] rfl rfl (one_of HT_.out (by kernel_rfl)) (by decide) (fun K hK => ?_)
           refine goes_ Try.func21 (by kernel_rfl) rfl #[.agg #[.int .i64 t482, .slice Ao59 t483.length co59]] (by rfl) rfl rfl zq9x_29 ?_
           with_reducible refine (cenotaphlaw02_From.calls t482 _ _ t483 t523 t524 _ ?side1 ?side2 A35.out).mono ?_
           (case side1 => repeat (first | exact (Kd.R_reads' HO485.out).2.2 | (with_reducible refine Kd.C_alloc ?_ _) | (with_reducible refine Kd.C_drewN ?_ _) | (with_reducible refine Kd.C_drew ?_)))
           (case side2 => exact (Kd.R_reads' HO485.out).2.1)
           rintro e w109 ⟨v525, rfl, ho0, hb⟩
           refine ⟨_, rfl, ?_⟩
           have HO526 := Aside0.mk (Kd.R_lower (Kd.R_new' (Kd.R_new' (Kd.R_new' (Kd.R_new' (Kd.R_new' (Kd.R_new' (Kd.R_new' (Kd.R_new' (Kd.R_new' ho0 (Kd.R_lt zq9x_37)) (Kd.R_lt zq9x_38)) (Kd.R_lt zq9x_39)) (Kd.R_lt zq9x_40)) (Kd.R_lt zq9x_41)) (Kd.R_lt zq9x_42)) (Kd.R_lt zq9x_43)) (Kd.R_lt zq9x_44)) (Kd.R_lt zq9x_45)) (below_size zq9x_4))
           replace HO473 := Aside0.mk (Kd.R_elder' zq9x_37 (Kd.R_base ho0) hb)
           replace HO477 := Aside0.mk (Kd.R_elder' zq9x_38 (Kd.R_base ho0) hb)
           replace HO481 := Aside0.mk (Kd.R_elder' zq9x_39 (Kd.R_base ho0) hb)
           replace HO485 := Aside0.mk (Kd.R_elder' zq9x_40 (Kd.R_base ho0) hb)
           replace HO491 := Aside0.mk (Kd.R_elder' zq9x_41 (Kd.R_base ho0) hb)
           replace HO496 := Aside0.mk (Kd.R_elder' zq9x_42 (Kd.R_base ho0) hb)
           replace HO502 := Aside0.mk (Kd.R_elder' zq9x_43 (Kd.R_base ho0) hb)
           replace HO506 := Aside0.mk (Kd.R_elder' zq9x_44 (Kd.R_base ho0) hb)
           replace HO521 := Aside0.mk (Kd.R_elder' zq9x_45 (Kd.R_base ho0) hb)
           replace BK468 := Aside0.mk (blk_below (g := gb468) (o := .cells #[.int .i64 t470, .slice Ao43 t471.length co43] 30 (0, 0)) zq9x_31 hb)
           replace BK469 := Aside0.mk (blk_below (g := gb469) (o := .cells #[.int .i64 t474, .slice Ao46 t475.length co46] 30 (0, 0)) zq9x_32 hb)
           replace BK486 := Aside0.mk (blk_below (g := gb486) (o := .cells #[.int .i64 t478, .slice Ao56 t479.length co56] 24 (0, 0)) zq9x_33 hb)
           replace BK487 := Aside0.mk (blk_below (g := gb487) (o := .cells #[.int .i64 t482, .slice Ao59 t483.length co59] 24 (0, 0)) zq9x_34 hb)
           replace BK492 := Aside0.mk (blk_below (g := gb492) (o := .cells #[.int .i64 t488, .slice Ao75 t489.length co75] 24 (0, 0)) zq9x_35 hb)
           replace BK497 := Aside0.mk (blk_below (g := gb497) (o := .cells #[.int .i64 t493, .slice Ao86 t494.length co86] 24 (0, 0)) zq9x_36 hb)
           replace HB := Aside0.mk (below_step zq9x_4 hb)
           (try clear hb)
           (try clear hb2)
           (try clear hk)
           (try clear hi)
           (try clear ho0)
           obtain ⟨Ao110, co110, eo110⟩ := Kd.R_slice HO526.out
           (first | subst eo110 | (injection eo110 with f1_ f2_ f3_; have f4_ := f1_.symm; have f5_ := f3_.symm; clear f1_ f2_ f3_; subst f4_; subst f5_))
           refine hK.out _ _ ⟨zc_9 BK486 0, zc_9 BK486 1, zc_9 BK492 0, zc_9 BK492 1, zc_9 BK487 0, zc_9 BK487 1, zc_9 BK468 0, zc_9 BK468 1, zc_9 BK469 0, zc_9 BK469 1⟩ (fun hHeld => ?_)
           clear hK K
           refine norm_ (a' := ?_) ?_ ?_
           rotate_left
           ·show Act.put _ (some 88) _ = _
            simp only [Act.put, List.setIfInBounds_toArray, List.set_cons_zero, List.set_cons_succ, i64_w, i32_w]
            rfl
           refine one_ (i := 27) (N := some 90) #[bT9, bT9, bT9, bT9, bT9, bT9, bT9, bT9, bT9, bT9, bT9, bT9, bT9, bT9, bT9, bT9, bT9, bT9, bT9, bT9, bT9, bT9, bT9, bT9, bT9, bT9, bT9, bT9, bF9, bF9] rfl rfl (one_of HT_.out (by kernel_rfl)) (by decide) (fun K hK => ?_)
           refine goes_ Try.func20 (by kernel_rfl) rfl #[.agg #[.int .i64 t523, .slice Ao110 t524.length co110], .agg #[.int .i64 t474, .slice Ao46 t475.length co46]] (by rfl) rfl rfl zq9x_29 ?_
           with_reducible refine (cenotaphref02_Same.calls k t523 _ _ t524 t474 _ _ t475 t527 _ ?side1 ?side2 ?side3 ?side4 A36.out).mono ?_
           (case side1 => repeat (first | exact (Kd.R_reads' HO526.out).2.2 | (with_reducible refine Kd.C_alloc ?_ _) | (with_reducible refine Kd.C_drewN ?_ _) | (with_reducible refine Kd.C_drew ?_)))
           (case side2 => exact (Kd.R_reads' HO526.out).2.1)
           (case side3 => repeat (first | exact (Kd.R_reads' HO477.out).2.2 | (with_reducible refine Kd.C_alloc ?_ _) | (with_reducible refine Kd.C_drewN ?_ _) | (with_reducible refine Kd.C_drew ?_)))
           (case side4 => exact (Kd.R_reads' HO477.out).2.1)
           rintro e w111 ⟨rfl, hb⟩
           refine ⟨_, rfl, ?_⟩
           replace HO473 := Aside0.mk (Kd.R_below zq9x_37 hb)
           replace HO477 := Aside0.mk (Kd.R_below zq9x_38 hb)
           replace HO481 := Aside0.mk (Kd.R_below zq9x_39 hb)
           replace HO485 := Aside0.mk (Kd.R_below zq9x_40 hb)
           replace HO491 := Aside0.mk (Kd.R_below zq9x_41 hb)
           replace HO496 := Aside0.mk (Kd.R_below zq9x_42 hb)
           replace HO502 := Aside0.mk (Kd.R_below zq9x_43 hb)
           replace HO506 := Aside0.mk (Kd.R_below zq9x_44 hb)
           replace HO521 := Aside0.mk (Kd.R_below zq9x_45 hb)
           replace HO526 := Aside0.mk (Kd.R_below (by (with_reducible repeat (first | apply Kd.R_alloc | apply Kd.R_drewN | apply Kd.R_drew)); exact HO526.out) hb)
           replace BK468 := Aside0.mk (blk_below (g := gb468) (o := .cells #[.int .i64 t470, .slice Ao43 t471.length co43] 30 (0, 0)) zq9x_31 hb)
           replace BK469 := Aside0.mk (blk_below (g := gb469) (o := .cells #[.int .i64 t474, .slice Ao46 t475.length co46] 30 (0, 0)) zq9x_32 hb)
           replace BK486 := Aside0.mk (blk_below (g := gb486) (o := .cells #[.int .i64 t478, .slice Ao56 t479.length co56] 24 (0, 0)) zq9x_33 hb)
           replace BK487 := Aside0.mk (blk_below (g := gb487) (o := .cells #[.int .i64 t482, .slice Ao59 t483.length co59] 24 (0, 0)) zq9x_34 hb)
           replace BK492 := Aside0.mk (blk_below (g := gb492) (o := .cells #[.int .i64 t488, .slice Ao75 t489.length co75] 24 (0, 0)) zq9x_35 hb)
           replace BK497 := Aside0.mk (blk_below (g := gb497) (o := .cells #[.int .i64 t493, .slice Ao86 t494.length co86] 24 (0, 0)) zq9x_36 hb)
           replace HB := Aside0.mk (below_step zq9x_4 hb)
           (try clear hb)
           (try clear hb2)
           (try clear hk)
           (try clear hi)
           refine hK.out _ _ ⟨zc_9 BK486 0, zc_9 BK486 1, zc_9 BK492 0, zc_9 BK492 1, zc_9 BK487 0, zc_9 BK487 1, zc_9 BK468 0, zc_9 BK468 1, zc_9 BK469 0, zc_9 BK469 1⟩ (fun hHeld => ?_)
           clear hK K
           refine norm_ (a' := ?_) ?_ ?_
           rotate_left
           ·show Act.put _ (some 90) _ = _
            simp only [Act.put, List.setIfInBounds_toArray, List.set_cons_zero, List.set_cons_succ, i64_w, i32_w]
            rfl
           refine pure_ (i := 28) (N := some 91) (v := ?_) (a' := ?_) #[bT9, bT9, bT9, bT9, bT9, bT9, bT9, bT9, bT9, bT9, bT9, bT9, bT9, bT9, bT9, bT9, bT9, bT9, bT9, bT9, bT9, bT9, bT9, bT9, bT9, bT9, bT9, bT9, bT9, bF9] rfl rfl (any_of HT_.out (by kernel_rfl)) (fun _ _ _ h => h) (Or.inl ⟨by rfl, ?_⟩) ?_ ?_
           rotate_left
           ·intro w'
            go_simp
            with_reducible rfl
           rotate_left
           ·simp only [Act.put, List.setIfInBounds_toArray, List.set_cons_zero, List.set_cons_succ, i64_w, i32_w]
            rfl
           refine pure_ (i := 29) (N := some 4) (v := ?_) (a' := ?_) #[bT9, bT9, bT9, bT9, bT9, bT9, bT9, bT9, bT9, bT9, bT9, bT9, bT9, bT9, bT9, bT9, bT9, bT9, bT9, bT9, bT9, bT9, bT9, bT9, bT9, bT9, bT9, bT9, bT9, bT9] rfl rfl (any_of HT_.out (by kernel_rfl)) (fun _ _ _ h => h) (Or.inl ⟨by rfl, ?_⟩) ?_ ?_
           rotate_left
           ·intro w'
            go_simp
            with_reducible rfl
           rotate_left
           ·simp only [Act.put, List.setIfInBounds_toArray, List.set_cons_zero, List.set_cons_succ, i64_w, i32_w]
            rfl
           refine done_ (done_of HT_.out (by kernel_rfl)) ?_
           try go_wp2
           go_ret
           exact ⟨by first | rfl | (simp [errW_none, errW_some] <;> rfl) | (simp [*, errW_none, errW_some] <;> rfl), by repeat (first | (with_reducible first | exact HB.out | apply below_alloc | apply pw_below_drewN | apply below_drew1 | refine below_set ?_ GE468.out | refine below_set ?_ GE469.out | refine below_set ?_ GE486.out | refine below_set ?_ GE487.out | refine below_set ?_ GE492.out | refine below_set ?_ GE497.out) | exact HB.out)⟩
          ·replace c34 := Bool.eq_false_iff.mpr c34
           subst c34
           have H1 : (none) = some r := by rw [if_neg (show ¬ (false = true) by decide)] at H; exact H
           clear H
           have H := H1
           clear H1
           exact absurd H (by simp)
         ·rw [if_neg c31] at H
          have c31b0 : (t516 == t517) = false := by simpa using c31
          (try (have c31b1 : decide (t516 = t517) = false := by simpa using c31))
          (try (have c31b2 : (t516 == t517) = false := by simpa using c31))
          (try (have c31b3 : ¬ (t516 = t517) := by simpa using c31))
          clear c31
          exact absurd H (by simp)
        ·replace c28 := Bool.eq_false_iff.mpr c28
         subst c28
         have H1 : (none) = some r := by rw [if_neg (show ¬ (false = true) by decide)] at H; exact H
         clear H
         have H := H1
         clear H1
         exact absurd H (by simp)
       ·replace c26 := Bool.eq_false_iff.mpr c26
        subst c26
        have H1 : (none) = some r := by rw [if_neg (show ¬ (false = true) by decide)] at H; exact H
        clear H
        have H := H1
        clear H1
        exact absurd H (by simp)
    ·replace c18 := Bool.eq_false_iff.mpr c18
     subst c18
     have H1 : (none) = some r := by rw [if_neg (show ¬ (false = true) by decide)] at H; exact H
     clear H
     have H := H1
     clear H1
     exact absurd H (by simp)
   ·replace c16 := Bool.eq_false_iff.mpr c16
    subst c16
    have H1 : (none) = some r := by rw [if_neg (show ¬ (false = true) by decide)] at H; exact H
    clear H
    have H := H1
    clear H1
    exact absurd H (by simp)
  ·replace c14 := Bool.eq_false_iff.mpr c14
   subst c14
   have H1 : (none) = some r := by rw [if_neg (show ¬ (false = true) by decide)] at H; exact H
   clear H
   have H := H1
   clear H1
   exact absurd H (by simp)
 ·replace c10 := Bool.eq_false_iff.mpr c10
  subst c10
  have H1 : (none) = some r := by rw [if_neg (show ¬ (false = true) by decide)] at H; exact H
  clear H
  have H := H1
  clear H1
  exact absurd H (by simp)

end Go.Proofs.Ytejoofeigeoboaa.P
