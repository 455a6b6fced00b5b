-- Written by a program of this session (wip/pp.py over the kit's printer, with our own texts put in).
import Derived.Test.YtgdkgobplinelaaP0
import Derived.Test.YtgdkgobplinelaaP3
import Derived.Test.YtgdkgobplinelaaP5
import Derived.Test.YtgdkgobplinelaaP6
import Derived.Test.YtgdkgobplinelaaP7
import Derived.Test.YtgdkgobplinelaaP8
import Derived.Test.YtgdkgobplinelaaP9
import Derived.Test.YtgdkgobplinelaaP10
import Derived.Test.YtgdkgobplinelaaP11
import Derived.Test.YtgdkgobplinelaaP12
import Derived.Test.YtgdkgobplinelaaP13
import Derived.Test.YtgdkgobplinelaaP14
import Derived.Test.YtgdkgobplinelaaP15
namespace Go.Proofs.Ytgdkgobplinelaa.P
open Go.RowKit Go.Proofs.YtgdkgobplinelaaW.PrintWords Go.Proofs.YtgdkgobplinelaaW.PrintLast Go.Proofs.YtgdkgobplinelaaW.PrintMore
attribute [local go_sem] run_store_complex max2_int min2_int max_two min_two max_three min_three max_four min_four   -- for this text's walks alone
set_option linter.unusedVariables false
set_option linter.unusedSimpArgs false

attribute [local go_sem high] eqA28 eqA41
/-! ### cenotaphlaw08_StorePuts: function 3 -/
abbrev bT3 : Bool := true
abbrev bF3 : Bool := false
theorem zq3x_0 {p_ : Prop} (h_ : p_ := by (with_reducible repeat (first | refine blk_drewN ?_ _ | refine blk_drew ?_ | refine blk_alloc ?_ _)); refine blk_put (cs := #[.int .i64 t253, .string t254, .int .i64 t255, .int .i64 t256, .bool t257, .int .i64 t258, .int .i64 t259, .string t260, .bool a1_8]) ?_ 8 _ rfl; (with_reducible repeat (first | refine blk_drewN ?_ _ | refine blk_drew ?_ | refine blk_alloc ?_ _)); refine blk_put (cs := #[.int .i64 t253, .string t254, .int .i64 t255, .int .i64 t256, .bool t257, .int .i64 t258, .int .i64 t259, .string a1_7, .bool a1_8]) ?_ 7 _ rfl; (with_reducible repeat (first | refine blk_drewN ?_ _ | refine blk_drew ?_ | refine blk_alloc ?_ _)); refine blk_put (cs := #[.int .i64 t253, .string t254, .int .i64 t255, .int .i64 t256, .bool t257, .int .i64 t258, .int .i64 a1_6, .string a1_7, .bool a1_8]) ?_ 6 _ rfl; (with_reducible repeat (first | refine blk_drewN ?_ _ | refine blk_drew ?_ | refine blk_alloc ?_ _)); refine blk_put (cs := #[.int .i64 t253, .string t254, .int .i64 t255, .int .i64 t256, .bool t257, .int .i64 a1_5, .int .i64 a1_6, .string a1_7, .bool a1_8]) ?_ 5 _ rfl; (with_reducible repeat (first | refine blk_drewN ?_ _ | refine blk_drew ?_ | refine blk_alloc ?_ _)); refine blk_put (cs := #[.int .i64 t253, .string t254, .int .i64 t255, .int .i64 t256, .bool a1_4, .int .i64 a1_5, .int .i64 a1_6, .string a1_7, .bool a1_8]) ?_ 4 _ rfl; (with_reducible repeat (first | refine blk_drewN ?_ _ | refine blk_drew ?_ | refine blk_alloc ?_ _)); refine blk_put (cs := #[.int .i64 t253, .string t254, .int .i64 t255, .int .i64 a1_3, .bool a1_4, .int .i64 a1_5, .int .i64 a1_6, .string a1_7, .bool a1_8]) ?_ 3 _ rfl; (with_reducible repeat (first | refine blk_drewN ?_ _ | refine blk_drew ?_ | refine blk_alloc ?_ _)); refine blk_put (cs := #[.int .i64 t253, .string t254, .int .i64 a1_2, .int .i64 a1_3, .bool a1_4, .int .i64 a1_5, .int .i64 a1_6, .string a1_7, .bool a1_8]) ?_ 2 _ rfl; (with_reducible repeat (first | refine blk_drewN ?_ _ | refine blk_drew ?_ | refine blk_alloc ?_ _)); refine blk_put (cs := #[.int .i64 t253, .string a1_1, .int .i64 a1_2, .int .i64 a1_3, .bool a1_4, .int .i64 a1_5, .int .i64 a1_6, .string a1_7, .bool a1_8]) ?_ 1 _ rfl; (with_reducible repeat (first | refine blk_drewN ?_ _ | refine blk_drew ?_ | refine blk_alloc ?_ _)); refine blk_put (cs := #[.int .i64 a1_0, .string a1_1, .int .i64 a1_2, .int .i64 a1_3, .bool a1_4, .int .i64 a1_5, .int .i64 a1_6, .string a1_7, .bool a1_8]) ?_ 0 _ rfl; (with_reducible repeat (first | refine blk_drewN ?_ _ | refine blk_drew ?_ | refine blk_alloc ?_ _)); exact BK249.out) : p_ := h_
theorem zq3x_1 {p_ : Prop} (h_ : p_ := by (with_reducible repeat (first | refine blk_drewN ?_ _ | refine blk_drew ?_ | refine blk_alloc ?_ _)); refine blk_put (cs := #[.int .i64 t281, .string t282, .int .i64 t283, .int .i64 t284, .bool t285, .complex .f64 t286.re t286.im, .string t287, .bool false]) ?_ 7 _ rfl; (with_reducible repeat (first | refine blk_drewN ?_ _ | refine blk_drew ?_ | refine blk_alloc ?_ _)); refine blk_put (cs := #[.int .i64 t281, .string t282, .int .i64 t283, .int .i64 t284, .bool t285, .complex .f64 t286.re t286.im, .string (⟨#[]⟩ : ByteArray), .bool false]) ?_ 6 _ rfl; (with_reducible repeat (first | refine blk_drewN ?_ _ | refine blk_drew ?_ | refine blk_alloc ?_ _)); refine blk_put (cs := #[.int .i64 t281, .string t282, .int .i64 t283, .int .i64 t284, .bool t285, .complex .f64 0 0, .string (⟨#[]⟩ : ByteArray), .bool false]) ?_ 5 _ rfl; (with_reducible repeat (first | refine blk_drewN ?_ _ | refine blk_drew ?_ | refine blk_alloc ?_ _)); refine blk_put (cs := #[.int .i64 t281, .string t282, .int .i64 t283, .int .i64 t284, .bool false, .complex .f64 0 0, .string (⟨#[]⟩ : ByteArray), .bool false]) ?_ 4 _ rfl; (with_reducible repeat (first | refine blk_drewN ?_ _ | refine blk_drew ?_ | refine blk_alloc ?_ _)); refine blk_put (cs := #[.int .i64 t281, .string t282, .int .i64 t283, .int .i64 0, .bool false, .complex .f64 0 0, .string (⟨#[]⟩ : ByteArray), .bool false]) ?_ 3 _ rfl; (with_reducible repeat (first | refine blk_drewN ?_ _ | refine blk_drew ?_ | refine blk_alloc ?_ _)); refine blk_put (cs := #[.int .i64 t281, .string t282, .int .i64 0, .int .i64 0, .bool false, .complex .f64 0 0, .string (⟨#[]⟩ : ByteArray), .bool false]) ?_ 2 _ rfl; (with_reducible repeat (first | refine blk_drewN ?_ _ | refine blk_drew ?_ | refine blk_alloc ?_ _)); refine blk_put (cs := #[.int .i64 t281, .string (⟨#[]⟩ : ByteArray), .int .i64 0, .int .i64 0, .bool false, .complex .f64 0 0, .string (⟨#[]⟩ : ByteArray), .bool false]) ?_ 1 _ rfl; (with_reducible repeat (first | refine blk_drewN ?_ _ | refine blk_drew ?_ | refine blk_alloc ?_ _)); refine blk_put (cs := #[.int .i64 0, .string (⟨#[]⟩ : ByteArray), .int .i64 0, .int .i64 0, .bool false, .complex .f64 0 0, .string (⟨#[]⟩ : ByteArray), .bool false]) ?_ 0 _ rfl; (with_reducible repeat (first | refine blk_drewN ?_ _ | refine blk_drew ?_ | refine blk_alloc ?_ _)); exact BK290.out) : p_ := h_
theorem zq3x_2 {p_ : Prop} (h_ : p_ := by (with_reducible repeat (first | refine blk_drewN ?_ _ | refine blk_drew ?_ | refine blk_alloc ?_ _)); refine blk_far ?_ NB249_290.out _; (with_reducible repeat (first | refine blk_drewN ?_ _ | refine blk_drew ?_ | refine blk_alloc ?_ _)); refine blk_far ?_ NB249_290.out _; (with_reducible repeat (first | refine blk_drewN ?_ _ | refine blk_drew ?_ | refine blk_alloc ?_ _)); refine blk_far ?_ NB249_290.out _; (with_reducible repeat (first | refine blk_drewN ?_ _ | refine blk_drew ?_ | refine blk_alloc ?_ _)); refine blk_far ?_ NB249_290.out _; (with_reducible repeat (first | refine blk_drewN ?_ _ | refine blk_drew ?_ | refine blk_alloc ?_ _)); refine blk_far ?_ NB249_290.out _; (with_reducible repeat (first | refine blk_drewN ?_ _ | refine blk_drew ?_ | refine blk_alloc ?_ _)); refine blk_far ?_ NB249_290.out _; (with_reducible repeat (first | refine blk_drewN ?_ _ | refine blk_drew ?_ | refine blk_alloc ?_ _)); refine blk_far ?_ NB249_290.out _; (with_reducible repeat (first | refine blk_drewN ?_ _ | refine blk_drew ?_ | refine blk_alloc ?_ _)); refine blk_far ?_ NB249_290.out _; (with_reducible repeat (first | refine blk_drewN ?_ _ | refine blk_drew ?_ | refine blk_alloc ?_ _)); exact BK249.out) : p_ := h_
theorem zq3x_3 {p_ : Prop} (h_ : p_ := by (with_reducible repeat (first | apply Kd.R_alloc | apply Kd.R_drewN | apply Kd.R_drew)); exact (Kd.R_mono (Kd.R_far (p := ⟨gb249, 8, none⟩) (Kd.R_far (p := ⟨gb249, 7, none⟩) (Kd.R_far (p := ⟨gb249, 6, none⟩) (Kd.R_far (p := ⟨gb249, 5, none⟩) (Kd.R_far (p := ⟨gb249, 4, none⟩) (Kd.R_far (p := ⟨gb249, 3, none⟩) (Kd.R_far (p := ⟨gb249, 2, none⟩) (Kd.R_far (p := ⟨gb249, 1, none⟩) (Kd.R_far (p := ⟨gb249, 0, none⟩) (Kd.R_mono HO252.out (fun k_ hk => (⟨hk, hk.2⟩ : _ ∧ k_ ≠ gb249))) (fun _ hk => hk.2) (.int .i64 t253)) (fun _ hk => hk.2) (.string t254)) (fun _ hk => hk.2) (.int .i64 t255)) (fun _ hk => hk.2) (.int .i64 t256)) (fun _ hk => hk.2) (.bool t257)) (fun _ hk => hk.2) (.int .i64 t258)) (fun _ hk => hk.2) (.int .i64 t259)) (fun _ hk => hk.2) (.string t260)) (fun _ hk => hk.2) (.bool t261)) (fun _ h_ => h_.1))) : p_ := h_
theorem zq3x_4 {p_ : Prop} (h_ : p_ := by (with_reducible repeat (first | apply Kd.R_alloc | apply Kd.R_drewN | apply Kd.R_drew)); exact (Kd.R_mono (Kd.R_far (p := ⟨gb290, 7, none⟩) (Kd.R_far (p := ⟨gb290, 6, none⟩) (Kd.R_far (p := ⟨gb290, 5, none⟩) (Kd.R_far (p := ⟨gb290, 4, none⟩) (Kd.R_far (p := ⟨gb290, 3, none⟩) (Kd.R_far (p := ⟨gb290, 2, none⟩) (Kd.R_far (p := ⟨gb290, 1, none⟩) (Kd.R_far (p := ⟨gb290, 0, none⟩) (Kd.R_mono HO264.out (fun k_ hk => (⟨hk, hk.2⟩ : _ ∧ k_ ≠ gb290))) (fun _ hk => hk.2) (.int .i64 t281)) (fun _ hk => hk.2) (.string t282)) (fun _ hk => hk.2) (.int .i64 t283)) (fun _ hk => hk.2) (.int .i64 t284)) (fun _ hk => hk.2) (.bool t285)) (fun _ hk => hk.2) (.complex .f64 t286.re t286.im)) (fun _ hk => hk.2) (.string t287)) (fun _ hk => hk.2) (.bool t288)) (fun _ h_ => h_.1))) : p_ := h_
theorem zq3x_5 {p_ : Prop} (h_ : p_ := by (with_reducible repeat (first | apply Kd.R_alloc | apply Kd.R_drewN | apply Kd.R_drew)); exact (Kd.R_mono (Kd.R_far (p := ⟨gb290, 7, none⟩) (Kd.R_far (p := ⟨gb290, 6, none⟩) (Kd.R_far (p := ⟨gb290, 5, none⟩) (Kd.R_far (p := ⟨gb290, 4, none⟩) (Kd.R_far (p := ⟨gb290, 3, none⟩) (Kd.R_far (p := ⟨gb290, 2, none⟩) (Kd.R_far (p := ⟨gb290, 1, none⟩) (Kd.R_far (p := ⟨gb290, 0, none⟩) (Kd.R_mono HO275.out (fun k_ hk => (⟨hk, hk.2⟩ : _ ∧ k_ ≠ gb290))) (fun _ hk => hk.2) (.int .i64 t281)) (fun _ hk => hk.2) (.string t282)) (fun _ hk => hk.2) (.int .i64 t283)) (fun _ hk => hk.2) (.int .i64 t284)) (fun _ hk => hk.2) (.bool t285)) (fun _ hk => hk.2) (.complex .f64 t286.re t286.im)) (fun _ hk => hk.2) (.string t287)) (fun _ hk => hk.2) (.bool t288)) (fun _ h_ => h_.1))) : p_ := h_
theorem zq3x_6 {p_ : Prop} (h_ : p_ := by (with_reducible repeat (first | apply Kd.R_alloc | apply Kd.R_drewN | apply Kd.R_drew)); exact (Kd.R_mono (Kd.R_far (p := ⟨gb290, 7, none⟩) (Kd.R_far (p := ⟨gb290, 6, none⟩) (Kd.R_far (p := ⟨gb290, 5, none⟩) (Kd.R_far (p := ⟨gb290, 4, none⟩) (Kd.R_far (p := ⟨gb290, 3, none⟩) (Kd.R_far (p := ⟨gb290, 2, none⟩) (Kd.R_far (p := ⟨gb290, 1, none⟩) (Kd.R_far (p := ⟨gb290, 0, none⟩) (Kd.R_types HO252.out BK290.out (by decide)) (fun _ hk => hk.2) (.int .i64 t281)) (fun _ hk => hk.2) (.string t282)) (fun _ hk => hk.2) (.int .i64 t283)) (fun _ hk => hk.2) (.int .i64 t284)) (fun _ hk => hk.2) (.bool t285)) (fun _ hk => hk.2) (.complex .f64 t286.re t286.im)) (fun _ hk => hk.2) (.string t287)) (fun _ hk => hk.2) (.bool t288)) (fun _ h_ => h_.1))) : p_ := h_
theorem zq3x_7 {p_ : Prop} (h_ : p_ := by (with_reducible repeat (first | apply Kd.R_alloc | apply Kd.R_drewN | apply Kd.R_drew)); exact (Kd.R_mono (Kd.R_far (p := ⟨gb290, 7, none⟩) (Kd.R_far (p := ⟨gb290, 6, none⟩) (Kd.R_far (p := ⟨gb290, 5, none⟩) (Kd.R_far (p := ⟨gb290, 4, none⟩) (Kd.R_far (p := ⟨gb290, 3, none⟩) (Kd.R_far (p := ⟨gb290, 2, none⟩) (Kd.R_far (p := ⟨gb290, 1, none⟩) (Kd.R_far (p := ⟨gb290, 0, none⟩) (Kd.R_types HO279.out BK290.out (by decide)) (fun _ hk => hk.2) (.int .i64 t281)) (fun _ hk => hk.2) (.string t282)) (fun _ hk => hk.2) (.int .i64 t283)) (fun _ hk => hk.2) (.int .i64 t284)) (fun _ hk => hk.2) (.bool t285)) (fun _ hk => hk.2) (.complex .f64 t286.re t286.im)) (fun _ hk => hk.2) (.string t287)) (fun _ hk => hk.2) (.bool t288)) (fun _ h_ => h_.1))) : p_ := h_
theorem zq3x_8 {p_ : Prop} (h_ : p_ := by rw [hg]; exact Nat.ne_of_lt (blk_lt (g := gb249) (o := .cells #[.int .i64 t253, .string t254, .int .i64 t255, .int .i64 t256, .bool t257, .int .i64 t258, .int .i64 t259, .string t260, .bool t261] 28 (0, 0)) (by (with_reducible repeat (first | refine blk_drewN ?_ _ | refine blk_drew ?_ | refine blk_alloc ?_ _)); exact BK249.out))) : p_ := h_
theorem zq3x_9 {p_ : Prop} (h_ : p_ := by rw [hg]; exact Nat.ne_of_gt (blk_lt (g := gb249) (o := .cells #[.int .i64 t253, .string t254, .int .i64 t255, .int .i64 t256, .bool t257, .int .i64 t258, .int .i64 t259, .string t260, .bool t261] 28 (0, 0)) (by (with_reducible repeat (first | refine blk_drewN ?_ _ | refine blk_drew ?_ | refine blk_alloc ?_ _)); exact BK249.out))) : p_ := h_
theorem zq3x_10 {p_ : Prop} (h_ : p_ := by rw [hg]; exact Nat.ne_of_lt (blk_lt (g := gb290) (o := .cells #[.int .i64 t281, .string t282, .int .i64 t283, .int .i64 t284, .bool t285, .complex .f64 t286.re t286.im, .string t287, .bool t288] 41 (0, 0)) (by (with_reducible repeat (first | refine blk_drewN ?_ _ | refine blk_drew ?_ | refine blk_alloc ?_ _)); exact BK290.out))) : p_ := h_
theorem zq3x_11 {p_ : Prop} (h_ : p_ := by rw [hg]; exact Nat.ne_of_gt (blk_lt (g := gb290) (o := .cells #[.int .i64 t281, .string t282, .int .i64 t283, .int .i64 t284, .bool t285, .complex .f64 t286.re t286.im, .string t287, .bool t288] 41 (0, 0)) (by (with_reducible repeat (first | refine blk_drewN ?_ _ | refine blk_drew ?_ | refine blk_alloc ?_ _)); exact BK290.out))) : p_ := h_
theorem zq3x_12 {p_ : Prop} (h_ : p_ := by rw [hg]; exact (below_size (by repeat (first | (with_reducible first | exact HB.out | apply below_alloc | apply pw_below_drewN | apply below_drew1 | refine below_set ?_ GE249.out | refine below_set ?_ GE290.out) | exact HB.out)))) : p_ := h_
theorem zq3x_13 {p_ : Prop} (h_ : p_ := by repeat (first | (with_reducible first | exact HB.out | apply below_alloc | apply pw_below_drewN | apply below_drew1 | refine below_set ?_ GE249.out | refine below_set ?_ GE290.out | refine below_set ?_ GE301.out) | exact HB.out)) : p_ := h_
theorem zq3x_14 {p_ : Prop} (h_ : p_ := by rw [hg]; exact (below_size (by repeat (first | (with_reducible first | exact HB.out | apply below_alloc | apply pw_below_drewN | apply below_drew1 | refine below_set ?_ GE249.out) | exact HB.out)))) : p_ := h_
theorem zq3x_15 {p_ : Prop} (h_ : p_ := by repeat (first | (with_reducible first | exact HB.out | apply below_alloc | apply pw_below_drewN | apply below_drew1 | refine below_set ?_ GE249.out | refine below_set ?_ GE290.out) | exact HB.out)) : p_ := h_
theorem zq3x_16 {p_ : Prop} (h_ : p_ := by rw [hg]; exact (below_size (by repeat (first | (with_reducible first | exact HB.out | apply below_alloc | apply pw_below_drewN | apply below_drew1) | exact HB.out)))) : p_ := h_
theorem zq3x_17 {p_ : Prop} (h_ : p_ := by repeat (first | (with_reducible first | exact HB.out | apply below_alloc | apply pw_below_drewN | apply below_drew1 | refine below_set ?_ GE249.out) | exact HB.out)) : p_ := h_
theorem zq3x_18 {p_ : Prop} (h_ : p_ := by (try simp only [List.map_toArray, List.map_cons, List.map_nil]); first | done | rfl | (simp only [List.length_drop, List.length_take]; rfl)) : p_ := h_
theorem zq3x_19 {p_ : Prop} (h_ : p_ := by repeat (first | (with_reducible first | exact HB.out | apply below_alloc | apply pw_below_drewN | apply below_drew1) | exact HB.out)) : p_ := h_
theorem zq3x_20 {p_ : Prop} (h_ : p_ := by (with_reducible repeat (first | refine blk_drewN ?_ _ | refine blk_drew ?_ | refine blk_alloc ?_ _)); exact BK249.out) : p_ := h_
theorem zq3x_21 {p_ : Prop} (h_ : p_ := by (with_reducible repeat (first | refine blk_drewN ?_ _ | refine blk_drew ?_ | refine blk_alloc ?_ _)); exact BK290.out) : p_ := h_
theorem zq3x_22 {p_ : Prop} (h_ : p_ := by (with_reducible repeat (first | refine blk_drewN ?_ _ | refine blk_drew ?_ | refine blk_alloc ?_ _)); exact BK301.out) : p_ := h_
theorem zq3x_23 {p_ : Prop} (h_ : p_ := by (with_reducible repeat (first | apply Kd.R_alloc | apply Kd.R_drewN | apply Kd.R_drew)); exact HO252.out) : p_ := h_
theorem zq3x_24 {p_ : Prop} (h_ : p_ := by (with_reducible repeat (first | apply Kd.R_alloc | apply Kd.R_drewN | apply Kd.R_drew)); exact HO264.out) : p_ := h_
theorem zq3x_25 {p_ : Prop} (h_ : p_ := by (with_reducible repeat (first | apply Kd.R_alloc | apply Kd.R_drewN | apply Kd.R_drew)); exact HO275.out) : p_ := h_
theorem zq3x_26 {p_ : Prop} (h_ : p_ := by (with_reducible repeat (first | apply Kd.R_alloc | apply Kd.R_drewN | apply Kd.R_drew)); exact HO279.out) : p_ := h_
theorem zq3x_27 {p_ : Prop} (h_ : p_ := by (with_reducible repeat (first | apply Kd.R_alloc | apply Kd.R_drewN | apply Kd.R_drew)); exact HO305.out) : p_ := h_
theorem zq3x_28 {p_ : Prop} (h_ : p_ := by (with_reducible repeat (first | apply Kd.R_alloc | apply Kd.R_drewN | apply Kd.R_drew)); exact HO319.out) : p_ := h_
theorem zq3x_29 {p_ : Prop} (h_ : p_ := by (with_reducible repeat (first | apply Kd.R_alloc | apply Kd.R_drewN | apply Kd.R_drew)); exact HO322.out) : p_ := h_
theorem zq3x_30 {p_ : Prop} (h_ : p_ := by (with_reducible repeat (first | apply Kd.R_alloc | apply Kd.R_drewN | apply Kd.R_drew)); exact HO333.out) : p_ := h_
theorem zq3x_31 {p_ : Prop} (h_ : p_ := by (with_reducible repeat (first | apply Kd.R_alloc | apply Kd.R_drewN | apply Kd.R_drew)); exact HO336.out) : p_ := h_
theorem zq3x_32 {p_ : Prop} (h_ : p_ := by (with_reducible repeat (first | apply Kd.R_alloc | apply Kd.R_drewN | apply Kd.R_drew)); exact HO347.out) : p_ := h_
theorem zq3x_33 {p_ : Prop} (h_ : p_ := by (with_reducible repeat (first | apply Kd.R_alloc | apply Kd.R_drewN | apply Kd.R_drew)); exact HO350.out) : p_ := h_
def cenotaphlaw08_StorePuts.f (k : Nat) (l0 : List (S28)) (a1_0 : Int) (a1_1 : ByteArray) (a1_2 : Int) (a1_3 : Int) (a1_4 : Bool) (a1_5 : Int) (a1_6 : Int) (a1_7 : ByteArray) (a1_8 : Bool) (a2 : Int) : Option (Bool) := (cenotaphref08_Fix.f k l0).bind fun t250 => ((cenotaphref07_Fix.f k a1_0 a1_1 a1_2 a1_3 a1_4 a1_5 a1_6 a1_7 a1_8).bind fun bt253 => ((cenotaphlaw08_To.f k t250).bind fun t262 => ((cenotaphlaw07_To.f bt253.1 bt253.2.1 bt253.2.2.1 bt253.2.2.2.1 bt253.2.2.2.2.1 bt253.2.2.2.2.2.1 bt253.2.2.2.2.2.2.1 bt253.2.2.2.2.2.2.2.1 bt253.2.2.2.2.2.2.2.2).bind fun bt265 => ((store_Put.f t262 bt265.1 bt265.2.1 bt265.2.2.1 bt265.2.2.2.1 bt265.2.2.2.2.1 bt265.2.2.2.2.2.1 bt265.2.2.2.2.2.2.1 bt265.2.2.2.2.2.2.2).bind fun bt273 => ((cenotaphref08_Put.f k t250 bt253.1 bt253.2.1 bt253.2.2.1 bt253.2.2.2.1 bt253.2.2.2.2.1 bt253.2.2.2.2.2.1 bt253.2.2.2.2.2.2.1 bt253.2.2.2.2.2.2.2.1 bt253.2.2.2.2.2.2.2.2).bind fun bt277 => ((store_Get.f t262 a2).bind fun bt281 => ((cenotaphref08_Get.f k t250 a2).bind fun bt291 => ((cenotaphlaw08_told.f k).bind fun t302 => (if t302 = true then (if (bt273.2 != bt277.2) = true then (none) else ((cenotaphlaw08_From.f k bt273.1).bind fun t303 => ((cenotaphref08_Same.f k t303 bt277.1).bind fun t306 => (if t306 = true then ((store_Right.f k bt273.1).bind fun t307 => (if t307 = true then (if (bt281.2.2.2.2.2.2.2.2 != bt291.2.2.2.2.2.2.2.2.2) = true then (none) else ((cenotaphlaw07_From.f bt281.1 bt281.2.1 bt281.2.2.1 bt281.2.2.2.1 bt281.2.2.2.2.1 bt281.2.2.2.2.2.1 bt281.2.2.2.2.2.2.1 bt281.2.2.2.2.2.2.2.1).bind fun bt308 => (if (!(bt308.1 == bt291.1) || ((!(bt308.2.1.toList == bt291.2.1.toList) || (!(bt308.2.2.1 == bt291.2.2.1) || (!(bt308.2.2.2.1 == bt291.2.2.2.1)))) || (!(bt308.2.2.2.2.1 == bt291.2.2.2.2.1) || ((!(bt308.2.2.2.2.2.1 == bt291.2.2.2.2.2.1) || (!(bt308.2.2.2.2.2.2.1 == bt291.2.2.2.2.2.2.1))) || (!(bt308.2.2.2.2.2.2.2.1.toList == bt291.2.2.2.2.2.2.2.1.toList) || (!(bt308.2.2.2.2.2.2.2.2 == bt291.2.2.2.2.2.2.2.2.1))))))) = true then (if bt281.2.2.2.2.2.2.2.2 = true then (none) else (if (!(bt281.1 == 0) || ((!(bt281.2.1.toList == ([] : List UInt8)) || (!(bt281.2.2.1 == 0) || (!(bt281.2.2.2.1 == 0)))) || (bt281.2.2.2.2.1 || (!(cxq bt281.2.2.2.2.2.1.re bt281.2.2.2.2.2.1.im 0 0) || (!(bt281.2.2.2.2.2.2.1.toList == ([] : List UInt8)) || (bt281.2.2.2.2.2.2.2.1)))))) = true then (none) else ((store_Drop.f t262 a2).bind fun t317 => ((cenotaphlaw08_From.f k t317).bind fun t320 => ((cenotaphref08_Drop.f k t250 a2).bind fun t323 => ((cenotaphref08_Same.f k t320 t323).bind fun t326 => (if t326 = true then ((cenotaphlaw08_From.f k t262).bind fun t327 => ((cenotaphref08_Same.f k t327 t250).bind fun t330 => (some t330))) else (none)))))))) else (if bt281.2.2.2.2.2.2.2.2 = true then ((store_Drop.f t262 a2).bind fun t331 => ((cenotaphlaw08_From.f k t331).bind fun t334 => ((cenotaphref08_Drop.f k t250 a2).bind fun t337 => ((cenotaphref08_Same.f k t334 t337).bind fun t340 => (if t340 = true then ((cenotaphlaw08_From.f k t262).bind fun t341 => ((cenotaphref08_Same.f k t341 t250).bind fun t344 => (some t344))) else (none)))))) else (if (!(bt281.1 == 0) || ((!(bt281.2.1.toList == ([] : List UInt8)) || (!(bt281.2.2.1 == 0) || (!(bt281.2.2.2.1 == 0)))) || (bt281.2.2.2.2.1 || (!(cxq bt281.2.2.2.2.2.1.re bt281.2.2.2.2.2.1.im 0 0) || (!(bt281.2.2.2.2.2.2.1.toList == ([] : List UInt8)) || (bt281.2.2.2.2.2.2.2.1)))))) = true then (none) else ((store_Drop.f t262 a2).bind fun t345 => ((cenotaphlaw08_From.f k t345).bind fun t348 => ((cenotaphref08_Drop.f k t250 a2).bind fun t351 => ((cenotaphref08_Same.f k t348 t351).bind fun t354 => (if t354 = true then ((cenotaphlaw08_From.f k t262).bind fun t355 => ((cenotaphref08_Same.f k t355 t250).bind fun t358 => (some t358))) else (none))))))))))) else (none))) else (none))))) else (none))))))))))
theorem cenotaphlaw08_StorePuts.mono : ∀ a0 a1 a2 a3 a4 a5 a6 a7 a8 a9 a10 k, LeO (cenotaphlaw08_StorePuts.f k a0 a1 a2 a3 a4 a5 a6 a7 a8 a9 a10) (cenotaphlaw08_StorePuts.f (k + 1) a0 a1 a2 a3 a4 a5 a6 a7 a8 a9 a10) := by
 intro a0 a1 a2 a3 a4 a5 a6 a7 a8 a9 a10 k
 unfold cenotaphlaw08_StorePuts.f
 repeat' first
   | (with_reducible exact cenotaphlaw08_From.mono _ _)
   | (with_reducible exact cenotaphlaw08_To.mono _ _)
   | (with_reducible exact cenotaphlaw08_told.mono _)
   | (with_reducible exact cenotaphref07_Fix.mono _ _ _ _ _ _ _ _ _ _)
   | (with_reducible exact cenotaphref08_Drop.mono _ _ _)
   | (with_reducible exact cenotaphref08_Fix.mono _ _)
   | (with_reducible exact cenotaphref08_Get.mono _ _ _)
   | (with_reducible exact cenotaphref08_Put.mono _ _ _ _ _ _ _ _ _ _ _)
   | (with_reducible exact cenotaphref08_Same.mono _ _ _)
   | (with_reducible exact store_Right.mono _ _)
   | (with_reducible exact LeO.refl _)
   | (with_reducible exact LeO.none _)
   | (with_reducible refine LeO.ite ?_ ?_)
   | (with_reducible refine LeO.bind ?_ (fun _ => ?_))
   | exact cenotaphlaw08_From.mono _ _
   | exact cenotaphlaw08_To.mono _ _
   | exact cenotaphlaw08_told.mono _
   | exact cenotaphref07_Fix.mono _ _ _ _ _ _ _ _ _ _
   | exact cenotaphref08_Drop.mono _ _ _
   | exact cenotaphref08_Fix.mono _ _
   | exact cenotaphref08_Get.mono _ _ _
   | exact cenotaphref08_Put.mono _ _ _ _ _ _ _ _ _ _ _
   | exact cenotaphref08_Same.mono _ _ _
   | exact store_Right.mono _ _
   | exact LeO.none _
   | refine LeO.ite ?_ ?_
   | refine LeO.bind ?_ (fun _ => ?_)
def cenotaphlaw08_StorePuts.T7 : Bool × List (List Nat × List Nat) := (true, [([], []), ([0], [0]), ([1, 0], [1]), ([2], [2]), ([2], [2]), ([3, 4, 2], [2, 3, 4]), ([2, 5], [2, 5]), ([6, 2], [6]), ([7], [7]), ([8, 7, 7], [7, 8]), ([7], [7]), ([9, 10, 9, 7], [7, 9, 10]), ([11, 7], [7, 11]), ([7, 12], [7, 12]), ([13, 11], [13]), ([14], [14]), ([15, 14, 14], [14, 15]), ([16, 14], [14, 16]), ([14, 17], [14, 17]), ([18, 16], [18]), ([19], [19]), ([19], [19]), ([20, 21, 19], [19, 20, 21]), ([19, 22], [19, 22]), ([23, 19], [23]), ([24], [24]), ([25, 24, 24], [24, 25]), ([24], [24]), ([26, 27, 24], [24, 26, 27]), ([28, 26, 24], [24, 28]), ([29], [29]), ([29, 30, 24], [24, 29, 30]), ([24, 31], [24, 31]), ([32, 29], [32]), ([33], [33]), ([34, 33], [33, 34]), ([35, 33, 33], [33, 35]), ([36], [36]), ([36], [36]), ([37, 38, 36], [36, 37, 38]), ([36, 39, 33], [33, 36, 39]), ([33, 40], [33, 40])])
def cenotaphlaw08_StorePuts.B7 : List Nat := [0, 1, 3, 7, 7, 31, 63, 127, 255, 511, 255, 2047, 4095, 8191, 16383, 32767, 65535, 131071, 262143, 524287, 1048575, 1048575, 4194303, 8388607, 16777215, 33554431, 67108863, 33554431, 268435455, 536870911, 1073741823, 2147483647, 4294967295, 8589934591, 17179869183, 34359738367, 68719476735, 137438953471, 137438953471, 549755813887, 1099511627775, 2199023255551]
theorem cenotaphlaw08_StorePuts.tab7 : rtab .any (opsOf Try.f3 7) = cenotaphlaw08_StorePuts.T7 := by kernel_rfl
theorem cenotaphlaw08_StorePuts.bits7 : waitsOk cenotaphlaw08_StorePuts.T7.2 cenotaphlaw08_StorePuts.B7 = true := by kernel_rfl
set_option maxHeartbeats 8000000 in
set_option maxRecDepth 100000 in
theorem cenotaphlaw08_StorePuts.calls (k : Nat) (A0 : Option Addr) (c0 : Nat) (l0 : List (S28)) (a1_0 : Int) (a1_1 : ByteArray) (a1_2 : Int) (a1_3 : Int) (a1_4 : Bool) (a1_5 : Int) (a1_6 : Int) (a1_7 : ByteArray) (a1_8 : Bool) (a2 : Int) (r : Bool) (w : World) (hr0 : Kd.C k28 w A0 l0.length l0) (hc0 : l0.length ≤ c0) (h : cenotaphlaw08_StorePuts.f k l0 a1_0 a1_1 a1_2 a1_3 a1_4 a1_5 a1_6 a1_7 a1_8 a2 = some r) :
  Calls Try.prog 3 #[.slice A0 l0.length c0, .agg #[.int .i64 a1_0, .string a1_1, .int .i64 a1_2, .int .i64 a1_3, .bool a1_4, .int .i64 a1_5, .int .i64 a1_6, .string a1_7, .bool a1_8], .int .i64 a2] w fun e w' => e = .returned (.bool r) ∧ Below w.heap.size w w' := by
 have hu28 := Try.underlying28
 have hu41 := Try.underlying41
 have HR0 := Aside0.mk hr0
 have HC0 := Aside0.mk hc0
 clear hr0 hc0
 have HB := Aside0.mk (Below.refl w.heap.size w)
 have H := h
 unfold cenotaphlaw08_StorePuts.f at H
 clear h
 replace H := Option.bind_eq_some_iff.mp H
 obtain ⟨t250, A40, H⟩ := H
 have A4 := Aside0.mk A40
 clear A40
 replace H := Option.bind_eq_some_iff.mp H
 obtain ⟨⟨t253, t254, t255, t256, t257, t258, t259, t260, t261⟩, A50, H⟩ := H
 have A5 := Aside0.mk A50
 clear A50
 replace H := Option.bind_eq_some_iff.mp H
 obtain ⟨t262, A60, H⟩ := H
 have A6 := Aside0.mk A60
 clear A60
 replace H := Option.bind_eq_some_iff.mp H
 obtain ⟨⟨t265, t266, t267, t268, t269, t270, t271, t272⟩, A70, H⟩ := H
 have A7 := Aside0.mk A70
 clear A70
 replace H := Option.bind_eq_some_iff.mp H
 obtain ⟨⟨t273, t276⟩, A80, H⟩ := H
 have A8 := Aside0.mk A80
 clear A80
 replace H := Option.bind_eq_some_iff.mp H
 obtain ⟨⟨t277, t280⟩, A90, H⟩ := H
 have A9 := Aside0.mk A90
 clear A90
 replace H := Option.bind_eq_some_iff.mp H
 obtain ⟨⟨t281, t282, t283, t284, t285, t286, t287, t288, t289⟩, A100, H⟩ := H
 have A10 := Aside0.mk A100
 clear A100
 replace H := Option.bind_eq_some_iff.mp H
 obtain ⟨⟨t291, t292, t293, t294, t295, t296, t297, t298, t299, t300⟩, A110, H⟩ := H
 have A11 := Aside0.mk A110
 clear A110
 replace H := Option.bind_eq_some_iff.mp H
 obtain ⟨t302, A120, H⟩ := H
 have A12 := Aside0.mk A120
 clear A120
 by_cases c13 : t302 = true
 ·subst c13
  have H1 : (if (t276 != t280) = true then (none) else ((cenotaphlaw08_From.f k t273).bind fun t303 => ((cenotaphref08_Same.f k t303 t277).bind fun t306 => (if t306 = true then ((store_Right.f k t273).bind fun t307 => (if t307 = true then (if (t289 != t300) = true then (none) else ((cenotaphlaw07_From.f t281 t282 t283 t284 t285 t286 t287 t288).bind fun bt308 => (if (!(bt308.1 == t291) || ((!(bt308.2.1.toList == t292.toList) || (!(bt308.2.2.1 == t293) || (!(bt308.2.2.2.1 == t294)))) || (!(bt308.2.2.2.2.1 == t295) || ((!(bt308.2.2.2.2.2.1 == t296) || (!(bt308.2.2.2.2.2.2.1 == t297))) || (!(bt308.2.2.2.2.2.2.2.1.toList == t298.toList) || (!(bt308.2.2.2.2.2.2.2.2 == t299))))))) = true then (if t289 = true then (none) else (if (!(t281 == 0) || ((!(t282.toList == ([] : List UInt8)) || (!(t283 == 0) || (!(t284 == 0)))) || (t285 || (!(cxq t286.re t286.im 0 0) || (!(t287.toList == ([] : List UInt8)) || (t288)))))) = true then (none) else ((store_Drop.f t262 a2).bind fun t317 => ((cenotaphlaw08_From.f k t317).bind fun t320 => ((cenotaphref08_Drop.f k t250 a2).bind fun t323 => ((cenotaphref08_Same.f k t320 t323).bind fun t326 => (if t326 = true then ((cenotaphlaw08_From.f k t262).bind fun t327 => ((cenotaphref08_Same.f k t327 t250).bind fun t330 => (some t330))) else (none)))))))) else (if t289 = true then ((store_Drop.f t262 a2).bind fun t331 => ((cenotaphlaw08_From.f k t331).bind fun t334 => ((cenotaphref08_Drop.f k t250 a2).bind fun t337 => ((cenotaphref08_Same.f k t334 t337).bind fun t340 => (if t340 = true then ((cenotaphlaw08_From.f k t262).bind fun t341 => ((cenotaphref08_Same.f k t341 t250).bind fun t344 => (some t344))) else (none)))))) else (if (!(t281 == 0) || ((!(t282.toList == ([] : List UInt8)) || (!(t283 == 0) || (!(t284 == 0)))) || (t285 || (!(cxq t286.re t286.im 0 0) || (!(t287.toList == ([] : List UInt8)) || (t288)))))) = true then (none) else ((store_Drop.f t262 a2).bind fun t345 => ((cenotaphlaw08_From.f k t345).bind fun t348 => ((cenotaphref08_Drop.f k t250 a2).bind fun t351 => ((cenotaphref08_Same.f k t348 t351).bind fun t354 => (if t354 = true then ((cenotaphlaw08_From.f k t262).bind fun t355 => ((cenotaphref08_Same.f k t355 t250).bind fun t358 => (some t358))) else (none))))))))))) else (none))) else (none))))) = some r := by rw [if_pos rfl] at H; exact H
  clear H
  have H := H1
  clear H1
  by_cases c14 : (t276 != t280) = true
  ·rw [if_pos c14] at H
   have c14b0 : (t276 != t280) = true := c14
   (try (have c14b1 : decide (t276 = t280) = false := by simpa using c14))
   (try (have c14b2 : (t276 == t280) = false := by simpa using c14))
   (try (have c14b3 : ¬ (t276 = t280) := by simpa using c14))
   clear c14
   exact absurd H (by simp)
  ·rw [if_neg c14] at H
   have c14b0 : (t276 != t280) = false := by simpa using c14
   (try (have c14b1 : decide (t276 = t280) = true := by simpa using c14))
   (try (have c14b2 : (t276 == t280) = true := by simpa using c14))
   clear c14
   replace H := Option.bind_eq_some_iff.mp H
   obtain ⟨t303, A150, H⟩ := H
   have A15 := Aside0.mk A150
   clear A150
   replace H := Option.bind_eq_some_iff.mp H
   obtain ⟨t306, A160, H⟩ := H
   have A16 := Aside0.mk A160
   clear A160
   by_cases c17 : t306 = true
   ·subst c17
    have H1 : ((store_Right.f k t273).bind fun t307 => (if t307 = true then (if (t289 != t300) = true then (none) else ((cenotaphlaw07_From.f t281 t282 t283 t284 t285 t286 t287 t288).bind fun bt308 => (if (!(bt308.1 == t291) || ((!(bt308.2.1.toList == t292.toList) || (!(bt308.2.2.1 == t293) || (!(bt308.2.2.2.1 == t294)))) || (!(bt308.2.2.2.2.1 == t295) || ((!(bt308.2.2.2.2.2.1 == t296) || (!(bt308.2.2.2.2.2.2.1 == t297))) || (!(bt308.2.2.2.2.2.2.2.1.toList == t298.toList) || (!(bt308.2.2.2.2.2.2.2.2 == t299))))))) = true then (if t289 = true then (none) else (if (!(t281 == 0) || ((!(t282.toList == ([] : List UInt8)) || (!(t283 == 0) || (!(t284 == 0)))) || (t285 || (!(cxq t286.re t286.im 0 0) || (!(t287.toList == ([] : List UInt8)) || (t288)))))) = true then (none) else ((store_Drop.f t262 a2).bind fun t317 => ((cenotaphlaw08_From.f k t317).bind fun t320 => ((cenotaphref08_Drop.f k t250 a2).bind fun t323 => ((cenotaphref08_Same.f k t320 t323).bind fun t326 => (if t326 = true then ((cenotaphlaw08_From.f k t262).bind fun t327 => ((cenotaphref08_Same.f k t327 t250).bind fun t330 => (some t330))) else (none)))))))) else (if t289 = true then ((store_Drop.f t262 a2).bind fun t331 => ((cenotaphlaw08_From.f k t331).bind fun t334 => ((cenotaphref08_Drop.f k t250 a2).bind fun t337 => ((cenotaphref08_Same.f k t334 t337).bind fun t340 => (if t340 = true then ((cenotaphlaw08_From.f k t262).bind fun t341 => ((cenotaphref08_Same.f k t341 t250).bind fun t344 => (some t344))) else (none)))))) else (if (!(t281 == 0) || ((!(t282.toList == ([] : List UInt8)) || (!(t283 == 0) || (!(t284 == 0)))) || (t285 || (!(cxq t286.re t286.im 0 0) || (!(t287.toList == ([] : List UInt8)) || (t288)))))) = true then (none) else ((store_Drop.f t262 a2).bind fun t345 => ((cenotaphlaw08_From.f k t345).bind fun t348 => ((cenotaphref08_Drop.f k t250 a2).bind fun t351 => ((cenotaphref08_Same.f k t348 t351).bind fun t354 => (if t354 = true then ((cenotaphlaw08_From.f k t262).bind fun t355 => ((cenotaphref08_Same.f k t355 t250).bind fun t358 => (some t358))) else (none))))))))))) else (none))) = some r := by rw [if_pos rfl] at H; exact H
    clear H
    have H := H1
    clear H1
    replace H := Option.bind_eq_some_iff.mp H
    obtain ⟨t307, A180, H⟩ := H
    have A18 := Aside0.mk A180
    clear A180
    by_cases c19 : t307 = true
    ·subst c19
     have H1 : (if (t289 != t300) = true then (none) else ((cenotaphlaw07_From.f t281 t282 t283 t284 t285 t286 t287 t288).bind fun bt308 => (if (!(bt308.1 == t291) || ((!(bt308.2.1.toList == t292.toList) || (!(bt308.2.2.1 == t293) || (!(bt308.2.2.2.1 == t294)))) || (!(bt308.2.2.2.2.1 == t295) || ((!(bt308.2.2.2.2.2.1 == t296) || (!(bt308.2.2.2.2.2.2.1 == t297))) || (!(bt308.2.2.2.2.2.2.2.1.toList == t298.toList) || (!(bt308.2.2.2.2.2.2.2.2 == t299))))))) = true then (if t289 = true then (none) else (if (!(t281 == 0) || ((!(t282.toList == ([] : List UInt8)) || (!(t283 == 0) || (!(t284 == 0)))) || (t285 || (!(cxq t286.re t286.im 0 0) || (!(t287.toList == ([] : List UInt8)) || (t288)))))) = true then (none) else ((store_Drop.f t262 a2).bind fun t317 => ((cenotaphlaw08_From.f k t317).bind fun t320 => ((cenotaphref08_Drop.f k t250 a2).bind fun t323 => ((cenotaphref08_Same.f k t320 t323).bind fun t326 => (if t326 = true then ((cenotaphlaw08_From.f k t262).bind fun t327 => ((cenotaphref08_Same.f k t327 t250).bind fun t330 => (some t330))) else (none)))))))) else (if t289 = true then ((store_Drop.f t262 a2).bind fun t331 => ((cenotaphlaw08_From.f k t331).bind fun t334 => ((cenotaphref08_Drop.f k t250 a2).bind fun t337 => ((cenotaphref08_Same.f k t334 t337).bind fun t340 => (if t340 = true then ((cenotaphlaw08_From.f k t262).bind fun t341 => ((cenotaphref08_Same.f k t341 t250).bind fun t344 => (some t344))) else (none)))))) else (if (!(t281 == 0) || ((!(t282.toList == ([] : List UInt8)) || (!(t283 == 0) || (!(t284 == 0)))) || (t285 || (!(cxq t286.re t286.im 0 0) || (!(t287.toList == ([] : List UInt8)) || (t288)))))) = true then (none) else ((store_Drop.f t262 a2).bind fun t345 => ((cenotaphlaw08_From.f k t345).bind fun t348 => ((cenotaphref08_Drop.f k t250 a2).bind fun t351 => ((cenotaphref08_Same.f k t348 t351).bind fun t354 => (if t354 = true then ((cenotaphlaw08_From.f k t262).bind fun t355 => ((cenotaphref08_Same.f k t355 t250).bind fun t358 => (some t358))) else (none))))))))))) = some r := by rw [if_pos rfl] at H; exact H
     clear H
     have H := H1
     clear H1
     by_cases c20 : (t289 != t300) = true
     ·rw [if_pos c20] at H
      have c20b0 : (t289 != t300) = true := c20
      (try (have c20b1 : decide (t289 = t300) = false := by simpa using c20))
      (try (have c20b2 : (t289 == t300) = false := by simpa using c20))
      (try (have c20b3 : ¬ (t289 = t300) := by simpa using c20))
      clear c20
      exact absurd H (by simp)
     ·rw [if_neg c20] at H
      have c20b0 : (t289 != t300) = false := by simpa using c20
      (try (have c20b1 : decide (t289 = t300) = true := by simpa using c20))
      (try (have c20b2 : (t289 == t300) = true := by simpa using c20))
      clear c20
      replace H := Option.bind_eq_some_iff.mp H
      obtain ⟨⟨t308, t309, t310, t311, t312, t313, t314, t315, t316⟩, A210, H⟩ := H
      have A21 := Aside0.mk A210
      clear A210
      by_cases c22 : (!(t308 == t291) || ((!(t309.toList == t292.toList) || (!(t310 == t293) || (!(t311 == t294)))) || (!(t312 == t295) || ((!(t313 == t296) || (!(t314 == t297))) || (!(t315.toList == t298.toList) || (!(t316 == t299))))))) = true
      ·rw [if_pos c22] at H
       have c22b0 : (!(t308 == t291) || ((!(t309.toList == t292.toList) || (!(t310 == t293) || (!(t311 == t294)))) || (!(t312 == t295) || ((!(t313 == t296) || (!(t314 == t297))) || (!(t315.toList == t298.toList) || (!(t316 == t299))))))) = true := c22
       clear c22
       by_cases c23 : t289 = true
       ·subst c23
        have H1 : (none) = some r := by rw [if_pos rfl] at H; exact H
        clear H
        have H := H1
        clear H1
        exact absurd H (by simp)
       ·replace c23 := Bool.eq_false_iff.mpr c23
        subst c23
        have H1 : (if (!(t281 == 0) || ((!(t282.toList == ([] : List UInt8)) || (!(t283 == 0) || (!(t284 == 0)))) || (t285 || (!(cxq t286.re t286.im 0 0) || (!(t287.toList == ([] : List UInt8)) || (t288)))))) = true then (none) else ((store_Drop.f t262 a2).bind fun t317 => ((cenotaphlaw08_From.f k t317).bind fun t320 => ((cenotaphref08_Drop.f k t250 a2).bind fun t323 => ((cenotaphref08_Same.f k t320 t323).bind fun t326 => (if t326 = true then ((cenotaphlaw08_From.f k t262).bind fun t327 => ((cenotaphref08_Same.f k t327 t250).bind fun t330 => (some t330))) else (none))))))) = some r := by rw [if_neg (show ¬ (false = true) by decide)] at H; exact H
        clear H
        have H := H1
        clear H1
        by_cases c24 : (!(t281 == 0) || ((!(t282.toList == ([] : List UInt8)) || (!(t283 == 0) || (!(t284 == 0)))) || (t285 || (!(cxq t286.re t286.im 0 0) || (!(t287.toList == ([] : List UInt8)) || (t288)))))) = true
        ·rw [if_pos c24] at H
         exact absurd H (by simp)
        ·rw [if_neg c24] at H
         have c24b0 : (!(t281 == 0) || ((!(t282.toList == ([] : List UInt8)) || (!(t283 == 0) || (!(t284 == 0)))) || (t285 || (!(cxq t286.re t286.im 0 0) || (!(t287.toList == ([] : List UInt8)) || (t288)))))) = false := by simpa using c24
         have c24b9 : (!(t281 == 0) || ((!(t282.toList.isEmpty) || (!(t283 == 0) || (!(t284 == 0)))) || (t285 || (!(cxq t286.re t286.im 0 0) || (!(t287.toList.isEmpty) || (t288)))))) = false := by simpa using c24b0
         clear c24
         replace H := Option.bind_eq_some_iff.mp H
         obtain ⟨t317, A250, H⟩ := H
         have A25 := Aside0.mk A250
         clear A250
         replace H := Option.bind_eq_some_iff.mp H
         obtain ⟨t320, A260, H⟩ := H
         have A26 := Aside0.mk A260
         clear A260
         replace H := Option.bind_eq_some_iff.mp H
         obtain ⟨t323, A270, H⟩ := H
         have A27 := Aside0.mk A270
         clear A270
         replace H := Option.bind_eq_some_iff.mp H
         obtain ⟨t326, A280, H⟩ := H
         have A28 := Aside0.mk A280
         clear A280
         by_cases c29 : t326 = true
         ·subst c29
          have H1 : ((cenotaphlaw08_From.f k t262).bind fun t327 => ((cenotaphref08_Same.f k t327 t250).bind fun t330 => (some t330))) = some r := by rw [if_pos rfl] at H; exact H
          clear H
          have H := H1
          clear H1
          replace H := Option.bind_eq_some_iff.mp H
          obtain ⟨t327, A300, H⟩ := H
          have A30 := Aside0.mk A300
          clear A300
          replace H := Option.bind_eq_some_iff.mp H
          obtain ⟨t330, A310, H⟩ := H
          have A31 := Aside0.mk A310
          clear A310
          obtain rfl := Option.some.inj H
          go_enter Try.func3, Try.ntmps3
          try go_wp2_with (first | ((with_reducible refine gate_dst (N := 4) rfl ?_); refine box_event ?hg (N := 4) ?hd (cs := #[.int .i64 a1_0, .string a1_1, .int .i64 a1_2, .int .i64 a1_3, .bool a1_4, .int .i64 a1_5, .int .i64 a1_6, .string a1_7, .bool a1_8]) (t := 28) ?hr ?_; (case hd => rfl); (case hg => rfl); (case hr => first | (go_simp; done) | (go_simp; rfl)); intro gb249 hg w32 hbox hb; have BK249 := Aside0.mk (hbox); have GW249 := Aside0.mk ((zq3x_16 : w.heap.size ≤ gb249)); have GE249 := Aside0.mk ((zq3x_16 : w.heap.size ≤ gb249)); replace HB := Aside0.mk (below_step zq3x_19 hb); clear hb hbox hg))
          replace BK249 := Aside0.mk (blk_drew BK249.out)
          replace HB := Aside0.mk (below_drew1 HB.out)
          refine start_ (n := 6) (S := fun w' => w'.cell? ⟨gb249, 0, none⟩ = some (.int .i64 a1_0) ∧ w'.cell? ⟨gb249, 1, none⟩ = some (.string a1_1) ∧ w'.cell? ⟨gb249, 2, none⟩ = some (.int .i64 a1_2) ∧ w'.cell? ⟨gb249, 3, none⟩ = some (.int .i64 a1_3) ∧ w'.cell? ⟨gb249, 4, none⟩ = some (.bool a1_4) ∧ w'.cell? ⟨gb249, 5, none⟩ = some (.int .i64 a1_5) ∧ w'.cell? ⟨gb249, 6, none⟩ = some (.int .i64 a1_6) ∧ w'.cell? ⟨gb249, 7, none⟩ = some (.string a1_7) ∧ w'.cell? ⟨gb249, 8, none⟩ = some (.bool a1_8)) (ds := [5]) #[bF3, bF3, bF3, bF3, bF3, bF3] (by kernel_rfl) rfl rfl ⟨(blk_cell BK249.out 0).trans rfl, (blk_cell BK249.out 1).trans rfl, (blk_cell BK249.out 2).trans rfl, (blk_cell BK249.out 3).trans rfl, (blk_cell BK249.out 4).trans rfl, (blk_cell BK249.out 5).trans rfl, (blk_cell BK249.out 6).trans rfl, (blk_cell BK249.out 7).trans rfl, (blk_cell BK249.out 8).trans rfl⟩ (fun hHeld => ?_)
          generalize w32.drew = w33 at BK249 HB hHeld ⊢
          refine p_ 0 16 (mk_ 6 0x1) ?_
          refine t_ 2 18 (mk_ 6 0x5) hHeld ?_
          refine one_ (i := 1) (N := some 17) #[bT3, bT3, bT3, bF3, bF3, bF3] rfl rfl (by kernel_rfl) (by decide) (fun K hK => ?_)
          refine goes_ Try.func8 (by kernel_rfl) rfl #[.slice A0 l0.length c0] (by rfl) rfl rfl zq3x_18 ?_
          with_reducible refine (cenotaphref08_Fix.calls k _ _ l0 t250 _ ?side1 ?side2 A4.out).mono ?_
          (case side1 => repeat (first | exact (Kd.C_below HR0.out HB.out) | (with_reducible refine Kd.C_alloc ?_ _) | (with_reducible refine Kd.C_drewN ?_ _) | (with_reducible refine Kd.C_drew ?_)))
          (case side2 => exact HC0.out)
          rintro e w34 ⟨v251, rfl, ho0, hb⟩
          refine ⟨_, rfl, ?_⟩
          have HO252 := Aside0.mk (Kd.R_lower (Kd.R_newB ho0 (g := gb249) (o := .cells #[.int .i64 a1_0, .string a1_1, .int .i64 a1_2, .int .i64 a1_3, .bool a1_4, .int .i64 a1_5, .int .i64 a1_6, .string a1_7, .bool a1_8] 28 (0, 0)) zq3x_20) (below_size zq3x_17))
          replace BK249 := Aside0.mk (blk_below (g := gb249) (o := .cells #[.int .i64 a1_0, .string a1_1, .int .i64 a1_2, .int .i64 a1_3, .bool a1_4, .int .i64 a1_5, .int .i64 a1_6, .string a1_7, .bool a1_8] 28 (0, 0)) zq3x_20 hb)
          replace HB := Aside0.mk (below_step zq3x_17 hb)
          (try clear hb)
          (try clear hb2)
          (try clear hk)
          (try clear hi)
          (try clear ho0)
          refine hK.out _ _ ⟨(blk_cell BK249.out 0).trans rfl, (blk_cell BK249.out 1).trans rfl, (blk_cell BK249.out 2).trans rfl, (blk_cell BK249.out 3).trans rfl, (blk_cell BK249.out 4).trans rfl, (blk_cell BK249.out 5).trans rfl, (blk_cell BK249.out 6).trans rfl, (blk_cell BK249.out 7).trans rfl, (blk_cell BK249.out 8).trans rfl⟩ (fun hHeld => ?_)
          clear hK K
          refine norm_ (a' := ?_) ?_ ?_
          rotate_left
          ·show Act.put _ (some 17) _ = _
           simp only [Act.put, List.setIfInBounds_toArray, List.set_cons_zero, List.set_cons_succ, i64_w, i32_w]
           rfl
          refine one_ (i := 3) (N := some 19) #[bT3, bT3, bT3, bT3, bF3, bF3] rfl rfl (by kernel_rfl) (by decide) (fun K hK => ?_)
          refine goes_ Try.func9 (by kernel_rfl) rfl #[.agg #[.int .i64 a1_0, .string a1_1, .int .i64 a1_2, .int .i64 a1_3, .bool a1_4, .int .i64 a1_5, .int .i64 a1_6, .string a1_7, .bool a1_8]] (by rfl) rfl rfl zq3x_18 ?_
          with_reducible refine (cenotaphref07_Fix.calls k a1_0 a1_1 a1_2 a1_3 a1_4 a1_5 a1_6 a1_7 a1_8 t253 t254 t255 t256 t257 t258 t259 t260 t261 _ A5.out).mono ?_
          rintro e w35 ⟨rfl, hb⟩
          refine ⟨_, rfl, ?_⟩
          replace HO252 := Aside0.mk (Kd.R_below zq3x_23 hb)
          replace BK249 := Aside0.mk (blk_below (g := gb249) (o := .cells #[.int .i64 a1_0, .string a1_1, .int .i64 a1_2, .int .i64 a1_3, .bool a1_4, .int .i64 a1_5, .int .i64 a1_6, .string a1_7, .bool a1_8] 28 (0, 0)) zq3x_20 hb)
          replace HB := Aside0.mk (below_step zq3x_17 hb)
          (try clear hb)
          (try clear hb2)
          (try clear hk)
          (try clear hi)
          refine hK.out _ _ ⟨(blk_cell BK249.out 0).trans rfl, (blk_cell BK249.out 1).trans rfl, (blk_cell BK249.out 2).trans rfl, (blk_cell BK249.out 3).trans rfl, (blk_cell BK249.out 4).trans rfl, (blk_cell BK249.out 5).trans rfl, (blk_cell BK249.out 6).trans rfl, (blk_cell BK249.out 7).trans rfl, (blk_cell BK249.out 8).trans rfl⟩ (fun hHeld => ?_)
          clear hK K
          refine norm_ (a' := ?_) ?_ ?_
          rotate_left
          ·show Act.put _ (some 19) _ = _
           simp only [Act.put, List.setIfInBounds_toArray, List.set_cons_zero, List.set_cons_succ, i64_w, i32_w]
           rfl
          refine p_ 4 0 (mk_ 6 0x1f) ?_
          refine last_ (i := 5) (N := none) #[bT3, bT3, bT3, bT3, bT3, bT3] rfl rfl (by kernel_rfl) (by decide) (fun K hK => ?_)
          have hs36 : w35.cell? ⟨gb249, 0, none⟩ = some (.int .i64 a1_0) := (blk_cell BK249.out 0).trans rfl
          have hfs36 := blk_frozen BK249.out 0
          have hs37 : w35.cell? ⟨gb249, 1, none⟩ = some (.string a1_1) := (blk_cell BK249.out 1).trans rfl
          have hfs37 := blk_frozen BK249.out 1
          have hs38 : w35.cell? ⟨gb249, 2, none⟩ = some (.int .i64 a1_2) := (blk_cell BK249.out 2).trans rfl
          have hfs38 := blk_frozen BK249.out 2
          have hs39 : w35.cell? ⟨gb249, 3, none⟩ = some (.int .i64 a1_3) := (blk_cell BK249.out 3).trans rfl
          have hfs39 := blk_frozen BK249.out 3
          have hs40 : w35.cell? ⟨gb249, 4, none⟩ = some (.bool a1_4) := (blk_cell BK249.out 4).trans rfl
          have hfs40 := blk_frozen BK249.out 4
          have hs41 : w35.cell? ⟨gb249, 5, none⟩ = some (.int .i64 a1_5) := (blk_cell BK249.out 5).trans rfl
          have hfs41 := blk_frozen BK249.out 5
          have hs42 : w35.cell? ⟨gb249, 6, none⟩ = some (.int .i64 a1_6) := (blk_cell BK249.out 6).trans rfl
          have hfs42 := blk_frozen BK249.out 6
          have hs43 : w35.cell? ⟨gb249, 7, none⟩ = some (.string a1_7) := (blk_cell BK249.out 7).trans rfl
          have hfs43 := blk_frozen BK249.out 7
          have hs44 : w35.cell? ⟨gb249, 8, none⟩ = some (.bool a1_8) := (blk_cell BK249.out 8).trans rfl
          have hfs44 := blk_frozen BK249.out 8
          refine skip_ (w1 := ?_) (by rfl) rfl ?_ ?_
          rotate_left
          ·go_simp
           rfl
          refine hK.out _ _ ?_
          clear hK K
          refine done_ (by kernel_rfl) ?_
          obtain ⟨Ao45, co45, eo45⟩ := Kd.R_slice HO252.out
          subst eo45
          try go_wp2_with (first | ((with_reducible refine gate_callee (f := 10) rfl ?_); refine goesL_ (some 21) rfl rfl Try.func10 (by kernel_rfl) rfl #[.slice Ao45 t250.length co45] rfl zq3x_18 ?_; (with_reducible refine (cenotaphlaw08_To.calls k _ _ t250 t262 _ ?side1 ?side2 A6.out).mono ?_); (case side1 => refine (Kd.R_reads' (e := 28) (base := w.heap.size) (ok := fun k_ => (True ∧ k_ ≠ gb249)) (n := t250.length) (c := co45) ?_).2.2; exact zq3x_3); (case side2 => exact (Kd.R_reads' HO252.out).2.1); rintro e w46 ⟨v263, rfl, ho0, hb⟩; refine ⟨_, rfl, ?_⟩; replace HO252 := Aside0.mk (Kd.R_below zq3x_3 hb); have HO264 := Aside0.mk (Kd.R_lower ho0 (below_size zq3x_17)); replace BK249 := Aside0.mk (blk_below (g := gb249) (o := .cells #[.int .i64 t253, .string t254, .int .i64 t255, .int .i64 t256, .bool t257, .int .i64 t258, .int .i64 t259, .string t260, .bool t261] 28 (0, 0)) zq3x_0 hb); replace HB := Aside0.mk (below_step zq3x_17 hb); (try clear hb); (try clear hb2); (try clear hk); (try clear hi); (try clear ho0); have hcz47_0 : w46.cell? ⟨gb249, 0, none⟩ = some (.int .i64 t253) := (blk_cell BK249.out 0).trans rfl; have hcz47_1 : w46.cell? ⟨gb249, 1, none⟩ = some (.string t254) := (blk_cell BK249.out 1).trans rfl; have hcz47_2 : w46.cell? ⟨gb249, 2, none⟩ = some (.int .i64 t255) := (blk_cell BK249.out 2).trans rfl; have hcz47_3 : w46.cell? ⟨gb249, 3, none⟩ = some (.int .i64 t256) := (blk_cell BK249.out 3).trans rfl; have hcz47_4 : w46.cell? ⟨gb249, 4, none⟩ = some (.bool t257) := (blk_cell BK249.out 4).trans rfl; have hcz47_5 : w46.cell? ⟨gb249, 5, none⟩ = some (.int .i64 t258) := (blk_cell BK249.out 5).trans rfl; have hcz47_6 : w46.cell? ⟨gb249, 6, none⟩ = some (.int .i64 t259) := (blk_cell BK249.out 6).trans rfl; have hcz47_7 : w46.cell? ⟨gb249, 7, none⟩ = some (.string t260) := (blk_cell BK249.out 7).trans rfl; have hcz47_8 : w46.cell? ⟨gb249, 8, none⟩ = some (.bool t261) := (blk_cell BK249.out 8).trans rfl; have hfz47_0 := blk_frozen BK249.out 0; have hfz47_1 := blk_frozen BK249.out 1; have hfz47_2 := blk_frozen BK249.out 2; have hfz47_3 := blk_frozen BK249.out 3; have hfz47_4 := blk_frozen BK249.out 4; have hfz47_5 := blk_frozen BK249.out 5; have hfz47_6 := blk_frozen BK249.out 6; have hfz47_7 := blk_frozen BK249.out 7; have hfz47_8 := blk_frozen BK249.out 8) | ((with_reducible refine gate_callee (f := 12) rfl ?_); refine goesL_ (some 25) rfl rfl Try.func12 (by kernel_rfl) rfl #[.agg #[.int .i64 t253, .string t254, .int .i64 t255, .int .i64 t256, .bool t257, .int .i64 t258, .int .i64 t259, .string t260, .bool t261]] rfl zq3x_18 ?_; (with_reducible refine (cenotaphlaw07_To.calls t253 t254 t255 t256 t257 t258 t259 t260 t261 t265 t266 t267 t268 t269 t270 t271 t272 _ A7.out).mono ?_); rintro e w48 ⟨rfl, hb⟩; refine ⟨_, rfl, ?_⟩; replace HO252 := Aside0.mk (Kd.R_below zq3x_23 hb); replace HO264 := Aside0.mk (Kd.R_below zq3x_24 hb); replace BK249 := Aside0.mk (blk_below (g := gb249) (o := .cells #[.int .i64 t253, .string t254, .int .i64 t255, .int .i64 t256, .bool t257, .int .i64 t258, .int .i64 t259, .string t260, .bool t261] 28 (0, 0)) zq3x_20 hb); replace HB := Aside0.mk (below_step zq3x_17 hb); (try clear hb); (try clear hb2); (try clear hk); (try clear hi); obtain ⟨Ao49, co49, eo49⟩ := Kd.R_slice HO264.out; subst eo49) | ((with_reducible refine gate_callee (f := 11) rfl ?_); refine goesL_ (some 26) rfl rfl Try.func11 (by kernel_rfl) rfl #[.slice Ao49 t262.length co49, .agg #[.int .i64 t265, .string t266, .int .i64 t267, .int .i64 t268, .bool t269, .complex .f64 t270.re t270.im, .string t271, .bool t272]] rfl zq3x_18 ?_; (with_reducible refine (store_Put.calls _ _ t262 t265 t266 t267 t268 t269 t270 t271 t272 t273 t276 _ ?side1 ?side2 A8.out).mono ?_); (case side1 => repeat (first | exact (Kd.R_reads' HO264.out).2.2 | (with_reducible refine Kd.C_alloc ?_ _) | (with_reducible refine Kd.C_drewN ?_ _) | (with_reducible refine Kd.C_drew ?_))); (case side2 => exact (Kd.R_reads' HO264.out).2.1); rintro e w50 ⟨v274, rfl, ho0, hb⟩; refine ⟨_, rfl, ?_⟩; replace HO252 := Aside0.mk (Kd.R_below zq3x_23 hb); have HO275 := Aside0.mk (Kd.R_lower (Kd.R_new' ho0 (Kd.R_lt zq3x_24)) (below_size zq3x_17)); replace HO264 := Aside0.mk (Kd.R_elder' zq3x_24 (Kd.R_base ho0) hb); replace BK249 := Aside0.mk (blk_below (g := gb249) (o := .cells #[.int .i64 t253, .string t254, .int .i64 t255, .int .i64 t256, .bool t257, .int .i64 t258, .int .i64 t259, .string t260, .bool t261] 28 (0, 0)) zq3x_20 hb); replace HB := Aside0.mk (below_step zq3x_17 hb); (try clear hb); (try clear hb2); (try clear hk); (try clear hi); (try clear ho0); have hcz51_0 : w50.cell? ⟨gb249, 0, none⟩ = some (.int .i64 t253) := (blk_cell BK249.out 0).trans rfl; have hcz51_1 : w50.cell? ⟨gb249, 1, none⟩ = some (.string t254) := (blk_cell BK249.out 1).trans rfl; have hcz51_2 : w50.cell? ⟨gb249, 2, none⟩ = some (.int .i64 t255) := (blk_cell BK249.out 2).trans rfl; have hcz51_3 : w50.cell? ⟨gb249, 3, none⟩ = some (.int .i64 t256) := (blk_cell BK249.out 3).trans rfl; have hcz51_4 : w50.cell? ⟨gb249, 4, none⟩ = some (.bool t257) := (blk_cell BK249.out 4).trans rfl; have hcz51_5 : w50.cell? ⟨gb249, 5, none⟩ = some (.int .i64 t258) := (blk_cell BK249.out 5).trans rfl; have hcz51_6 : w50.cell? ⟨gb249, 6, none⟩ = some (.int .i64 t259) := (blk_cell BK249.out 6).trans rfl; have hcz51_7 : w50.cell? ⟨gb249, 7, none⟩ = some (.string t260) := (blk_cell BK249.out 7).trans rfl; have hcz51_8 : w50.cell? ⟨gb249, 8, none⟩ = some (.bool t261) := (blk_cell BK249.out 8).trans rfl; have hfz51_0 := blk_frozen BK249.out 0; have hfz51_1 := blk_frozen BK249.out 1; have hfz51_2 := blk_frozen BK249.out 2; have hfz51_3 := blk_frozen BK249.out 3; have hfz51_4 := blk_frozen BK249.out 4; have hfz51_5 := blk_frozen BK249.out 5; have hfz51_6 := blk_frozen BK249.out 6; have hfz51_7 := blk_frozen BK249.out 7; have hfz51_8 := blk_frozen BK249.out 8) | ((with_reducible refine gate_callee (f := 13) rfl ?_); refine goesL_ (some 32) rfl rfl Try.func13 (by kernel_rfl) rfl #[.slice Ao45 t250.length co45, .agg #[.int .i64 t253, .string t254, .int .i64 t255, .int .i64 t256, .bool t257, .int .i64 t258, .int .i64 t259, .string t260, .bool t261]] rfl zq3x_18 ?_; (with_reducible refine (cenotaphref08_Put.calls k _ _ t250 t253 t254 t255 t256 t257 t258 t259 t260 t261 t277 t280 _ ?side1 ?side2 A9.out).mono ?_); (case side1 => repeat (first | exact (Kd.R_reads' HO252.out).2.2 | (with_reducible refine Kd.C_alloc ?_ _) | (with_reducible refine Kd.C_drewN ?_ _) | (with_reducible refine Kd.C_drew ?_))); (case side2 => exact (Kd.R_reads' HO252.out).2.1); rintro e w52 ⟨v278, rfl, ho0, hb⟩; refine ⟨_, rfl, ?_⟩; replace HO264 := Aside0.mk (Kd.R_below zq3x_24 hb); replace HO275 := Aside0.mk (Kd.R_below zq3x_25 hb); have HO279 := Aside0.mk (Kd.R_lower (Kd.R_newB (Kd.R_new' ho0 (Kd.R_lt zq3x_23)) (g := gb249) (o := .cells #[.int .i64 t253, .string t254, .int .i64 t255, .int .i64 t256, .bool t257, .int .i64 t258, .int .i64 t259, .string t260, .bool t261] 28 (0, 0)) zq3x_20) (below_size zq3x_17)); replace HO252 := Aside0.mk (Kd.R_elder' zq3x_23 (Kd.R_base ho0) hb); replace BK249 := Aside0.mk (blk_below (g := gb249) (o := .cells #[.int .i64 t253, .string t254, .int .i64 t255, .int .i64 t256, .bool t257, .int .i64 t258, .int .i64 t259, .string t260, .bool t261] 28 (0, 0)) zq3x_20 hb); replace HB := Aside0.mk (below_step zq3x_17 hb); (try clear hb); (try clear hb2); (try clear hk); (try clear hi); (try clear ho0)) | ((with_reducible refine gate_callee (f := 14) rfl ?_); refine goesL_ (some 38) rfl rfl Try.func14 (by kernel_rfl) rfl #[.slice Ao49 t262.length co49, .int .i64 a2] rfl zq3x_18 ?_; (with_reducible refine (store_Get.calls _ _ t262 a2 t281 t282 t283 t284 t285 t286 t287 t288 false _ ?side1 ?side2 A10.out).mono ?_); (case side1 => repeat (first | exact (Kd.R_reads' HO264.out).2.2 | (with_reducible refine Kd.C_alloc ?_ _) | (with_reducible refine Kd.C_drewN ?_ _) | (with_reducible refine Kd.C_drew ?_))); (case side2 => exact (Kd.R_reads' HO264.out).2.1); rintro e w53 ⟨rfl, hb⟩; refine ⟨_, rfl, ?_⟩; replace HO252 := Aside0.mk (Kd.R_below zq3x_23 hb); replace HO264 := Aside0.mk (Kd.R_below zq3x_24 hb); replace HO275 := Aside0.mk (Kd.R_below zq3x_25 hb); replace HO279 := Aside0.mk (Kd.R_below zq3x_26 hb); replace BK249 := Aside0.mk (blk_below (g := gb249) (o := .cells #[.int .i64 t253, .string t254, .int .i64 t255, .int .i64 t256, .bool t257, .int .i64 t258, .int .i64 t259, .string t260, .bool t261] 28 (0, 0)) zq3x_20 hb); replace HB := Aside0.mk (below_step zq3x_17 hb); (try clear hb); (try clear hb2); (try clear hk); (try clear hi)) | ((with_reducible refine gate_dst (N := 12) rfl ?_); refine box_event ?hg (N := 12) ?hd (cs := #[.int .i64 0, .string (⟨#[]⟩ : ByteArray), .int .i64 0, .int .i64 0, .bool false, .complex .f64 0 0, .string (⟨#[]⟩ : ByteArray), .bool false]) (t := 41) ?hr ?_; (case hd => rfl); (case hg => rfl); (case hr => first | (go_simp; done) | (go_simp; rfl)); intro gb290 hg w54 hbox hb; replace HO252 := Aside0.mk (Kd.R_below zq3x_23 hb); replace HO264 := Aside0.mk (Kd.R_below (Kd.R_elderB zq3x_24 gb290 (Nat.le_of_eq hg.symm)) hb); replace HO275 := Aside0.mk (Kd.R_below (Kd.R_elderB zq3x_25 gb290 (Nat.le_of_eq hg.symm)) hb); replace HO279 := Aside0.mk (Kd.R_below zq3x_26 hb); have BK290 := Aside0.mk (hbox); have GW290 := Aside0.mk ((zq3x_14 : w.heap.size ≤ gb290)); have GE290 := Aside0.mk ((zq3x_14 : w.heap.size ≤ gb290)); replace HB := Aside0.mk (below_step zq3x_17 hb); have NB249_290 := Aside0.mk ((zq3x_8 : gb249 ≠ gb290)); have NB290_249 := Aside0.mk ((zq3x_9 : gb290 ≠ gb249)); replace BK249 := Aside0.mk (blk_below (g := gb249) (o := .cells #[.int .i64 t253, .string t254, .int .i64 t255, .int .i64 t256, .bool t257, .int .i64 t258, .int .i64 t259, .string t260, .bool t261] 28 (0, 0)) zq3x_20 hb); clear hb hbox hg; have hnb55 := NB290_249.out; have hnc55 := NB249_290.out; have hcz56_0 : w54.cell? ⟨gb290, 0, none⟩ = some (.int .i64 0) := (blk_cell BK290.out 0).trans rfl; have hcz56_1 : w54.cell? ⟨gb290, 1, none⟩ = some (.string (⟨#[]⟩ : ByteArray)) := (blk_cell BK290.out 1).trans rfl; have hcz56_2 : w54.cell? ⟨gb290, 2, none⟩ = some (.int .i64 0) := (blk_cell BK290.out 2).trans rfl; have hcz56_3 : w54.cell? ⟨gb290, 3, none⟩ = some (.int .i64 0) := (blk_cell BK290.out 3).trans rfl; have hcz56_4 : w54.cell? ⟨gb290, 4, none⟩ = some (.bool false) := (blk_cell BK290.out 4).trans rfl; have hcz56_5 : w54.cell? ⟨gb290, 5, none⟩ = some (.complex .f64 0 0) := (blk_cell BK290.out 5).trans rfl; have hcz56_6 : w54.cell? ⟨gb290, 6, none⟩ = some (.string (⟨#[]⟩ : ByteArray)) := (blk_cell BK290.out 6).trans rfl; have hcz56_7 : w54.cell? ⟨gb290, 7, none⟩ = some (.bool false) := (blk_cell BK290.out 7).trans rfl; have hfz56_0 := blk_frozen BK290.out 0; have hfz56_1 := blk_frozen BK290.out 1; have hfz56_2 := blk_frozen BK290.out 2; have hfz56_3 := blk_frozen BK290.out 3; have hfz56_4 := blk_frozen BK290.out 4; have hfz56_5 := blk_frozen BK290.out 5; have hfz56_6 := blk_frozen BK290.out 6; have hfz56_7 := blk_frozen BK290.out 7) | ((with_reducible refine gate_callee (f := 15) rfl ?_); refine goesL_ (some 44) rfl rfl Try.func15 (by kernel_rfl) rfl #[.slice Ao45 t250.length co45, .int .i64 a2] rfl zq3x_18 ?_; (with_reducible refine (cenotaphref08_Get.calls k _ _ t250 a2 t291 t292 t293 t294 t295 t296 t297 t298 t299 t300 _ ?side1 ?side2 A11.out).mono ?_); (case side1 => refine (Kd.R_reads' (e := 28) (base := w.heap.size) (ok := fun k_ => ((True ∧ k_ ≠ gb249) ∧ some k_ ≠ (v278 : Value).ownBlock)) (n := t250.length) (c := co45) ?_).2.2; exact zq3x_6); (case side2 => exact (Kd.R_reads' HO252.out).2.1); rintro e w57 ⟨rfl, hb⟩; refine ⟨_, rfl, ?_⟩; replace HO252 := Aside0.mk (Kd.R_below zq3x_6 hb); replace HO264 := Aside0.mk (Kd.R_below zq3x_4 hb); replace HO275 := Aside0.mk (Kd.R_below zq3x_5 hb); replace HO279 := Aside0.mk (Kd.R_below zq3x_7 hb); replace BK249 := Aside0.mk (blk_below (g := gb249) (o := .cells #[.int .i64 t253, .string t254, .int .i64 t255, .int .i64 t256, .bool t257, .int .i64 t258, .int .i64 t259, .string t260, .bool t261] 28 (0, 0)) zq3x_2 hb); replace BK290 := Aside0.mk (blk_below (g := gb290) (o := .cells #[.int .i64 t281, .string t282, .int .i64 t283, .int .i64 t284, .bool t285, .complex .f64 t286.re t286.im, .string t287, .bool t288] 41 (0, 0)) zq3x_1 hb); replace HB := Aside0.mk (below_step zq3x_15 hb); (try clear hb); (try clear hb2); (try clear hk); (try clear hi)) | ((with_reducible refine gate_dst (N := 14) rfl ?_); refine box_event ?hg (N := 14) ?hd (cs := #[.int .i64 0, .string (⟨#[]⟩ : ByteArray), .int .i64 0, .int .i64 0, .bool false, .int .i64 0, .int .i64 0, .string (⟨#[]⟩ : ByteArray), .bool false]) (t := 28) ?hr ?_; (case hd => rfl); (case hg => rfl); (case hr => first | (go_simp; done) | (go_simp; rfl)); intro gb301 hg w58 hbox hb; replace HO252 := Aside0.mk (Kd.R_below (Kd.R_elderB zq3x_23 gb301 (Nat.le_of_eq hg.symm)) hb); replace HO264 := Aside0.mk (Kd.R_below zq3x_24 hb); replace HO275 := Aside0.mk (Kd.R_below zq3x_25 hb); replace HO279 := Aside0.mk (Kd.R_below (Kd.R_elderB zq3x_26 gb301 (Nat.le_of_eq hg.symm)) hb); have BK301 := Aside0.mk (hbox); have GW301 := Aside0.mk ((zq3x_12 : w.heap.size ≤ gb301)); have GE301 := Aside0.mk ((zq3x_12 : w.heap.size ≤ gb301)); replace HB := Aside0.mk (below_step zq3x_15 hb); have NB249_301 := Aside0.mk ((zq3x_8 : gb249 ≠ gb301)); have NB301_249 := Aside0.mk ((zq3x_9 : gb301 ≠ gb249)); replace BK249 := Aside0.mk (blk_below (g := gb249) (o := .cells #[.int .i64 t253, .string t254, .int .i64 t255, .int .i64 t256, .bool t257, .int .i64 t258, .int .i64 t259, .string t260, .bool t261] 28 (0, 0)) zq3x_20 hb); have NB290_301 := Aside0.mk ((zq3x_10 : gb290 ≠ gb301)); have NB301_290 := Aside0.mk ((zq3x_11 : gb301 ≠ gb290)); replace BK290 := Aside0.mk (blk_below (g := gb290) (o := .cells #[.int .i64 t281, .string t282, .int .i64 t283, .int .i64 t284, .bool t285, .complex .f64 t286.re t286.im, .string t287, .bool t288] 41 (0, 0)) zq3x_21 hb); clear hb hbox hg; have hnb59 := NB301_249.out; have hnc59 := NB249_301.out; have hnb60 := NB301_290.out; have hnc60 := NB290_301.out; have hcz61_0 : w58.cell? ⟨gb301, 0, none⟩ = some (.int .i64 0) := (blk_cell BK301.out 0).trans rfl; have hcz61_1 : w58.cell? ⟨gb301, 1, none⟩ = some (.string (⟨#[]⟩ : ByteArray)) := (blk_cell BK301.out 1).trans rfl; have hcz61_2 : w58.cell? ⟨gb301, 2, none⟩ = some (.int .i64 0) := (blk_cell BK301.out 2).trans rfl; have hcz61_3 : w58.cell? ⟨gb301, 3, none⟩ = some (.int .i64 0) := (blk_cell BK301.out 3).trans rfl; have hcz61_4 : w58.cell? ⟨gb301, 4, none⟩ = some (.bool false) := (blk_cell BK301.out 4).trans rfl; have hcz61_5 : w58.cell? ⟨gb301, 5, none⟩ = some (.int .i64 0) := (blk_cell BK301.out 5).trans rfl; have hcz61_6 : w58.cell? ⟨gb301, 6, none⟩ = some (.int .i64 0) := (blk_cell BK301.out 6).trans rfl; have hcz61_7 : w58.cell? ⟨gb301, 7, none⟩ = some (.string (⟨#[]⟩ : ByteArray)) := (blk_cell BK301.out 7).trans rfl; have hcz61_8 : w58.cell? ⟨gb301, 8, none⟩ = some (.bool false) := (blk_cell BK301.out 8).trans rfl; have hfz61_0 := blk_frozen BK301.out 0; have hfz61_1 := blk_frozen BK301.out 1; have hfz61_2 := blk_frozen BK301.out 2; have hfz61_3 := blk_frozen BK301.out 3; have hfz61_4 := blk_frozen BK301.out 4; have hfz61_5 := blk_frozen BK301.out 5; have hfz61_6 := blk_frozen BK301.out 6; have hfz61_7 := blk_frozen BK301.out 7; have hfz61_8 := blk_frozen BK301.out 8))
          have n0_ : Aside0 (Kd.R k28 28 (((((((((w58.setCell ⟨gb301, 0, none⟩ (.int .i64 t291)).setCell ⟨gb301, 1, none⟩ (.string t292)).setCell ⟨gb301, 2, none⟩ (.int .i64 t293)).setCell ⟨gb301, 3, none⟩ (.int .i64 t294)).setCell ⟨gb301, 4, none⟩ (.bool t295)).setCell ⟨gb301, 5, none⟩ (.int .i64 t296)).setCell ⟨gb301, 6, none⟩ (.int .i64 t297)).setCell ⟨gb301, 7, none⟩ (.string t298)).setCell ⟨gb301, 8, none⟩ (.bool t299)) w.heap.size (fun k_ => some k_ ≠ (v278 : Value).ownBlock ∧ k_ ≠ gb249 ∧ k_ ≠ gb301) (.slice Ao45 t250.length co45) t250) := ⟨by (with_reducible repeat (first | apply Kd.R_alloc | apply Kd.R_drewN | apply Kd.R_drew)); exact Kd.R_mono (Kd.R_far (p := ⟨gb301, 8, none⟩) (Kd.R_far (p := ⟨gb301, 7, none⟩) (Kd.R_far (p := ⟨gb301, 6, none⟩) (Kd.R_far (p := ⟨gb301, 5, none⟩) (Kd.R_far (p := ⟨gb301, 4, none⟩) (Kd.R_far (p := ⟨gb301, 3, none⟩) (Kd.R_far (p := ⟨gb301, 2, none⟩) (Kd.R_far (p := ⟨gb301, 1, none⟩) (Kd.R_far (p := ⟨gb301, 0, none⟩) (Kd.R_mono HO252.out (fun k_ hk => (⟨hk, hk.2⟩ : _ ∧ k_ ≠ gb301))) (fun _ hk => hk.2) (.int .i64 t291)) (fun _ hk => hk.2) (.string t292)) (fun _ hk => hk.2) (.int .i64 t293)) (fun _ hk => hk.2) (.int .i64 t294)) (fun _ hk => hk.2) (.bool t295)) (fun _ hk => hk.2) (.int .i64 t296)) (fun _ hk => hk.2) (.int .i64 t297)) (fun _ hk => hk.2) (.string t298)) (fun _ hk => hk.2) (.bool t299)) (fun _ hk => ⟨hk.1.1.2, ⟨hk.1.1.1.2, hk.1.2⟩⟩)⟩
          have n1_ : Aside0 (Kd.R k41 41 (((((((((w58.setCell ⟨gb301, 0, none⟩ (.int .i64 t291)).setCell ⟨gb301, 1, none⟩ (.string t292)).setCell ⟨gb301, 2, none⟩ (.int .i64 t293)).setCell ⟨gb301, 3, none⟩ (.int .i64 t294)).setCell ⟨gb301, 4, none⟩ (.bool t295)).setCell ⟨gb301, 5, none⟩ (.int .i64 t296)).setCell ⟨gb301, 6, none⟩ (.int .i64 t297)).setCell ⟨gb301, 7, none⟩ (.string t298)).setCell ⟨gb301, 8, none⟩ (.bool t299)) w.heap.size (fun k_ => some k_ ≠ (v274 : Value).ownBlock ∧ k_ ≠ gb290) (.slice Ao49 t262.length co49) t262) := ⟨by (with_reducible repeat (first | apply Kd.R_alloc | apply Kd.R_drewN | apply Kd.R_drew)); exact Kd.R_mono (Kd.R_far (p := ⟨gb301, 8, none⟩) (Kd.R_far (p := ⟨gb301, 7, none⟩) (Kd.R_far (p := ⟨gb301, 6, none⟩) (Kd.R_far (p := ⟨gb301, 5, none⟩) (Kd.R_far (p := ⟨gb301, 4, none⟩) (Kd.R_far (p := ⟨gb301, 3, none⟩) (Kd.R_far (p := ⟨gb301, 2, none⟩) (Kd.R_far (p := ⟨gb301, 1, none⟩) (Kd.R_far (p := ⟨gb301, 0, none⟩) (Kd.R_types HO264.out BK301.out (by decide)) (fun _ hk => hk.2) (.int .i64 t291)) (fun _ hk => hk.2) (.string t292)) (fun _ hk => hk.2) (.int .i64 t293)) (fun _ hk => hk.2) (.int .i64 t294)) (fun _ hk => hk.2) (.bool t295)) (fun _ hk => hk.2) (.int .i64 t296)) (fun _ hk => hk.2) (.int .i64 t297)) (fun _ hk => hk.2) (.string t298)) (fun _ hk => hk.2) (.bool t299)) (fun _ hk => ⟨hk.1.1.2, hk.1.2⟩)⟩
          have n2_ : Aside0 (Kd.R k41 41 (((((((((w58.setCell ⟨gb301, 0, none⟩ (.int .i64 t291)).setCell ⟨gb301, 1, none⟩ (.string t292)).setCell ⟨gb301, 2, none⟩ (.int .i64 t293)).setCell ⟨gb301, 3, none⟩ (.int .i64 t294)).setCell ⟨gb301, 4, none⟩ (.bool t295)).setCell ⟨gb301, 5, none⟩ (.int .i64 t296)).setCell ⟨gb301, 6, none⟩ (.int .i64 t297)).setCell ⟨gb301, 7, none⟩ (.string t298)).setCell ⟨gb301, 8, none⟩ (.bool t299)) w.heap.size (fun k_ => some k_ ≠ (.slice Ao49 t262.length co49 : Value).ownBlock ∧ k_ ≠ gb290) v274 t273) := ⟨by (with_reducible repeat (first | apply Kd.R_alloc | apply Kd.R_drewN | apply Kd.R_drew)); exact Kd.R_mono (Kd.R_far (p := ⟨gb301, 8, none⟩) (Kd.R_far (p := ⟨gb301, 7, none⟩) (Kd.R_far (p := ⟨gb301, 6, none⟩) (Kd.R_far (p := ⟨gb301, 5, none⟩) (Kd.R_far (p := ⟨gb301, 4, none⟩) (Kd.R_far (p := ⟨gb301, 3, none⟩) (Kd.R_far (p := ⟨gb301, 2, none⟩) (Kd.R_far (p := ⟨gb301, 1, none⟩) (Kd.R_far (p := ⟨gb301, 0, none⟩) (Kd.R_types HO275.out BK301.out (by decide)) (fun _ hk => hk.2) (.int .i64 t291)) (fun _ hk => hk.2) (.string t292)) (fun _ hk => hk.2) (.int .i64 t293)) (fun _ hk => hk.2) (.int .i64 t294)) (fun _ hk => hk.2) (.bool t295)) (fun _ hk => hk.2) (.int .i64 t296)) (fun _ hk => hk.2) (.int .i64 t297)) (fun _ hk => hk.2) (.string t298)) (fun _ hk => hk.2) (.bool t299)) (fun _ hk => ⟨hk.1.1.2, hk.1.2⟩)⟩
          have n3_ : Aside0 (Kd.R k28 28 (((((((((w58.setCell ⟨gb301, 0, none⟩ (.int .i64 t291)).setCell ⟨gb301, 1, none⟩ (.string t292)).setCell ⟨gb301, 2, none⟩ (.int .i64 t293)).setCell ⟨gb301, 3, none⟩ (.int .i64 t294)).setCell ⟨gb301, 4, none⟩ (.bool t295)).setCell ⟨gb301, 5, none⟩ (.int .i64 t296)).setCell ⟨gb301, 6, none⟩ (.int .i64 t297)).setCell ⟨gb301, 7, none⟩ (.string t298)).setCell ⟨gb301, 8, none⟩ (.bool t299)) w.heap.size (fun k_ => some k_ ≠ (.slice Ao45 t250.length co45 : Value).ownBlock ∧ k_ ≠ gb249 ∧ k_ ≠ gb301) v278 t277) := ⟨by (with_reducible repeat (first | apply Kd.R_alloc | apply Kd.R_drewN | apply Kd.R_drew)); exact Kd.R_mono (Kd.R_far (p := ⟨gb301, 8, none⟩) (Kd.R_far (p := ⟨gb301, 7, none⟩) (Kd.R_far (p := ⟨gb301, 6, none⟩) (Kd.R_far (p := ⟨gb301, 5, none⟩) (Kd.R_far (p := ⟨gb301, 4, none⟩) (Kd.R_far (p := ⟨gb301, 3, none⟩) (Kd.R_far (p := ⟨gb301, 2, none⟩) (Kd.R_far (p := ⟨gb301, 1, none⟩) (Kd.R_far (p := ⟨gb301, 0, none⟩) (Kd.R_mono HO279.out (fun k_ hk => (⟨hk, hk.2⟩ : _ ∧ k_ ≠ gb301))) (fun _ hk => hk.2) (.int .i64 t291)) (fun _ hk => hk.2) (.string t292)) (fun _ hk => hk.2) (.int .i64 t293)) (fun _ hk => hk.2) (.int .i64 t294)) (fun _ hk => hk.2) (.bool t295)) (fun _ hk => hk.2) (.int .i64 t296)) (fun _ hk => hk.2) (.int .i64 t297)) (fun _ hk => hk.2) (.string t298)) (fun _ hk => hk.2) (.bool t299)) (fun _ hk => ⟨hk.1.1.1.2, ⟨hk.1.1.2, hk.1.2⟩⟩)⟩
          have n4_ : Aside0 ((((((((((w58.setCell ⟨gb301, 0, none⟩ (.int .i64 t291)).setCell ⟨gb301, 1, none⟩ (.string t292)).setCell ⟨gb301, 2, none⟩ (.int .i64 t293)).setCell ⟨gb301, 3, none⟩ (.int .i64 t294)).setCell ⟨gb301, 4, none⟩ (.bool t295)).setCell ⟨gb301, 5, none⟩ (.int .i64 t296)).setCell ⟨gb301, 6, none⟩ (.int .i64 t297)).setCell ⟨gb301, 7, none⟩ (.string t298)).setCell ⟨gb301, 8, none⟩ (.bool t299)).heap[gb249]? = some (.cells #[.int .i64 t253, .string t254, .int .i64 t255, .int .i64 t256, .bool t257, .int .i64 t258, .int .i64 t259, .string t260, .bool t261] 28 (0, 0))) := ⟨by (with_reducible repeat (first | refine blk_drewN ?_ _ | refine blk_drew ?_ | refine blk_alloc ?_ _)); refine blk_far ?_ NB249_301.out _; (with_reducible repeat (first | refine blk_drewN ?_ _ | refine blk_drew ?_ | refine blk_alloc ?_ _)); refine blk_far ?_ NB249_301.out _; (with_reducible repeat (first | refine blk_drewN ?_ _ | refine blk_drew ?_ | refine blk_alloc ?_ _)); refine blk_far ?_ NB249_301.out _; (with_reducible repeat (first | refine blk_drewN ?_ _ | refine blk_drew ?_ | refine blk_alloc ?_ _)); refine blk_far ?_ NB249_301.out _; (with_reducible repeat (first | refine blk_drewN ?_ _ | refine blk_drew ?_ | refine blk_alloc ?_ _)); refine blk_far ?_ NB249_301.out _; (with_reducible repeat (first | refine blk_drewN ?_ _ | refine blk_drew ?_ | refine blk_alloc ?_ _)); refine blk_far ?_ NB249_301.out _; (with_reducible repeat (first | refine blk_drewN ?_ _ | refine blk_drew ?_ | refine blk_alloc ?_ _)); refine blk_far ?_ NB249_301.out _; (with_reducible repeat (first | refine blk_drewN ?_ _ | refine blk_drew ?_ | refine blk_alloc ?_ _)); refine blk_far ?_ NB249_301.out _; (with_reducible repeat (first | refine blk_drewN ?_ _ | refine blk_drew ?_ | refine blk_alloc ?_ _)); refine blk_far ?_ NB249_301.out _; (with_reducible repeat (first | refine blk_drewN ?_ _ | refine blk_drew ?_ | refine blk_alloc ?_ _)); exact BK249.out⟩
          have n5_ : Aside0 ((((((((((w58.setCell ⟨gb301, 0, none⟩ (.int .i64 t291)).setCell ⟨gb301, 1, none⟩ (.string t292)).setCell ⟨gb301, 2, none⟩ (.int .i64 t293)).setCell ⟨gb301, 3, none⟩ (.int .i64 t294)).setCell ⟨gb301, 4, none⟩ (.bool t295)).setCell ⟨gb301, 5, none⟩ (.int .i64 t296)).setCell ⟨gb301, 6, none⟩ (.int .i64 t297)).setCell ⟨gb301, 7, none⟩ (.string t298)).setCell ⟨gb301, 8, none⟩ (.bool t299)).heap[gb290]? = some (.cells #[.int .i64 t281, .string t282, .int .i64 t283, .int .i64 t284, .bool t285, .complex .f64 t286.re t286.im, .string t287, .bool t288] 41 (0, 0))) := ⟨by (with_reducible repeat (first | refine blk_drewN ?_ _ | refine blk_drew ?_ | refine blk_alloc ?_ _)); refine blk_far ?_ NB290_301.out _; (with_reducible repeat (first | refine blk_drewN ?_ _ | refine blk_drew ?_ | refine blk_alloc ?_ _)); refine blk_far ?_ NB290_301.out _; (with_reducible repeat (first | refine blk_drewN ?_ _ | refine blk_drew ?_ | refine blk_alloc ?_ _)); refine blk_far ?_ NB290_301.out _; (with_reducible repeat (first | refine blk_drewN ?_ _ | refine blk_drew ?_ | refine blk_alloc ?_ _)); refine blk_far ?_ NB290_301.out _; (with_reducible repeat (first | refine blk_drewN ?_ _ | refine blk_drew ?_ | refine blk_alloc ?_ _)); refine blk_far ?_ NB290_301.out _; (with_reducible repeat (first | refine blk_drewN ?_ _ | refine blk_drew ?_ | refine blk_alloc ?_ _)); refine blk_far ?_ NB290_301.out _; (with_reducible repeat (first | refine blk_drewN ?_ _ | refine blk_drew ?_ | refine blk_alloc ?_ _)); refine blk_far ?_ NB290_301.out _; (with_reducible repeat (first | refine blk_drewN ?_ _ | refine blk_drew ?_ | refine blk_alloc ?_ _)); refine blk_far ?_ NB290_301.out _; (with_reducible repeat (first | refine blk_drewN ?_ _ | refine blk_drew ?_ | refine blk_alloc ?_ _)); refine blk_far ?_ NB290_301.out _; (with_reducible repeat (first | refine blk_drewN ?_ _ | refine blk_drew ?_ | refine blk_alloc ?_ _)); exact BK290.out⟩
          have n6_ : Aside0 ((((((((((w58.setCell ⟨gb301, 0, none⟩ (.int .i64 t291)).setCell ⟨gb301, 1, none⟩ (.string t292)).setCell ⟨gb301, 2, none⟩ (.int .i64 t293)).setCell ⟨gb301, 3, none⟩ (.int .i64 t294)).setCell ⟨gb301, 4, none⟩ (.bool t295)).setCell ⟨gb301, 5, none⟩ (.int .i64 t296)).setCell ⟨gb301, 6, none⟩ (.int .i64 t297)).setCell ⟨gb301, 7, none⟩ (.string t298)).setCell ⟨gb301, 8, none⟩ (.bool t299)).heap[gb301]? = some (.cells #[.int .i64 t291, .string t292, .int .i64 t293, .int .i64 t294, .bool t295, .int .i64 t296, .int .i64 t297, .string t298, .bool t299] 28 (0, 0))) := ⟨by (with_reducible repeat (first | refine blk_drewN ?_ _ | refine blk_drew ?_ | refine blk_alloc ?_ _)); refine blk_put (cs := #[.int .i64 t291, .string t292, .int .i64 t293, .int .i64 t294, .bool t295, .int .i64 t296, .int .i64 t297, .string t298, .bool false]) ?_ 8 _ rfl; (with_reducible repeat (first | refine blk_drewN ?_ _ | refine blk_drew ?_ | refine blk_alloc ?_ _)); refine blk_put (cs := #[.int .i64 t291, .string t292, .int .i64 t293, .int .i64 t294, .bool t295, .int .i64 t296, .int .i64 t297, .string (⟨#[]⟩ : ByteArray), .bool false]) ?_ 7 _ rfl; (with_reducible repeat (first | refine blk_drewN ?_ _ | refine blk_drew ?_ | refine blk_alloc ?_ _)); refine blk_put (cs := #[.int .i64 t291, .string t292, .int .i64 t293, .int .i64 t294, .bool t295, .int .i64 t296, .int .i64 0, .string (⟨#[]⟩ : ByteArray), .bool false]) ?_ 6 _ rfl; (with_reducible repeat (first | refine blk_drewN ?_ _ | refine blk_drew ?_ | refine blk_alloc ?_ _)); refine blk_put (cs := #[.int .i64 t291, .string t292, .int .i64 t293, .int .i64 t294, .bool t295, .int .i64 0, .int .i64 0, .string (⟨#[]⟩ : ByteArray), .bool false]) ?_ 5 _ rfl; (with_reducible repeat (first | refine blk_drewN ?_ _ | refine blk_drew ?_ | refine blk_alloc ?_ _)); refine blk_put (cs := #[.int .i64 t291, .string t292, .int .i64 t293, .int .i64 t294, .bool false, .int .i64 0, .int .i64 0, .string (⟨#[]⟩ : ByteArray), .bool false]) ?_ 4 _ rfl; (with_reducible repeat (first | refine blk_drewN ?_ _ | refine blk_drew ?_ | refine blk_alloc ?_ _)); refine blk_put (cs := #[.int .i64 t291, .string t292, .int .i64 t293, .int .i64 0, .bool false, .int .i64 0, .int .i64 0, .string (⟨#[]⟩ : ByteArray), .bool false]) ?_ 3 _ rfl; (with_reducible repeat (first | refine blk_drewN ?_ _ | refine blk_drew ?_ | refine blk_alloc ?_ _)); refine blk_put (cs := #[.int .i64 t291, .string t292, .int .i64 0, .int .i64 0, .bool false, .int .i64 0, .int .i64 0, .string (⟨#[]⟩ : ByteArray), .bool false]) ?_ 2 _ rfl; (with_reducible repeat (first | refine blk_drewN ?_ _ | refine blk_drew ?_ | refine blk_alloc ?_ _)); refine blk_put (cs := #[.int .i64 t291, .string (⟨#[]⟩ : ByteArray), .int .i64 0, .int .i64 0, .bool false, .int .i64 0, .int .i64 0, .string (⟨#[]⟩ : ByteArray), .bool false]) ?_ 1 _ rfl; (with_reducible repeat (first | refine blk_drewN ?_ _ | refine blk_drew ?_ | refine blk_alloc ?_ _)); refine blk_put (cs := #[.int .i64 0, .string (⟨#[]⟩ : ByteArray), .int .i64 0, .int .i64 0, .bool false, .int .i64 0, .int .i64 0, .string (⟨#[]⟩ : ByteArray), .bool false]) ?_ 0 _ rfl; (with_reducible repeat (first | refine blk_drewN ?_ _ | refine blk_drew ?_ | refine blk_alloc ?_ _)); exact BK301.out⟩
          have n7_ : Aside0 (Below w.heap.size w (((((((((w58.setCell ⟨gb301, 0, none⟩ (.int .i64 t291)).setCell ⟨gb301, 1, none⟩ (.string t292)).setCell ⟨gb301, 2, none⟩ (.int .i64 t293)).setCell ⟨gb301, 3, none⟩ (.int .i64 t294)).setCell ⟨gb301, 4, none⟩ (.bool t295)).setCell ⟨gb301, 5, none⟩ (.int .i64 t296)).setCell ⟨gb301, 6, none⟩ (.int .i64 t297)).setCell ⟨gb301, 7, none⟩ (.string t298)).setCell ⟨gb301, 8, none⟩ (.bool t299))) := ⟨by repeat (first | (with_reducible first | exact HB.out | apply below_alloc | apply pw_below_drewN | apply below_drew1 | refine below_set ?_ GE249.out | refine below_set ?_ GE290.out | refine below_set ?_ GE301.out) | exact HB.out)⟩
          (try clear HO252)
          (try clear HO264)
          (try clear HO275)
          (try clear HO279)
          (try clear BK249)
          (try clear BK290)
          (try clear BK301)
          (try clear HB)
          generalize (((((((((w58.setCell ⟨gb301, 0, none⟩ (.int .i64 t291)).setCell ⟨gb301, 1, none⟩ (.string t292)).setCell ⟨gb301, 2, none⟩ (.int .i64 t293)).setCell ⟨gb301, 3, none⟩ (.int .i64 t294)).setCell ⟨gb301, 4, none⟩ (.bool t295)).setCell ⟨gb301, 5, none⟩ (.int .i64 t296)).setCell ⟨gb301, 6, none⟩ (.int .i64 t297)).setCell ⟨gb301, 7, none⟩ (.string t298)).setCell ⟨gb301, 8, none⟩ (.bool t299)) = w62 at n0_ n1_ n2_ n3_ n4_ n5_ n6_ n7_ ⊢
          have HO252 := n0_
          have HO264 := n1_
          have HO275 := n2_
          have HO279 := n3_
          have BK249 := n4_
          have BK290 := n5_
          have BK301 := n6_
          have HB := n7_
          clear n0_ n1_ n2_ n3_ n4_ n5_ n6_ n7_
          replace HO252 := Aside0.mk (Kd.R_drew HO252.out)
          replace HO264 := Aside0.mk (Kd.R_drew HO264.out)
          replace HO275 := Aside0.mk (Kd.R_drew HO275.out)
          replace HO279 := Aside0.mk (Kd.R_drew HO279.out)
          replace BK249 := Aside0.mk (blk_drew BK249.out)
          replace BK290 := Aside0.mk (blk_drew BK290.out)
          replace BK301 := Aside0.mk (blk_drew BK301.out)
          replace HB := Aside0.mk (below_drew1 HB.out)
          refine start_ (n := 42) (S := fun w' => w'.cell? ⟨gb290, 0, none⟩ = some (.int .i64 t281) ∧ w'.cell? ⟨gb290, 1, none⟩ = some (.string t282) ∧ w'.cell? ⟨gb290, 2, none⟩ = some (.int .i64 t283) ∧ w'.cell? ⟨gb290, 3, none⟩ = some (.int .i64 t284) ∧ w'.cell? ⟨gb290, 4, none⟩ = some (.bool t285) ∧ w'.cell? ⟨gb290, 5, none⟩ = some (.complex .f64 t286.re t286.im) ∧ w'.cell? ⟨gb290, 6, none⟩ = some (.string t287) ∧ w'.cell? ⟨gb290, 7, none⟩ = some (.bool t288) ∧ w'.cell? ⟨gb301, 0, none⟩ = some (.int .i64 t291) ∧ w'.cell? ⟨gb301, 1, none⟩ = some (.string t292) ∧ w'.cell? ⟨gb301, 2, none⟩ = some (.int .i64 t293) ∧ w'.cell? ⟨gb301, 3, none⟩ = some (.int .i64 t294) ∧ w'.cell? ⟨gb301, 4, none⟩ = some (.bool t295) ∧ w'.cell? ⟨gb301, 5, none⟩ = some (.int .i64 t296) ∧ w'.cell? ⟨gb301, 6, none⟩ = some (.int .i64 t297) ∧ w'.cell? ⟨gb301, 7, none⟩ = some (.string t298) ∧ w'.cell? ⟨gb301, 8, none⟩ = some (.bool t299)) (ds := []) #[bF3, bF3, bF3, bF3, bF3, bF3, bF3, bF3, bF3, bF3, bF3, bF3, bF3, bF3, bF3, bF3, bF3, bF3, bF3, bF3, bF3, bF3, bF3, bF3, bF3, bF3, bF3, bF3, bF3, bF3, bF3, bF3, bF3, bF3, bF3, bF3, bF3, bF3, bF3, bF3, bF3, bF3] (by kernel_rfl) rfl rfl ⟨(blk_cell BK290.out 0).trans rfl, (blk_cell BK290.out 1).trans rfl, (blk_cell BK290.out 2).trans rfl, (blk_cell BK290.out 3).trans rfl, (blk_cell BK290.out 4).trans rfl, (blk_cell BK290.out 5).trans rfl, (blk_cell BK290.out 6).trans rfl, (blk_cell BK290.out 7).trans rfl, (blk_cell BK301.out 0).trans rfl, (blk_cell BK301.out 1).trans rfl, (blk_cell BK301.out 2).trans rfl, (blk_cell BK301.out 3).trans rfl, (blk_cell BK301.out 4).trans rfl, (blk_cell BK301.out 5).trans rfl, (blk_cell BK301.out 6).trans rfl, (blk_cell BK301.out 7).trans rfl, (blk_cell BK301.out 8).trans rfl⟩ (fun hHeld => ?_); refine with_tabW cenotaphlaw08_StorePuts.tab7 cenotaphlaw08_StorePuts.bits7 (fun HT_ HW_ => ?_)
          generalize w62.drew = w63 at HO252 HO264 HO275 HO279 BK249 BK290 BK301 HB hHeld ⊢
          refine one_ (i := 0) (N := some 47) #[bT3, bF3, bF3, bF3, bF3, bF3, bF3, bF3, bF3, bF3, bF3, bF3, bF3, bF3, bF3, bF3, bF3, bF3, bF3, bF3, bF3, bF3, bF3, bF3, bF3, bF3, bF3, bF3, bF3, bF3, bF3, bF3, bF3, bF3, bF3, bF3, bF3, bF3, bF3, bF3, bF3, bF3] rfl rfl (one_of HT_.out (by kernel_rfl)) (by decide) (fun K hK => ?_)
          refine goes_ Try.func16 (by kernel_rfl) rfl #[] (by rfl) rfl rfl zq3x_18 ?_
          with_reducible refine (cenotaphlaw08_told.calls k  true _ A12.out).mono ?_
          rintro e w64 ⟨rfl, hb⟩
          refine ⟨_, rfl, ?_⟩
          replace HO252 := Aside0.mk (Kd.R_below zq3x_23 hb)
          replace HO264 := Aside0.mk (Kd.R_below zq3x_24 hb)
          replace HO275 := Aside0.mk (Kd.R_below zq3x_25 hb)
          replace HO279 := Aside0.mk (Kd.R_below zq3x_26 hb)
          replace BK249 := Aside0.mk (blk_below (g := gb249) (o := .cells #[.int .i64 t253, .string t254, .int .i64 t255, .int .i64 t256, .bool t257, .int .i64 t258, .int .i64 t259, .string t260, .bool t261] 28 (0, 0)) zq3x_20 hb)
          replace BK290 := Aside0.mk (blk_below (g := gb290) (o := .cells #[.int .i64 t281, .string t282, .int .i64 t283, .int .i64 t284, .bool t285, .complex .f64 t286.re t286.im, .string t287, .bool t288] 41 (0, 0)) zq3x_21 hb)
          replace BK301 := Aside0.mk (blk_below (g := gb301) (o := .cells #[.int .i64 t291, .string t292, .int .i64 t293, .int .i64 t294, .bool t295, .int .i64 t296, .int .i64 t297, .string t298, .bool t299] 28 (0, 0)) zq3x_22 hb)
          replace HB := Aside0.mk (below_step zq3x_13 hb)
          (try clear hb)
          (try clear hb2)
          (try clear hk)
          (try clear hi)
          obtain ⟨Ao65, co65, eo65⟩ := Kd.R_slice HO275.out
          (first | subst eo65 | (injection eo65 with f1_ f2_ f3_; have f4_ := f1_.symm; have f5_ := f3_.symm; clear f1_ f2_ f3_; subst f4_; subst f5_))
          refine hK.out _ _ ⟨(blk_cell BK290.out 0).trans rfl, (blk_cell BK290.out 1).trans rfl, (blk_cell BK290.out 2).trans rfl, (blk_cell BK290.out 3).trans rfl, (blk_cell BK290.out 4).trans rfl, (blk_cell BK290.out 5).trans rfl, (blk_cell BK290.out 6).trans rfl, (blk_cell BK290.out 7).trans rfl, (blk_cell BK301.out 0).trans rfl, (blk_cell BK301.out 1).trans rfl, (blk_cell BK301.out 2).trans rfl, (blk_cell BK301.out 3).trans rfl, (blk_cell BK301.out 4).trans rfl, (blk_cell BK301.out 5).trans rfl, (blk_cell BK301.out 6).trans rfl, (blk_cell BK301.out 7).trans rfl, (blk_cell BK301.out 8).trans rfl⟩ (fun hHeld => ?_)
          clear hK K
          refine norm_ (a' := ?_) ?_ ?_
          rotate_left
          ·show Act.put _ (some 47) _ = _
           simp only [Act.put, List.setIfInBounds_toArray, List.set_cons_zero, List.set_cons_succ, i64_w, i32_w]
           rfl
          refine p_ 1 48 (mk_ 42 0x3) ?_
          refine p_ 2 49 (mk_ 42 0x7) ?_
          refine p_ 3 50 (mk_ 42 0xf) ?_
          refine p_ 4 51 (mk_ 42 0x1f) ?_
          refine p_ 5 52 (mk_ 42 0x3f) ?_
          refine p_ 6 53 (mk_ 42 0x7f) ?_
          refine p_ 7 54 (mk_ 42 0xff) ?_
          refine p_ 8 55 (mk_ 42 0x1ff) ?_
          refine p_ 10 57 (mk_ 42 0x5ff) ?_
          refine one_ (i := 9) (N := some 56) #[bT3, bT3, bT3, bT3, bT3, bT3, bT3, bT3, bT3, bT3, bT3, bF3, bF3, bF3, bF3, bF3, bF3, bF3, bF3, bF3, bF3, bF3, bF3, bF3, bF3, bF3, bF3, bF3, bF3, bF3, bF3, bF3, bF3, bF3, bF3, bF3, bF3, bF3, bF3, bF3, bF3, bF3] rfl rfl (one_of HT_.out (by kernel_rfl)) (by decide) (fun K hK => ?_)
          refine goes_ Try.func18 (by kernel_rfl) rfl #[.slice Ao65 t273.length co65] (by rfl) rfl rfl zq3x_18 ?_
          with_reducible refine (cenotaphlaw08_From.calls k _ _ t273 t303 _ ?side1 ?side2 A15.out).mono ?_
          (case side1 => repeat (first | exact (Kd.R_reads' HO275.out).2.2 | (with_reducible refine Kd.C_alloc ?_ _) | (with_reducible refine Kd.C_drewN ?_ _) | (with_reducible refine Kd.C_drew ?_)))
          (case side2 => exact (Kd.R_reads' HO275.out).2.1)
          rintro e w66 ⟨v304, rfl, ho0, hb⟩
          refine ⟨_, rfl, ?_⟩
          replace HO264 := Aside0.mk (Kd.R_below zq3x_24 hb)
          replace HO275 := Aside0.mk (Kd.R_below zq3x_25 hb)
          have HO305 := Aside0.mk (Kd.R_lower (Kd.R_newB (Kd.R_newB (Kd.R_new' (Kd.R_new' ho0 (Kd.R_lt zq3x_23)) (Kd.R_lt zq3x_26)) (g := gb249) (o := .cells #[.int .i64 t253, .string t254, .int .i64 t255, .int .i64 t256, .bool t257, .int .i64 t258, .int .i64 t259, .string t260, .bool t261] 28 (0, 0)) zq3x_20) (g := gb301) (o := .cells #[.int .i64 t291, .string t292, .int .i64 t293, .int .i64 t294, .bool t295, .int .i64 t296, .int .i64 t297, .string t298, .bool t299] 28 (0, 0)) zq3x_22) (below_size zq3x_13))
          replace HO252 := Aside0.mk (Kd.R_elder' zq3x_23 (Kd.R_base ho0) hb)
          replace HO279 := Aside0.mk (Kd.R_elder' zq3x_26 (Kd.R_base ho0) hb)
          replace BK249 := Aside0.mk (blk_below (g := gb249) (o := .cells #[.int .i64 t253, .string t254, .int .i64 t255, .int .i64 t256, .bool t257, .int .i64 t258, .int .i64 t259, .string t260, .bool t261] 28 (0, 0)) zq3x_20 hb)
          replace BK290 := Aside0.mk (blk_below (g := gb290) (o := .cells #[.int .i64 t281, .string t282, .int .i64 t283, .int .i64 t284, .bool t285, .complex .f64 t286.re t286.im, .string t287, .bool t288] 41 (0, 0)) zq3x_21 hb)
          replace BK301 := Aside0.mk (blk_below (g := gb301) (o := .cells #[.int .i64 t291, .string t292, .int .i64 t293, .int .i64 t294, .bool t295, .int .i64 t296, .int .i64 t297, .string t298, .bool t299] 28 (0, 0)) zq3x_22 hb)
          replace HB := Aside0.mk (below_step zq3x_13 hb)
          (try clear hb)
          (try clear hb2)
          (try clear hk)
          (try clear hi)
          (try clear ho0)
          obtain ⟨Ao67, co67, eo67⟩ := Kd.R_slice HO305.out
          (first | subst eo67 | (injection eo67 with f1_ f2_ f3_; have f4_ := f1_.symm; have f5_ := f3_.symm; clear f1_ f2_ f3_; subst f4_; subst f5_))
          obtain ⟨Ao68, co68, eo68⟩ := Kd.R_slice HO279.out
          (first | subst eo68 | (injection eo68 with f1_ f2_ f3_; have f4_ := f1_.symm; have f5_ := f3_.symm; clear f1_ f2_ f3_; subst f4_; subst f5_))
          refine hK.out _ _ ⟨(blk_cell BK290.out 0).trans rfl, (blk_cell BK290.out 1).trans rfl, (blk_cell BK290.out 2).trans rfl, (blk_cell BK290.out 3).trans rfl, (blk_cell BK290.out 4).trans rfl, (blk_cell BK290.out 5).trans rfl, (blk_cell BK290.out 6).trans rfl, (blk_cell BK290.out 7).trans rfl, (blk_cell BK301.out 0).trans rfl, (blk_cell BK301.out 1).trans rfl, (blk_cell BK301.out 2).trans rfl, (blk_cell BK301.out 3).trans rfl, (blk_cell BK301.out 4).trans rfl, (blk_cell BK301.out 5).trans rfl, (blk_cell BK301.out 6).trans rfl, (blk_cell BK301.out 7).trans rfl, (blk_cell BK301.out 8).trans rfl⟩ (fun hHeld => ?_)
          clear hK K
          refine norm_ (a' := ?_) ?_ ?_
          rotate_left
          ·show Act.put _ (some 56) _ = _
           simp only [Act.put, List.setIfInBounds_toArray, List.set_cons_zero, List.set_cons_succ, i64_w, i32_w]
           rfl
          refine one_ (i := 11) (N := some 58) #[bT3, bT3, bT3, bT3, bT3, bT3, bT3, bT3, bT3, bT3, bT3, bT3, bF3, bF3, bF3, bF3, bF3, bF3, bF3, bF3, bF3, bF3, bF3, bF3, bF3, bF3, bF3, bF3, bF3, bF3, bF3, bF3, bF3, bF3, bF3, bF3, bF3, bF3, bF3, bF3, bF3, bF3] rfl rfl (one_of HT_.out (by kernel_rfl)) (by decide) (fun K hK => ?_)
          refine goes_ Try.func17 (by kernel_rfl) rfl #[.slice Ao67 t303.length co67, .slice Ao68 t277.length co68] (by rfl) rfl rfl zq3x_18 ?_
          with_reducible refine (cenotaphref08_Same.calls k _ _ t303 _ _ t277 true _ ?side1 ?side2 ?side3 ?side4 A16.out).mono ?_
          (case side1 => repeat (first | exact (Kd.R_reads' HO305.out).2.2 | (with_reducible refine Kd.C_alloc ?_ _) | (with_reducible refine Kd.C_drewN ?_ _) | (with_reducible refine Kd.C_drew ?_)))
          (case side2 => exact (Kd.R_reads' HO305.out).2.1)
          (case side3 => repeat (first | exact (Kd.R_reads' HO279.out).2.2 | (with_reducible refine Kd.C_alloc ?_ _) | (with_reducible refine Kd.C_drewN ?_ _) | (with_reducible refine Kd.C_drew ?_)))
          (case side4 => exact (Kd.R_reads' HO279.out).2.1)
          rintro e w' ⟨rfl, ⟨nd, rfl⟩⟩
          refine ⟨_, rfl, ?_⟩
          refine hK.out _ _ ⟨(blk_cell BK290.out 0).trans rfl, (blk_cell BK290.out 1).trans rfl, (blk_cell BK290.out 2).trans rfl, (blk_cell BK290.out 3).trans rfl, (blk_cell BK290.out 4).trans rfl, (blk_cell BK290.out 5).trans rfl, (blk_cell BK290.out 6).trans rfl, (blk_cell BK290.out 7).trans rfl, (blk_cell BK301.out 0).trans rfl, (blk_cell BK301.out 1).trans rfl, (blk_cell BK301.out 2).trans rfl, (blk_cell BK301.out 3).trans rfl, (blk_cell BK301.out 4).trans rfl, (blk_cell BK301.out 5).trans rfl, (blk_cell BK301.out 6).trans rfl, (blk_cell BK301.out 7).trans rfl, (blk_cell BK301.out 8).trans rfl⟩ (fun hHeld => ?_)
          clear hK K
          refine norm_ (a' := ?_) ?_ ?_
          rotate_left
          ·show Act.put _ (some 58) _ = _
           simp only [Act.put, List.setIfInBounds_toArray, List.set_cons_zero, List.set_cons_succ, i64_w, i32_w]
           rfl
          refine p_ 12 59 (mk_ 42 0x1fff) ?_
          refine p_ 13 60 (mk_ 42 0x3fff) ?_
          refine p_ 14 61 (mk_ 42 0x7fff) ?_
          refine p_ 15 62 (mk_ 42 0xffff) ?_
          refine one_ (i := 16) (N := some 63) #[bT3, bT3, bT3, bT3, bT3, bT3, bT3, bT3, bT3, bT3, bT3, bT3, bT3, bT3, bT3, bT3, bT3, bF3, bF3, bF3, bF3, bF3, bF3, bF3, bF3, bF3, bF3, bF3, bF3, bF3, bF3, bF3, bF3, bF3, bF3, bF3, bF3, bF3, bF3, bF3, bF3, bF3] rfl rfl (one_of HT_.out (by kernel_rfl)) (by decide) (fun K hK => ?_)
          refine goes_ Try.func19 (by kernel_rfl) rfl #[.slice Ao65 t273.length co65] (by rfl) rfl rfl zq3x_18 ?_
          with_reducible refine (store_Right.calls k _ _ t273 true _ ?side1 ?side2 A18.out).mono ?_
          (case side1 => repeat (first | exact (Kd.R_reads' HO275.out).2.2 | (with_reducible refine Kd.C_alloc ?_ _) | (with_reducible refine Kd.C_drewN ?_ _) | (with_reducible refine Kd.C_drew ?_)))
          (case side2 => exact (Kd.R_reads' HO275.out).2.1)
          rintro e w69 ⟨rfl, hb⟩
          refine ⟨_, rfl, ?_⟩
          replace HO252 := Aside0.mk (Kd.R_below zq3x_23 hb)
          replace HO264 := Aside0.mk (Kd.R_below zq3x_24 hb)
          replace HO275 := Aside0.mk (Kd.R_below zq3x_25 hb)
          replace HO279 := Aside0.mk (Kd.R_below zq3x_26 hb)
          replace HO305 := Aside0.mk (Kd.R_below zq3x_27 hb)
          replace BK249 := Aside0.mk (blk_below (g := gb249) (o := .cells #[.int .i64 t253, .string t254, .int .i64 t255, .int .i64 t256, .bool t257, .int .i64 t258, .int .i64 t259, .string t260, .bool t261] 28 (0, 0)) zq3x_20 hb)
          replace BK290 := Aside0.mk (blk_below (g := gb290) (o := .cells #[.int .i64 t281, .string t282, .int .i64 t283, .int .i64 t284, .bool t285, .complex .f64 t286.re t286.im, .string t287, .bool t288] 41 (0, 0)) zq3x_21 hb)
          replace BK301 := Aside0.mk (blk_below (g := gb301) (o := .cells #[.int .i64 t291, .string t292, .int .i64 t293, .int .i64 t294, .bool t295, .int .i64 t296, .int .i64 t297, .string t298, .bool t299] 28 (0, 0)) zq3x_22 hb)
          replace HB := Aside0.mk (below_step zq3x_13 hb)
          (try clear hb)
          (try clear hb2)
          (try clear hk)
          (try clear hi)
          refine hK.out _ _ ⟨(blk_cell BK290.out 0).trans rfl, (blk_cell BK290.out 1).trans rfl, (blk_cell BK290.out 2).trans rfl, (blk_cell BK290.out 3).trans rfl, (blk_cell BK290.out 4).trans rfl, (blk_cell BK290.out 5).trans rfl, (blk_cell BK290.out 6).trans rfl, (blk_cell BK290.out 7).trans rfl, (blk_cell BK301.out 0).trans rfl, (blk_cell BK301.out 1).trans rfl, (blk_cell BK301.out 2).trans rfl, (blk_cell BK301.out 3).trans rfl, (blk_cell BK301.out 4).trans rfl, (blk_cell BK301.out 5).trans rfl, (blk_cell BK301.out 6).trans rfl, (blk_cell BK301.out 7).trans rfl, (blk_cell BK301.out 8).trans rfl⟩ (fun hHeld => ?_)
          clear hK K
          refine norm_ (a' := ?_) ?_ ?_
          rotate_left
          ·show Act.put _ (some 63) _ = _
           simp only [Act.put, List.setIfInBounds_toArray, List.set_cons_zero, List.set_cons_succ, i64_w, i32_w]
           rfl
          refine p_ 17 64 (mk_ 42 0x3ffff) ?_
          refine p_ 18 65 (mk_ 42 0x7ffff) ?_
          refine p_ 19 66 (mk_ 42 0xfffff) ?_
          refine p_ 20 67 (mk_ 42 0x1fffff) ?_
          refine p_ 21 68 (mk_ 42 0x3fffff) ?_
          refine p_ 22 69 (mk_ 42 0x7fffff) ?_
          refine p_ 23 70 (mk_ 42 0xffffff) ?_
          refine p_ 24 71 (mk_ 42 0x1ffffff) ?_
          refine t_ 25 72 (mk_ 42 0x3ffffff) hHeld ?_
          refine t_ 27 74 (mk_ 42 0xbffffff) hHeld ?_
          refine one_ (i := 26) (N := some 73) #[bT3, bT3, bT3, bT3, bT3, bT3, bT3, bT3, bT3, bT3, bT3, bT3, bT3, bT3, bT3, bT3, bT3, bT3, bT3, bT3, bT3, bT3, bT3, bT3, bT3, bT3, bT3, bT3, bF3, bF3, bF3, bF3, bF3, bF3, bF3, bF3, bF3, bF3, bF3, bF3, bF3, bF3] rfl rfl (one_of HT_.out (by kernel_rfl)) (by decide) (fun K hK => ?_)
          refine goes_ Try.func20 (by kernel_rfl) rfl #[.agg #[.int .i64 t281, .string t282, .int .i64 t283, .int .i64 t284, .bool t285, .complex .f64 t286.re t286.im, .string t287, .bool t288]] (by rfl) rfl rfl zq3x_18 ?_
          with_reducible refine (cenotaphlaw07_From.calls t281 t282 t283 t284 t285 t286 t287 t288 t308 t309 t310 t311 t312 t313 t314 t315 t316 _ A21.out).mono ?_
          rintro e w70 ⟨rfl, hb⟩
          refine ⟨_, rfl, ?_⟩
          replace HO252 := Aside0.mk (Kd.R_below zq3x_23 hb)
          replace HO264 := Aside0.mk (Kd.R_below zq3x_24 hb)
          replace HO275 := Aside0.mk (Kd.R_below zq3x_25 hb)
          replace HO279 := Aside0.mk (Kd.R_below zq3x_26 hb)
          replace HO305 := Aside0.mk (Kd.R_below zq3x_27 hb)
          replace BK249 := Aside0.mk (blk_below (g := gb249) (o := .cells #[.int .i64 t253, .string t254, .int .i64 t255, .int .i64 t256, .bool t257, .int .i64 t258, .int .i64 t259, .string t260, .bool t261] 28 (0, 0)) zq3x_20 hb)
          replace BK290 := Aside0.mk (blk_below (g := gb290) (o := .cells #[.int .i64 t281, .string t282, .int .i64 t283, .int .i64 t284, .bool t285, .complex .f64 t286.re t286.im, .string t287, .bool t288] 41 (0, 0)) zq3x_21 hb)
          replace BK301 := Aside0.mk (blk_below (g := gb301) (o := .cells #[.int .i64 t291, .string t292, .int .i64 t293, .int .i64 t294, .bool t295, .int .i64 t296, .int .i64 t297, .string t298, .bool t299] 28 (0, 0)) zq3x_22 hb)
          replace HB := Aside0.mk (below_step zq3x_13 hb)
          (try clear hb)
          (try clear hb2)
          (try clear hk)
          (try clear hi)
          refine hK.out _ _ ⟨(blk_cell BK290.out 0).trans rfl, (blk_cell BK290.out 1).trans rfl, (blk_cell BK290.out 2).trans rfl, (blk_cell BK290.out 3).trans rfl, (blk_cell BK290.out 4).trans rfl, (blk_cell BK290.out 5).trans rfl, (blk_cell BK290.out 6).trans rfl, (blk_cell BK290.out 7).trans rfl, (blk_cell BK301.out 0).trans rfl, (blk_cell BK301.out 1).trans rfl, (blk_cell BK301.out 2).trans rfl, (blk_cell BK301.out 3).trans rfl, (blk_cell BK301.out 4).trans rfl, (blk_cell BK301.out 5).trans rfl, (blk_cell BK301.out 6).trans rfl, (blk_cell BK301.out 7).trans rfl, (blk_cell BK301.out 8).trans rfl⟩ (fun hHeld => ?_)
          clear hK K
          refine norm_ (a' := ?_) ?_ ?_
          rotate_left
          ·show Act.put _ (some 73) _ = _
           simp only [Act.put, List.setIfInBounds_toArray, List.set_cons_zero, List.set_cons_succ, i64_w, i32_w]
           rfl
          refine p_ 28 75 (mk_ 42 0x1fffffff) ?_
          refine p_ 29 76 (mk_ 42 0x3fffffff) ?_
          refine p_ 30 77 (mk_ 42 0x7fffffff) ?_
          refine p_ 31 78 (mk_ 42 0xffffffff) ?_
          refine p_ 32 79 (mk_ 42 0x1ffffffff) ?_
          refine p_ 33 80 (mk_ 42 0x3ffffffff) ?_
          refine p_ 34 81 (mk_ 42 0x7ffffffff) ?_
          refine p_ 35 82 (mk_ 42 0xfffffffff) ?_
          refine p_ 36 83 (mk_ 42 0x1fffffffff) ?_
          refine p_ 38 85 (mk_ 42 0x5fffffffff) ?_
          refine t_ 37 84 (mk_ 42 0x7fffffffff) hHeld ?_
          refine p_ 39 86 (mk_ 42 0xffffffffff) ?_
          refine p_ 40 87 (mk_ 42 0x1ffffffffff) ?_
          refine p_ 41 88 (mk_ 42 0x3ffffffffff) ?_
          refine done_ (done_of HT_.out (by kernel_rfl)) ?_
          try go_wp2_with (first | ((with_reducible refine gate_callee (f := 21) rfl ?_); refine goesL_ (some 91) rfl rfl Try.func21 (by kernel_rfl) rfl #[.slice Ao49 t262.length co49, .int .i64 a2] rfl zq3x_18 ?_; (with_reducible refine (store_Drop.calls _ _ t262 a2 t317 _ ?side1 ?side2 A25.out).mono ?_); (case side1 => repeat (first | exact (Kd.R_reads' HO264.out).2.2 | (with_reducible refine Kd.C_alloc ?_ _) | (with_reducible refine Kd.C_drewN ?_ _) | (with_reducible refine Kd.C_drew ?_))); (case side2 => exact (Kd.R_reads' HO264.out).2.1); rintro e w71 ⟨v318, rfl, ho0, hb⟩; refine ⟨_, rfl, ?_⟩; replace HO252 := Aside0.mk (Kd.R_below zq3x_23 hb); replace HO279 := Aside0.mk (Kd.R_below zq3x_26 hb); replace HO305 := Aside0.mk (Kd.R_below zq3x_27 hb); have HO319 := Aside0.mk (Kd.R_lower (Kd.R_newB (Kd.R_new' (Kd.R_new' ho0 (Kd.R_lt zq3x_24)) (Kd.R_lt zq3x_25)) (g := gb290) (o := .cells #[.int .i64 t281, .string t282, .int .i64 t283, .int .i64 t284, .bool t285, .complex .f64 t286.re t286.im, .string t287, .bool t288] 41 (0, 0)) zq3x_21) (below_size zq3x_13)); replace HO264 := Aside0.mk (Kd.R_elder' zq3x_24 (Kd.R_base ho0) hb); replace HO275 := Aside0.mk (Kd.R_elder' zq3x_25 (Kd.R_base ho0) hb); replace BK249 := Aside0.mk (blk_below (g := gb249) (o := .cells #[.int .i64 t253, .string t254, .int .i64 t255, .int .i64 t256, .bool t257, .int .i64 t258, .int .i64 t259, .string t260, .bool t261] 28 (0, 0)) zq3x_20 hb); replace BK290 := Aside0.mk (blk_below (g := gb290) (o := .cells #[.int .i64 t281, .string t282, .int .i64 t283, .int .i64 t284, .bool t285, .complex .f64 t286.re t286.im, .string t287, .bool t288] 41 (0, 0)) zq3x_21 hb); replace BK301 := Aside0.mk (blk_below (g := gb301) (o := .cells #[.int .i64 t291, .string t292, .int .i64 t293, .int .i64 t294, .bool t295, .int .i64 t296, .int .i64 t297, .string t298, .bool t299] 28 (0, 0)) zq3x_22 hb); replace HB := Aside0.mk (below_step zq3x_13 hb); (try clear hb); (try clear hb2); (try clear hk); (try clear hi); (try clear ho0); obtain ⟨Ao72, co72, eo72⟩ := Kd.R_slice HO319.out; subst eo72) | ((with_reducible refine gate_callee (f := 18) rfl ?_); refine goesL_ (some 92) rfl rfl Try.func18 (by kernel_rfl) rfl #[.slice Ao72 t317.length co72] rfl zq3x_18 ?_; (with_reducible refine (cenotaphlaw08_From.calls k _ _ t317 t320 _ ?side1 ?side2 A26.out).mono ?_); (case side1 => repeat (first | exact (Kd.R_reads' HO319.out).2.2 | (with_reducible refine Kd.C_alloc ?_ _) | (with_reducible refine Kd.C_drewN ?_ _) | (with_reducible refine Kd.C_drew ?_))); (case side2 => exact (Kd.R_reads' HO319.out).2.1); rintro e w73 ⟨v321, rfl, ho0, hb⟩; refine ⟨_, rfl, ?_⟩; replace HO264 := Aside0.mk (Kd.R_below zq3x_24 hb); replace HO275 := Aside0.mk (Kd.R_below zq3x_25 hb); replace HO319 := Aside0.mk (Kd.R_below zq3x_28 hb); have HO322 := Aside0.mk (Kd.R_lower (Kd.R_newB (Kd.R_newB (Kd.R_new' (Kd.R_new' (Kd.R_new' ho0 (Kd.R_lt zq3x_23)) (Kd.R_lt zq3x_26)) (Kd.R_lt zq3x_27)) (g := gb249) (o := .cells #[.int .i64 t253, .string t254, .int .i64 t255, .int .i64 t256, .bool t257, .int .i64 t258, .int .i64 t259, .string t260, .bool t261] 28 (0, 0)) zq3x_20) (g := gb301) (o := .cells #[.int .i64 t291, .string t292, .int .i64 t293, .int .i64 t294, .bool t295, .int .i64 t296, .int .i64 t297, .string t298, .bool t299] 28 (0, 0)) zq3x_22) (below_size zq3x_13)); replace HO252 := Aside0.mk (Kd.R_elder' zq3x_23 (Kd.R_base ho0) hb); replace HO279 := Aside0.mk (Kd.R_elder' zq3x_26 (Kd.R_base ho0) hb); replace HO305 := Aside0.mk (Kd.R_elder' zq3x_27 (Kd.R_base ho0) hb); replace BK249 := Aside0.mk (blk_below (g := gb249) (o := .cells #[.int .i64 t253, .string t254, .int .i64 t255, .int .i64 t256, .bool t257, .int .i64 t258, .int .i64 t259, .string t260, .bool t261] 28 (0, 0)) zq3x_20 hb); replace BK290 := Aside0.mk (blk_below (g := gb290) (o := .cells #[.int .i64 t281, .string t282, .int .i64 t283, .int .i64 t284, .bool t285, .complex .f64 t286.re t286.im, .string t287, .bool t288] 41 (0, 0)) zq3x_21 hb); replace BK301 := Aside0.mk (blk_below (g := gb301) (o := .cells #[.int .i64 t291, .string t292, .int .i64 t293, .int .i64 t294, .bool t295, .int .i64 t296, .int .i64 t297, .string t298, .bool t299] 28 (0, 0)) zq3x_22 hb); replace HB := Aside0.mk (below_step zq3x_13 hb); (try clear hb); (try clear hb2); (try clear hk); (try clear hi); (try clear ho0)) | ((with_reducible refine gate_callee (f := 22) rfl ?_); refine goesL_ (some 95) rfl rfl Try.func22 (by kernel_rfl) rfl #[.slice Ao45 t250.length co45, .int .i64 a2] rfl zq3x_18 ?_; (with_reducible refine (cenotaphref08_Drop.calls k _ _ t250 a2 t323 _ ?side1 ?side2 A27.out).mono ?_); (case side1 => repeat (first | exact (Kd.R_reads' HO252.out).2.2 | (with_reducible refine Kd.C_alloc ?_ _) | (with_reducible refine Kd.C_drewN ?_ _) | (with_reducible refine Kd.C_drew ?_))); (case side2 => exact (Kd.R_reads' HO252.out).2.1); rintro e w74 ⟨v324, rfl, ho0, hb⟩; refine ⟨_, rfl, ?_⟩; replace HO264 := Aside0.mk (Kd.R_below zq3x_24 hb); replace HO275 := Aside0.mk (Kd.R_below zq3x_25 hb); replace HO319 := Aside0.mk (Kd.R_below zq3x_28 hb); have HO325 := Aside0.mk (Kd.R_lower (Kd.R_newB (Kd.R_newB (Kd.R_new' (Kd.R_new' (Kd.R_new' (Kd.R_new' ho0 (Kd.R_lt zq3x_23)) (Kd.R_lt zq3x_26)) (Kd.R_lt zq3x_27)) (Kd.R_lt zq3x_29)) (g := gb249) (o := .cells #[.int .i64 t253, .string t254, .int .i64 t255, .int .i64 t256, .bool t257, .int .i64 t258, .int .i64 t259, .string t260, .bool t261] 28 (0, 0)) zq3x_20) (g := gb301) (o := .cells #[.int .i64 t291, .string t292, .int .i64 t293, .int .i64 t294, .bool t295, .int .i64 t296, .int .i64 t297, .string t298, .bool t299] 28 (0, 0)) zq3x_22) (below_size zq3x_13)); replace HO252 := Aside0.mk (Kd.R_elder' zq3x_23 (Kd.R_base ho0) hb); replace HO279 := Aside0.mk (Kd.R_elder' zq3x_26 (Kd.R_base ho0) hb); replace HO305 := Aside0.mk (Kd.R_elder' zq3x_27 (Kd.R_base ho0) hb); replace HO322 := Aside0.mk (Kd.R_elder' zq3x_29 (Kd.R_base ho0) hb); replace BK249 := Aside0.mk (blk_below (g := gb249) (o := .cells #[.int .i64 t253, .string t254, .int .i64 t255, .int .i64 t256, .bool t257, .int .i64 t258, .int .i64 t259, .string t260, .bool t261] 28 (0, 0)) zq3x_20 hb); replace BK290 := Aside0.mk (blk_below (g := gb290) (o := .cells #[.int .i64 t281, .string t282, .int .i64 t283, .int .i64 t284, .bool t285, .complex .f64 t286.re t286.im, .string t287, .bool t288] 41 (0, 0)) zq3x_21 hb); replace BK301 := Aside0.mk (blk_below (g := gb301) (o := .cells #[.int .i64 t291, .string t292, .int .i64 t293, .int .i64 t294, .bool t295, .int .i64 t296, .int .i64 t297, .string t298, .bool t299] 28 (0, 0)) zq3x_22 hb); replace HB := Aside0.mk (below_step zq3x_13 hb); (try clear hb); (try clear hb2); (try clear hk); (try clear hi); (try clear ho0); obtain ⟨Ao75, co75, eo75⟩ := Kd.R_slice HO322.out; subst eo75; obtain ⟨Ao76, co76, eo76⟩ := Kd.R_slice HO325.out; subst eo76) | ((with_reducible refine gate_callee (f := 17) rfl ?_); refine goesL_ (some 96) rfl rfl Try.func17 (by kernel_rfl) rfl #[.slice Ao75 t320.length co75, .slice Ao76 t323.length co76] rfl zq3x_18 ?_; (with_reducible refine (cenotaphref08_Same.calls k _ _ t320 _ _ t323 true _ ?side1 ?side2 ?side3 ?side4 A28.out).mono ?_); (case side1 => repeat (first | exact (Kd.R_reads' HO322.out).2.2 | (with_reducible refine Kd.C_alloc ?_ _) | (with_reducible refine Kd.C_drewN ?_ _) | (with_reducible refine Kd.C_drew ?_))); (case side2 => exact (Kd.R_reads' HO322.out).2.1); (case side3 => repeat (first | exact (Kd.R_reads' HO325.out).2.2 | (with_reducible refine Kd.C_alloc ?_ _) | (with_reducible refine Kd.C_drewN ?_ _) | (with_reducible refine Kd.C_drew ?_))); (case side4 => exact (Kd.R_reads' HO325.out).2.1); rintro e w' ⟨rfl, ⟨nd, rfl⟩⟩; refine ⟨_, rfl, ?_⟩) | (go_at_call 18; (with_reducible refine (cenotaphlaw08_From.calls k _ _ t262 t327 _ ?side1 ?side2 A30.out).mono ?_); (case side1 => repeat (first | exact (Kd.R_reads' HO264.out).2.2 | (with_reducible refine Kd.C_alloc ?_ _) | (with_reducible refine Kd.C_drewN ?_ _) | (with_reducible refine Kd.C_drew ?_))); (case side2 => exact (Kd.R_reads' HO264.out).2.1); rintro e w77 ⟨v328, rfl, ho0, hb⟩; replace HO264 := Aside0.mk (Kd.R_below zq3x_24 hb); replace HO275 := Aside0.mk (Kd.R_below zq3x_25 hb); replace HO319 := Aside0.mk (Kd.R_below zq3x_28 hb); have HO329 := Aside0.mk (Kd.R_lower (Kd.R_newB (Kd.R_newB (Kd.R_new' (Kd.R_new' (Kd.R_new' (Kd.R_new' (Kd.R_new' ho0 (Kd.R_lt zq3x_23)) (Kd.R_lt zq3x_26)) (Kd.R_lt zq3x_27)) (Kd.R_lt zq3x_29)) (Kd.R_lt (by (with_reducible repeat (first | apply Kd.R_alloc | apply Kd.R_drewN | apply Kd.R_drew)); exact HO325.out))) (g := gb249) (o := .cells #[.int .i64 t253, .string t254, .int .i64 t255, .int .i64 t256, .bool t257, .int .i64 t258, .int .i64 t259, .string t260, .bool t261] 28 (0, 0)) zq3x_20) (g := gb301) (o := .cells #[.int .i64 t291, .string t292, .int .i64 t293, .int .i64 t294, .bool t295, .int .i64 t296, .int .i64 t297, .string t298, .bool t299] 28 (0, 0)) zq3x_22) (below_size zq3x_13)); replace HO252 := Aside0.mk (Kd.R_elder' zq3x_23 (Kd.R_base ho0) hb); replace HO279 := Aside0.mk (Kd.R_elder' zq3x_26 (Kd.R_base ho0) hb); replace HO305 := Aside0.mk (Kd.R_elder' zq3x_27 (Kd.R_base ho0) hb); replace HO322 := Aside0.mk (Kd.R_elder' zq3x_29 (Kd.R_base ho0) hb); replace HO325 := Aside0.mk (Kd.R_elder' (by (with_reducible repeat (first | apply Kd.R_alloc | apply Kd.R_drewN | apply Kd.R_drew)); exact HO325.out) (Kd.R_base ho0) hb); replace BK249 := Aside0.mk (blk_below (g := gb249) (o := .cells #[.int .i64 t253, .string t254, .int .i64 t255, .int .i64 t256, .bool t257, .int .i64 t258, .int .i64 t259, .string t260, .bool t261] 28 (0, 0)) zq3x_20 hb); replace BK290 := Aside0.mk (blk_below (g := gb290) (o := .cells #[.int .i64 t281, .string t282, .int .i64 t283, .int .i64 t284, .bool t285, .complex .f64 t286.re t286.im, .string t287, .bool t288] 41 (0, 0)) zq3x_21 hb); replace BK301 := Aside0.mk (blk_below (g := gb301) (o := .cells #[.int .i64 t291, .string t292, .int .i64 t293, .int .i64 t294, .bool t295, .int .i64 t296, .int .i64 t297, .string t298, .bool t299] 28 (0, 0)) zq3x_22 hb); replace HB := Aside0.mk (below_step zq3x_13 hb); (try clear hb); (try clear hb2); (try clear hk); (try clear hi); (try clear ho0); obtain ⟨Ao78, co78, eo78⟩ := Kd.R_slice HO329.out; subst eo78) | (go_at_call 17; (with_reducible refine (cenotaphref08_Same.calls k _ _ t327 _ _ t250 t330 _ ?side1 ?side2 ?side3 ?side4 A31.out).mono ?_); (case side1 => repeat (first | exact (Kd.R_reads' HO329.out).2.2 | (with_reducible refine Kd.C_alloc ?_ _) | (with_reducible refine Kd.C_drewN ?_ _) | (with_reducible refine Kd.C_drew ?_))); (case side2 => exact (Kd.R_reads' HO329.out).2.1); (case side3 => repeat (first | exact (Kd.R_reads' HO252.out).2.2 | (with_reducible refine Kd.C_alloc ?_ _) | (with_reducible refine Kd.C_drewN ?_ _) | (with_reducible refine Kd.C_drew ?_))); (case side4 => exact (Kd.R_reads' HO252.out).2.1); rintro e w' ⟨rfl, ⟨nd, rfl⟩⟩))
          go_ret
          exact ⟨by first | rfl | (simp [errW_none, errW_some] <;> rfl) | (simp [*, errW_none, errW_some] <;> rfl), by repeat (first | (with_reducible first | exact HB.out | apply below_alloc | apply pw_below_drewN | apply below_drew1 | refine below_set ?_ GE249.out | refine below_set ?_ GE290.out | refine below_set ?_ GE301.out) | exact HB.out)⟩
         ·replace c29 := Bool.eq_false_iff.mpr c29
          subst c29
          have H1 : (none) = some r := by rw [if_neg (show ¬ (false = true) by decide)] at H; exact H
          clear H
          have H := H1
          clear H1
          exact absurd H (by simp)
      ·rw [if_neg c22] at H
       have c22b0 : (!(t308 == t291) || ((!(t309.toList == t292.toList) || (!(t310 == t293) || (!(t311 == t294)))) || (!(t312 == t295) || ((!(t313 == t296) || (!(t314 == t297))) || (!(t315.toList == t298.toList) || (!(t316 == t299))))))) = false := by simpa using c22
       clear c22
       by_cases c79 : t289 = true
       ·subst c79
        have H1 : ((store_Drop.f t262 a2).bind fun t331 => ((cenotaphlaw08_From.f k t331).bind fun t334 => ((cenotaphref08_Drop.f k t250 a2).bind fun t337 => ((cenotaphref08_Same.f k t334 t337).bind fun t340 => (if t340 = true then ((cenotaphlaw08_From.f k t262).bind fun t341 => ((cenotaphref08_Same.f k t341 t250).bind fun t344 => (some t344))) else (none)))))) = some r := by rw [if_pos rfl] at H; exact H
        clear H
        have H := H1
        clear H1
        replace H := Option.bind_eq_some_iff.mp H
        obtain ⟨t331, A800, H⟩ := H
        have A80 := Aside0.mk A800
        clear A800
        replace H := Option.bind_eq_some_iff.mp H
        obtain ⟨t334, A810, H⟩ := H
        have A81 := Aside0.mk A810
        clear A810
        replace H := Option.bind_eq_some_iff.mp H
        obtain ⟨t337, A820, H⟩ := H
        have A82 := Aside0.mk A820
        clear A820
        replace H := Option.bind_eq_some_iff.mp H
        obtain ⟨t340, A830, H⟩ := H
        have A83 := Aside0.mk A830
        clear A830
        by_cases c84 : t340 = true
        ·subst c84
         have H1 : ((cenotaphlaw08_From.f k t262).bind fun t341 => ((cenotaphref08_Same.f k t341 t250).bind fun t344 => (some t344))) = some r := by rw [if_pos rfl] at H; exact H
         clear H
         have H := H1
         clear H1
         replace H := Option.bind_eq_some_iff.mp H
         obtain ⟨t341, A850, H⟩ := H
         have A85 := Aside0.mk A850
         clear A850
         replace H := Option.bind_eq_some_iff.mp H
         obtain ⟨t344, A860, H⟩ := H
         have A86 := Aside0.mk A860
         clear A860
         obtain rfl := Option.some.inj H
         go_enter Try.func3, Try.ntmps3
         try go_wp2_with (first | ((with_reducible refine gate_dst (N := 4) rfl ?_); refine box_event ?hg (N := 4) ?hd (cs := #[.int .i64 a1_0, .string a1_1, .int .i64 a1_2, .int .i64 a1_3, .bool a1_4, .int .i64 a1_5, .int .i64 a1_6, .string a1_7, .bool a1_8]) (t := 28) ?hr ?_; (case hd => rfl); (case hg => rfl); (case hr => first | (go_simp; done) | (go_simp; rfl)); intro gb249 hg w87 hbox hb; have BK249 := Aside0.mk (hbox); have GW249 := Aside0.mk ((zq3x_16 : w.heap.size ≤ gb249)); have GE249 := Aside0.mk ((zq3x_16 : w.heap.size ≤ gb249)); replace HB := Aside0.mk (below_step zq3x_19 hb); clear hb hbox hg))
         replace BK249 := Aside0.mk (blk_drew BK249.out)
         replace HB := Aside0.mk (below_drew1 HB.out)
         refine start_ (n := 6) (S := fun w' => w'.cell? ⟨gb249, 0, none⟩ = some (.int .i64 a1_0) ∧ w'.cell? ⟨gb249, 1, none⟩ = some (.string a1_1) ∧ w'.cell? ⟨gb249, 2, none⟩ = some (.int .i64 a1_2) ∧ w'.cell? ⟨gb249, 3, none⟩ = some (.int .i64 a1_3) ∧ w'.cell? ⟨gb249, 4, none⟩ = some (.bool a1_4) ∧ w'.cell? ⟨gb249, 5, none⟩ = some (.int .i64 a1_5) ∧ w'.cell? ⟨gb249, 6, none⟩ = some (.int .i64 a1_6) ∧ w'.cell? ⟨gb249, 7, none⟩ = some (.string a1_7) ∧ w'.cell? ⟨gb249, 8, none⟩ = some (.bool a1_8)) (ds := [5]) #[bF3, bF3, bF3, bF3, bF3, bF3] (by kernel_rfl) rfl rfl ⟨(blk_cell BK249.out 0).trans rfl, (blk_cell BK249.out 1).trans rfl, (blk_cell BK249.out 2).trans rfl, (blk_cell BK249.out 3).trans rfl, (blk_cell BK249.out 4).trans rfl, (blk_cell BK249.out 5).trans rfl, (blk_cell BK249.out 6).trans rfl, (blk_cell BK249.out 7).trans rfl, (blk_cell BK249.out 8).trans rfl⟩ (fun hHeld => ?_)
         generalize w87.drew = w88 at BK249 HB hHeld ⊢
         refine p_ 0 16 (mk_ 6 0x1) ?_
         refine t_ 2 18 (mk_ 6 0x5) hHeld ?_
         refine one_ (i := 1) (N := some 17) #[bT3, bT3, bT3, bF3, bF3, bF3] rfl rfl (by kernel_rfl) (by decide) (fun K hK => ?_)
         refine goes_ Try.func8 (by kernel_rfl) rfl #[.slice A0 l0.length c0] (by rfl) rfl rfl zq3x_18 ?_
         with_reducible refine (cenotaphref08_Fix.calls k _ _ l0 t250 _ ?side1 ?side2 A4.out).mono ?_
         (case side1 => repeat (first | exact (Kd.C_below HR0.out HB.out) | (with_reducible refine Kd.C_alloc ?_ _) | (with_reducible refine Kd.C_drewN ?_ _) | (with_reducible refine Kd.C_drew ?_)))
         (case side2 => exact HC0.out)
         rintro e w89 ⟨v251, rfl, ho0, hb⟩
         refine ⟨_, rfl, ?_⟩
         have HO252 := Aside0.mk (Kd.R_lower (Kd.R_newB ho0 (g := gb249) (o := .cells #[.int .i64 a1_0, .string a1_1, .int .i64 a1_2, .int .i64 a1_3, .bool a1_4, .int .i64 a1_5, .int .i64 a1_6, .string a1_7, .bool a1_8] 28 (0, 0)) zq3x_20) (below_size zq3x_17))
         replace BK249 := Aside0.mk (blk_below (g := gb249) (o := .cells #[.int .i64 a1_0, .string a1_1, .int .i64 a1_2, .int .i64 a1_3, .bool a1_4, .int .i64 a1_5, .int .i64 a1_6, .string a1_7, .bool a1_8] 28 (0, 0)) zq3x_20 hb)
         replace HB := Aside0.mk (below_step zq3x_17 hb)
         (try clear hb)
         (try clear hb2)
         (try clear hk)
         (try clear hi)
         (try clear ho0)
         refine hK.out _ _ ⟨(blk_cell BK249.out 0).trans rfl, (blk_cell BK249.out 1).trans rfl, (blk_cell BK249.out 2).trans rfl, (blk_cell BK249.out 3).trans rfl, (blk_cell BK249.out 4).trans rfl, (blk_cell BK249.out 5).trans rfl, (blk_cell BK249.out 6).trans rfl, (blk_cell BK249.out 7).trans rfl, (blk_cell BK249.out 8).trans rfl⟩ (fun hHeld => ?_)
         clear hK K
         refine norm_ (a' := ?_) ?_ ?_
         rotate_left
         ·show Act.put _ (some 17) _ = _
          simp only [Act.put, List.setIfInBounds_toArray, List.set_cons_zero, List.set_cons_succ, i64_w, i32_w]
          rfl
         refine one_ (i := 3) (N := some 19) #[bT3, bT3, bT3, bT3, bF3, bF3] rfl rfl (by kernel_rfl) (by decide) (fun K hK => ?_)
         refine goes_ Try.func9 (by kernel_rfl) rfl #[.agg #[.int .i64 a1_0, .string a1_1, .int .i64 a1_2, .int .i64 a1_3, .bool a1_4, .int .i64 a1_5, .int .i64 a1_6, .string a1_7, .bool a1_8]] (by rfl) rfl rfl zq3x_18 ?_
         with_reducible refine (cenotaphref07_Fix.calls k a1_0 a1_1 a1_2 a1_3 a1_4 a1_5 a1_6 a1_7 a1_8 t253 t254 t255 t256 t257 t258 t259 t260 t261 _ A5.out).mono ?_
         rintro e w90 ⟨rfl, hb⟩
         refine ⟨_, rfl, ?_⟩
         replace HO252 := Aside0.mk (Kd.R_below zq3x_23 hb)
         replace BK249 := Aside0.mk (blk_below (g := gb249) (o := .cells #[.int .i64 a1_0, .string a1_1, .int .i64 a1_2, .int .i64 a1_3, .bool a1_4, .int .i64 a1_5, .int .i64 a1_6, .string a1_7, .bool a1_8] 28 (0, 0)) zq3x_20 hb)
         replace HB := Aside0.mk (below_step zq3x_17 hb)
         (try clear hb)
         (try clear hb2)
         (try clear hk)
         (try clear hi)
         refine hK.out _ _ ⟨(blk_cell BK249.out 0).trans rfl, (blk_cell BK249.out 1).trans rfl, (blk_cell BK249.out 2).trans rfl, (blk_cell BK249.out 3).trans rfl, (blk_cell BK249.out 4).trans rfl, (blk_cell BK249.out 5).trans rfl, (blk_cell BK249.out 6).trans rfl, (blk_cell BK249.out 7).trans rfl, (blk_cell BK249.out 8).trans rfl⟩ (fun hHeld => ?_)
         clear hK K
         refine norm_ (a' := ?_) ?_ ?_
         rotate_left
         ·show Act.put _ (some 19) _ = _
          simp only [Act.put, List.setIfInBounds_toArray, List.set_cons_zero, List.set_cons_succ, i64_w, i32_w]
          rfl
         refine p_ 4 0 (mk_ 6 0x1f) ?_
         refine last_ (i := 5) (N := none) #[bT3, bT3, bT3, bT3, bT3, bT3] rfl rfl (by kernel_rfl) (by decide) (fun K hK => ?_)
         have hs91 : w90.cell? ⟨gb249, 0, none⟩ = some (.int .i64 a1_0) := (blk_cell BK249.out 0).trans rfl
         have hfs91 := blk_frozen BK249.out 0
         have hs92 : w90.cell? ⟨gb249, 1, none⟩ = some (.string a1_1) := (blk_cell BK249.out 1).trans rfl
         have hfs92 := blk_frozen BK249.out 1
         have hs93 : w90.cell? ⟨gb249, 2, none⟩ = some (.int .i64 a1_2) := (blk_cell BK249.out 2).trans rfl
         have hfs93 := blk_frozen BK249.out 2
         have hs94 : w90.cell? ⟨gb249, 3, none⟩ = some (.int .i64 a1_3) := (blk_cell BK249.out 3).trans rfl
         have hfs94 := blk_frozen BK249.out 3
         have hs95 : w90.cell? ⟨gb249, 4, none⟩ = some (.bool a1_4) := (blk_cell BK249.out 4).trans rfl
         have hfs95 := blk_frozen BK249.out 4
         have hs96 : w90.cell? ⟨gb249, 5, none⟩ = some (.int .i64 a1_5) := (blk_cell BK249.out 5).trans rfl
         have hfs96 := blk_frozen BK249.out 5
         have hs97 : w90.cell? ⟨gb249, 6, none⟩ = some (.int .i64 a1_6) := (blk_cell BK249.out 6).trans rfl
         have hfs97 := blk_frozen BK249.out 6
         have hs98 : w90.cell? ⟨gb249, 7, none⟩ = some (.string a1_7) := (blk_cell BK249.out 7).trans rfl
         have hfs98 := blk_frozen BK249.out 7
         have hs99 : w90.cell? ⟨gb249, 8, none⟩ = some (.bool a1_8) := (blk_cell BK249.out 8).trans rfl
         have hfs99 := blk_frozen BK249.out 8
         refine skip_ (w1 := ?_) (by rfl) rfl ?_ ?_
         rotate_left
         ·go_simp
          rfl
         refine hK.out _ _ ?_
         clear hK K
         refine done_ (by kernel_rfl) ?_
         obtain ⟨Ao100, co100, eo100⟩ := Kd.R_slice HO252.out
         subst eo100
         try go_wp2_with (first | ((with_reducible refine gate_callee (f := 10) rfl ?_); refine goesL_ (some 21) rfl rfl Try.func10 (by kernel_rfl) rfl #[.slice Ao100 t250.length co100] rfl zq3x_18 ?_; (with_reducible refine (cenotaphlaw08_To.calls k _ _ t250 t262 _ ?side1 ?side2 A6.out).mono ?_); (case side1 => refine (Kd.R_reads' (e := 28) (base := w.heap.size) (ok := fun k_ => (True ∧ k_ ≠ gb249)) (n := t250.length) (c := co100) ?_).2.2; exact zq3x_3); (case side2 => exact (Kd.R_reads' HO252.out).2.1); rintro e w101 ⟨v263, rfl, ho0, hb⟩; refine ⟨_, rfl, ?_⟩; replace HO252 := Aside0.mk (Kd.R_below zq3x_3 hb); have HO264 := Aside0.mk (Kd.R_lower ho0 (below_size zq3x_17)); replace BK249 := Aside0.mk (blk_below (g := gb249) (o := .cells #[.int .i64 t253, .string t254, .int .i64 t255, .int .i64 t256, .bool t257, .int .i64 t258, .int .i64 t259, .string t260, .bool t261] 28 (0, 0)) zq3x_0 hb); replace HB := Aside0.mk (below_step zq3x_17 hb); (try clear hb); (try clear hb2); (try clear hk); (try clear hi); (try clear ho0); have hcz102_0 : w101.cell? ⟨gb249, 0, none⟩ = some (.int .i64 t253) := (blk_cell BK249.out 0).trans rfl; have hcz102_1 : w101.cell? ⟨gb249, 1, none⟩ = some (.string t254) := (blk_cell BK249.out 1).trans rfl; have hcz102_2 : w101.cell? ⟨gb249, 2, none⟩ = some (.int .i64 t255) := (blk_cell BK249.out 2).trans rfl; have hcz102_3 : w101.cell? ⟨gb249, 3, none⟩ = some (.int .i64 t256) := (blk_cell BK249.out 3).trans rfl; have hcz102_4 : w101.cell? ⟨gb249, 4, none⟩ = some (.bool t257) := (blk_cell BK249.out 4).trans rfl; have hcz102_5 : w101.cell? ⟨gb249, 5, none⟩ = some (.int .i64 t258) := (blk_cell BK249.out 5).trans rfl; have hcz102_6 : w101.cell? ⟨gb249, 6, none⟩ = some (.int .i64 t259) := (blk_cell BK249.out 6).trans rfl; have hcz102_7 : w101.cell? ⟨gb249, 7, none⟩ = some (.string t260) := (blk_cell BK249.out 7).trans rfl; have hcz102_8 : w101.cell? ⟨gb249, 8, none⟩ = some (.bool t261) := (blk_cell BK249.out 8).trans rfl; have hfz102_0 := blk_frozen BK249.out 0; have hfz102_1 := blk_frozen BK249.out 1; have hfz102_2 := blk_frozen BK249.out 2; have hfz102_3 := blk_frozen BK249.out 3; have hfz102_4 := blk_frozen BK249.out 4; have hfz102_5 := blk_frozen BK249.out 5; have hfz102_6 := blk_frozen BK249.out 6; have hfz102_7 := blk_frozen BK249.out 7; have hfz102_8 := blk_frozen BK249.out 8) | ((with_reducible refine gate_callee (f := 12) rfl ?_); refine goesL_ (some 25) rfl rfl Try.func12 (by kernel_rfl) rfl #[.agg #[.int .i64 t253, .string t254, .int .i64 t255, .int .i64 t256, .bool t257, .int .i64 t258, .int .i64 t259, .string t260, .bool t261]] rfl zq3x_18 ?_; (with_reducible refine (cenotaphlaw07_To.calls t253 t254 t255 t256 t257 t258 t259 t260 t261 t265 t266 t267 t268 t269 t270 t271 t272 _ A7.out).mono ?_); rintro e w103 ⟨rfl, hb⟩; refine ⟨_, rfl, ?_⟩; replace HO252 := Aside0.mk (Kd.R_below zq3x_23 hb); replace HO264 := Aside0.mk (Kd.R_below zq3x_24 hb); replace BK249 := Aside0.mk (blk_below (g := gb249) (o := .cells #[.int .i64 t253, .string t254, .int .i64 t255, .int .i64 t256, .bool t257, .int .i64 t258, .int .i64 t259, .string t260, .bool t261] 28 (0, 0)) zq3x_20 hb); replace HB := Aside0.mk (below_step zq3x_17 hb); (try clear hb); (try clear hb2); (try clear hk); (try clear hi); obtain ⟨Ao104, co104, eo104⟩ := Kd.R_slice HO264.out; subst eo104) | ((with_reducible refine gate_callee (f := 11) rfl ?_); refine goesL_ (some 26) rfl rfl Try.func11 (by kernel_rfl) rfl #[.slice Ao104 t262.length co104, .agg #[.int .i64 t265, .string t266, .int .i64 t267, .int .i64 t268, .bool t269, .complex .f64 t270.re t270.im, .string t271, .bool t272]] rfl zq3x_18 ?_; (with_reducible refine (store_Put.calls _ _ t262 t265 t266 t267 t268 t269 t270 t271 t272 t273 t276 _ ?side1 ?side2 A8.out).mono ?_); (case side1 => repeat (first | exact (Kd.R_reads' HO264.out).2.2 | (with_reducible refine Kd.C_alloc ?_ _) | (with_reducible refine Kd.C_drewN ?_ _) | (with_reducible refine Kd.C_drew ?_))); (case side2 => exact (Kd.R_reads' HO264.out).2.1); rintro e w105 ⟨v274, rfl, ho0, hb⟩; refine ⟨_, rfl, ?_⟩; replace HO252 := Aside0.mk (Kd.R_below zq3x_23 hb); have HO275 := Aside0.mk (Kd.R_lower (Kd.R_new' ho0 (Kd.R_lt zq3x_24)) (below_size zq3x_17)); replace HO264 := Aside0.mk (Kd.R_elder' zq3x_24 (Kd.R_base ho0) hb); replace BK249 := Aside0.mk (blk_below (g := gb249) (o := .cells #[.int .i64 t253, .string t254, .int .i64 t255, .int .i64 t256, .bool t257, .int .i64 t258, .int .i64 t259, .string t260, .bool t261] 28 (0, 0)) zq3x_20 hb); replace HB := Aside0.mk (below_step zq3x_17 hb); (try clear hb); (try clear hb2); (try clear hk); (try clear hi); (try clear ho0); have hcz106_0 : w105.cell? ⟨gb249, 0, none⟩ = some (.int .i64 t253) := (blk_cell BK249.out 0).trans rfl; have hcz106_1 : w105.cell? ⟨gb249, 1, none⟩ = some (.string t254) := (blk_cell BK249.out 1).trans rfl; have hcz106_2 : w105.cell? ⟨gb249, 2, none⟩ = some (.int .i64 t255) := (blk_cell BK249.out 2).trans rfl; have hcz106_3 : w105.cell? ⟨gb249, 3, none⟩ = some (.int .i64 t256) := (blk_cell BK249.out 3).trans rfl; have hcz106_4 : w105.cell? ⟨gb249, 4, none⟩ = some (.bool t257) := (blk_cell BK249.out 4).trans rfl; have hcz106_5 : w105.cell? ⟨gb249, 5, none⟩ = some (.int .i64 t258) := (blk_cell BK249.out 5).trans rfl; have hcz106_6 : w105.cell? ⟨gb249, 6, none⟩ = some (.int .i64 t259) := (blk_cell BK249.out 6).trans rfl; have hcz106_7 : w105.cell? ⟨gb249, 7, none⟩ = some (.string t260) := (blk_cell BK249.out 7).trans rfl; have hcz106_8 : w105.cell? ⟨gb249, 8, none⟩ = some (.bool t261) := (blk_cell BK249.out 8).trans rfl; have hfz106_0 := blk_frozen BK249.out 0; have hfz106_1 := blk_frozen BK249.out 1; have hfz106_2 := blk_frozen BK249.out 2; have hfz106_3 := blk_frozen BK249.out 3; have hfz106_4 := blk_frozen BK249.out 4; have hfz106_5 := blk_frozen BK249.out 5; have hfz106_6 := blk_frozen BK249.out 6; have hfz106_7 := blk_frozen BK249.out 7; have hfz106_8 := blk_frozen BK249.out 8) | ((with_reducible refine gate_callee (f := 13) rfl ?_); refine goesL_ (some 32) rfl rfl Try.func13 (by kernel_rfl) rfl #[.slice Ao100 t250.length co100, .agg #[.int .i64 t253, .string t254, .int .i64 t255, .int .i64 t256, .bool t257, .int .i64 t258, .int .i64 t259, .string t260, .bool t261]] rfl zq3x_18 ?_; (with_reducible refine (cenotaphref08_Put.calls k _ _ t250 t253 t254 t255 t256 t257 t258 t259 t260 t261 t277 t280 _ ?side1 ?side2 A9.out).mono ?_); (case side1 => repeat (first | exact (Kd.R_reads' HO252.out).2.2 | (with_reducible refine Kd.C_alloc ?_ _) | (with_reducible refine Kd.C_drewN ?_ _) | (with_reducible refine Kd.C_drew ?_))); (case side2 => exact (Kd.R_reads' HO252.out).2.1); rintro e w107 ⟨v278, rfl, ho0, hb⟩; refine ⟨_, rfl, ?_⟩; replace HO264 := Aside0.mk (Kd.R_below zq3x_24 hb); replace HO275 := Aside0.mk (Kd.R_below zq3x_25 hb); have HO279 := Aside0.mk (Kd.R_lower (Kd.R_newB (Kd.R_new' ho0 (Kd.R_lt zq3x_23)) (g := gb249) (o := .cells #[.int .i64 t253, .string t254, .int .i64 t255, .int .i64 t256, .bool t257, .int .i64 t258, .int .i64 t259, .string t260, .bool t261] 28 (0, 0)) zq3x_20) (below_size zq3x_17)); replace HO252 := Aside0.mk (Kd.R_elder' zq3x_23 (Kd.R_base ho0) hb); replace BK249 := Aside0.mk (blk_below (g := gb249) (o := .cells #[.int .i64 t253, .string t254, .int .i64 t255, .int .i64 t256, .bool t257, .int .i64 t258, .int .i64 t259, .string t260, .bool t261] 28 (0, 0)) zq3x_20 hb); replace HB := Aside0.mk (below_step zq3x_17 hb); (try clear hb); (try clear hb2); (try clear hk); (try clear hi); (try clear ho0)) | ((with_reducible refine gate_callee (f := 14) rfl ?_); refine goesL_ (some 38) rfl rfl Try.func14 (by kernel_rfl) rfl #[.slice Ao104 t262.length co104, .int .i64 a2] rfl zq3x_18 ?_; (with_reducible refine (store_Get.calls _ _ t262 a2 t281 t282 t283 t284 t285 t286 t287 t288 true _ ?side1 ?side2 A10.out).mono ?_); (case side1 => repeat (first | exact (Kd.R_reads' HO264.out).2.2 | (with_reducible refine Kd.C_alloc ?_ _) | (with_reducible refine Kd.C_drewN ?_ _) | (with_reducible refine Kd.C_drew ?_))); (case side2 => exact (Kd.R_reads' HO264.out).2.1); rintro e w108 ⟨rfl, hb⟩; refine ⟨_, rfl, ?_⟩; replace HO252 := Aside0.mk (Kd.R_below zq3x_23 hb); replace HO264 := Aside0.mk (Kd.R_below zq3x_24 hb); replace HO275 := Aside0.mk (Kd.R_below zq3x_25 hb); replace HO279 := Aside0.mk (Kd.R_below zq3x_26 hb); replace BK249 := Aside0.mk (blk_below (g := gb249) (o := .cells #[.int .i64 t253, .string t254, .int .i64 t255, .int .i64 t256, .bool t257, .int .i64 t258, .int .i64 t259, .string t260, .bool t261] 28 (0, 0)) zq3x_20 hb); replace HB := Aside0.mk (below_step zq3x_17 hb); (try clear hb); (try clear hb2); (try clear hk); (try clear hi)) | ((with_reducible refine gate_dst (N := 12) rfl ?_); refine box_event ?hg (N := 12) ?hd (cs := #[.int .i64 0, .string (⟨#[]⟩ : ByteArray), .int .i64 0, .int .i64 0, .bool false, .complex .f64 0 0, .string (⟨#[]⟩ : ByteArray), .bool false]) (t := 41) ?hr ?_; (case hd => rfl); (case hg => rfl); (case hr => first | (go_simp; done) | (go_simp; rfl)); intro gb290 hg w109 hbox hb; replace HO252 := Aside0.mk (Kd.R_below zq3x_23 hb); replace HO264 := Aside0.mk (Kd.R_below (Kd.R_elderB zq3x_24 gb290 (Nat.le_of_eq hg.symm)) hb); replace HO275 := Aside0.mk (Kd.R_below (Kd.R_elderB zq3x_25 gb290 (Nat.le_of_eq hg.symm)) hb); replace HO279 := Aside0.mk (Kd.R_below zq3x_26 hb); have BK290 := Aside0.mk (hbox); have GW290 := Aside0.mk ((zq3x_14 : w.heap.size ≤ gb290)); have GE290 := Aside0.mk ((zq3x_14 : w.heap.size ≤ gb290)); replace HB := Aside0.mk (below_step zq3x_17 hb); have NB249_290 := Aside0.mk ((zq3x_8 : gb249 ≠ gb290)); have NB290_249 := Aside0.mk ((zq3x_9 : gb290 ≠ gb249)); replace BK249 := Aside0.mk (blk_below (g := gb249) (o := .cells #[.int .i64 t253, .string t254, .int .i64 t255, .int .i64 t256, .bool t257, .int .i64 t258, .int .i64 t259, .string t260, .bool t261] 28 (0, 0)) zq3x_20 hb); clear hb hbox hg; have hnb110 := NB290_249.out; have hnc110 := NB249_290.out; have hcz111_0 : w109.cell? ⟨gb290, 0, none⟩ = some (.int .i64 0) := (blk_cell BK290.out 0).trans rfl; have hcz111_1 : w109.cell? ⟨gb290, 1, none⟩ = some (.string (⟨#[]⟩ : ByteArray)) := (blk_cell BK290.out 1).trans rfl; have hcz111_2 : w109.cell? ⟨gb290, 2, none⟩ = some (.int .i64 0) := (blk_cell BK290.out 2).trans rfl; have hcz111_3 : w109.cell? ⟨gb290, 3, none⟩ = some (.int .i64 0) := (blk_cell BK290.out 3).trans rfl; have hcz111_4 : w109.cell? ⟨gb290, 4, none⟩ = some (.bool false) := (blk_cell BK290.out 4).trans rfl; have hcz111_5 : w109.cell? ⟨gb290, 5, none⟩ = some (.complex .f64 0 0) := (blk_cell BK290.out 5).trans rfl; have hcz111_6 : w109.cell? ⟨gb290, 6, none⟩ = some (.string (⟨#[]⟩ : ByteArray)) := (blk_cell BK290.out 6).trans rfl; have hcz111_7 : w109.cell? ⟨gb290, 7, none⟩ = some (.bool false) := (blk_cell BK290.out 7).trans rfl; have hfz111_0 := blk_frozen BK290.out 0; have hfz111_1 := blk_frozen BK290.out 1; have hfz111_2 := blk_frozen BK290.out 2; have hfz111_3 := blk_frozen BK290.out 3; have hfz111_4 := blk_frozen BK290.out 4; have hfz111_5 := blk_frozen BK290.out 5; have hfz111_6 := blk_frozen BK290.out 6; have hfz111_7 := blk_frozen BK290.out 7) | ((with_reducible refine gate_callee (f := 15) rfl ?_); refine goesL_ (some 44) rfl rfl Try.func15 (by kernel_rfl) rfl #[.slice Ao100 t250.length co100, .int .i64 a2] rfl zq3x_18 ?_; (with_reducible refine (cenotaphref08_Get.calls k _ _ t250 a2 t291 t292 t293 t294 t295 t296 t297 t298 t299 t300 _ ?side1 ?side2 A11.out).mono ?_); (case side1 => refine (Kd.R_reads' (e := 28) (base := w.heap.size) (ok := fun k_ => ((True ∧ k_ ≠ gb249) ∧ some k_ ≠ (v278 : Value).ownBlock)) (n := t250.length) (c := co100) ?_).2.2; exact zq3x_6); (case side2 => exact (Kd.R_reads' HO252.out).2.1); rintro e w112 ⟨rfl, hb⟩; refine ⟨_, rfl, ?_⟩; replace HO252 := Aside0.mk (Kd.R_below zq3x_6 hb); replace HO264 := Aside0.mk (Kd.R_below zq3x_4 hb); replace HO275 := Aside0.mk (Kd.R_below zq3x_5 hb); replace HO279 := Aside0.mk (Kd.R_below zq3x_7 hb); replace BK249 := Aside0.mk (blk_below (g := gb249) (o := .cells #[.int .i64 t253, .string t254, .int .i64 t255, .int .i64 t256, .bool t257, .int .i64 t258, .int .i64 t259, .string t260, .bool t261] 28 (0, 0)) zq3x_2 hb); replace BK290 := Aside0.mk (blk_below (g := gb290) (o := .cells #[.int .i64 t281, .string t282, .int .i64 t283, .int .i64 t284, .bool t285, .complex .f64 t286.re t286.im, .string t287, .bool t288] 41 (0, 0)) zq3x_1 hb); replace HB := Aside0.mk (below_step zq3x_15 hb); (try clear hb); (try clear hb2); (try clear hk); (try clear hi)) | ((with_reducible refine gate_dst (N := 14) rfl ?_); refine box_event ?hg (N := 14) ?hd (cs := #[.int .i64 0, .string (⟨#[]⟩ : ByteArray), .int .i64 0, .int .i64 0, .bool false, .int .i64 0, .int .i64 0, .string (⟨#[]⟩ : ByteArray), .bool false]) (t := 28) ?hr ?_; (case hd => rfl); (case hg => rfl); (case hr => first | (go_simp; done) | (go_simp; rfl)); intro gb301 hg w113 hbox hb; replace HO252 := Aside0.mk (Kd.R_below (Kd.R_elderB zq3x_23 gb301 (Nat.le_of_eq hg.symm)) hb); replace HO264 := Aside0.mk (Kd.R_below zq3x_24 hb); replace HO275 := Aside0.mk (Kd.R_below zq3x_25 hb); replace HO279 := Aside0.mk (Kd.R_below (Kd.R_elderB zq3x_26 gb301 (Nat.le_of_eq hg.symm)) hb); have BK301 := Aside0.mk (hbox); have GW301 := Aside0.mk ((zq3x_12 : w.heap.size ≤ gb301)); have GE301 := Aside0.mk ((zq3x_12 : w.heap.size ≤ gb301)); replace HB := Aside0.mk (below_step zq3x_15 hb); have NB249_301 := Aside0.mk ((zq3x_8 : gb249 ≠ gb301)); have NB301_249 := Aside0.mk ((zq3x_9 : gb301 ≠ gb249)); replace BK249 := Aside0.mk (blk_below (g := gb249) (o := .cells #[.int .i64 t253, .string t254, .int .i64 t255, .int .i64 t256, .bool t257, .int .i64 t258, .int .i64 t259, .string t260, .bool t261] 28 (0, 0)) zq3x_20 hb); have NB290_301 := Aside0.mk ((zq3x_10 : gb290 ≠ gb301)); have NB301_290 := Aside0.mk ((zq3x_11 : gb301 ≠ gb290)); replace BK290 := Aside0.mk (blk_below (g := gb290) (o := .cells #[.int .i64 t281, .string t282, .int .i64 t283, .int .i64 t284, .bool t285, .complex .f64 t286.re t286.im, .string t287, .bool t288] 41 (0, 0)) zq3x_21 hb); clear hb hbox hg; have hnb114 := NB301_249.out; have hnc114 := NB249_301.out; have hnb115 := NB301_290.out; have hnc115 := NB290_301.out; have hcz116_0 : w113.cell? ⟨gb301, 0, none⟩ = some (.int .i64 0) := (blk_cell BK301.out 0).trans rfl; have hcz116_1 : w113.cell? ⟨gb301, 1, none⟩ = some (.string (⟨#[]⟩ : ByteArray)) := (blk_cell BK301.out 1).trans rfl; have hcz116_2 : w113.cell? ⟨gb301, 2, none⟩ = some (.int .i64 0) := (blk_cell BK301.out 2).trans rfl; have hcz116_3 : w113.cell? ⟨gb301, 3, none⟩ = some (.int .i64 0) := (blk_cell BK301.out 3).trans rfl; have hcz116_4 : w113.cell? ⟨gb301, 4, none⟩ = some (.bool false) := (blk_cell BK301.out 4).trans rfl; have hcz116_5 : w113.cell? ⟨gb301, 5, none⟩ = some (.int .i64 0) := (blk_cell BK301.out 5).trans rfl; have hcz116_6 : w113.cell? ⟨gb301, 6, none⟩ = some (.int .i64 0) := (blk_cell BK301.out 6).trans rfl; have hcz116_7 : w113.cell? ⟨gb301, 7, none⟩ = some (.string (⟨#[]⟩ : ByteArray)) := (blk_cell BK301.out 7).trans rfl; have hcz116_8 : w113.cell? ⟨gb301, 8, none⟩ = some (.bool false) := (blk_cell BK301.out 8).trans rfl; have hfz116_0 := blk_frozen BK301.out 0; have hfz116_1 := blk_frozen BK301.out 1; have hfz116_2 := blk_frozen BK301.out 2; have hfz116_3 := blk_frozen BK301.out 3; have hfz116_4 := blk_frozen BK301.out 4; have hfz116_5 := blk_frozen BK301.out 5; have hfz116_6 := blk_frozen BK301.out 6; have hfz116_7 := blk_frozen BK301.out 7; have hfz116_8 := blk_frozen BK301.out 8))
         have n0_ : Aside0 (Kd.R k28 28 (((((((((w113.setCell ⟨gb301, 0, none⟩ (.int .i64 t291)).setCell ⟨gb301, 1, none⟩ (.string t292)).setCell ⟨gb301, 2, none⟩ (.int .i64 t293)).setCell ⟨gb301, 3, none⟩ (.int .i64 t294)).setCell ⟨gb301, 4, none⟩ (.bool t295)).setCell ⟨gb301, 5, none⟩ (.int .i64 t296)).setCell ⟨gb301, 6, none⟩ (.int .i64 t297)).setCell ⟨gb301, 7, none⟩ (.string t298)).setCell ⟨gb301, 8, none⟩ (.bool t299)) w.heap.size (fun k_ => some k_ ≠ (v278 : Value).ownBlock ∧ k_ ≠ gb249 ∧ k_ ≠ gb301) (.slice Ao100 t250.length co100) t250) := ⟨by (with_reducible repeat (first | apply Kd.R_alloc | apply Kd.R_drewN | apply Kd.R_drew)); exact Kd.R_mono (Kd.R_far (p := ⟨gb301, 8, none⟩) (Kd.R_far (p := ⟨gb301, 7, none⟩) (Kd.R_far (p := ⟨gb301, 6, none⟩) (Kd.R_far (p := ⟨gb301, 5, none⟩) (Kd.R_far (p := ⟨gb301, 4, none⟩) (Kd.R_far (p := ⟨gb301, 3, none⟩) (Kd.R_far (p := ⟨gb301, 2, none⟩) (Kd.R_far (p := ⟨gb301, 1, none⟩) (Kd.R_far (p := ⟨gb301, 0, none⟩) (Kd.R_mono HO252.out (fun k_ hk => (⟨hk, hk.2⟩ : _ ∧ k_ ≠ gb301))) (fun _ hk => hk.2) (.int .i64 t291)) (fun _ hk => hk.2) (.string t292)) (fun _ hk => hk.2) (.int .i64 t293)) (fun _ hk => hk.2) (.int .i64 t294)) (fun _ hk => hk.2) (.bool t295)) (fun _ hk => hk.2) (.int .i64 t296)) (fun _ hk => hk.2) (.int .i64 t297)) (fun _ hk => hk.2) (.string t298)) (fun _ hk => hk.2) (.bool t299)) (fun _ hk => ⟨hk.1.1.2, ⟨hk.1.1.1.2, hk.1.2⟩⟩)⟩
         have n1_ : Aside0 (Kd.R k41 41 (((((((((w113.setCell ⟨gb301, 0, none⟩ (.int .i64 t291)).setCell ⟨gb301, 1, none⟩ (.string t292)).setCell ⟨gb301, 2, none⟩ (.int .i64 t293)).setCell ⟨gb301, 3, none⟩ (.int .i64 t294)).setCell ⟨gb301, 4, none⟩ (.bool t295)).setCell ⟨gb301, 5, none⟩ (.int .i64 t296)).setCell ⟨gb301, 6, none⟩ (.int .i64 t297)).setCell ⟨gb301, 7, none⟩ (.string t298)).setCell ⟨gb301, 8, none⟩ (.bool t299)) w.heap.size (fun k_ => some k_ ≠ (v274 : Value).ownBlock ∧ k_ ≠ gb290) (.slice Ao104 t262.length co104) t262) := ⟨by (with_reducible repeat (first | apply Kd.R_alloc | apply Kd.R_drewN | apply Kd.R_drew)); exact Kd.R_mono (Kd.R_far (p := ⟨gb301, 8, none⟩) (Kd.R_far (p := ⟨gb301, 7, none⟩) (Kd.R_far (p := ⟨gb301, 6, none⟩) (Kd.R_far (p := ⟨gb301, 5, none⟩) (Kd.R_far (p := ⟨gb301, 4, none⟩) (Kd.R_far (p := ⟨gb301, 3, none⟩) (Kd.R_far (p := ⟨gb301, 2, none⟩) (Kd.R_far (p := ⟨gb301, 1, none⟩) (Kd.R_far (p := ⟨gb301, 0, none⟩) (Kd.R_types HO264.out BK301.out (by decide)) (fun _ hk => hk.2) (.int .i64 t291)) (fun _ hk => hk.2) (.string t292)) (fun _ hk => hk.2) (.int .i64 t293)) (fun _ hk => hk.2) (.int .i64 t294)) (fun _ hk => hk.2) (.bool t295)) (fun _ hk => hk.2) (.int .i64 t296)) (fun _ hk => hk.2) (.int .i64 t297)) (fun _ hk => hk.2) (.string t298)) (fun _ hk => hk.2) (.bool t299)) (fun _ hk => ⟨hk.1.1.2, hk.1.2⟩)⟩
         have n2_ : Aside0 (Kd.R k41 41 (((((((((w113.setCell ⟨gb301, 0, none⟩ (.int .i64 t291)).setCell ⟨gb301, 1, none⟩ (.string t292)).setCell ⟨gb301, 2, none⟩ (.int .i64 t293)).setCell ⟨gb301, 3, none⟩ (.int .i64 t294)).setCell ⟨gb301, 4, none⟩ (.bool t295)).setCell ⟨gb301, 5, none⟩ (.int .i64 t296)).setCell ⟨gb301, 6, none⟩ (.int .i64 t297)).setCell ⟨gb301, 7, none⟩ (.string t298)).setCell ⟨gb301, 8, none⟩ (.bool t299)) w.heap.size (fun k_ => some k_ ≠ (.slice Ao104 t262.length co104 : Value).ownBlock ∧ k_ ≠ gb290) v274 t273) := ⟨by (with_reducible repeat (first | apply Kd.R_alloc | apply Kd.R_drewN | apply Kd.R_drew)); exact Kd.R_mono (Kd.R_far (p := ⟨gb301, 8, none⟩) (Kd.R_far (p := ⟨gb301, 7, none⟩) (Kd.R_far (p := ⟨gb301, 6, none⟩) (Kd.R_far (p := ⟨gb301, 5, none⟩) (Kd.R_far (p := ⟨gb301, 4, none⟩) (Kd.R_far (p := ⟨gb301, 3, none⟩) (Kd.R_far (p := ⟨gb301, 2, none⟩) (Kd.R_far (p := ⟨gb301, 1, none⟩) (Kd.R_far (p := ⟨gb301, 0, none⟩) (Kd.R_types HO275.out BK301.out (by decide)) (fun _ hk => hk.2) (.int .i64 t291)) (fun _ hk => hk.2) (.string t292)) (fun _ hk => hk.2) (.int .i64 t293)) (fun _ hk => hk.2) (.int .i64 t294)) (fun _ hk => hk.2) (.bool t295)) (fun _ hk => hk.2) (.int .i64 t296)) (fun _ hk => hk.2) (.int .i64 t297)) (fun _ hk => hk.2) (.string t298)) (fun _ hk => hk.2) (.bool t299)) (fun _ hk => ⟨hk.1.1.2, hk.1.2⟩)⟩
         have n3_ : Aside0 (Kd.R k28 28 (((((((((w113.setCell ⟨gb301, 0, none⟩ (.int .i64 t291)).setCell ⟨gb301, 1, none⟩ (.string t292)).setCell ⟨gb301, 2, none⟩ (.int .i64 t293)).setCell ⟨gb301, 3, none⟩ (.int .i64 t294)).setCell ⟨gb301, 4, none⟩ (.bool t295)).setCell ⟨gb301, 5, none⟩ (.int .i64 t296)).setCell ⟨gb301, 6, none⟩ (.int .i64 t297)).setCell ⟨gb301, 7, none⟩ (.string t298)).setCell ⟨gb301, 8, none⟩ (.bool t299)) w.heap.size (fun k_ => some k_ ≠ (.slice Ao100 t250.length co100 : Value).ownBlock ∧ k_ ≠ gb249 ∧ k_ ≠ gb301) v278 t277) := ⟨by (with_reducible repeat (first | apply Kd.R_alloc | apply Kd.R_drewN | apply Kd.R_drew)); exact Kd.R_mono (Kd.R_far (p := ⟨gb301, 8, none⟩) (Kd.R_far (p := ⟨gb301, 7, none⟩) (Kd.R_far (p := ⟨gb301, 6, none⟩) (Kd.R_far (p := ⟨gb301, 5, none⟩) (Kd.R_far (p := ⟨gb301, 4, none⟩) (Kd.R_far (p := ⟨gb301, 3, none⟩) (Kd.R_far (p := ⟨gb301, 2, none⟩) (Kd.R_far (p := ⟨gb301, 1, none⟩) (Kd.R_far (p := ⟨gb301, 0, none⟩) (Kd.R_mono HO279.out (fun k_ hk => (⟨hk, hk.2⟩ : _ ∧ k_ ≠ gb301))) (fun _ hk => hk.2) (.int .i64 t291)) (fun _ hk => hk.2) (.string t292)) (fun _ hk => hk.2) (.int .i64 t293)) (fun _ hk => hk.2) (.int .i64 t294)) (fun _ hk => hk.2) (.bool t295)) (fun _ hk => hk.2) (.int .i64 t296)) (fun _ hk => hk.2) (.int .i64 t297)) (fun _ hk => hk.2) (.string t298)) (fun _ hk => hk.2) (.bool t299)) (fun _ hk => ⟨hk.1.1.1.2, ⟨hk.1.1.2, hk.1.2⟩⟩)⟩
         have n4_ : Aside0 ((((((((((w113.setCell ⟨gb301, 0, none⟩ (.int .i64 t291)).setCell ⟨gb301, 1, none⟩ (.string t292)).setCell ⟨gb301, 2, none⟩ (.int .i64 t293)).setCell ⟨gb301, 3, none⟩ (.int .i64 t294)).setCell ⟨gb301, 4, none⟩ (.bool t295)).setCell ⟨gb301, 5, none⟩ (.int .i64 t296)).setCell ⟨gb301, 6, none⟩ (.int .i64 t297)).setCell ⟨gb301, 7, none⟩ (.string t298)).setCell ⟨gb301, 8, none⟩ (.bool t299)).heap[gb249]? = some (.cells #[.int .i64 t253, .string t254, .int .i64 t255, .int .i64 t256, .bool t257, .int .i64 t258, .int .i64 t259, .string t260, .bool t261] 28 (0, 0))) := ⟨by (with_reducible repeat (first | refine blk_drewN ?_ _ | refine blk_drew ?_ | refine blk_alloc ?_ _)); refine blk_far ?_ NB249_301.out _; (with_reducible repeat (first | refine blk_drewN ?_ _ | refine blk_drew ?_ | refine blk_alloc ?_ _)); refine blk_far ?_ NB249_301.out _; (with_reducible repeat (first | refine blk_drewN ?_ _ | refine blk_drew ?_ | refine blk_alloc ?_ _)); refine blk_far ?_ NB249_301.out _; (with_reducible repeat (first | refine blk_drewN ?_ _ | refine blk_drew ?_ | refine blk_alloc ?_ _)); refine blk_far ?_ NB249_301.out _; (with_reducible repeat (first | refine blk_drewN ?_ _ | refine blk_drew ?_ | refine blk_alloc ?_ _)); refine blk_far ?_ NB249_301.out _; (with_reducible repeat (first | refine blk_drewN ?_ _ | refine blk_drew ?_ | refine blk_alloc ?_ _)); refine blk_far ?_ NB249_301.out _; (with_reducible repeat (first | refine blk_drewN ?_ _ | refine blk_drew ?_ | refine blk_alloc ?_ _)); refine blk_far ?_ NB249_301.out _; (with_reducible repeat (first | refine blk_drewN ?_ _ | refine blk_drew ?_ | refine blk_alloc ?_ _)); refine blk_far ?_ NB249_301.out _; (with_reducible repeat (first | refine blk_drewN ?_ _ | refine blk_drew ?_ | refine blk_alloc ?_ _)); refine blk_far ?_ NB249_301.out _; (with_reducible repeat (first | refine blk_drewN ?_ _ | refine blk_drew ?_ | refine blk_alloc ?_ _)); exact BK249.out⟩
         have n5_ : Aside0 ((((((((((w113.setCell ⟨gb301, 0, none⟩ (.int .i64 t291)).setCell ⟨gb301, 1, none⟩ (.string t292)).setCell ⟨gb301, 2, none⟩ (.int .i64 t293)).setCell ⟨gb301, 3, none⟩ (.int .i64 t294)).setCell ⟨gb301, 4, none⟩ (.bool t295)).setCell ⟨gb301, 5, none⟩ (.int .i64 t296)).setCell ⟨gb301, 6, none⟩ (.int .i64 t297)).setCell ⟨gb301, 7, none⟩ (.string t298)).setCell ⟨gb301, 8, none⟩ (.bool t299)).heap[gb290]? = some (.cells #[.int .i64 t281, .string t282, .int .i64 t283, .int .i64 t284, .bool t285, .complex .f64 t286.re t286.im, .string t287, .bool t288] 41 (0, 0))) := ⟨by (with_reducible repeat (first | refine blk_drewN ?_ _ | refine blk_drew ?_ | refine blk_alloc ?_ _)); refine blk_far ?_ NB290_301.out _; (with_reducible repeat (first | refine blk_drewN ?_ _ | refine blk_drew ?_ | refine blk_alloc ?_ _)); refine blk_far ?_ NB290_301.out _; (with_reducible repeat (first | refine blk_drewN ?_ _ | refine blk_drew ?_ | refine blk_alloc ?_ _)); refine blk_far ?_ NB290_301.out _; (with_reducible repeat (first | refine blk_drewN ?_ _ | refine blk_drew ?_ | refine blk_alloc ?_ _)); refine blk_far ?_ NB290_301.out _; (with_reducible repeat (first | refine blk_drewN ?_ _ | refine blk_drew ?_ | refine blk_alloc ?_ _)); refine blk_far ?_ NB290_301.out _; (with_reducible repeat (first | refine blk_drewN ?_ _ | refine blk_drew ?_ | refine blk_alloc ?_ _)); refine blk_far ?_ NB290_301.out _; (with_reducible repeat (first | refine blk_drewN ?_ _ | refine blk_drew ?_ | refine blk_alloc ?_ _)); refine blk_far ?_ NB290_301.out _; (with_reducible repeat (first | refine blk_drewN ?_ _ | refine blk_drew ?_ | refine blk_alloc ?_ _)); refine blk_far ?_ NB290_301.out _; (with_reducible repeat (first | refine blk_drewN ?_ _ | refine blk_drew ?_ | refine blk_alloc ?_ _)); refine blk_far ?_ NB290_301.out _; (with_reducible repeat (first | refine blk_drewN ?_ _ | refine blk_drew ?_ | refine blk_alloc ?_ _)); exact BK290.out⟩
         have n6_ : Aside0 ((((((((((w113.setCell ⟨gb301, 0, none⟩ (.int .i64 t291)).setCell ⟨gb301, 1, none⟩ (.string t292)).setCell ⟨gb301, 2, none⟩ (.int .i64 t293)).setCell ⟨gb301, 3, none⟩ (.int .i64 t294)).setCell ⟨gb301, 4, none⟩ (.bool t295)).setCell ⟨gb301, 5, none⟩ (.int .i64 t296)).setCell ⟨gb301, 6, none⟩ (.int .i64 t297)).setCell ⟨gb301, 7, none⟩ (.string t298)).setCell ⟨gb301, 8, none⟩ (.bool t299)).heap[gb301]? = some (.cells #[.int .i64 t291, .string t292, .int .i64 t293, .int .i64 t294, .bool t295, .int .i64 t296, .int .i64 t297, .string t298, .bool t299] 28 (0, 0))) := ⟨by (with_reducible repeat (first | refine blk_drewN ?_ _ | refine blk_drew ?_ | refine blk_alloc ?_ _)); refine blk_put (cs := #[.int .i64 t291, .string t292, .int .i64 t293, .int .i64 t294, .bool t295, .int .i64 t296, .int .i64 t297, .string t298, .bool false]) ?_ 8 _ rfl; (with_reducible repeat (first | refine blk_drewN ?_ _ | refine blk_drew ?_ | refine blk_alloc ?_ _)); refine blk_put (cs := #[.int .i64 t291, .string t292, .int .i64 t293, .int .i64 t294, .bool t295, .int .i64 t296, .int .i64 t297, .string (⟨#[]⟩ : ByteArray), .bool false]) ?_ 7 _ rfl; (with_reducible repeat (first | refine blk_drewN ?_ _ | refine blk_drew ?_ | refine blk_alloc ?_ _)); refine blk_put (cs := #[.int .i64 t291, .string t292, .int .i64 t293, .int .i64 t294, .bool t295, .int .i64 t296, .int .i64 0, .string (⟨#[]⟩ : ByteArray), .bool false]) ?_ 6 _ rfl; (with_reducible repeat (first | refine blk_drewN ?_ _ | refine blk_drew ?_ | refine blk_alloc ?_ _)); refine blk_put (cs := #[.int .i64 t291, .string t292, .int .i64 t293, .int .i64 t294, .bool t295, .int .i64 0, .int .i64 0, .string (⟨#[]⟩ : ByteArray), .bool false]) ?_ 5 _ rfl; (with_reducible repeat (first | refine blk_drewN ?_ _ | refine blk_drew ?_ | refine blk_alloc ?_ _)); refine blk_put (cs := #[.int .i64 t291, .string t292, .int .i64 t293, .int .i64 t294, .bool false, .int .i64 0, .int .i64 0, .string (⟨#[]⟩ : ByteArray), .bool false]) ?_ 4 _ rfl; (with_reducible repeat (first | refine blk_drewN ?_ _ | refine blk_drew ?_ | refine blk_alloc ?_ _)); refine blk_put (cs := #[.int .i64 t291, .string t292, .int .i64 t293, .int .i64 0, .bool false, .int .i64 0, .int .i64 0, .string (⟨#[]⟩ : ByteArray), .bool false]) ?_ 3 _ rfl; (with_reducible repeat (first | refine blk_drewN ?_ _ | refine blk_drew ?_ | refine blk_alloc ?_ _)); refine blk_put (cs := #[.int .i64 t291, .string t292, .int .i64 0, .int .i64 0, .bool false, .int .i64 0, .int .i64 0, .string (⟨#[]⟩ : ByteArray), .bool false]) ?_ 2 _ rfl; (with_reducible repeat (first | refine blk_drewN ?_ _ | refine blk_drew ?_ | refine blk_alloc ?_ _)); refine blk_put (cs := #[.int .i64 t291, .string (⟨#[]⟩ : ByteArray), .int .i64 0, .int .i64 0, .bool false, .int .i64 0, .int .i64 0, .string (⟨#[]⟩ : ByteArray), .bool false]) ?_ 1 _ rfl; (with_reducible repeat (first | refine blk_drewN ?_ _ | refine blk_drew ?_ | refine blk_alloc ?_ _)); refine blk_put (cs := #[.int .i64 0, .string (⟨#[]⟩ : ByteArray), .int .i64 0, .int .i64 0, .bool false, .int .i64 0, .int .i64 0, .string (⟨#[]⟩ : ByteArray), .bool false]) ?_ 0 _ rfl; (with_reducible repeat (first | refine blk_drewN ?_ _ | refine blk_drew ?_ | refine blk_alloc ?_ _)); exact BK301.out⟩
         have n7_ : Aside0 (Below w.heap.size w (((((((((w113.setCell ⟨gb301, 0, none⟩ (.int .i64 t291)).setCell ⟨gb301, 1, none⟩ (.string t292)).setCell ⟨gb301, 2, none⟩ (.int .i64 t293)).setCell ⟨gb301, 3, none⟩ (.int .i64 t294)).setCell ⟨gb301, 4, none⟩ (.bool t295)).setCell ⟨gb301, 5, none⟩ (.int .i64 t296)).setCell ⟨gb301, 6, none⟩ (.int .i64 t297)).setCell ⟨gb301, 7, none⟩ (.string t298)).setCell ⟨gb301, 8, none⟩ (.bool t299))) := ⟨by repeat (first | (with_reducible first | exact HB.out | apply below_alloc | apply pw_below_drewN | apply below_drew1 | refine below_set ?_ GE249.out | refine below_set ?_ GE290.out | refine below_set ?_ GE301.out) | exact HB.out)⟩
         (try clear HO252)
         (try clear HO264)
         (try clear HO275)
         (try clear HO279)
         (try clear BK249)
         (try clear BK290)
         (try clear BK301)
         (try clear HB)
         generalize (((((((((w113.setCell ⟨gb301, 0, none⟩ (.int .i64 t291)).setCell ⟨gb301, 1, none⟩ (.string t292)).setCell ⟨gb301, 2, none⟩ (.int .i64 t293)).setCell ⟨gb301, 3, none⟩ (.int .i64 t294)).setCell ⟨gb301, 4, none⟩ (.bool t295)).setCell ⟨gb301, 5, none⟩ (.int .i64 t296)).setCell ⟨gb301, 6, none⟩ (.int .i64 t297)).setCell ⟨gb301, 7, none⟩ (.string t298)).setCell ⟨gb301, 8, none⟩ (.bool t299)) = w117 at n0_ n1_ n2_ n3_ n4_ n5_ n6_ n7_ ⊢
         have HO252 := n0_
         have HO264 := n1_
         have HO275 := n2_
         have HO279 := n3_
         have BK249 := n4_
         have BK290 := n5_
         have BK301 := n6_
         have HB := n7_
         clear n0_ n1_ n2_ n3_ n4_ n5_ n6_ n7_
         replace HO252 := Aside0.mk (Kd.R_drew HO252.out)
         replace HO264 := Aside0.mk (Kd.R_drew HO264.out)
         replace HO275 := Aside0.mk (Kd.R_drew HO275.out)
         replace HO279 := Aside0.mk (Kd.R_drew HO279.out)
         replace BK249 := Aside0.mk (blk_drew BK249.out)
         replace BK290 := Aside0.mk (blk_drew BK290.out)
         replace BK301 := Aside0.mk (blk_drew BK301.out)
         replace HB := Aside0.mk (below_drew1 HB.out)
         refine start_ (n := 42) (S := fun w' => w'.cell? ⟨gb290, 0, none⟩ = some (.int .i64 t281) ∧ w'.cell? ⟨gb290, 1, none⟩ = some (.string t282) ∧ w'.cell? ⟨gb290, 2, none⟩ = some (.int .i64 t283) ∧ w'.cell? ⟨gb290, 3, none⟩ = some (.int .i64 t284) ∧ w'.cell? ⟨gb290, 4, none⟩ = some (.bool t285) ∧ w'.cell? ⟨gb290, 5, none⟩ = some (.complex .f64 t286.re t286.im) ∧ w'.cell? ⟨gb290, 6, none⟩ = some (.string t287) ∧ w'.cell? ⟨gb290, 7, none⟩ = some (.bool t288) ∧ w'.cell? ⟨gb301, 0, none⟩ = some (.int .i64 t291) ∧ w'.cell? ⟨gb301, 1, none⟩ = some (.string t292) ∧ w'.cell? ⟨gb301, 2, none⟩ = some (.int .i64 t293) ∧ w'.cell? ⟨gb301, 3, none⟩ = some (.int .i64 t294) ∧ w'.cell? ⟨gb301, 4, none⟩ = some (.bool t295) ∧ w'.cell? ⟨gb301, 5, none⟩ = some (.int .i64 t296) ∧ w'.cell? ⟨gb301, 6, none⟩ = some (.int .i64 t297) ∧ w'.cell? ⟨gb301, 7, none⟩ = some (.string t298) ∧ w'.cell? ⟨gb301, 8, none⟩ = some (.bool t299)) (ds := []) #[bF3, bF3, bF3, bF3, bF3, bF3, bF3, bF3, bF3, bF3, bF3, bF3, bF3, bF3, bF3, bF3, bF3, bF3, bF3, bF3, bF3, bF3, bF3, bF3, bF3, bF3, bF3, bF3, bF3, bF3, bF3, bF3, bF3, bF3, bF3, bF3, bF3, bF3, bF3, bF3, bF3, bF3] (by kernel_rfl) rfl rfl ⟨(blk_cell BK290.out 0).trans rfl, (blk_cell BK290.out 1).trans rfl, (blk_cell BK290.out 2).trans rfl, (blk_cell BK290.out 3).trans rfl, (blk_cell BK290.out 4).trans rfl, (blk_cell BK290.out 5).trans rfl, (blk_cell BK290.out 6).trans rfl, (blk_cell BK290.out 7).trans rfl, (blk_cell BK301.out 0).trans rfl, (blk_cell BK301.out 1).trans rfl, (blk_cell BK301.out 2).trans rfl, (blk_cell BK301.out 3).trans rfl, (blk_cell BK301.out 4).trans rfl, (blk_cell BK301.out 5).trans rfl, (blk_cell BK301.out 6).trans rfl, (blk_cell BK301.out 7).trans rfl, (blk_cell BK301.out 8).trans rfl⟩ (fun hHeld => ?_); refine with_tabW cenotaphlaw08_StorePuts.tab7 cenotaphlaw08_StorePuts.bits7 (fun HT_ HW_ => ?_)
         generalize w117.drew = w118 at HO252 HO264 HO275 HO279 BK249 BK290 BK301 HB hHeld ⊢
         refine one_ (i := 0) (N := some 47) #[bT3, bF3, bF3, bF3, bF3, bF3, bF3, bF3, bF3, bF3, bF3, bF3, bF3, bF3, bF3, bF3, bF3, bF3, bF3, bF3, bF3, bF3, bF3, bF3, bF3, bF3, bF3, bF3, bF3, bF3, bF3, bF3, bF3, bF3, bF3, bF3, bF3, bF3, bF3, bF3, bF3, bF3] rfl rfl (one_of HT_.out (by kernel_rfl)) (by decide) (fun K hK => ?_)
         refine goes_ Try.func16 (by kernel_rfl) rfl #[] (by rfl) rfl rfl zq3x_18 ?_
         with_reducible refine (cenotaphlaw08_told.calls k  true _ A12.out).mono ?_
         rintro e w119 ⟨rfl, hb⟩
         refine ⟨_, rfl, ?_⟩
         replace HO252 := Aside0.mk (Kd.R_below zq3x_23 hb)
         replace HO264 := Aside0.mk (Kd.R_below zq3x_24 hb)
         replace HO275 := Aside0.mk (Kd.R_below zq3x_25 hb)
         replace HO279 := Aside0.mk (Kd.R_below zq3x_26 hb)
         replace BK249 := Aside0.mk (blk_below (g := gb249) (o := .cells #[.int .i64 t253, .string t254, .int .i64 t255, .int .i64 t256, .bool t257, .int .i64 t258, .int .i64 t259, .string t260, .bool t261] 28 (0, 0)) zq3x_20 hb)
         replace BK290 := Aside0.mk (blk_below (g := gb290) (o := .cells #[.int .i64 t281, .string t282, .int .i64 t283, .int .i64 t284, .bool t285, .complex .f64 t286.re t286.im, .string t287, .bool t288] 41 (0, 0)) zq3x_21 hb)
         replace BK301 := Aside0.mk (blk_below (g := gb301) (o := .cells #[.int .i64 t291, .string t292, .int .i64 t293, .int .i64 t294, .bool t295, .int .i64 t296, .int .i64 t297, .string t298, .bool t299] 28 (0, 0)) zq3x_22 hb)
         replace HB := Aside0.mk (below_step zq3x_13 hb)
         (try clear hb)
         (try clear hb2)
         (try clear hk)
         (try clear hi)
         obtain ⟨Ao120, co120, eo120⟩ := Kd.R_slice HO275.out
         (first | subst eo120 | (injection eo120 with f1_ f2_ f3_; have f4_ := f1_.symm; have f5_ := f3_.symm; clear f1_ f2_ f3_; subst f4_; subst f5_))
         refine hK.out _ _ ⟨(blk_cell BK290.out 0).trans rfl, (blk_cell BK290.out 1).trans rfl, (blk_cell BK290.out 2).trans rfl, (blk_cell BK290.out 3).trans rfl, (blk_cell BK290.out 4).trans rfl, (blk_cell BK290.out 5).trans rfl, (blk_cell BK290.out 6).trans rfl, (blk_cell BK290.out 7).trans rfl, (blk_cell BK301.out 0).trans rfl, (blk_cell BK301.out 1).trans rfl, (blk_cell BK301.out 2).trans rfl, (blk_cell BK301.out 3).trans rfl, (blk_cell BK301.out 4).trans rfl, (blk_cell BK301.out 5).trans rfl, (blk_cell BK301.out 6).trans rfl, (blk_cell BK301.out 7).trans rfl, (blk_cell BK301.out 8).trans rfl⟩ (fun hHeld => ?_)
         clear hK K
         refine norm_ (a' := ?_) ?_ ?_
         rotate_left
         ·show Act.put _ (some 47) _ = _
          simp only [Act.put, List.setIfInBounds_toArray, List.set_cons_zero, List.set_cons_succ, i64_w, i32_w]
          rfl
         refine p_ 1 48 (mk_ 42 0x3) ?_
         refine p_ 2 49 (mk_ 42 0x7) ?_
         refine p_ 3 50 (mk_ 42 0xf) ?_
         refine p_ 4 51 (mk_ 42 0x1f) ?_
         refine p_ 5 52 (mk_ 42 0x3f) ?_
         refine p_ 6 53 (mk_ 42 0x7f) ?_
         refine p_ 7 54 (mk_ 42 0xff) ?_
         refine p_ 8 55 (mk_ 42 0x1ff) ?_
         refine p_ 10 57 (mk_ 42 0x5ff) ?_
         refine one_ (i := 9) (N := some 56) #[bT3, bT3, bT3, bT3, bT3, bT3, bT3, bT3, bT3, bT3, bT3, bF3, bF3, bF3, bF3, bF3, bF3, bF3, bF3, bF3, bF3, bF3, bF3, bF3, bF3, bF3, bF3, bF3, bF3, bF3, bF3, bF3, bF3, bF3, bF3, bF3, bF3, bF3, bF3, bF3, bF3, bF3] rfl rfl (one_of HT_.out (by kernel_rfl)) (by decide) (fun K hK => ?_)
         refine goes_ Try.func18 (by kernel_rfl) rfl #[.slice Ao120 t273.length co120] (by rfl) rfl rfl zq3x_18 ?_
         with_reducible refine (cenotaphlaw08_From.calls k _ _ t273 t303 _ ?side1 ?side2 A15.out).mono ?_
         (case side1 => repeat (first | exact (Kd.R_reads' HO275.out).2.2 | (with_reducible refine Kd.C_alloc ?_ _) | (with_reducible refine Kd.C_drewN ?_ _) | (with_reducible refine Kd.C_drew ?_)))
         (case side2 => exact (Kd.R_reads' HO275.out).2.1)
         rintro e w121 ⟨v304, rfl, ho0, hb⟩
         refine ⟨_, rfl, ?_⟩
         replace HO264 := Aside0.mk (Kd.R_below zq3x_24 hb)
         replace HO275 := Aside0.mk (Kd.R_below zq3x_25 hb)
         have HO305 := Aside0.mk (Kd.R_lower (Kd.R_newB (Kd.R_newB (Kd.R_new' (Kd.R_new' ho0 (Kd.R_lt zq3x_23)) (Kd.R_lt zq3x_26)) (g := gb249) (o := .cells #[.int .i64 t253, .string t254, .int .i64 t255, .int .i64 t256, .bool t257, .int .i64 t258, .int .i64 t259, .string t260, .bool t261] 28 (0, 0)) zq3x_20) (g := gb301) (o := .cells #[.int .i64 t291, .string t292, .int .i64 t293, .int .i64 t294, .bool t295, .int .i64 t296, .int .i64 t297, .string t298, .bool t299] 28 (0, 0)) zq3x_22) (below_size zq3x_13))
         replace HO252 := Aside0.mk (Kd.R_elder' zq3x_23 (Kd.R_base ho0) hb)
         replace HO279 := Aside0.mk (Kd.R_elder' zq3x_26 (Kd.R_base ho0) hb)
         replace BK249 := Aside0.mk (blk_below (g := gb249) (o := .cells #[.int .i64 t253, .string t254, .int .i64 t255, .int .i64 t256, .bool t257, .int .i64 t258, .int .i64 t259, .string t260, .bool t261] 28 (0, 0)) zq3x_20 hb)
         replace BK290 := Aside0.mk (blk_below (g := gb290) (o := .cells #[.int .i64 t281, .string t282, .int .i64 t283, .int .i64 t284, .bool t285, .complex .f64 t286.re t286.im, .string t287, .bool t288] 41 (0, 0)) zq3x_21 hb)
         replace BK301 := Aside0.mk (blk_below (g := gb301) (o := .cells #[.int .i64 t291, .string t292, .int .i64 t293, .int .i64 t294, .bool t295, .int .i64 t296, .int .i64 t297, .string t298, .bool t299] 28 (0, 0)) zq3x_22 hb)
         replace HB := Aside0.mk (below_step zq3x_13 hb)
         (try clear hb)
         (try clear hb2)
         (try clear hk)
         (try clear hi)
         (try clear ho0)
         obtain ⟨Ao122, co122, eo122⟩ := Kd.R_slice HO305.out
         (first | subst eo122 | (injection eo122 with f1_ f2_ f3_; have f4_ := f1_.symm; have f5_ := f3_.symm; clear f1_ f2_ f3_; subst f4_; subst f5_))
         obtain ⟨Ao123, co123, eo123⟩ := Kd.R_slice HO279.out
         (first | subst eo123 | (injection eo123 with f1_ f2_ f3_; have f4_ := f1_.symm; have f5_ := f3_.symm; clear f1_ f2_ f3_; subst f4_; subst f5_))
         refine hK.out _ _ ⟨(blk_cell BK290.out 0).trans rfl, (blk_cell BK290.out 1).trans rfl, (blk_cell BK290.out 2).trans rfl, (blk_cell BK290.out 3).trans rfl, (blk_cell BK290.out 4).trans rfl, (blk_cell BK290.out 5).trans rfl, (blk_cell BK290.out 6).trans rfl, (blk_cell BK290.out 7).trans rfl, (blk_cell BK301.out 0).trans rfl, (blk_cell BK301.out 1).trans rfl, (blk_cell BK301.out 2).trans rfl, (blk_cell BK301.out 3).trans rfl, (blk_cell BK301.out 4).trans rfl, (blk_cell BK301.out 5).trans rfl, (blk_cell BK301.out 6).trans rfl, (blk_cell BK301.out 7).trans rfl, (blk_cell BK301.out 8).trans rfl⟩ (fun hHeld => ?_)
         clear hK K
         refine norm_ (a' := ?_) ?_ ?_
         rotate_left
         ·show Act.put _ (some 56) _ = _
          simp only [Act.put, List.setIfInBounds_toArray, List.set_cons_zero, List.set_cons_succ, i64_w, i32_w]
          rfl
         refine one_ (i := 11) (N := some 58) #[bT3, bT3, bT3, bT3, bT3, bT3, bT3, bT3, bT3, bT3, bT3, bT3, bF3, bF3, bF3, bF3, bF3, bF3, bF3, bF3, bF3, bF3, bF3, bF3, bF3, bF3, bF3, bF3, bF3, bF3, bF3, bF3, bF3, bF3, bF3, bF3, bF3, bF3, bF3, bF3, bF3, bF3] rfl rfl (one_of HT_.out (by kernel_rfl)) (by decide) (fun K hK => ?_)
         refine goes_ Try.func17 (by kernel_rfl) rfl #[.slice Ao122 t303.length co122, .slice Ao123 t277.length co123] (by rfl) rfl rfl zq3x_18 ?_
         with_reducible refine (cenotaphref08_Same.calls k _ _ t303 _ _ t277 true _ ?side1 ?side2 ?side3 ?side4 A16.out).mono ?_
         (case side1 => repeat (first | exact (Kd.R_reads' HO305.out).2.2 | (with_reducible refine Kd.C_alloc ?_ _) | (with_reducible refine Kd.C_drewN ?_ _) | (with_reducible refine Kd.C_drew ?_)))
         (case side2 => exact (Kd.R_reads' HO305.out).2.1)
         (case side3 => repeat (first | exact (Kd.R_reads' HO279.out).2.2 | (with_reducible refine Kd.C_alloc ?_ _) | (with_reducible refine Kd.C_drewN ?_ _) | (with_reducible refine Kd.C_drew ?_)))
         (case side4 => exact (Kd.R_reads' HO279.out).2.1)
         rintro e w' ⟨rfl, ⟨nd, rfl⟩⟩
         refine ⟨_, rfl, ?_⟩
         refine hK.out _ _ ⟨(blk_cell BK290.out 0).trans rfl, (blk_cell BK290.out 1).trans rfl, (blk_cell BK290.out 2).trans rfl, (blk_cell BK290.out 3).trans rfl, (blk_cell BK290.out 4).trans rfl, (blk_cell BK290.out 5).trans rfl, (blk_cell BK290.out 6).trans rfl, (blk_cell BK290.out 7).trans rfl, (blk_cell BK301.out 0).trans rfl, (blk_cell BK301.out 1).trans rfl, (blk_cell BK301.out 2).trans rfl, (blk_cell BK301.out 3).trans rfl, (blk_cell BK301.out 4).trans rfl, (blk_cell BK301.out 5).trans rfl, (blk_cell BK301.out 6).trans rfl, (blk_cell BK301.out 7).trans rfl, (blk_cell BK301.out 8).trans rfl⟩ (fun hHeld => ?_)
         clear hK K
         refine norm_ (a' := ?_) ?_ ?_
         rotate_left
         ·show Act.put _ (some 58) _ = _
          simp only [Act.put, List.setIfInBounds_toArray, List.set_cons_zero, List.set_cons_succ, i64_w, i32_w]
          rfl
         refine p_ 12 59 (mk_ 42 0x1fff) ?_
         refine p_ 13 60 (mk_ 42 0x3fff) ?_
         refine p_ 14 61 (mk_ 42 0x7fff) ?_
         refine p_ 15 62 (mk_ 42 0xffff) ?_
         refine one_ (i := 16) (N := some 63) #[bT3, bT3, bT3, bT3, bT3, bT3, bT3, bT3, bT3, bT3, bT3, bT3, bT3, bT3, bT3, bT3, bT3, bF3, bF3, bF3, bF3, bF3, bF3, bF3, bF3, bF3, bF3, bF3, bF3, bF3, bF3, bF3, bF3, bF3, bF3, bF3, bF3, bF3, bF3, bF3, bF3, bF3] rfl rfl (one_of HT_.out (by kernel_rfl)) (by decide) (fun K hK => ?_)
         refine goes_ Try.func19 (by kernel_rfl) rfl #[.slice Ao120 t273.length co120] (by rfl) rfl rfl zq3x_18 ?_
         with_reducible refine (store_Right.calls k _ _ t273 true _ ?side1 ?side2 A18.out).mono ?_
         (case side1 => repeat (first | exact (Kd.R_reads' HO275.out).2.2 | (with_reducible refine Kd.C_alloc ?_ _) | (with_reducible refine Kd.C_drewN ?_ _) | (with_reducible refine Kd.C_drew ?_)))
         (case side2 => exact (Kd.R_reads' HO275.out).2.1)
         rintro e w124 ⟨rfl, hb⟩
         refine ⟨_, rfl, ?_⟩
         replace HO252 := Aside0.mk (Kd.R_below zq3x_23 hb)
         replace HO264 := Aside0.mk (Kd.R_below zq3x_24 hb)
         replace HO275 := Aside0.mk (Kd.R_below zq3x_25 hb)
         replace HO279 := Aside0.mk (Kd.R_below zq3x_26 hb)
         replace HO305 := Aside0.mk (Kd.R_below zq3x_27 hb)
         replace BK249 := Aside0.mk (blk_below (g := gb249) (o := .cells #[.int .i64 t253, .string t254, .int .i64 t255, .int .i64 t256, .bool t257, .int .i64 t258, .int .i64 t259, .string t260, .bool t261] 28 (0, 0)) zq3x_20 hb)
         replace BK290 := Aside0.mk (blk_below (g := gb290) (o := .cells #[.int .i64 t281, .string t282, .int .i64 t283, .int .i64 t284, .bool t285, .complex .f64 t286.re t286.im, .string t287, .bool t288] 41 (0, 0)) zq3x_21 hb)
         replace BK301 := Aside0.mk (blk_below (g := gb301) (o := .cells #[.int .i64 t291, .string t292, .int .i64 t293, .int .i64 t294, .bool t295, .int .i64 t296, .int .i64 t297, .string t298, .bool t299] 28 (0, 0)) zq3x_22 hb)
         replace HB := Aside0.mk (below_step zq3x_13 hb)
         (try clear hb)
         (try clear hb2)
         (try clear hk)
         (try clear hi)
         refine hK.out _ _ ⟨(blk_cell BK290.out 0).trans rfl, (blk_cell BK290.out 1).trans rfl, (blk_cell BK290.out 2).trans rfl, (blk_cell BK290.out 3).trans rfl, (blk_cell BK290.out 4).trans rfl, (blk_cell BK290.out 5).trans rfl, (blk_cell BK290.out 6).trans rfl, (blk_cell BK290.out 7).trans rfl, (blk_cell BK301.out 0).trans rfl, (blk_cell BK301.out 1).trans rfl, (blk_cell BK301.out 2).trans rfl, (blk_cell BK301.out 3).trans rfl, (blk_cell BK301.out 4).trans rfl, (blk_cell BK301.out 5).trans rfl, (blk_cell BK301.out 6).trans rfl, (blk_cell BK301.out 7).trans rfl, (blk_cell BK301.out 8).trans rfl⟩ (fun hHeld => ?_)
         clear hK K
         refine norm_ (a' := ?_) ?_ ?_
         rotate_left
         ·show Act.put _ (some 63) _ = _
          simp only [Act.put, List.setIfInBounds_toArray, List.set_cons_zero, List.set_cons_succ, i64_w, i32_w]
          rfl
         refine p_ 17 64 (mk_ 42 0x3ffff) ?_
         refine p_ 18 65 (mk_ 42 0x7ffff) ?_
         refine p_ 19 66 (mk_ 42 0xfffff) ?_
         refine p_ 20 67 (mk_ 42 0x1fffff) ?_
         refine p_ 21 68 (mk_ 42 0x3fffff) ?_
         refine p_ 22 69 (mk_ 42 0x7fffff) ?_
         refine p_ 23 70 (mk_ 42 0xffffff) ?_
         refine p_ 24 71 (mk_ 42 0x1ffffff) ?_
         refine t_ 25 72 (mk_ 42 0x3ffffff) hHeld ?_
         refine t_ 27 74 (mk_ 42 0xbffffff) hHeld ?_
         refine one_ (i := 26) (N := some 73) #[bT3, bT3, bT3, bT3, bT3, bT3, bT3, bT3, bT3, bT3, bT3, bT3, bT3, bT3, bT3, bT3, bT3, bT3, bT3, bT3, bT3, bT3, bT3, bT3, bT3, bT3, bT3, bT3, bF3, bF3, bF3, bF3, bF3, bF3, bF3, bF3, bF3, bF3, bF3, bF3, bF3, bF3] rfl rfl (one_of HT_.out (by kernel_rfl)) (by decide) (fun K hK => ?_)
         refine goes_ Try.func20 (by kernel_rfl) rfl #[.agg #[.int .i64 t281, .string t282, .int .i64 t283, .int .i64 t284, .bool t285, .complex .f64 t286.re t286.im, .string t287, .bool t288]] (by rfl) rfl rfl zq3x_18 ?_
         with_reducible refine (cenotaphlaw07_From.calls t281 t282 t283 t284 t285 t286 t287 t288 t308 t309 t310 t311 t312 t313 t314 t315 t316 _ A21.out).mono ?_
         rintro e w125 ⟨rfl, hb⟩
         refine ⟨_, rfl, ?_⟩
         replace HO252 := Aside0.mk (Kd.R_below zq3x_23 hb)
         replace HO264 := Aside0.mk (Kd.R_below zq3x_24 hb)
         replace HO275 := Aside0.mk (Kd.R_below zq3x_25 hb)
         replace HO279 := Aside0.mk (Kd.R_below zq3x_26 hb)
         replace HO305 := Aside0.mk (Kd.R_below zq3x_27 hb)
         replace BK249 := Aside0.mk (blk_below (g := gb249) (o := .cells #[.int .i64 t253, .string t254, .int .i64 t255, .int .i64 t256, .bool t257, .int .i64 t258, .int .i64 t259, .string t260, .bool t261] 28 (0, 0)) zq3x_20 hb)
         replace BK290 := Aside0.mk (blk_below (g := gb290) (o := .cells #[.int .i64 t281, .string t282, .int .i64 t283, .int .i64 t284, .bool t285, .complex .f64 t286.re t286.im, .string t287, .bool t288] 41 (0, 0)) zq3x_21 hb)
         replace BK301 := Aside0.mk (blk_below (g := gb301) (o := .cells #[.int .i64 t291, .string t292, .int .i64 t293, .int .i64 t294, .bool t295, .int .i64 t296, .int .i64 t297, .string t298, .bool t299] 28 (0, 0)) zq3x_22 hb)
         replace HB := Aside0.mk (below_step zq3x_13 hb)
         (try clear hb)
         (try clear hb2)
         (try clear hk)
         (try clear hi)
         refine hK.out _ _ ⟨(blk_cell BK290.out 0).trans rfl, (blk_cell BK290.out 1).trans rfl, (blk_cell BK290.out 2).trans rfl, (blk_cell BK290.out 3).trans rfl, (blk_cell BK290.out 4).trans rfl, (blk_cell BK290.out 5).trans rfl, (blk_cell BK290.out 6).trans rfl, (blk_cell BK290.out 7).trans rfl, (blk_cell BK301.out 0).trans rfl, (blk_cell BK301.out 1).trans rfl, (blk_cell BK301.out 2).trans rfl, (blk_cell BK301.out 3).trans rfl, (blk_cell BK301.out 4).trans rfl, (blk_cell BK301.out 5).trans rfl, (blk_cell BK301.out 6).trans rfl, (blk_cell BK301.out 7).trans rfl, (blk_cell BK301.out 8).trans rfl⟩ (fun hHeld => ?_)
         clear hK K
         refine norm_ (a' := ?_) ?_ ?_
         rotate_left
         ·show Act.put _ (some 73) _ = _
          simp only [Act.put, List.setIfInBounds_toArray, List.set_cons_zero, List.set_cons_succ, i64_w, i32_w]
          rfl
         refine p_ 28 75 (mk_ 42 0x1fffffff) ?_
         refine p_ 29 76 (mk_ 42 0x3fffffff) ?_
         refine u_ 30 77 (mk_ 42 0x7fffffff) ?_
         refine p_ 31 78 (mk_ 42 0xffffffff) ?_
         refine p_ 32 79 (mk_ 42 0x1ffffffff) ?_
         refine p_ 33 80 (mk_ 42 0x3ffffffff) ?_
         refine p_ 34 81 (mk_ 42 0x7ffffffff) ?_
         refine p_ 35 82 (mk_ 42 0xfffffffff) ?_
         refine p_ 36 83 (mk_ 42 0x1fffffffff) ?_
         refine u_ 37 84 (mk_ 42 0x3fffffffff) ?_
         refine u_ 38 85 (mk_ 42 0x7fffffffff) ?_
         refine u_ 39 86 (mk_ 42 0xffffffffff) ?_
         refine p_ 40 87 (mk_ 42 0x1ffffffffff) ?_
         refine p_ 41 88 (mk_ 42 0x3ffffffffff) ?_
         refine done_ (done_of HT_.out (by kernel_rfl)) ?_
         try go_wp2_with (first | ((with_reducible refine gate_callee (f := 21) rfl ?_); refine goesL_ (some 91) rfl rfl Try.func21 (by kernel_rfl) rfl #[.slice Ao104 t262.length co104, .int .i64 a2] rfl zq3x_18 ?_; (with_reducible refine (store_Drop.calls _ _ t262 a2 t331 _ ?side1 ?side2 A80.out).mono ?_); (case side1 => repeat (first | exact (Kd.R_reads' HO264.out).2.2 | (with_reducible refine Kd.C_alloc ?_ _) | (with_reducible refine Kd.C_drewN ?_ _) | (with_reducible refine Kd.C_drew ?_))); (case side2 => exact (Kd.R_reads' HO264.out).2.1); rintro e w126 ⟨v332, rfl, ho0, hb⟩; refine ⟨_, rfl, ?_⟩; replace HO252 := Aside0.mk (Kd.R_below zq3x_23 hb); replace HO279 := Aside0.mk (Kd.R_below zq3x_26 hb); replace HO305 := Aside0.mk (Kd.R_below zq3x_27 hb); have HO333 := Aside0.mk (Kd.R_lower (Kd.R_newB (Kd.R_new' (Kd.R_new' ho0 (Kd.R_lt zq3x_24)) (Kd.R_lt zq3x_25)) (g := gb290) (o := .cells #[.int .i64 t281, .string t282, .int .i64 t283, .int .i64 t284, .bool t285, .complex .f64 t286.re t286.im, .string t287, .bool t288] 41 (0, 0)) zq3x_21) (below_size zq3x_13)); replace HO264 := Aside0.mk (Kd.R_elder' zq3x_24 (Kd.R_base ho0) hb); replace HO275 := Aside0.mk (Kd.R_elder' zq3x_25 (Kd.R_base ho0) hb); replace BK249 := Aside0.mk (blk_below (g := gb249) (o := .cells #[.int .i64 t253, .string t254, .int .i64 t255, .int .i64 t256, .bool t257, .int .i64 t258, .int .i64 t259, .string t260, .bool t261] 28 (0, 0)) zq3x_20 hb); replace BK290 := Aside0.mk (blk_below (g := gb290) (o := .cells #[.int .i64 t281, .string t282, .int .i64 t283, .int .i64 t284, .bool t285, .complex .f64 t286.re t286.im, .string t287, .bool t288] 41 (0, 0)) zq3x_21 hb); replace BK301 := Aside0.mk (blk_below (g := gb301) (o := .cells #[.int .i64 t291, .string t292, .int .i64 t293, .int .i64 t294, .bool t295, .int .i64 t296, .int .i64 t297, .string t298, .bool t299] 28 (0, 0)) zq3x_22 hb); replace HB := Aside0.mk (below_step zq3x_13 hb); (try clear hb); (try clear hb2); (try clear hk); (try clear hi); (try clear ho0); obtain ⟨Ao127, co127, eo127⟩ := Kd.R_slice HO333.out; subst eo127) | ((with_reducible refine gate_callee (f := 18) rfl ?_); refine goesL_ (some 92) rfl rfl Try.func18 (by kernel_rfl) rfl #[.slice Ao127 t331.length co127] rfl zq3x_18 ?_; (with_reducible refine (cenotaphlaw08_From.calls k _ _ t331 t334 _ ?side1 ?side2 A81.out).mono ?_); (case side1 => repeat (first | exact (Kd.R_reads' HO333.out).2.2 | (with_reducible refine Kd.C_alloc ?_ _) | (with_reducible refine Kd.C_drewN ?_ _) | (with_reducible refine Kd.C_drew ?_))); (case side2 => exact (Kd.R_reads' HO333.out).2.1); rintro e w128 ⟨v335, rfl, ho0, hb⟩; refine ⟨_, rfl, ?_⟩; replace HO264 := Aside0.mk (Kd.R_below zq3x_24 hb); replace HO275 := Aside0.mk (Kd.R_below zq3x_25 hb); replace HO333 := Aside0.mk (Kd.R_below zq3x_30 hb); have HO336 := Aside0.mk (Kd.R_lower (Kd.R_newB (Kd.R_newB (Kd.R_new' (Kd.R_new' (Kd.R_new' ho0 (Kd.R_lt zq3x_23)) (Kd.R_lt zq3x_26)) (Kd.R_lt zq3x_27)) (g := gb249) (o := .cells #[.int .i64 t253, .string t254, .int .i64 t255, .int .i64 t256, .bool t257, .int .i64 t258, .int .i64 t259, .string t260, .bool t261] 28 (0, 0)) zq3x_20) (g := gb301) (o := .cells #[.int .i64 t291, .string t292, .int .i64 t293, .int .i64 t294, .bool t295, .int .i64 t296, .int .i64 t297, .string t298, .bool t299] 28 (0, 0)) zq3x_22) (below_size zq3x_13)); replace HO252 := Aside0.mk (Kd.R_elder' zq3x_23 (Kd.R_base ho0) hb); replace HO279 := Aside0.mk (Kd.R_elder' zq3x_26 (Kd.R_base ho0) hb); replace HO305 := Aside0.mk (Kd.R_elder' zq3x_27 (Kd.R_base ho0) hb); replace BK249 := Aside0.mk (blk_below (g := gb249) (o := .cells #[.int .i64 t253, .string t254, .int .i64 t255, .int .i64 t256, .bool t257, .int .i64 t258, .int .i64 t259, .string t260, .bool t261] 28 (0, 0)) zq3x_20 hb); replace BK290 := Aside0.mk (blk_below (g := gb290) (o := .cells #[.int .i64 t281, .string t282, .int .i64 t283, .int .i64 t284, .bool t285, .complex .f64 t286.re t286.im, .string t287, .bool t288] 41 (0, 0)) zq3x_21 hb); replace BK301 := Aside0.mk (blk_below (g := gb301) (o := .cells #[.int .i64 t291, .string t292, .int .i64 t293, .int .i64 t294, .bool t295, .int .i64 t296, .int .i64 t297, .string t298, .bool t299] 28 (0, 0)) zq3x_22 hb); replace HB := Aside0.mk (below_step zq3x_13 hb); (try clear hb); (try clear hb2); (try clear hk); (try clear hi); (try clear ho0)) | ((with_reducible refine gate_callee (f := 22) rfl ?_); refine goesL_ (some 95) rfl rfl Try.func22 (by kernel_rfl) rfl #[.slice Ao100 t250.length co100, .int .i64 a2] rfl zq3x_18 ?_; (with_reducible refine (cenotaphref08_Drop.calls k _ _ t250 a2 t337 _ ?side1 ?side2 A82.out).mono ?_); (case side1 => repeat (first | exact (Kd.R_reads' HO252.out).2.2 | (with_reducible refine Kd.C_alloc ?_ _) | (with_reducible refine Kd.C_drewN ?_ _) | (with_reducible refine Kd.C_drew ?_))); (case side2 => exact (Kd.R_reads' HO252.out).2.1); rintro e w129 ⟨v338, rfl, ho0, hb⟩; refine ⟨_, rfl, ?_⟩; replace HO264 := Aside0.mk (Kd.R_below zq3x_24 hb); replace HO275 := Aside0.mk (Kd.R_below zq3x_25 hb); replace HO333 := Aside0.mk (Kd.R_below zq3x_30 hb); have HO339 := Aside0.mk (Kd.R_lower (Kd.R_newB (Kd.R_newB (Kd.R_new' (Kd.R_new' (Kd.R_new' (Kd.R_new' ho0 (Kd.R_lt zq3x_23)) (Kd.R_lt zq3x_26)) (Kd.R_lt zq3x_27)) (Kd.R_lt zq3x_31)) (g := gb249) (o := .cells #[.int .i64 t253, .string t254, .int .i64 t255, .int .i64 t256, .bool t257, .int .i64 t258, .int .i64 t259, .string t260, .bool t261] 28 (0, 0)) zq3x_20) (g := gb301) (o := .cells #[.int .i64 t291, .string t292, .int .i64 t293, .int .i64 t294, .bool t295, .int .i64 t296, .int .i64 t297, .string t298, .bool t299] 28 (0, 0)) zq3x_22) (below_size zq3x_13)); replace HO252 := Aside0.mk (Kd.R_elder' zq3x_23 (Kd.R_base ho0) hb); replace HO279 := Aside0.mk (Kd.R_elder' zq3x_26 (Kd.R_base ho0) hb); replace HO305 := Aside0.mk (Kd.R_elder' zq3x_27 (Kd.R_base ho0) hb); replace HO336 := Aside0.mk (Kd.R_elder' zq3x_31 (Kd.R_base ho0) hb); replace BK249 := Aside0.mk (blk_below (g := gb249) (o := .cells #[.int .i64 t253, .string t254, .int .i64 t255, .int .i64 t256, .bool t257, .int .i64 t258, .int .i64 t259, .string t260, .bool t261] 28 (0, 0)) zq3x_20 hb); replace BK290 := Aside0.mk (blk_below (g := gb290) (o := .cells #[.int .i64 t281, .string t282, .int .i64 t283, .int .i64 t284, .bool t285, .complex .f64 t286.re t286.im, .string t287, .bool t288] 41 (0, 0)) zq3x_21 hb); replace BK301 := Aside0.mk (blk_below (g := gb301) (o := .cells #[.int .i64 t291, .string t292, .int .i64 t293, .int .i64 t294, .bool t295, .int .i64 t296, .int .i64 t297, .string t298, .bool t299] 28 (0, 0)) zq3x_22 hb); replace HB := Aside0.mk (below_step zq3x_13 hb); (try clear hb); (try clear hb2); (try clear hk); (try clear hi); (try clear ho0); obtain ⟨Ao130, co130, eo130⟩ := Kd.R_slice HO336.out; subst eo130; obtain ⟨Ao131, co131, eo131⟩ := Kd.R_slice HO339.out; subst eo131) | ((with_reducible refine gate_callee (f := 17) rfl ?_); refine goesL_ (some 96) rfl rfl Try.func17 (by kernel_rfl) rfl #[.slice Ao130 t334.length co130, .slice Ao131 t337.length co131] rfl zq3x_18 ?_; (with_reducible refine (cenotaphref08_Same.calls k _ _ t334 _ _ t337 true _ ?side1 ?side2 ?side3 ?side4 A83.out).mono ?_); (case side1 => repeat (first | exact (Kd.R_reads' HO336.out).2.2 | (with_reducible refine Kd.C_alloc ?_ _) | (with_reducible refine Kd.C_drewN ?_ _) | (with_reducible refine Kd.C_drew ?_))); (case side2 => exact (Kd.R_reads' HO336.out).2.1); (case side3 => repeat (first | exact (Kd.R_reads' HO339.out).2.2 | (with_reducible refine Kd.C_alloc ?_ _) | (with_reducible refine Kd.C_drewN ?_ _) | (with_reducible refine Kd.C_drew ?_))); (case side4 => exact (Kd.R_reads' HO339.out).2.1); rintro e w' ⟨rfl, ⟨nd, rfl⟩⟩; refine ⟨_, rfl, ?_⟩) | (go_at_call 18; (with_reducible refine (cenotaphlaw08_From.calls k _ _ t262 t341 _ ?side1 ?side2 A85.out).mono ?_); (case side1 => repeat (first | exact (Kd.R_reads' HO264.out).2.2 | (with_reducible refine Kd.C_alloc ?_ _) | (with_reducible refine Kd.C_drewN ?_ _) | (with_reducible refine Kd.C_drew ?_))); (case side2 => exact (Kd.R_reads' HO264.out).2.1); rintro e w132 ⟨v342, rfl, ho0, hb⟩; replace HO264 := Aside0.mk (Kd.R_below zq3x_24 hb); replace HO275 := Aside0.mk (Kd.R_below zq3x_25 hb); replace HO333 := Aside0.mk (Kd.R_below zq3x_30 hb); have HO343 := Aside0.mk (Kd.R_lower (Kd.R_newB (Kd.R_newB (Kd.R_new' (Kd.R_new' (Kd.R_new' (Kd.R_new' (Kd.R_new' ho0 (Kd.R_lt zq3x_23)) (Kd.R_lt zq3x_26)) (Kd.R_lt zq3x_27)) (Kd.R_lt zq3x_31)) (Kd.R_lt (by (with_reducible repeat (first | apply Kd.R_alloc | apply Kd.R_drewN | apply Kd.R_drew)); exact HO339.out))) (g := gb249) (o := .cells #[.int .i64 t253, .string t254, .int .i64 t255, .int .i64 t256, .bool t257, .int .i64 t258, .int .i64 t259, .string t260, .bool t261] 28 (0, 0)) zq3x_20) (g := gb301) (o := .cells #[.int .i64 t291, .string t292, .int .i64 t293, .int .i64 t294, .bool t295, .int .i64 t296, .int .i64 t297, .string t298, .bool t299] 28 (0, 0)) zq3x_22) (below_size zq3x_13)); replace HO252 := Aside0.mk (Kd.R_elder' zq3x_23 (Kd.R_base ho0) hb); replace HO279 := Aside0.mk (Kd.R_elder' zq3x_26 (Kd.R_base ho0) hb); replace HO305 := Aside0.mk (Kd.R_elder' zq3x_27 (Kd.R_base ho0) hb); replace HO336 := Aside0.mk (Kd.R_elder' zq3x_31 (Kd.R_base ho0) hb); replace HO339 := Aside0.mk (Kd.R_elder' (by (with_reducible repeat (first | apply Kd.R_alloc | apply Kd.R_drewN | apply Kd.R_drew)); exact HO339.out) (Kd.R_base ho0) hb); replace BK249 := Aside0.mk (blk_below (g := gb249) (o := .cells #[.int .i64 t253, .string t254, .int .i64 t255, .int .i64 t256, .bool t257, .int .i64 t258, .int .i64 t259, .string t260, .bool t261] 28 (0, 0)) zq3x_20 hb); replace BK290 := Aside0.mk (blk_below (g := gb290) (o := .cells #[.int .i64 t281, .string t282, .int .i64 t283, .int .i64 t284, .bool t285, .complex .f64 t286.re t286.im, .string t287, .bool t288] 41 (0, 0)) zq3x_21 hb); replace BK301 := Aside0.mk (blk_below (g := gb301) (o := .cells #[.int .i64 t291, .string t292, .int .i64 t293, .int .i64 t294, .bool t295, .int .i64 t296, .int .i64 t297, .string t298, .bool t299] 28 (0, 0)) zq3x_22 hb); replace HB := Aside0.mk (below_step zq3x_13 hb); (try clear hb); (try clear hb2); (try clear hk); (try clear hi); (try clear ho0); obtain ⟨Ao133, co133, eo133⟩ := Kd.R_slice HO343.out; subst eo133) | (go_at_call 17; (with_reducible refine (cenotaphref08_Same.calls k _ _ t341 _ _ t250 t344 _ ?side1 ?side2 ?side3 ?side4 A86.out).mono ?_); (case side1 => repeat (first | exact (Kd.R_reads' HO343.out).2.2 | (with_reducible refine Kd.C_alloc ?_ _) | (with_reducible refine Kd.C_drewN ?_ _) | (with_reducible refine Kd.C_drew ?_))); (case side2 => exact (Kd.R_reads' HO343.out).2.1); (case side3 => repeat (first | exact (Kd.R_reads' HO252.out).2.2 | (with_reducible refine Kd.C_alloc ?_ _) | (with_reducible refine Kd.C_drewN ?_ _) | (with_reducible refine Kd.C_drew ?_))); (case side4 => exact (Kd.R_reads' HO252.out).2.1); rintro e w' ⟨rfl, ⟨nd, rfl⟩⟩))
         go_ret
         exact ⟨by first | rfl | (simp [errW_none, errW_some] <;> rfl) | (simp [*, errW_none, errW_some] <;> rfl), by repeat (first | (with_reducible first | exact HB.out | apply below_alloc | apply pw_below_drewN | apply below_drew1 | refine below_set ?_ GE249.out | refine below_set ?_ GE290.out | refine below_set ?_ GE301.out) | exact HB.out)⟩
        ·replace c84 := Bool.eq_false_iff.mpr c84
         subst c84
         have H1 : (none) = some r := by rw [if_neg (show ¬ (false = true) by decide)] at H; exact H
         clear H
         have H := H1
         clear H1
         exact absurd H (by simp)
       ·replace c79 := Bool.eq_false_iff.mpr c79
        subst c79
        have H1 : (if (!(t281 == 0) || ((!(t282.toList == ([] : List UInt8)) || (!(t283 == 0) || (!(t284 == 0)))) || (t285 || (!(cxq t286.re t286.im 0 0) || (!(t287.toList == ([] : List UInt8)) || (t288)))))) = true then (none) else ((store_Drop.f t262 a2).bind fun t345 => ((cenotaphlaw08_From.f k t345).bind fun t348 => ((cenotaphref08_Drop.f k t250 a2).bind fun t351 => ((cenotaphref08_Same.f k t348 t351).bind fun t354 => (if t354 = true then ((cenotaphlaw08_From.f k t262).bind fun t355 => ((cenotaphref08_Same.f k t355 t250).bind fun t358 => (some t358))) else (none))))))) = some r := by rw [if_neg (show ¬ (false = true) by decide)] at H; exact H
        clear H
        have H := H1
        clear H1
        by_cases c134 : (!(t281 == 0) || ((!(t282.toList == ([] : List UInt8)) || (!(t283 == 0) || (!(t284 == 0)))) || (t285 || (!(cxq t286.re t286.im 0 0) || (!(t287.toList == ([] : List UInt8)) || (t288)))))) = true
        ·rw [if_pos c134] at H
         exact absurd H (by simp)
        ·rw [if_neg c134] at H
         have c134b0 : (!(t281 == 0) || ((!(t282.toList == ([] : List UInt8)) || (!(t283 == 0) || (!(t284 == 0)))) || (t285 || (!(cxq t286.re t286.im 0 0) || (!(t287.toList == ([] : List UInt8)) || (t288)))))) = false := by simpa using c134
         have c134b9 : (!(t281 == 0) || ((!(t282.toList.isEmpty) || (!(t283 == 0) || (!(t284 == 0)))) || (t285 || (!(cxq t286.re t286.im 0 0) || (!(t287.toList.isEmpty) || (t288)))))) = false := by simpa using c134b0
         clear c134
         replace H := Option.bind_eq_some_iff.mp H
         obtain ⟨t345, A1350, H⟩ := H
         have A135 := Aside0.mk A1350
         clear A1350
         replace H := Option.bind_eq_some_iff.mp H
         obtain ⟨t348, A1360, H⟩ := H
         have A136 := Aside0.mk A1360
         clear A1360
         replace H := Option.bind_eq_some_iff.mp H
         obtain ⟨t351, A1370, H⟩ := H
         have A137 := Aside0.mk A1370
         clear A1370
         replace H := Option.bind_eq_some_iff.mp H
         obtain ⟨t354, A1380, H⟩ := H
         have A138 := Aside0.mk A1380
         clear A1380
         by_cases c139 : t354 = true
         ·subst c139
          have H1 : ((cenotaphlaw08_From.f k t262).bind fun t355 => ((cenotaphref08_Same.f k t355 t250).bind fun t358 => (some t358))) = some r := by rw [if_pos rfl] at H; exact H
          clear H
          have H := H1
          clear H1
          replace H := Option.bind_eq_some_iff.mp H
          obtain ⟨t355, A1400, H⟩ := H
          have A140 := Aside0.mk A1400
          clear A1400
          replace H := Option.bind_eq_some_iff.mp H
          obtain ⟨t358, A1410, H⟩ := H
          have A141 := Aside0.mk A1410
          clear A1410
          obtain rfl := Option.some.inj H
          go_enter Try.func3, Try.ntmps3
          try go_wp2_with (first | ((with_reducible refine gate_dst (N := 4) rfl ?_); refine box_event ?hg (N := 4) ?hd (cs := #[.int .i64 a1_0, .string a1_1, .int .i64 a1_2, .int .i64 a1_3, .bool a1_4, .int .i64 a1_5, .int .i64 a1_6, .string a1_7, .bool a1_8]) (t := 28) ?hr ?_; (case hd => rfl); (case hg => rfl); (case hr => first | (go_simp; done) | (go_simp; rfl)); intro gb249 hg w142 hbox hb; have BK249 := Aside0.mk (hbox); have GW249 := Aside0.mk ((zq3x_16 : w.heap.size ≤ gb249)); have GE249 := Aside0.mk ((zq3x_16 : w.heap.size ≤ gb249)); replace HB := Aside0.mk (below_step zq3x_19 hb); clear hb hbox hg))
          replace BK249 := Aside0.mk (blk_drew BK249.out)
          replace HB := Aside0.mk (below_drew1 HB.out)
          refine start_ (n := 6) (S := fun w' => w'.cell? ⟨gb249, 0, none⟩ = some (.int .i64 a1_0) ∧ w'.cell? ⟨gb249, 1, none⟩ = some (.string a1_1) ∧ w'.cell? ⟨gb249, 2, none⟩ = some (.int .i64 a1_2) ∧ w'.cell? ⟨gb249, 3, none⟩ = some (.int .i64 a1_3) ∧ w'.cell? ⟨gb249, 4, none⟩ = some (.bool a1_4) ∧ w'.cell? ⟨gb249, 5, none⟩ = some (.int .i64 a1_5) ∧ w'.cell? ⟨gb249, 6, none⟩ = some (.int .i64 a1_6) ∧ w'.cell? ⟨gb249, 7, none⟩ = some (.string a1_7) ∧ w'.cell? ⟨gb249, 8, none⟩ = some (.bool a1_8)) (ds := [5]) #[bF3, bF3, bF3, bF3, bF3, bF3] (by kernel_rfl) rfl rfl ⟨(blk_cell BK249.out 0).trans rfl, (blk_cell BK249.out 1).trans rfl, (blk_cell BK249.out 2).trans rfl, (blk_cell BK249.out 3).trans rfl, (blk_cell BK249.out 4).trans rfl, (blk_cell BK249.out 5).trans rfl, (blk_cell BK249.out 6).trans rfl, (blk_cell BK249.out 7).trans rfl, (blk_cell BK249.out 8).trans rfl⟩ (fun hHeld => ?_)
          generalize w142.drew = w143 at BK249 HB hHeld ⊢
          refine p_ 0 16 (mk_ 6 0x1) ?_
          refine t_ 2 18 (mk_ 6 0x5) hHeld ?_
          refine one_ (i := 1) (N := some 17) #[bT3, bT3, bT3, bF3, bF3, bF3] rfl rfl (by kernel_rfl) (by decide) (fun K hK => ?_)
          refine goes_ Try.func8 (by kernel_rfl) rfl #[.slice A0 l0.length c0] (by rfl) rfl rfl zq3x_18 ?_
          with_reducible refine (cenotaphref08_Fix.calls k _ _ l0 t250 _ ?side1 ?side2 A4.out).mono ?_
          (case side1 => repeat (first | exact (Kd.C_below HR0.out HB.out) | (with_reducible refine Kd.C_alloc ?_ _) | (with_reducible refine Kd.C_drewN ?_ _) | (with_reducible refine Kd.C_drew ?_)))
          (case side2 => exact HC0.out)
          rintro e w144 ⟨v251, rfl, ho0, hb⟩
          refine ⟨_, rfl, ?_⟩
          have HO252 := Aside0.mk (Kd.R_lower (Kd.R_newB ho0 (g := gb249) (o := .cells #[.int .i64 a1_0, .string a1_1, .int .i64 a1_2, .int .i64 a1_3, .bool a1_4, .int .i64 a1_5, .int .i64 a1_6, .string a1_7, .bool a1_8] 28 (0, 0)) zq3x_20) (below_size zq3x_17))
          replace BK249 := Aside0.mk (blk_below (g := gb249) (o := .cells #[.int .i64 a1_0, .string a1_1, .int .i64 a1_2, .int .i64 a1_3, .bool a1_4, .int .i64 a1_5, .int .i64 a1_6, .string a1_7, .bool a1_8] 28 (0, 0)) zq3x_20 hb)
          replace HB := Aside0.mk (below_step zq3x_17 hb)
          (try clear hb)
          (try clear hb2)
          (try clear hk)
          (try clear hi)
          (try clear ho0)
          refine hK.out _ _ ⟨(blk_cell BK249.out 0).trans rfl, (blk_cell BK249.out 1).trans rfl, (blk_cell BK249.out 2).trans rfl, (blk_cell BK249.out 3).trans rfl, (blk_cell BK249.out 4).trans rfl, (blk_cell BK249.out 5).trans rfl, (blk_cell BK249.out 6).trans rfl, (blk_cell BK249.out 7).trans rfl, (blk_cell BK249.out 8).trans rfl⟩ (fun hHeld => ?_)
          clear hK K
          refine norm_ (a' := ?_) ?_ ?_
          rotate_left
          ·show Act.put _ (some 17) _ = _
           simp only [Act.put, List.setIfInBounds_toArray, List.set_cons_zero, List.set_cons_succ, i64_w, i32_w]
           rfl
          refine one_ (i := 3) (N := some 19) #[bT3, bT3, bT3, bT3, bF3, bF3] rfl rfl (by kernel_rfl) (by decide) (fun K hK => ?_)
          refine goes_ Try.func9 (by kernel_rfl) rfl #[.agg #[.int .i64 a1_0, .string a1_1, .int .i64 a1_2, .int .i64 a1_3, .bool a1_4, .int .i64 a1_5, .int .i64 a1_6, .string a1_7, .bool a1_8]] (by rfl) rfl rfl zq3x_18 ?_
          with_reducible refine (cenotaphref07_Fix.calls k a1_0 a1_1 a1_2 a1_3 a1_4 a1_5 a1_6 a1_7 a1_8 t253 t254 t255 t256 t257 t258 t259 t260 t261 _ A5.out).mono ?_
          rintro e w145 ⟨rfl, hb⟩
          refine ⟨_, rfl, ?_⟩
          replace HO252 := Aside0.mk (Kd.R_below zq3x_23 hb)
          replace BK249 := Aside0.mk (blk_below (g := gb249) (o := .cells #[.int .i64 a1_0, .string a1_1, .int .i64 a1_2, .int .i64 a1_3, .bool a1_4, .int .i64 a1_5, .int .i64 a1_6, .string a1_7, .bool a1_8] 28 (0, 0)) zq3x_20 hb)
          replace HB := Aside0.mk (below_step zq3x_17 hb)
          (try clear hb)
          (try clear hb2)
          (try clear hk)
          (try clear hi)
          refine hK.out _ _ ⟨(blk_cell BK249.out 0).trans rfl, (blk_cell BK249.out 1).trans rfl, (blk_cell BK249.out 2).trans rfl, (blk_cell BK249.out 3).trans rfl, (blk_cell BK249.out 4).trans rfl, (blk_cell BK249.out 5).trans rfl, (blk_cell BK249.out 6).trans rfl, (blk_cell BK249.out 7).trans rfl, (blk_cell BK249.out 8).trans rfl⟩ (fun hHeld => ?_)
          clear hK K
          refine norm_ (a' := ?_) ?_ ?_
          rotate_left
          ·show Act.put _ (some 19) _ = _
           simp only [Act.put, List.setIfInBounds_toArray, List.set_cons_zero, List.set_cons_succ, i64_w, i32_w]
           rfl
          refine p_ 4 0 (mk_ 6 0x1f) ?_
          refine last_ (i := 5) (N := none) #[bT3, bT3, bT3, bT3, bT3, bT3] rfl rfl (by kernel_rfl) (by decide) (fun K hK => ?_)
          have hs146 : w145.cell? ⟨gb249, 0, none⟩ = some (.int .i64 a1_0) := (blk_cell BK249.out 0).trans rfl
          have hfs146 := blk_frozen BK249.out 0
          have hs147 : w145.cell? ⟨gb249, 1, none⟩ = some (.string a1_1) := (blk_cell BK249.out 1).trans rfl
          have hfs147 := blk_frozen BK249.out 1
          have hs148 : w145.cell? ⟨gb249, 2, none⟩ = some (.int .i64 a1_2) := (blk_cell BK249.out 2).trans rfl
          have hfs148 := blk_frozen BK249.out 2
          have hs149 : w145.cell? ⟨gb249, 3, none⟩ = some (.int .i64 a1_3) := (blk_cell BK249.out 3).trans rfl
          have hfs149 := blk_frozen BK249.out 3
          have hs150 : w145.cell? ⟨gb249, 4, none⟩ = some (.bool a1_4) := (blk_cell BK249.out 4).trans rfl
          have hfs150 := blk_frozen BK249.out 4
          have hs151 : w145.cell? ⟨gb249, 5, none⟩ = some (.int .i64 a1_5) := (blk_cell BK249.out 5).trans rfl
          have hfs151 := blk_frozen BK249.out 5
          have hs152 : w145.cell? ⟨gb249, 6, none⟩ = some (.int .i64 a1_6) := (blk_cell BK249.out 6).trans rfl
          have hfs152 := blk_frozen BK249.out 6
          have hs153 : w145.cell? ⟨gb249, 7, none⟩ = some (.string a1_7) := (blk_cell BK249.out 7).trans rfl
          have hfs153 := blk_frozen BK249.out 7
          have hs154 : w145.cell? ⟨gb249, 8, none⟩ = some (.bool a1_8) := (blk_cell BK249.out 8).trans rfl
          have hfs154 := blk_frozen BK249.out 8
          refine skip_ (w1 := ?_) (by rfl) rfl ?_ ?_
          rotate_left
          ·go_simp
           rfl
          refine hK.out _ _ ?_
          clear hK K
          refine done_ (by kernel_rfl) ?_
          obtain ⟨Ao155, co155, eo155⟩ := Kd.R_slice HO252.out
          subst eo155
          try go_wp2_with (first | ((with_reducible refine gate_callee (f := 10) rfl ?_); refine goesL_ (some 21) rfl rfl Try.func10 (by kernel_rfl) rfl #[.slice Ao155 t250.length co155] rfl zq3x_18 ?_; (with_reducible refine (cenotaphlaw08_To.calls k _ _ t250 t262 _ ?side1 ?side2 A6.out).mono ?_); (case side1 => refine (Kd.R_reads' (e := 28) (base := w.heap.size) (ok := fun k_ => (True ∧ k_ ≠ gb249)) (n := t250.length) (c := co155) ?_).2.2; exact zq3x_3); (case side2 => exact (Kd.R_reads' HO252.out).2.1); rintro e w156 ⟨v263, rfl, ho0, hb⟩; refine ⟨_, rfl, ?_⟩; replace HO252 := Aside0.mk (Kd.R_below zq3x_3 hb); have HO264 := Aside0.mk (Kd.R_lower ho0 (below_size zq3x_17)); replace BK249 := Aside0.mk (blk_below (g := gb249) (o := .cells #[.int .i64 t253, .string t254, .int .i64 t255, .int .i64 t256, .bool t257, .int .i64 t258, .int .i64 t259, .string t260, .bool t261] 28 (0, 0)) zq3x_0 hb); replace HB := Aside0.mk (below_step zq3x_17 hb); (try clear hb); (try clear hb2); (try clear hk); (try clear hi); (try clear ho0); have hcz157_0 : w156.cell? ⟨gb249, 0, none⟩ = some (.int .i64 t253) := (blk_cell BK249.out 0).trans rfl; have hcz157_1 : w156.cell? ⟨gb249, 1, none⟩ = some (.string t254) := (blk_cell BK249.out 1).trans rfl; have hcz157_2 : w156.cell? ⟨gb249, 2, none⟩ = some (.int .i64 t255) := (blk_cell BK249.out 2).trans rfl; have hcz157_3 : w156.cell? ⟨gb249, 3, none⟩ = some (.int .i64 t256) := (blk_cell BK249.out 3).trans rfl; have hcz157_4 : w156.cell? ⟨gb249, 4, none⟩ = some (.bool t257) := (blk_cell BK249.out 4).trans rfl; have hcz157_5 : w156.cell? ⟨gb249, 5, none⟩ = some (.int .i64 t258) := (blk_cell BK249.out 5).trans rfl; have hcz157_6 : w156.cell? ⟨gb249, 6, none⟩ = some (.int .i64 t259) := (blk_cell BK249.out 6).trans rfl; have hcz157_7 : w156.cell? ⟨gb249, 7, none⟩ = some (.string t260) := (blk_cell BK249.out 7).trans rfl; have hcz157_8 : w156.cell? ⟨gb249, 8, none⟩ = some (.bool t261) := (blk_cell BK249.out 8).trans rfl; have hfz157_0 := blk_frozen BK249.out 0; have hfz157_1 := blk_frozen BK249.out 1; have hfz157_2 := blk_frozen BK249.out 2; have hfz157_3 := blk_frozen BK249.out 3; have hfz157_4 := blk_frozen BK249.out 4; have hfz157_5 := blk_frozen BK249.out 5; have hfz157_6 := blk_frozen BK249.out 6; have hfz157_7 := blk_frozen BK249.out 7; have hfz157_8 := blk_frozen BK249.out 8) | ((with_reducible refine gate_callee (f := 12) rfl ?_); refine goesL_ (some 25) rfl rfl Try.func12 (by kernel_rfl) rfl #[.agg #[.int .i64 t253, .string t254, .int .i64 t255, .int .i64 t256, .bool t257, .int .i64 t258, .int .i64 t259, .string t260, .bool t261]] rfl zq3x_18 ?_; (with_reducible refine (cenotaphlaw07_To.calls t253 t254 t255 t256 t257 t258 t259 t260 t261 t265 t266 t267 t268 t269 t270 t271 t272 _ A7.out).mono ?_); rintro e w158 ⟨rfl, hb⟩; refine ⟨_, rfl, ?_⟩; replace HO252 := Aside0.mk (Kd.R_below zq3x_23 hb); replace HO264 := Aside0.mk (Kd.R_below zq3x_24 hb); replace BK249 := Aside0.mk (blk_below (g := gb249) (o := .cells #[.int .i64 t253, .string t254, .int .i64 t255, .int .i64 t256, .bool t257, .int .i64 t258, .int .i64 t259, .string t260, .bool t261] 28 (0, 0)) zq3x_20 hb); replace HB := Aside0.mk (below_step zq3x_17 hb); (try clear hb); (try clear hb2); (try clear hk); (try clear hi); obtain ⟨Ao159, co159, eo159⟩ := Kd.R_slice HO264.out; subst eo159) | ((with_reducible refine gate_callee (f := 11) rfl ?_); refine goesL_ (some 26) rfl rfl Try.func11 (by kernel_rfl) rfl #[.slice Ao159 t262.length co159, .agg #[.int .i64 t265, .string t266, .int .i64 t267, .int .i64 t268, .bool t269, .complex .f64 t270.re t270.im, .string t271, .bool t272]] rfl zq3x_18 ?_; (with_reducible refine (store_Put.calls _ _ t262 t265 t266 t267 t268 t269 t270 t271 t272 t273 t276 _ ?side1 ?side2 A8.out).mono ?_); (case side1 => repeat (first | exact (Kd.R_reads' HO264.out).2.2 | (with_reducible refine Kd.C_alloc ?_ _) | (with_reducible refine Kd.C_drewN ?_ _) | (with_reducible refine Kd.C_drew ?_))); (case side2 => exact (Kd.R_reads' HO264.out).2.1); rintro e w160 ⟨v274, rfl, ho0, hb⟩; refine ⟨_, rfl, ?_⟩; replace HO252 := Aside0.mk (Kd.R_below zq3x_23 hb); have HO275 := Aside0.mk (Kd.R_lower (Kd.R_new' ho0 (Kd.R_lt zq3x_24)) (below_size zq3x_17)); replace HO264 := Aside0.mk (Kd.R_elder' zq3x_24 (Kd.R_base ho0) hb); replace BK249 := Aside0.mk (blk_below (g := gb249) (o := .cells #[.int .i64 t253, .string t254, .int .i64 t255, .int .i64 t256, .bool t257, .int .i64 t258, .int .i64 t259, .string t260, .bool t261] 28 (0, 0)) zq3x_20 hb); replace HB := Aside0.mk (below_step zq3x_17 hb); (try clear hb); (try clear hb2); (try clear hk); (try clear hi); (try clear ho0); have hcz161_0 : w160.cell? ⟨gb249, 0, none⟩ = some (.int .i64 t253) := (blk_cell BK249.out 0).trans rfl; have hcz161_1 : w160.cell? ⟨gb249, 1, none⟩ = some (.string t254) := (blk_cell BK249.out 1).trans rfl; have hcz161_2 : w160.cell? ⟨gb249, 2, none⟩ = some (.int .i64 t255) := (blk_cell BK249.out 2).trans rfl; have hcz161_3 : w160.cell? ⟨gb249, 3, none⟩ = some (.int .i64 t256) := (blk_cell BK249.out 3).trans rfl; have hcz161_4 : w160.cell? ⟨gb249, 4, none⟩ = some (.bool t257) := (blk_cell BK249.out 4).trans rfl; have hcz161_5 : w160.cell? ⟨gb249, 5, none⟩ = some (.int .i64 t258) := (blk_cell BK249.out 5).trans rfl; have hcz161_6 : w160.cell? ⟨gb249, 6, none⟩ = some (.int .i64 t259) := (blk_cell BK249.out 6).trans rfl; have hcz161_7 : w160.cell? ⟨gb249, 7, none⟩ = some (.string t260) := (blk_cell BK249.out 7).trans rfl; have hcz161_8 : w160.cell? ⟨gb249, 8, none⟩ = some (.bool t261) := (blk_cell BK249.out 8).trans rfl; have hfz161_0 := blk_frozen BK249.out 0; have hfz161_1 := blk_frozen BK249.out 1; have hfz161_2 := blk_frozen BK249.out 2; have hfz161_3 := blk_frozen BK249.out 3; have hfz161_4 := blk_frozen BK249.out 4; have hfz161_5 := blk_frozen BK249.out 5; have hfz161_6 := blk_frozen BK249.out 6; have hfz161_7 := blk_frozen BK249.out 7; have hfz161_8 := blk_frozen BK249.out 8) | ((with_reducible refine gate_callee (f := 13) rfl ?_); refine goesL_ (some 32) rfl rfl Try.func13 (by kernel_rfl) rfl #[.slice Ao155 t250.length co155, .agg #[.int .i64 t253, .string t254, .int .i64 t255, .int .i64 t256, .bool t257, .int .i64 t258, .int .i64 t259, .string t260, .bool t261]] rfl zq3x_18 ?_; (with_reducible refine (cenotaphref08_Put.calls k _ _ t250 t253 t254 t255 t256 t257 t258 t259 t260 t261 t277 t280 _ ?side1 ?side2 A9.out).mono ?_); (case side1 => repeat (first | exact (Kd.R_reads' HO252.out).2.2 | (with_reducible refine Kd.C_alloc ?_ _) | (with_reducible refine Kd.C_drewN ?_ _) | (with_reducible refine Kd.C_drew ?_))); (case side2 => exact (Kd.R_reads' HO252.out).2.1); rintro e w162 ⟨v278, rfl, ho0, hb⟩; refine ⟨_, rfl, ?_⟩; replace HO264 := Aside0.mk (Kd.R_below zq3x_24 hb); replace HO275 := Aside0.mk (Kd.R_below zq3x_25 hb); have HO279 := Aside0.mk (Kd.R_lower (Kd.R_newB (Kd.R_new' ho0 (Kd.R_lt zq3x_23)) (g := gb249) (o := .cells #[.int .i64 t253, .string t254, .int .i64 t255, .int .i64 t256, .bool t257, .int .i64 t258, .int .i64 t259, .string t260, .bool t261] 28 (0, 0)) zq3x_20) (below_size zq3x_17)); replace HO252 := Aside0.mk (Kd.R_elder' zq3x_23 (Kd.R_base ho0) hb); replace BK249 := Aside0.mk (blk_below (g := gb249) (o := .cells #[.int .i64 t253, .string t254, .int .i64 t255, .int .i64 t256, .bool t257, .int .i64 t258, .int .i64 t259, .string t260, .bool t261] 28 (0, 0)) zq3x_20 hb); replace HB := Aside0.mk (below_step zq3x_17 hb); (try clear hb); (try clear hb2); (try clear hk); (try clear hi); (try clear ho0)) | ((with_reducible refine gate_callee (f := 14) rfl ?_); refine goesL_ (some 38) rfl rfl Try.func14 (by kernel_rfl) rfl #[.slice Ao159 t262.length co159, .int .i64 a2] rfl zq3x_18 ?_; (with_reducible refine (store_Get.calls _ _ t262 a2 t281 t282 t283 t284 t285 t286 t287 t288 false _ ?side1 ?side2 A10.out).mono ?_); (case side1 => repeat (first | exact (Kd.R_reads' HO264.out).2.2 | (with_reducible refine Kd.C_alloc ?_ _) | (with_reducible refine Kd.C_drewN ?_ _) | (with_reducible refine Kd.C_drew ?_))); (case side2 => exact (Kd.R_reads' HO264.out).2.1); rintro e w163 ⟨rfl, hb⟩; refine ⟨_, rfl, ?_⟩; replace HO252 := Aside0.mk (Kd.R_below zq3x_23 hb); replace HO264 := Aside0.mk (Kd.R_below zq3x_24 hb); replace HO275 := Aside0.mk (Kd.R_below zq3x_25 hb); replace HO279 := Aside0.mk (Kd.R_below zq3x_26 hb); replace BK249 := Aside0.mk (blk_below (g := gb249) (o := .cells #[.int .i64 t253, .string t254, .int .i64 t255, .int .i64 t256, .bool t257, .int .i64 t258, .int .i64 t259, .string t260, .bool t261] 28 (0, 0)) zq3x_20 hb); replace HB := Aside0.mk (below_step zq3x_17 hb); (try clear hb); (try clear hb2); (try clear hk); (try clear hi)) | ((with_reducible refine gate_dst (N := 12) rfl ?_); refine box_event ?hg (N := 12) ?hd (cs := #[.int .i64 0, .string (⟨#[]⟩ : ByteArray), .int .i64 0, .int .i64 0, .bool false, .complex .f64 0 0, .string (⟨#[]⟩ : ByteArray), .bool false]) (t := 41) ?hr ?_; (case hd => rfl); (case hg => rfl); (case hr => first | (go_simp; done) | (go_simp; rfl)); intro gb290 hg w164 hbox hb; replace HO252 := Aside0.mk (Kd.R_below zq3x_23 hb); replace HO264 := Aside0.mk (Kd.R_below (Kd.R_elderB zq3x_24 gb290 (Nat.le_of_eq hg.symm)) hb); replace HO275 := Aside0.mk (Kd.R_below (Kd.R_elderB zq3x_25 gb290 (Nat.le_of_eq hg.symm)) hb); replace HO279 := Aside0.mk (Kd.R_below zq3x_26 hb); have BK290 := Aside0.mk (hbox); have GW290 := Aside0.mk ((zq3x_14 : w.heap.size ≤ gb290)); have GE290 := Aside0.mk ((zq3x_14 : w.heap.size ≤ gb290)); replace HB := Aside0.mk (below_step zq3x_17 hb); have NB249_290 := Aside0.mk ((zq3x_8 : gb249 ≠ gb290)); have NB290_249 := Aside0.mk ((zq3x_9 : gb290 ≠ gb249)); replace BK249 := Aside0.mk (blk_below (g := gb249) (o := .cells #[.int .i64 t253, .string t254, .int .i64 t255, .int .i64 t256, .bool t257, .int .i64 t258, .int .i64 t259, .string t260, .bool t261] 28 (0, 0)) zq3x_20 hb); clear hb hbox hg; have hnb165 := NB290_249.out; have hnc165 := NB249_290.out; have hcz166_0 : w164.cell? ⟨gb290, 0, none⟩ = some (.int .i64 0) := (blk_cell BK290.out 0).trans rfl; have hcz166_1 : w164.cell? ⟨gb290, 1, none⟩ = some (.string (⟨#[]⟩ : ByteArray)) := (blk_cell BK290.out 1).trans rfl; have hcz166_2 : w164.cell? ⟨gb290, 2, none⟩ = some (.int .i64 0) := (blk_cell BK290.out 2).trans rfl; have hcz166_3 : w164.cell? ⟨gb290, 3, none⟩ = some (.int .i64 0) := (blk_cell BK290.out 3).trans rfl; have hcz166_4 : w164.cell? ⟨gb290, 4, none⟩ = some (.bool false) := (blk_cell BK290.out 4).trans rfl; have hcz166_5 : w164.cell? ⟨gb290, 5, none⟩ = some (.complex .f64 0 0) := (blk_cell BK290.out 5).trans rfl; have hcz166_6 : w164.cell? ⟨gb290, 6, none⟩ = some (.string (⟨#[]⟩ : ByteArray)) := (blk_cell BK290.out 6).trans rfl; have hcz166_7 : w164.cell? ⟨gb290, 7, none⟩ = some (.bool false) := (blk_cell BK290.out 7).trans rfl; have hfz166_0 := blk_frozen BK290.out 0; have hfz166_1 := blk_frozen BK290.out 1; have hfz166_2 := blk_frozen BK290.out 2; have hfz166_3 := blk_frozen BK290.out 3; have hfz166_4 := blk_frozen BK290.out 4; have hfz166_5 := blk_frozen BK290.out 5; have hfz166_6 := blk_frozen BK290.out 6; have hfz166_7 := blk_frozen BK290.out 7) | ((with_reducible refine gate_callee (f := 15) rfl ?_); refine goesL_ (some 44) rfl rfl Try.func15 (by kernel_rfl) rfl #[.slice Ao155 t250.length co155, .int .i64 a2] rfl zq3x_18 ?_; (with_reducible refine (cenotaphref08_Get.calls k _ _ t250 a2 t291 t292 t293 t294 t295 t296 t297 t298 t299 t300 _ ?side1 ?side2 A11.out).mono ?_); (case side1 => refine (Kd.R_reads' (e := 28) (base := w.heap.size) (ok := fun k_ => ((True ∧ k_ ≠ gb249) ∧ some k_ ≠ (v278 : Value).ownBlock)) (n := t250.length) (c := co155) ?_).2.2; exact zq3x_6); (case side2 => exact (Kd.R_reads' HO252.out).2.1); rintro e w167 ⟨rfl, hb⟩; refine ⟨_, rfl, ?_⟩; replace HO252 := Aside0.mk (Kd.R_below zq3x_6 hb); replace HO264 := Aside0.mk (Kd.R_below zq3x_4 hb); replace HO275 := Aside0.mk (Kd.R_below zq3x_5 hb); replace HO279 := Aside0.mk (Kd.R_below zq3x_7 hb); replace BK249 := Aside0.mk (blk_below (g := gb249) (o := .cells #[.int .i64 t253, .string t254, .int .i64 t255, .int .i64 t256, .bool t257, .int .i64 t258, .int .i64 t259, .string t260, .bool t261] 28 (0, 0)) zq3x_2 hb); replace BK290 := Aside0.mk (blk_below (g := gb290) (o := .cells #[.int .i64 t281, .string t282, .int .i64 t283, .int .i64 t284, .bool t285, .complex .f64 t286.re t286.im, .string t287, .bool t288] 41 (0, 0)) zq3x_1 hb); replace HB := Aside0.mk (below_step zq3x_15 hb); (try clear hb); (try clear hb2); (try clear hk); (try clear hi)) | ((with_reducible refine gate_dst (N := 14) rfl ?_); refine box_event ?hg (N := 14) ?hd (cs := #[.int .i64 0, .string (⟨#[]⟩ : ByteArray), .int .i64 0, .int .i64 0, .bool false, .int .i64 0, .int .i64 0, .string (⟨#[]⟩ : ByteArray), .bool false]) (t := 28) ?hr ?_; (case hd => rfl); (case hg => rfl); (case hr => first | (go_simp; done) | (go_simp; rfl)); intro gb301 hg w168 hbox hb; replace HO252 := Aside0.mk (Kd.R_below (Kd.R_elderB zq3x_23 gb301 (Nat.le_of_eq hg.symm)) hb); replace HO264 := Aside0.mk (Kd.R_below zq3x_24 hb); replace HO275 := Aside0.mk (Kd.R_below zq3x_25 hb); replace HO279 := Aside0.mk (Kd.R_below (Kd.R_elderB zq3x_26 gb301 (Nat.le_of_eq hg.symm)) hb); have BK301 := Aside0.mk (hbox); have GW301 := Aside0.mk ((zq3x_12 : w.heap.size ≤ gb301)); have GE301 := Aside0.mk ((zq3x_12 : w.heap.size ≤ gb301)); replace HB := Aside0.mk (below_step zq3x_15 hb); have NB249_301 := Aside0.mk ((zq3x_8 : gb249 ≠ gb301)); have NB301_249 := Aside0.mk ((zq3x_9 : gb301 ≠ gb249)); replace BK249 := Aside0.mk (blk_below (g := gb249) (o := .cells #[.int .i64 t253, .string t254, .int .i64 t255, .int .i64 t256, .bool t257, .int .i64 t258, .int .i64 t259, .string t260, .bool t261] 28 (0, 0)) zq3x_20 hb); have NB290_301 := Aside0.mk ((zq3x_10 : gb290 ≠ gb301)); have NB301_290 := Aside0.mk ((zq3x_11 : gb301 ≠ gb290)); replace BK290 := Aside0.mk (blk_below (g := gb290) (o := .cells #[.int .i64 t281, .string t282, .int .i64 t283, .int .i64 t284, .bool t285, .complex .f64 t286.re t286.im, .string t287, .bool t288] 41 (0, 0)) zq3x_21 hb); clear hb hbox hg; have hnb169 := NB301_249.out; have hnc169 := NB249_301.out; have hnb170 := NB301_290.out; have hnc170 := NB290_301.out; have hcz171_0 : w168.cell? ⟨gb301, 0, none⟩ = some (.int .i64 0) := (blk_cell BK301.out 0).trans rfl; have hcz171_1 : w168.cell? ⟨gb301, 1, none⟩ = some (.string (⟨#[]⟩ : ByteArray)) := (blk_cell BK301.out 1).trans rfl; have hcz171_2 : w168.cell? ⟨gb301, 2, none⟩ = some (.int .i64 0) := (blk_cell BK301.out 2).trans rfl; have hcz171_3 : w168.cell? ⟨gb301, 3, none⟩ = some (.int .i64 0) := (blk_cell BK301.out 3).trans rfl; have hcz171_4 : w168.cell? ⟨gb301, 4, none⟩ = some (.bool false) := (blk_cell BK301.out 4).trans rfl; have hcz171_5 : w168.cell? ⟨gb301, 5, none⟩ = some (.int .i64 0) := (blk_cell BK301.out 5).trans rfl; have hcz171_6 : w168.cell? ⟨gb301, 6, none⟩ = some (.int .i64 0) := (blk_cell BK301.out 6).trans rfl; have hcz171_7 : w168.cell? ⟨gb301, 7, none⟩ = some (.string (⟨#[]⟩ : ByteArray)) := (blk_cell BK301.out 7).trans rfl; have hcz171_8 : w168.cell? ⟨gb301, 8, none⟩ = some (.bool false) := (blk_cell BK301.out 8).trans rfl; have hfz171_0 := blk_frozen BK301.out 0; have hfz171_1 := blk_frozen BK301.out 1; have hfz171_2 := blk_frozen BK301.out 2; have hfz171_3 := blk_frozen BK301.out 3; have hfz171_4 := blk_frozen BK301.out 4; have hfz171_5 := blk_frozen BK301.out 5; have hfz171_6 := blk_frozen BK301.out 6; have hfz171_7 := blk_frozen BK301.out 7; have hfz171_8 := blk_frozen BK301.out 8))
          have n0_ : Aside0 (Kd.R k28 28 (((((((((w168.setCell ⟨gb301, 0, none⟩ (.int .i64 t291)).setCell ⟨gb301, 1, none⟩ (.string t292)).setCell ⟨gb301, 2, none⟩ (.int .i64 t293)).setCell ⟨gb301, 3, none⟩ (.int .i64 t294)).setCell ⟨gb301, 4, none⟩ (.bool t295)).setCell ⟨gb301, 5, none⟩ (.int .i64 t296)).setCell ⟨gb301, 6, none⟩ (.int .i64 t297)).setCell ⟨gb301, 7, none⟩ (.string t298)).setCell ⟨gb301, 8, none⟩ (.bool t299)) w.heap.size (fun k_ => some k_ ≠ (v278 : Value).ownBlock ∧ k_ ≠ gb249 ∧ k_ ≠ gb301) (.slice Ao155 t250.length co155) t250) := ⟨by (with_reducible repeat (first | apply Kd.R_alloc | apply Kd.R_drewN | apply Kd.R_drew)); exact Kd.R_mono (Kd.R_far (p := ⟨gb301, 8, none⟩) (Kd.R_far (p := ⟨gb301, 7, none⟩) (Kd.R_far (p := ⟨gb301, 6, none⟩) (Kd.R_far (p := ⟨gb301, 5, none⟩) (Kd.R_far (p := ⟨gb301, 4, none⟩) (Kd.R_far (p := ⟨gb301, 3, none⟩) (Kd.R_far (p := ⟨gb301, 2, none⟩) (Kd.R_far (p := ⟨gb301, 1, none⟩) (Kd.R_far (p := ⟨gb301, 0, none⟩) (Kd.R_mono HO252.out (fun k_ hk => (⟨hk, hk.2⟩ : _ ∧ k_ ≠ gb301))) (fun _ hk => hk.2) (.int .i64 t291)) (fun _ hk => hk.2) (.string t292)) (fun _ hk => hk.2) (.int .i64 t293)) (fun _ hk => hk.2) (.int .i64 t294)) (fun _ hk => hk.2) (.bool t295)) (fun _ hk => hk.2) (.int .i64 t296)) (fun _ hk => hk.2) (.int .i64 t297)) (fun _ hk => hk.2) (.string t298)) (fun _ hk => hk.2) (.bool t299)) (fun _ hk => ⟨hk.1.1.2, ⟨hk.1.1.1.2, hk.1.2⟩⟩)⟩
          have n1_ : Aside0 (Kd.R k41 41 (((((((((w168.setCell ⟨gb301, 0, none⟩ (.int .i64 t291)).setCell ⟨gb301, 1, none⟩ (.string t292)).setCell ⟨gb301, 2, none⟩ (.int .i64 t293)).setCell ⟨gb301, 3, none⟩ (.int .i64 t294)).setCell ⟨gb301, 4, none⟩ (.bool t295)).setCell ⟨gb301, 5, none⟩ (.int .i64 t296)).setCell ⟨gb301, 6, none⟩ (.int .i64 t297)).setCell ⟨gb301, 7, none⟩ (.string t298)).setCell ⟨gb301, 8, none⟩ (.bool t299)) w.heap.size (fun k_ => some k_ ≠ (v274 : Value).ownBlock ∧ k_ ≠ gb290) (.slice Ao159 t262.length co159) t262) := ⟨by (with_reducible repeat (first | apply Kd.R_alloc | apply Kd.R_drewN | apply Kd.R_drew)); exact Kd.R_mono (Kd.R_far (p := ⟨gb301, 8, none⟩) (Kd.R_far (p := ⟨gb301, 7, none⟩) (Kd.R_far (p := ⟨gb301, 6, none⟩) (Kd.R_far (p := ⟨gb301, 5, none⟩) (Kd.R_far (p := ⟨gb301, 4, none⟩) (Kd.R_far (p := ⟨gb301, 3, none⟩) (Kd.R_far (p := ⟨gb301, 2, none⟩) (Kd.R_far (p := ⟨gb301, 1, none⟩) (Kd.R_far (p := ⟨gb301, 0, none⟩) (Kd.R_types HO264.out BK301.out (by decide)) (fun _ hk => hk.2) (.int .i64 t291)) (fun _ hk => hk.2) (.string t292)) (fun _ hk => hk.2) (.int .i64 t293)) (fun _ hk => hk.2) (.int .i64 t294)) (fun _ hk => hk.2) (.bool t295)) (fun _ hk => hk.2) (.int .i64 t296)) (fun _ hk => hk.2) (.int .i64 t297)) (fun _ hk => hk.2) (.string t298)) (fun _ hk => hk.2) (.bool t299)) (fun _ hk => ⟨hk.1.1.2, hk.1.2⟩)⟩
          have n2_ : Aside0 (Kd.R k41 41 (((((((((w168.setCell ⟨gb301, 0, none⟩ (.int .i64 t291)).setCell ⟨gb301, 1, none⟩ (.string t292)).setCell ⟨gb301, 2, none⟩ (.int .i64 t293)).setCell ⟨gb301, 3, none⟩ (.int .i64 t294)).setCell ⟨gb301, 4, none⟩ (.bool t295)).setCell ⟨gb301, 5, none⟩ (.int .i64 t296)).setCell ⟨gb301, 6, none⟩ (.int .i64 t297)).setCell ⟨gb301, 7, none⟩ (.string t298)).setCell ⟨gb301, 8, none⟩ (.bool t299)) w.heap.size (fun k_ => some k_ ≠ (.slice Ao159 t262.length co159 : Value).ownBlock ∧ k_ ≠ gb290) v274 t273) := ⟨by (with_reducible repeat (first | apply Kd.R_alloc | apply Kd.R_drewN | apply Kd.R_drew)); exact Kd.R_mono (Kd.R_far (p := ⟨gb301, 8, none⟩) (Kd.R_far (p := ⟨gb301, 7, none⟩) (Kd.R_far (p := ⟨gb301, 6, none⟩) (Kd.R_far (p := ⟨gb301, 5, none⟩) (Kd.R_far (p := ⟨gb301, 4, none⟩) (Kd.R_far (p := ⟨gb301, 3, none⟩) (Kd.R_far (p := ⟨gb301, 2, none⟩) (Kd.R_far (p := ⟨gb301, 1, none⟩) (Kd.R_far (p := ⟨gb301, 0, none⟩) (Kd.R_types HO275.out BK301.out (by decide)) (fun _ hk => hk.2) (.int .i64 t291)) (fun _ hk => hk.2) (.string t292)) (fun _ hk => hk.2) (.int .i64 t293)) (fun _ hk => hk.2) (.int .i64 t294)) (fun _ hk => hk.2) (.bool t295)) (fun _ hk => hk.2) (.int .i64 t296)) (fun _ hk => hk.2) (.int .i64 t297)) (fun _ hk => hk.2) (.string t298)) (fun _ hk => hk.2) (.bool t299)) (fun _ hk => ⟨hk.1.1.2, hk.1.2⟩)⟩
          have n3_ : Aside0 (Kd.R k28 28 (((((((((w168.setCell ⟨gb301, 0, none⟩ (.int .i64 t291)).setCell ⟨gb301, 1, none⟩ (.string t292)).setCell ⟨gb301, 2, none⟩ (.int .i64 t293)).setCell ⟨gb301, 3, none⟩ (.int .i64 t294)).setCell ⟨gb301, 4, none⟩ (.bool t295)).setCell ⟨gb301, 5, none⟩ (.int .i64 t296)).setCell ⟨gb301, 6, none⟩ (.int .i64 t297)).setCell ⟨gb301, 7, none⟩ (.string t298)).setCell ⟨gb301, 8, none⟩ (.bool t299)) w.heap.size (fun k_ => some k_ ≠ (.slice Ao155 t250.length co155 : Value).ownBlock ∧ k_ ≠ gb249 ∧ k_ ≠ gb301) v278 t277) := ⟨by (with_reducible repeat (first | apply Kd.R_alloc | apply Kd.R_drewN | apply Kd.R_drew)); exact Kd.R_mono (Kd.R_far (p := ⟨gb301, 8, none⟩) (Kd.R_far (p := ⟨gb301, 7, none⟩) (Kd.R_far (p := ⟨gb301, 6, none⟩) (Kd.R_far (p := ⟨gb301, 5, none⟩) (Kd.R_far (p := ⟨gb301, 4, none⟩) (Kd.R_far (p := ⟨gb301, 3, none⟩) (Kd.R_far (p := ⟨gb301, 2, none⟩) (Kd.R_far (p := ⟨gb301, 1, none⟩) (Kd.R_far (p := ⟨gb301, 0, none⟩) (Kd.R_mono HO279.out (fun k_ hk => (⟨hk, hk.2⟩ : _ ∧ k_ ≠ gb301))) (fun _ hk => hk.2) (.int .i64 t291)) (fun _ hk => hk.2) (.string t292)) (fun _ hk => hk.2) (.int .i64 t293)) (fun _ hk => hk.2) (.int .i64 t294)) (fun _ hk => hk.2) (.bool t295)) (fun _ hk => hk.2) (.int .i64 t296)) (fun _ hk => hk.2) (.int .i64 t297)) (fun _ hk => hk.2) (.string t298)) (fun _ hk => hk.2) (.bool t299)) (fun _ hk => ⟨hk.1.1.1.2, ⟨hk.1.1.2, hk.1.2⟩⟩)⟩
          have n4_ : Aside0 ((((((((((w168.setCell ⟨gb301, 0, none⟩ (.int .i64 t291)).setCell ⟨gb301, 1, none⟩ (.string t292)).setCell ⟨gb301, 2, none⟩ (.int .i64 t293)).setCell ⟨gb301, 3, none⟩ (.int .i64 t294)).setCell ⟨gb301, 4, none⟩ (.bool t295)).setCell ⟨gb301, 5, none⟩ (.int .i64 t296)).setCell ⟨gb301, 6, none⟩ (.int .i64 t297)).setCell ⟨gb301, 7, none⟩ (.string t298)).setCell ⟨gb301, 8, none⟩ (.bool t299)).heap[gb249]? = some (.cells #[.int .i64 t253, .string t254, .int .i64 t255, .int .i64 t256, .bool t257, .int .i64 t258, .int .i64 t259, .string t260, .bool t261] 28 (0, 0))) := ⟨by (with_reducible repeat (first | refine blk_drewN ?_ _ | refine blk_drew ?_ | refine blk_alloc ?_ _)); refine blk_far ?_ NB249_301.out _; (with_reducible repeat (first | refine blk_drewN ?_ _ | refine blk_drew ?_ | refine blk_alloc ?_ _)); refine blk_far ?_ NB249_301.out _; (with_reducible repeat (first | refine blk_drewN ?_ _ | refine blk_drew ?_ | refine blk_alloc ?_ _)); refine blk_far ?_ NB249_301.out _; (with_reducible repeat (first | refine blk_drewN ?_ _ | refine blk_drew ?_ | refine blk_alloc ?_ _)); refine blk_far ?_ NB249_301.out _; (with_reducible repeat (first | refine blk_drewN ?_ _ | refine blk_drew ?_ | refine blk_alloc ?_ _)); refine blk_far ?_ NB249_301.out _; (with_reducible repeat (first | refine blk_drewN ?_ _ | refine blk_drew ?_ | refine blk_alloc ?_ _)); refine blk_far ?_ NB249_301.out _; (with_reducible repeat (first | refine blk_drewN ?_ _ | refine blk_drew ?_ | refine blk_alloc ?_ _)); refine blk_far ?_ NB249_301.out _; (with_reducible repeat (first | refine blk_drewN ?_ _ | refine blk_drew ?_ | refine blk_alloc ?_ _)); refine blk_far ?_ NB249_301.out _; (with_reducible repeat (first | refine blk_drewN ?_ _ | refine blk_drew ?_ | refine blk_alloc ?_ _)); refine blk_far ?_ NB249_301.out _; (with_reducible repeat (first | refine blk_drewN ?_ _ | refine blk_drew ?_ | refine blk_alloc ?_ _)); exact BK249.out⟩
          have n5_ : Aside0 ((((((((((w168.setCell ⟨gb301, 0, none⟩ (.int .i64 t291)).setCell ⟨gb301, 1, none⟩ (.string t292)).setCell ⟨gb301, 2, none⟩ (.int .i64 t293)).setCell ⟨gb301, 3, none⟩ (.int .i64 t294)).setCell ⟨gb301, 4, none⟩ (.bool t295)).setCell ⟨gb301, 5, none⟩ (.int .i64 t296)).setCell ⟨gb301, 6, none⟩ (.int .i64 t297)).setCell ⟨gb301, 7, none⟩ (.string t298)).setCell ⟨gb301, 8, none⟩ (.bool t299)).heap[gb290]? = some (.cells #[.int .i64 t281, .string t282, .int .i64 t283, .int .i64 t284, .bool t285, .complex .f64 t286.re t286.im, .string t287, .bool t288] 41 (0, 0))) := ⟨by (with_reducible repeat (first | refine blk_drewN ?_ _ | refine blk_drew ?_ | refine blk_alloc ?_ _)); refine blk_far ?_ NB290_301.out _; (with_reducible repeat (first | refine blk_drewN ?_ _ | refine blk_drew ?_ | refine blk_alloc ?_ _)); refine blk_far ?_ NB290_301.out _; (with_reducible repeat (first | refine blk_drewN ?_ _ | refine blk_drew ?_ | refine blk_alloc ?_ _)); refine blk_far ?_ NB290_301.out _; (with_reducible repeat (first | refine blk_drewN ?_ _ | refine blk_drew ?_ | refine blk_alloc ?_ _)); refine blk_far ?_ NB290_301.out _; (with_reducible repeat (first | refine blk_drewN ?_ _ | refine blk_drew ?_ | refine blk_alloc ?_ _)); refine blk_far ?_ NB290_301.out _; (with_reducible repeat (first | refine blk_drewN ?_ _ | refine blk_drew ?_ | refine blk_alloc ?_ _)); refine blk_far ?_ NB290_301.out _; (with_reducible repeat (first | refine blk_drewN ?_ _ | refine blk_drew ?_ | refine blk_alloc ?_ _)); refine blk_far ?_ NB290_301.out _; (with_reducible repeat (first | refine blk_drewN ?_ _ | refine blk_drew ?_ | refine blk_alloc ?_ _)); refine blk_far ?_ NB290_301.out _; (with_reducible repeat (first | refine blk_drewN ?_ _ | refine blk_drew ?_ | refine blk_alloc ?_ _)); refine blk_far ?_ NB290_301.out _; (with_reducible repeat (first | refine blk_drewN ?_ _ | refine blk_drew ?_ | refine blk_alloc ?_ _)); exact BK290.out⟩
          have n6_ : Aside0 ((((((((((w168.setCell ⟨gb301, 0, none⟩ (.int .i64 t291)).setCell ⟨gb301, 1, none⟩ (.string t292)).setCell ⟨gb301, 2, none⟩ (.int .i64 t293)).setCell ⟨gb301, 3, none⟩ (.int .i64 t294)).setCell ⟨gb301, 4, none⟩ (.bool t295)).setCell ⟨gb301, 5, none⟩ (.int .i64 t296)).setCell ⟨gb301, 6, none⟩ (.int .i64 t297)).setCell ⟨gb301, 7, none⟩ (.string t298)).setCell ⟨gb301, 8, none⟩ (.bool t299)).heap[gb301]? = some (.cells #[.int .i64 t291, .string t292, .int .i64 t293, .int .i64 t294, .bool t295, .int .i64 t296, .int .i64 t297, .string t298, .bool t299] 28 (0, 0))) := ⟨by (with_reducible repeat (first | refine blk_drewN ?_ _ | refine blk_drew ?_ | refine blk_alloc ?_ _)); refine blk_put (cs := #[.int .i64 t291, .string t292, .int .i64 t293, .int .i64 t294, .bool t295, .int .i64 t296, .int .i64 t297, .string t298, .bool false]) ?_ 8 _ rfl; (with_reducible repeat (first | refine blk_drewN ?_ _ | refine blk_drew ?_ | refine blk_alloc ?_ _)); refine blk_put (cs := #[.int .i64 t291, .string t292, .int .i64 t293, .int .i64 t294, .bool t295, .int .i64 t296, .int .i64 t297, .string (⟨#[]⟩ : ByteArray), .bool false]) ?_ 7 _ rfl; (with_reducible repeat (first | refine blk_drewN ?_ _ | refine blk_drew ?_ | refine blk_alloc ?_ _)); refine blk_put (cs := #[.int .i64 t291, .string t292, .int .i64 t293, .int .i64 t294, .bool t295, .int .i64 t296, .int .i64 0, .string (⟨#[]⟩ : ByteArray), .bool false]) ?_ 6 _ rfl; (with_reducible repeat (first | refine blk_drewN ?_ _ | refine blk_drew ?_ | refine blk_alloc ?_ _)); refine blk_put (cs := #[.int .i64 t291, .string t292, .int .i64 t293, .int .i64 t294, .bool t295, .int .i64 0, .int .i64 0, .string (⟨#[]⟩ : ByteArray), .bool false]) ?_ 5 _ rfl; (with_reducible repeat (first | refine blk_drewN ?_ _ | refine blk_drew ?_ | refine blk_alloc ?_ _)); refine blk_put (cs := #[.int .i64 t291, .string t292, .int .i64 t293, .int .i64 t294, .bool false, .int .i64 0, .int .i64 0, .string (⟨#[]⟩ : ByteArray), .bool false]) ?_ 4 _ rfl; (with_reducible repeat (first | refine blk_drewN ?_ _ | refine blk_drew ?_ | refine blk_alloc ?_ _)); refine blk_put (cs := #[.int .i64 t291, .string t292, .int .i64 t293, .int .i64 0, .bool false, .int .i64 0, .int .i64 0, .string (⟨#[]⟩ : ByteArray), .bool false]) ?_ 3 _ rfl; (with_reducible repeat (first | refine blk_drewN ?_ _ | refine blk_drew ?_ | refine blk_alloc ?_ _)); refine blk_put (cs := #[.int .i64 t291, .string t292, .int .i64 0, .int .i64 0, .bool false, .int .i64 0, .int .i64 0, .string (⟨#[]⟩ : ByteArray), .bool false]) ?_ 2 _ rfl; (with_reducible repeat (first | refine blk_drewN ?_ _ | refine blk_drew ?_ | refine blk_alloc ?_ _)); refine blk_put (cs := #[.int .i64 t291, .string (⟨#[]⟩ : ByteArray), .int .i64 0, .int .i64 0, .bool false, .int .i64 0, .int .i64 0, .string (⟨#[]⟩ : ByteArray), .bool false]) ?_ 1 _ rfl; (with_reducible repeat (first | refine blk_drewN ?_ _ | refine blk_drew ?_ | refine blk_alloc ?_ _)); refine blk_put (cs := #[.int .i64 0, .string (⟨#[]⟩ : ByteArray), .int .i64 0, .int .i64 0, .bool false, .int .i64 0, .int .i64 0, .string (⟨#[]⟩ : ByteArray), .bool false]) ?_ 0 _ rfl; (with_reducible repeat (first | refine blk_drewN ?_ _ | refine blk_drew ?_ | refine blk_alloc ?_ _)); exact BK301.out⟩
          have n7_ : Aside0 (Below w.heap.size w (((((((((w168.setCell ⟨gb301, 0, none⟩ (.int .i64 t291)).setCell ⟨gb301, 1, none⟩ (.string t292)).setCell ⟨gb301, 2, none⟩ (.int .i64 t293)).setCell ⟨gb301, 3, none⟩ (.int .i64 t294)).setCell ⟨gb301, 4, none⟩ (.bool t295)).setCell ⟨gb301, 5, none⟩ (.int .i64 t296)).setCell ⟨gb301, 6, none⟩ (.int .i64 t297)).setCell ⟨gb301, 7, none⟩ (.string t298)).setCell ⟨gb301, 8, none⟩ (.bool t299))) := ⟨by repeat (first | (with_reducible first | exact HB.out | apply below_alloc | apply pw_below_drewN | apply below_drew1 | refine below_set ?_ GE249.out | refine below_set ?_ GE290.out | refine below_set ?_ GE301.out) | exact HB.out)⟩
          (try clear HO252)
          (try clear HO264)
          (try clear HO275)
          (try clear HO279)
          (try clear BK249)
          (try clear BK290)
          (try clear BK301)
          (try clear HB)
          generalize (((((((((w168.setCell ⟨gb301, 0, none⟩ (.int .i64 t291)).setCell ⟨gb301, 1, none⟩ (.string t292)).setCell ⟨gb301, 2, none⟩ (.int .i64 t293)).setCell ⟨gb301, 3, none⟩ (.int .i64 t294)).setCell ⟨gb301, 4, none⟩ (.bool t295)).setCell ⟨gb301, 5, none⟩ (.int .i64 t296)).setCell ⟨gb301, 6, none⟩ (.int .i64 t297)).setCell ⟨gb301, 7, none⟩ (.string t298)).setCell ⟨gb301, 8, none⟩ (.bool t299)) = w172 at n0_ n1_ n2_ n3_ n4_ n5_ n6_ n7_ ⊢
          have HO252 := n0_
          have HO264 := n1_
          have HO275 := n2_
          have HO279 := n3_
          have BK249 := n4_
          have BK290 := n5_
          have BK301 := n6_
          have HB := n7_
          clear n0_ n1_ n2_ n3_ n4_ n5_ n6_ n7_
          replace HO252 := Aside0.mk (Kd.R_drew HO252.out)
          replace HO264 := Aside0.mk (Kd.R_drew HO264.out)
          replace HO275 := Aside0.mk (Kd.R_drew HO275.out)
          replace HO279 := Aside0.mk (Kd.R_drew HO279.out)
          replace BK249 := Aside0.mk (blk_drew BK249.out)
          replace BK290 := Aside0.mk (blk_drew BK290.out)
          replace BK301 := Aside0.mk (blk_drew BK301.out)
          replace HB := Aside0.mk (below_drew1 HB.out)
          refine start_ (n := 42) (S := fun w' => w'.cell? ⟨gb290, 0, none⟩ = some (.int .i64 t281) ∧ w'.cell? ⟨gb290, 1, none⟩ = some (.string t282) ∧ w'.cell? ⟨gb290, 2, none⟩ = some (.int .i64 t283) ∧ w'.cell? ⟨gb290, 3, none⟩ = some (.int .i64 t284) ∧ w'.cell? ⟨gb290, 4, none⟩ = some (.bool t285) ∧ w'.cell? ⟨gb290, 5, none⟩ = some (.complex .f64 t286.re t286.im) ∧ w'.cell? ⟨gb290, 6, none⟩ = some (.string t287) ∧ w'.cell? ⟨gb290, 7, none⟩ = some (.bool t288) ∧ w'.cell? ⟨gb301, 0, none⟩ = some (.int .i64 t291) ∧ w'.cell? ⟨gb301, 1, none⟩ = some (.string t292) ∧ w'.cell? ⟨gb301, 2, none⟩ = some (.int .i64 t293) ∧ w'.cell? ⟨gb301, 3, none⟩ = some (.int .i64 t294) ∧ w'.cell? ⟨gb301, 4, none⟩ = some (.bool t295) ∧ w'.cell? ⟨gb301, 5, none⟩ = some (.int .i64 t296) ∧ w'.cell? ⟨gb301, 6, none⟩ = some (.int .i64 t297) ∧ w'.cell? ⟨gb301, 7, none⟩ = some (.string t298) ∧ w'.cell? ⟨gb301, 8, none⟩ = some (.bool t299)) (ds := []) #[bF3, bF3, bF3, bF3, bF3, bF3, bF3, bF3, bF3, bF3, bF3, bF3, bF3, bF3, bF3, bF3, bF3, bF3, bF3, bF3, bF3, bF3, bF3, bF3, bF3, bF3, bF3, bF3, bF3, bF3, bF3, bF3, bF3, bF3, bF3, bF3, bF3, bF3, bF3, bF3, bF3, bF3] (by kernel_rfl) rfl rfl ⟨(blk_cell BK290.out 0).trans rfl, (blk_cell BK290.out 1).trans rfl, (blk_cell BK290.out 2).trans rfl, (blk_cell BK290.out 3).trans rfl, (blk_cell BK290.out 4).trans rfl, (blk_cell BK290.out 5).trans rfl, (blk_cell BK290.out 6).trans rfl, (blk_cell BK290.out 7).trans rfl, (blk_cell BK301.out 0).trans rfl, (blk_cell BK301.out 1).trans rfl, (blk_cell BK301.out 2).trans rfl, (blk_cell BK301.out 3).trans rfl, (blk_cell BK301.out 4).trans rfl, (blk_cell BK301.out 5).trans rfl, (blk_cell BK301.out 6).trans rfl, (blk_cell BK301.out 7).trans rfl, (blk_cell BK301.out 8).trans rfl⟩ (fun hHeld => ?_); refine with_tabW cenotaphlaw08_StorePuts.tab7 cenotaphlaw08_StorePuts.bits7 (fun HT_ HW_ => ?_)
          generalize w172.drew = w173 at HO252 HO264 HO275 HO279 BK249 BK290 BK301 HB hHeld ⊢
          refine one_ (i := 0) (N := some 47) #[bT3, bF3, bF3, bF3, bF3, bF3, bF3, bF3, bF3, bF3, bF3, bF3, bF3, bF3, bF3, bF3, bF3, bF3, bF3, bF3, bF3, bF3, bF3, bF3, bF3, bF3, bF3, bF3, bF3, bF3, bF3, bF3, bF3, bF3, bF3, bF3, bF3, bF3, bF3, bF3, bF3, bF3] rfl rfl (one_of HT_.out (by kernel_rfl)) (by decide) (fun K hK => ?_)
          refine goes_ Try.func16 (by kernel_rfl) rfl #[] (by rfl) rfl rfl zq3x_18 ?_
          with_reducible refine (cenotaphlaw08_told.calls k  true _ A12.out).mono ?_
          rintro e w174 ⟨rfl, hb⟩
          refine ⟨_, rfl, ?_⟩
          replace HO252 := Aside0.mk (Kd.R_below zq3x_23 hb)
          replace HO264 := Aside0.mk (Kd.R_below zq3x_24 hb)
          replace HO275 := Aside0.mk (Kd.R_below zq3x_25 hb)
          replace HO279 := Aside0.mk (Kd.R_below zq3x_26 hb)
          replace BK249 := Aside0.mk (blk_below (g := gb249) (o := .cells #[.int .i64 t253, .string t254, .int .i64 t255, .int .i64 t256, .bool t257, .int .i64 t258, .int .i64 t259, .string t260, .bool t261] 28 (0, 0)) zq3x_20 hb)
          replace BK290 := Aside0.mk (blk_below (g := gb290) (o := .cells #[.int .i64 t281, .string t282, .int .i64 t283, .int .i64 t284, .bool t285, .complex .f64 t286.re t286.im, .string t287, .bool t288] 41 (0, 0)) zq3x_21 hb)
          replace BK301 := Aside0.mk (blk_below (g := gb301) (o := .cells #[.int .i64 t291, .string t292, .int .i64 t293, .int .i64 t294, .bool t295, .int .i64 t296, .int .i64 t297, .string t298, .bool t299] 28 (0, 0)) zq3x_22 hb)
          replace HB := Aside0.mk (below_step zq3x_13 hb)
          (try clear hb)
          (try clear hb2)
          (try clear hk)
          (try clear hi)
          obtain ⟨Ao175, co175, eo175⟩ := Kd.R_slice HO275.out
          (first | subst eo175 | (injection eo175 with f1_ f2_ f3_; have f4_ := f1_.symm; have f5_ := f3_.symm; clear f1_ f2_ f3_; subst f4_; subst f5_))
          refine hK.out _ _ ⟨(blk_cell BK290.out 0).trans rfl, (blk_cell BK290.out 1).trans rfl, (blk_cell BK290.out 2).trans rfl, (blk_cell BK290.out 3).trans rfl, (blk_cell BK290.out 4).trans rfl, (blk_cell BK290.out 5).trans rfl, (blk_cell BK290.out 6).trans rfl, (blk_cell BK290.out 7).trans rfl, (blk_cell BK301.out 0).trans rfl, (blk_cell BK301.out 1).trans rfl, (blk_cell BK301.out 2).trans rfl, (blk_cell BK301.out 3).trans rfl, (blk_cell BK301.out 4).trans rfl, (blk_cell BK301.out 5).trans rfl, (blk_cell BK301.out 6).trans rfl, (blk_cell BK301.out 7).trans rfl, (blk_cell BK301.out 8).trans rfl⟩ (fun hHeld => ?_)
          clear hK K
          refine norm_ (a' := ?_) ?_ ?_
          rotate_left
          ·show Act.put _ (some 47) _ = _
           simp only [Act.put, List.setIfInBounds_toArray, List.set_cons_zero, List.set_cons_succ, i64_w, i32_w]
           rfl
          refine p_ 1 48 (mk_ 42 0x3) ?_
          refine p_ 2 49 (mk_ 42 0x7) ?_
          refine p_ 3 50 (mk_ 42 0xf) ?_
          refine p_ 4 51 (mk_ 42 0x1f) ?_
          refine p_ 5 52 (mk_ 42 0x3f) ?_
          refine p_ 6 53 (mk_ 42 0x7f) ?_
          refine p_ 7 54 (mk_ 42 0xff) ?_
          refine p_ 8 55 (mk_ 42 0x1ff) ?_
          refine p_ 10 57 (mk_ 42 0x5ff) ?_
          refine one_ (i := 9) (N := some 56) #[bT3, bT3, bT3, bT3, bT3, bT3, bT3, bT3, bT3, bT3, bT3, bF3, bF3, bF3, bF3, bF3, bF3, bF3, bF3, bF3, bF3, bF3, bF3, bF3, bF3, bF3, bF3, bF3, bF3, bF3, bF3, bF3, bF3, bF3, bF3, bF3, bF3, bF3, bF3, bF3, bF3, bF3] rfl rfl (one_of HT_.out (by kernel_rfl)) (by decide) (fun K hK => ?_)
          refine goes_ Try.func18 (by kernel_rfl) rfl #[.slice Ao175 t273.length co175] (by rfl) rfl rfl zq3x_18 ?_
          with_reducible refine (cenotaphlaw08_From.calls k _ _ t273 t303 _ ?side1 ?side2 A15.out).mono ?_
          (case side1 => repeat (first | exact (Kd.R_reads' HO275.out).2.2 | (with_reducible refine Kd.C_alloc ?_ _) | (with_reducible refine Kd.C_drewN ?_ _) | (with_reducible refine Kd.C_drew ?_)))
          (case side2 => exact (Kd.R_reads' HO275.out).2.1)
          rintro e w176 ⟨v304, rfl, ho0, hb⟩
          refine ⟨_, rfl, ?_⟩
          replace HO264 := Aside0.mk (Kd.R_below zq3x_24 hb)
          replace HO275 := Aside0.mk (Kd.R_below zq3x_25 hb)
          have HO305 := Aside0.mk (Kd.R_lower (Kd.R_newB (Kd.R_newB (Kd.R_new' (Kd.R_new' ho0 (Kd.R_lt zq3x_23)) (Kd.R_lt zq3x_26)) (g := gb249) (o := .cells #[.int .i64 t253, .string t254, .int .i64 t255, .int .i64 t256, .bool t257, .int .i64 t258, .int .i64 t259, .string t260, .bool t261] 28 (0, 0)) zq3x_20) (g := gb301) (o := .cells #[.int .i64 t291, .string t292, .int .i64 t293, .int .i64 t294, .bool t295, .int .i64 t296, .int .i64 t297, .string t298, .bool t299] 28 (0, 0)) zq3x_22) (below_size zq3x_13))
          replace HO252 := Aside0.mk (Kd.R_elder' zq3x_23 (Kd.R_base ho0) hb)
          replace HO279 := Aside0.mk (Kd.R_elder' zq3x_26 (Kd.R_base ho0) hb)
          replace BK249 := Aside0.mk (blk_below (g := gb249) (o := .cells #[.int .i64 t253, .string t254, .int .i64 t255, .int .i64 t256, .bool t257, .int .i64 t258, .int .i64 t259, .string t260, .bool t261] 28 (0, 0)) zq3x_20 hb)
          replace BK290 := Aside0.mk (blk_below (g := gb290) (o := .cells #[.int .i64 t281, .string t282, .int .i64 t283, .int .i64 t284, .bool t285, .complex .f64 t286.re t286.im, .string t287, .bool t288] 41 (0, 0)) zq3x_21 hb)
          replace BK301 := Aside0.mk (blk_below (g := gb301) (o := .cells #[.int .i64 t291, .string t292, .int .i64 t293, .int .i64 t294, .bool t295, .int .i64 t296, .int .i64 t297, .string t298, .bool t299] 28 (0, 0)) zq3x_22 hb)
          replace HB := Aside0.mk (below_step zq3x_13 hb)
          (try clear hb)
          (try clear hb2)
          (try clear hk)
          (try clear hi)
          (try clear ho0)
          obtain ⟨Ao177, co177, eo177⟩ := Kd.R_slice HO305.out
          (first | subst eo177 | (injection eo177 with f1_ f2_ f3_; have f4_ := f1_.symm; have f5_ := f3_.symm; clear f1_ f2_ f3_; subst f4_; subst f5_))
          obtain ⟨Ao178, co178, eo178⟩ := Kd.R_slice HO279.out
          (first | subst eo178 | (injection eo178 with f1_ f2_ f3_; have f4_ := f1_.symm; have f5_ := f3_.symm; clear f1_ f2_ f3_; subst f4_; subst f5_))
          refine hK.out _ _ ⟨(blk_cell BK290.out 0).trans rfl, (blk_cell BK290.out 1).trans rfl, (blk_cell BK290.out 2).trans rfl, (blk_cell BK290.out 3).trans rfl, (blk_cell BK290.out 4).trans rfl, (blk_cell BK290.out 5).trans rfl, (blk_cell BK290.out 6).trans rfl, (blk_cell BK290.out 7).trans rfl, (blk_cell BK301.out 0).trans rfl, (blk_cell BK301.out 1).trans rfl, (blk_cell BK301.out 2).trans rfl, (blk_cell BK301.out 3).trans rfl, (blk_cell BK301.out 4).trans rfl, (blk_cell BK301.out 5).trans rfl, (blk_cell BK301.out 6).trans rfl, (blk_cell BK301.out 7).trans rfl, (blk_cell BK301.out 8).trans rfl⟩ (fun hHeld => ?_)
          clear hK K
          refine norm_ (a' := ?_) ?_ ?_
          rotate_left
          ·show Act.put _ (some 56) _ = _
           simp only [Act.put, List.setIfInBounds_toArray, List.set_cons_zero, List.set_cons_succ, i64_w, i32_w]
           rfl
          refine one_ (i := 11) (N := some 58) #[bT3, bT3, bT3, bT3, bT3, bT3, bT3, bT3, bT3, bT3, bT3, bT3, bF3, bF3, bF3, bF3, bF3, bF3, bF3, bF3, bF3, bF3, bF3, bF3, bF3, bF3, bF3, bF3, bF3, bF3, bF3, bF3, bF3, bF3, bF3, bF3, bF3, bF3, bF3, bF3, bF3, bF3] rfl rfl (one_of HT_.out (by kernel_rfl)) (by decide) (fun K hK => ?_)
          refine goes_ Try.func17 (by kernel_rfl) rfl #[.slice Ao177 t303.length co177, .slice Ao178 t277.length co178] (by rfl) rfl rfl zq3x_18 ?_
          with_reducible refine (cenotaphref08_Same.calls k _ _ t303 _ _ t277 true _ ?side1 ?side2 ?side3 ?side4 A16.out).mono ?_
          (case side1 => repeat (first | exact (Kd.R_reads' HO305.out).2.2 | (with_reducible refine Kd.C_alloc ?_ _) | (with_reducible refine Kd.C_drewN ?_ _) | (with_reducible refine Kd.C_drew ?_)))
          (case side2 => exact (Kd.R_reads' HO305.out).2.1)
          (case side3 => repeat (first | exact (Kd.R_reads' HO279.out).2.2 | (with_reducible refine Kd.C_alloc ?_ _) | (with_reducible refine Kd.C_drewN ?_ _) | (with_reducible refine Kd.C_drew ?_)))
          (case side4 => exact (Kd.R_reads' HO279.out).2.1)
          rintro e w' ⟨rfl, ⟨nd, rfl⟩⟩
          refine ⟨_, rfl, ?_⟩
          refine hK.out _ _ ⟨(blk_cell BK290.out 0).trans rfl, (blk_cell BK290.out 1).trans rfl, (blk_cell BK290.out 2).trans rfl, (blk_cell BK290.out 3).trans rfl, (blk_cell BK290.out 4).trans rfl, (blk_cell BK290.out 5).trans rfl, (blk_cell BK290.out 6).trans rfl, (blk_cell BK290.out 7).trans rfl, (blk_cell BK301.out 0).trans rfl, (blk_cell BK301.out 1).trans rfl, (blk_cell BK301.out 2).trans rfl, (blk_cell BK301.out 3).trans rfl, (blk_cell BK301.out 4).trans rfl, (blk_cell BK301.out 5).trans rfl, (blk_cell BK301.out 6).trans rfl, (blk_cell BK301.out 7).trans rfl, (blk_cell BK301.out 8).trans rfl⟩ (fun hHeld => ?_)
          clear hK K
          refine norm_ (a' := ?_) ?_ ?_
          rotate_left
          ·show Act.put _ (some 58) _ = _
           simp only [Act.put, List.setIfInBounds_toArray, List.set_cons_zero, List.set_cons_succ, i64_w, i32_w]
           rfl
          refine p_ 12 59 (mk_ 42 0x1fff) ?_
          refine p_ 13 60 (mk_ 42 0x3fff) ?_
          refine p_ 14 61 (mk_ 42 0x7fff) ?_
          refine p_ 15 62 (mk_ 42 0xffff) ?_
          refine one_ (i := 16) (N := some 63) #[bT3, bT3, bT3, bT3, bT3, bT3, bT3, bT3, bT3, bT3, bT3, bT3, bT3, bT3, bT3, bT3, bT3, bF3, bF3, bF3, bF3, bF3, bF3, bF3, bF3, bF3, bF3, bF3, bF3, bF3, bF3, bF3, bF3, bF3, bF3, bF3, bF3, bF3, bF3, bF3, bF3, bF3] rfl rfl (one_of HT_.out (by kernel_rfl)) (by decide) (fun K hK => ?_)
          refine goes_ Try.func19 (by kernel_rfl) rfl #[.slice Ao175 t273.length co175] (by rfl) rfl rfl zq3x_18 ?_
          with_reducible refine (store_Right.calls k _ _ t273 true _ ?side1 ?side2 A18.out).mono ?_
          (case side1 => repeat (first | exact (Kd.R_reads' HO275.out).2.2 | (with_reducible refine Kd.C_alloc ?_ _) | (with_reducible refine Kd.C_drewN ?_ _) | (with_reducible refine Kd.C_drew ?_)))
          (case side2 => exact (Kd.R_reads' HO275.out).2.1)
          rintro e w179 ⟨rfl, hb⟩
          refine ⟨_, rfl, ?_⟩
          replace HO252 := Aside0.mk (Kd.R_below zq3x_23 hb)
          replace HO264 := Aside0.mk (Kd.R_below zq3x_24 hb)
          replace HO275 := Aside0.mk (Kd.R_below zq3x_25 hb)
          replace HO279 := Aside0.mk (Kd.R_below zq3x_26 hb)
          replace HO305 := Aside0.mk (Kd.R_below zq3x_27 hb)
          replace BK249 := Aside0.mk (blk_below (g := gb249) (o := .cells #[.int .i64 t253, .string t254, .int .i64 t255, .int .i64 t256, .bool t257, .int .i64 t258, .int .i64 t259, .string t260, .bool t261] 28 (0, 0)) zq3x_20 hb)
          replace BK290 := Aside0.mk (blk_below (g := gb290) (o := .cells #[.int .i64 t281, .string t282, .int .i64 t283, .int .i64 t284, .bool t285, .complex .f64 t286.re t286.im, .string t287, .bool t288] 41 (0, 0)) zq3x_21 hb)
          replace BK301 := Aside0.mk (blk_below (g := gb301) (o := .cells #[.int .i64 t291, .string t292, .int .i64 t293, .int .i64 t294, .bool t295, .int .i64 t296, .int .i64 t297, .string t298, .bool t299] 28 (0, 0)) zq3x_22 hb)
          replace HB := Aside0.mk (below_step zq3x_13 hb)
          (try clear hb)
          (try clear hb2)
          (try clear hk)
          (try clear hi)
          refine hK.out _ _ ⟨(blk_cell BK290.out 0).trans rfl, (blk_cell BK290.out 1).trans rfl, (blk_cell BK290.out 2).trans rfl, (blk_cell BK290.out 3).trans rfl, (blk_cell BK290.out 4).trans rfl, (blk_cell BK290.out 5).trans rfl, (blk_cell BK290.out 6).trans rfl, (blk_cell BK290.out 7).trans rfl, (blk_cell BK301.out 0).trans rfl, (blk_cell BK301.out 1).trans rfl, (blk_cell BK301.out 2).trans rfl, (blk_cell BK301.out 3).trans rfl, (blk_cell BK301.out 4).trans rfl, (blk_cell BK301.out 5).trans rfl, (blk_cell BK301.out 6).trans rfl, (blk_cell BK301.out 7).trans rfl, (blk_cell BK301.out 8).trans rfl⟩ (fun hHeld => ?_)
          clear hK K
          refine norm_ (a' := ?_) ?_ ?_
          rotate_left
          ·show Act.put _ (some 63) _ = _
           simp only [Act.put, List.setIfInBounds_toArray, List.set_cons_zero, List.set_cons_succ, i64_w, i32_w]
           rfl
          refine p_ 17 64 (mk_ 42 0x3ffff) ?_
          refine p_ 18 65 (mk_ 42 0x7ffff) ?_
          refine p_ 19 66 (mk_ 42 0xfffff) ?_
          refine p_ 20 67 (mk_ 42 0x1fffff) ?_
          refine p_ 21 68 (mk_ 42 0x3fffff) ?_
          refine p_ 22 69 (mk_ 42 0x7fffff) ?_
          refine p_ 23 70 (mk_ 42 0xffffff) ?_
          refine p_ 24 71 (mk_ 42 0x1ffffff) ?_
          refine t_ 25 72 (mk_ 42 0x3ffffff) hHeld ?_
          refine t_ 27 74 (mk_ 42 0xbffffff) hHeld ?_
          refine one_ (i := 26) (N := some 73) #[bT3, bT3, bT3, bT3, bT3, bT3, bT3, bT3, bT3, bT3, bT3, bT3, bT3, bT3, bT3, bT3, bT3, bT3, bT3, bT3, bT3, bT3, bT3, bT3, bT3, bT3, bT3, bT3, bF3, bF3, bF3, bF3, bF3, bF3, bF3, bF3, bF3, bF3, bF3, bF3, bF3, bF3] rfl rfl (one_of HT_.out (by kernel_rfl)) (by decide) (fun K hK => ?_)
          refine goes_ Try.func20 (by kernel_rfl) rfl #[.agg #[.int .i64 t281, .string t282, .int .i64 t283, .int .i64 t284, .bool t285, .complex .f64 t286.re t286.im, .string t287, .bool t288]] (by rfl) rfl rfl zq3x_18 ?_
          with_reducible refine (cenotaphlaw07_From.calls t281 t282 t283 t284 t285 t286 t287 t288 t308 t309 t310 t311 t312 t313 t314 t315 t316 _ A21.out).mono ?_
          rintro e w180 ⟨rfl, hb⟩
          refine ⟨_, rfl, ?_⟩
          replace HO252 := Aside0.mk (Kd.R_below zq3x_23 hb)
          replace HO264 := Aside0.mk (Kd.R_below zq3x_24 hb)
          replace HO275 := Aside0.mk (Kd.R_below zq3x_25 hb)
          replace HO279 := Aside0.mk (Kd.R_below zq3x_26 hb)
          replace HO305 := Aside0.mk (Kd.R_below zq3x_27 hb)
          replace BK249 := Aside0.mk (blk_below (g := gb249) (o := .cells #[.int .i64 t253, .string t254, .int .i64 t255, .int .i64 t256, .bool t257, .int .i64 t258, .int .i64 t259, .string t260, .bool t261] 28 (0, 0)) zq3x_20 hb)
          replace BK290 := Aside0.mk (blk_below (g := gb290) (o := .cells #[.int .i64 t281, .string t282, .int .i64 t283, .int .i64 t284, .bool t285, .complex .f64 t286.re t286.im, .string t287, .bool t288] 41 (0, 0)) zq3x_21 hb)
          replace BK301 := Aside0.mk (blk_below (g := gb301) (o := .cells #[.int .i64 t291, .string t292, .int .i64 t293, .int .i64 t294, .bool t295, .int .i64 t296, .int .i64 t297, .string t298, .bool t299] 28 (0, 0)) zq3x_22 hb)
          replace HB := Aside0.mk (below_step zq3x_13 hb)
          (try clear hb)
          (try clear hb2)
          (try clear hk)
          (try clear hi)
          refine hK.out _ _ ⟨(blk_cell BK290.out 0).trans rfl, (blk_cell BK290.out 1).trans rfl, (blk_cell BK290.out 2).trans rfl, (blk_cell BK290.out 3).trans rfl, (blk_cell BK290.out 4).trans rfl, (blk_cell BK290.out 5).trans rfl, (blk_cell BK290.out 6).trans rfl, (blk_cell BK290.out 7).trans rfl, (blk_cell BK301.out 0).trans rfl, (blk_cell BK301.out 1).trans rfl, (blk_cell BK301.out 2).trans rfl, (blk_cell BK301.out 3).trans rfl, (blk_cell BK301.out 4).trans rfl, (blk_cell BK301.out 5).trans rfl, (blk_cell BK301.out 6).trans rfl, (blk_cell BK301.out 7).trans rfl, (blk_cell BK301.out 8).trans rfl⟩ (fun hHeld => ?_)
          clear hK K
          refine norm_ (a' := ?_) ?_ ?_
          rotate_left
          ·show Act.put _ (some 73) _ = _
           simp only [Act.put, List.setIfInBounds_toArray, List.set_cons_zero, List.set_cons_succ, i64_w, i32_w]
           rfl
          refine p_ 28 75 (mk_ 42 0x1fffffff) ?_
          refine p_ 29 76 (mk_ 42 0x3fffffff) ?_
          refine u_ 30 77 (mk_ 42 0x7fffffff) ?_
          refine p_ 31 78 (mk_ 42 0xffffffff) ?_
          refine p_ 32 79 (mk_ 42 0x1ffffffff) ?_
          refine p_ 33 80 (mk_ 42 0x3ffffffff) ?_
          refine p_ 34 81 (mk_ 42 0x7ffffffff) ?_
          refine p_ 35 82 (mk_ 42 0xfffffffff) ?_
          refine p_ 36 83 (mk_ 42 0x1fffffffff) ?_
          refine p_ 38 85 (mk_ 42 0x5fffffffff) ?_
          refine t_ 37 84 (mk_ 42 0x7fffffffff) hHeld ?_
          refine p_ 39 86 (mk_ 42 0xffffffffff) ?_
          refine p_ 40 87 (mk_ 42 0x1ffffffffff) ?_
          refine p_ 41 88 (mk_ 42 0x3ffffffffff) ?_
          refine done_ (done_of HT_.out (by kernel_rfl)) ?_
          try go_wp2_with (first | ((with_reducible refine gate_callee (f := 21) rfl ?_); refine goesL_ (some 91) rfl rfl Try.func21 (by kernel_rfl) rfl #[.slice Ao159 t262.length co159, .int .i64 a2] rfl zq3x_18 ?_; (with_reducible refine (store_Drop.calls _ _ t262 a2 t345 _ ?side1 ?side2 A135.out).mono ?_); (case side1 => repeat (first | exact (Kd.R_reads' HO264.out).2.2 | (with_reducible refine Kd.C_alloc ?_ _) | (with_reducible refine Kd.C_drewN ?_ _) | (with_reducible refine Kd.C_drew ?_))); (case side2 => exact (Kd.R_reads' HO264.out).2.1); rintro e w181 ⟨v346, rfl, ho0, hb⟩; refine ⟨_, rfl, ?_⟩; replace HO252 := Aside0.mk (Kd.R_below zq3x_23 hb); replace HO279 := Aside0.mk (Kd.R_below zq3x_26 hb); replace HO305 := Aside0.mk (Kd.R_below zq3x_27 hb); have HO347 := Aside0.mk (Kd.R_lower (Kd.R_newB (Kd.R_new' (Kd.R_new' ho0 (Kd.R_lt zq3x_24)) (Kd.R_lt zq3x_25)) (g := gb290) (o := .cells #[.int .i64 t281, .string t282, .int .i64 t283, .int .i64 t284, .bool t285, .complex .f64 t286.re t286.im, .string t287, .bool t288] 41 (0, 0)) zq3x_21) (below_size zq3x_13)); replace HO264 := Aside0.mk (Kd.R_elder' zq3x_24 (Kd.R_base ho0) hb); replace HO275 := Aside0.mk (Kd.R_elder' zq3x_25 (Kd.R_base ho0) hb); replace BK249 := Aside0.mk (blk_below (g := gb249) (o := .cells #[.int .i64 t253, .string t254, .int .i64 t255, .int .i64 t256, .bool t257, .int .i64 t258, .int .i64 t259, .string t260, .bool t261] 28 (0, 0)) zq3x_20 hb); replace BK290 := Aside0.mk (blk_below (g := gb290) (o := .cells #[.int .i64 t281, .string t282, .int .i64 t283, .int .i64 t284, .bool t285, .complex .f64 t286.re t286.im, .string t287, .bool t288] 41 (0, 0)) zq3x_21 hb); replace BK301 := Aside0.mk (blk_below (g := gb301) (o := .cells #[.int .i64 t291, .string t292, .int .i64 t293, .int .i64 t294, .bool t295, .int .i64 t296, .int .i64 t297, .string t298, .bool t299] 28 (0, 0)) zq3x_22 hb); replace HB := Aside0.mk (below_step zq3x_13 hb); (try clear hb); (try clear hb2); (try clear hk); (try clear hi); (try clear ho0); obtain ⟨Ao182, co182, eo182⟩ := Kd.R_slice HO347.out; subst eo182) | ((with_reducible refine gate_callee (f := 18) rfl ?_); refine goesL_ (some 92) rfl rfl Try.func18 (by kernel_rfl) rfl #[.slice Ao182 t345.length co182] rfl zq3x_18 ?_; (with_reducible refine (cenotaphlaw08_From.calls k _ _ t345 t348 _ ?side1 ?side2 A136.out).mono ?_); (case side1 => repeat (first | exact (Kd.R_reads' HO347.out).2.2 | (with_reducible refine Kd.C_alloc ?_ _) | (with_reducible refine Kd.C_drewN ?_ _) | (with_reducible refine Kd.C_drew ?_))); (case side2 => exact (Kd.R_reads' HO347.out).2.1); rintro e w183 ⟨v349, rfl, ho0, hb⟩; refine ⟨_, rfl, ?_⟩; replace HO264 := Aside0.mk (Kd.R_below zq3x_24 hb); replace HO275 := Aside0.mk (Kd.R_below zq3x_25 hb); replace HO347 := Aside0.mk (Kd.R_below zq3x_32 hb); have HO350 := Aside0.mk (Kd.R_lower (Kd.R_newB (Kd.R_newB (Kd.R_new' (Kd.R_new' (Kd.R_new' ho0 (Kd.R_lt zq3x_23)) (Kd.R_lt zq3x_26)) (Kd.R_lt zq3x_27)) (g := gb249) (o := .cells #[.int .i64 t253, .string t254, .int .i64 t255, .int .i64 t256, .bool t257, .int .i64 t258, .int .i64 t259, .string t260, .bool t261] 28 (0, 0)) zq3x_20) (g := gb301) (o := .cells #[.int .i64 t291, .string t292, .int .i64 t293, .int .i64 t294, .bool t295, .int .i64 t296, .int .i64 t297, .string t298, .bool t299] 28 (0, 0)) zq3x_22) (below_size zq3x_13)); replace HO252 := Aside0.mk (Kd.R_elder' zq3x_23 (Kd.R_base ho0) hb); replace HO279 := Aside0.mk (Kd.R_elder' zq3x_26 (Kd.R_base ho0) hb); replace HO305 := Aside0.mk (Kd.R_elder' zq3x_27 (Kd.R_base ho0) hb); replace BK249 := Aside0.mk (blk_below (g := gb249) (o := .cells #[.int .i64 t253, .string t254, .int .i64 t255, .int .i64 t256, .bool t257, .int .i64 t258, .int .i64 t259, .string t260, .bool t261] 28 (0, 0)) zq3x_20 hb); replace BK290 := Aside0.mk (blk_below (g := gb290) (o := .cells #[.int .i64 t281, .string t282, .int .i64 t283, .int .i64 t284, .bool t285, .complex .f64 t286.re t286.im, .string t287, .bool t288] 41 (0, 0)) zq3x_21 hb); replace BK301 := Aside0.mk (blk_below (g := gb301) (o := .cells #[.int .i64 t291, .string t292, .int .i64 t293, .int .i64 t294, .bool t295, .int .i64 t296, .int .i64 t297, .string t298, .bool t299] 28 (0, 0)) zq3x_22 hb); replace HB := Aside0.mk (below_step zq3x_13 hb); (try clear hb); (try clear hb2); (try clear hk); (try clear hi); (try clear ho0)) | ((with_reducible refine gate_callee (f := 22) rfl ?_); refine goesL_ (some 95) rfl rfl Try.func22 (by kernel_rfl) rfl #[.slice Ao155 t250.length co155, .int .i64 a2] rfl zq3x_18 ?_; (with_reducible refine (cenotaphref08_Drop.calls k _ _ t250 a2 t351 _ ?side1 ?side2 A137.out).mono ?_); (case side1 => repeat (first | exact (Kd.R_reads' HO252.out).2.2 | (with_reducible refine Kd.C_alloc ?_ _) | (with_reducible refine Kd.C_drewN ?_ _) | (with_reducible refine Kd.C_drew ?_))); (case side2 => exact (Kd.R_reads' HO252.out).2.1); rintro e w184 ⟨v352, rfl, ho0, hb⟩; refine ⟨_, rfl, ?_⟩; replace HO264 := Aside0.mk (Kd.R_below zq3x_24 hb); replace HO275 := Aside0.mk (Kd.R_below zq3x_25 hb); replace HO347 := Aside0.mk (Kd.R_below zq3x_32 hb); have HO353 := Aside0.mk (Kd.R_lower (Kd.R_newB (Kd.R_newB (Kd.R_new' (Kd.R_new' (Kd.R_new' (Kd.R_new' ho0 (Kd.R_lt zq3x_23)) (Kd.R_lt zq3x_26)) (Kd.R_lt zq3x_27)) (Kd.R_lt zq3x_33)) (g := gb249) (o := .cells #[.int .i64 t253, .string t254, .int .i64 t255, .int .i64 t256, .bool t257, .int .i64 t258, .int .i64 t259, .string t260, .bool t261] 28 (0, 0)) zq3x_20) (g := gb301) (o := .cells #[.int .i64 t291, .string t292, .int .i64 t293, .int .i64 t294, .bool t295, .int .i64 t296, .int .i64 t297, .string t298, .bool t299] 28 (0, 0)) zq3x_22) (below_size zq3x_13)); replace HO252 := Aside0.mk (Kd.R_elder' zq3x_23 (Kd.R_base ho0) hb); replace HO279 := Aside0.mk (Kd.R_elder' zq3x_26 (Kd.R_base ho0) hb); replace HO305 := Aside0.mk (Kd.R_elder' zq3x_27 (Kd.R_base ho0) hb); replace HO350 := Aside0.mk (Kd.R_elder' zq3x_33 (Kd.R_base ho0) hb); replace BK249 := Aside0.mk (blk_below (g := gb249) (o := .cells #[.int .i64 t253, .string t254, .int .i64 t255, .int .i64 t256, .bool t257, .int .i64 t258, .int .i64 t259, .string t260, .bool t261] 28 (0, 0)) zq3x_20 hb); replace BK290 := Aside0.mk (blk_below (g := gb290) (o := .cells #[.int .i64 t281, .string t282, .int .i64 t283, .int .i64 t284, .bool t285, .complex .f64 t286.re t286.im, .string t287, .bool t288] 41 (0, 0)) zq3x_21 hb); replace BK301 := Aside0.mk (blk_below (g := gb301) (o := .cells #[.int .i64 t291, .string t292, .int .i64 t293, .int .i64 t294, .bool t295, .int .i64 t296, .int .i64 t297, .string t298, .bool t299] 28 (0, 0)) zq3x_22 hb); replace HB := Aside0.mk (below_step zq3x_13 hb); (try clear hb); (try clear hb2); (try clear hk); (try clear hi); (try clear ho0); obtain ⟨Ao185, co185, eo185⟩ := Kd.R_slice HO350.out; subst eo185; obtain ⟨Ao186, co186, eo186⟩ := Kd.R_slice HO353.out; subst eo186) | ((with_reducible refine gate_callee (f := 17) rfl ?_); refine goesL_ (some 96) rfl rfl Try.func17 (by kernel_rfl) rfl #[.slice Ao185 t348.length co185, .slice Ao186 t351.length co186] rfl zq3x_18 ?_; (with_reducible refine (cenotaphref08_Same.calls k _ _ t348 _ _ t351 true _ ?side1 ?side2 ?side3 ?side4 A138.out).mono ?_); (case side1 => repeat (first | exact (Kd.R_reads' HO350.out).2.2 | (with_reducible refine Kd.C_alloc ?_ _) | (with_reducible refine Kd.C_drewN ?_ _) | (with_reducible refine Kd.C_drew ?_))); (case side2 => exact (Kd.R_reads' HO350.out).2.1); (case side3 => repeat (first | exact (Kd.R_reads' HO353.out).2.2 | (with_reducible refine Kd.C_alloc ?_ _) | (with_reducible refine Kd.C_drewN ?_ _) | (with_reducible refine Kd.C_drew ?_))); (case side4 => exact (Kd.R_reads' HO353.out).2.1); rintro e w' ⟨rfl, ⟨nd, rfl⟩⟩; refine ⟨_, rfl, ?_⟩) | (go_at_call 18; (with_reducible refine (cenotaphlaw08_From.calls k _ _ t262 t355 _ ?side1 ?side2 A140.out).mono ?_); (case side1 => repeat (first | exact (Kd.R_reads' HO264.out).2.2 | (with_reducible refine Kd.C_alloc ?_ _) | (with_reducible refine Kd.C_drewN ?_ _) | (with_reducible refine Kd.C_drew ?_))); (case side2 => exact (Kd.R_reads' HO264.out).2.1); rintro e w187 ⟨v356, rfl, ho0, hb⟩; replace HO264 := Aside0.mk (Kd.R_below zq3x_24 hb); replace HO275 := Aside0.mk (Kd.R_below zq3x_25 hb); replace HO347 := Aside0.mk (Kd.R_below zq3x_32 hb); have HO357 := Aside0.mk (Kd.R_lower (Kd.R_newB (Kd.R_newB (Kd.R_new' (Kd.R_new' (Kd.R_new' (Kd.R_new' (Kd.R_new' ho0 (Kd.R_lt zq3x_23)) (Kd.R_lt zq3x_26)) (Kd.R_lt zq3x_27)) (Kd.R_lt zq3x_33)) (Kd.R_lt (by (with_reducible repeat (first | apply Kd.R_alloc | apply Kd.R_drewN | apply Kd.R_drew)); exact HO353.out))) (g := gb249) (o := .cells #[.int .i64 t253, .string t254, .int .i64 t255, .int .i64 t256, .bool t257, .int .i64 t258, .int .i64 t259, .string t260, .bool t261] 28 (0, 0)) zq3x_20) (g := gb301) (o := .cells #[.int .i64 t291, .string t292, .int .i64 t293, .int .i64 t294, .bool t295, .int .i64 t296, .int .i64 t297, .string t298, .bool t299] 28 (0, 0)) zq3x_22) (below_size zq3x_13)); replace HO252 := Aside0.mk (Kd.R_elder' zq3x_23 (Kd.R_base ho0) hb); replace HO279 := Aside0.mk (Kd.R_elder' zq3x_26 (Kd.R_base ho0) hb); replace HO305 := Aside0.mk (Kd.R_elder' zq3x_27 (Kd.R_base ho0) hb); replace HO350 := Aside0.mk (Kd.R_elder' zq3x_33 (Kd.R_base ho0) hb); replace HO353 := Aside0.mk (Kd.R_elder' (by (with_reducible repeat (first | apply Kd.R_alloc | apply Kd.R_drewN | apply Kd.R_drew)); exact HO353.out) (Kd.R_base ho0) hb); replace BK249 := Aside0.mk (blk_below (g := gb249) (o := .cells #[.int .i64 t253, .string t254, .int .i64 t255, .int .i64 t256, .bool t257, .int .i64 t258, .int .i64 t259, .string t260, .bool t261] 28 (0, 0)) zq3x_20 hb); replace BK290 := Aside0.mk (blk_below (g := gb290) (o := .cells #[.int .i64 t281, .string t282, .int .i64 t283, .int .i64 t284, .bool t285, .complex .f64 t286.re t286.im, .string t287, .bool t288] 41 (0, 0)) zq3x_21 hb); replace BK301 := Aside0.mk (blk_below (g := gb301) (o := .cells #[.int .i64 t291, .string t292, .int .i64 t293, .int .i64 t294, .bool t295, .int .i64 t296, .int .i64 t297, .string t298, .bool t299] 28 (0, 0)) zq3x_22 hb); replace HB := Aside0.mk (below_step zq3x_13 hb); (try clear hb); (try clear hb2); (try clear hk); (try clear hi); (try clear ho0); obtain ⟨Ao188, co188, eo188⟩ := Kd.R_slice HO357.out; subst eo188) | (go_at_call 17; (with_reducible refine (cenotaphref08_Same.calls k _ _ t355 _ _ t250 t358 _ ?side1 ?side2 ?side3 ?side4 A141.out).mono ?_); (case side1 => repeat (first | exact (Kd.R_reads' HO357.out).2.2 | (with_reducible refine Kd.C_alloc ?_ _) | (with_reducible refine Kd.C_drewN ?_ _) | (with_reducible refine Kd.C_drew ?_))); (case side2 => exact (Kd.R_reads' HO357.out).2.1); (case side3 => repeat (first | exact (Kd.R_reads' HO252.out).2.2 | (with_reducible refine Kd.C_alloc ?_ _) | (with_reducible refine Kd.C_drewN ?_ _) | (with_reducible refine Kd.C_drew ?_))); (case side4 => exact (Kd.R_reads' HO252.out).2.1); rintro e w' ⟨rfl, ⟨nd, rfl⟩⟩))
          go_ret
          exact ⟨by first | rfl | (simp [errW_none, errW_some] <;> rfl) | (simp [*, errW_none, errW_some] <;> rfl), by repeat (first | (with_reducible first | exact HB.out | apply below_alloc | apply pw_below_drewN | apply below_drew1 | refine below_set ?_ GE249.out | refine below_set ?_ GE290.out | refine below_set ?_ GE301.out) | exact HB.out)⟩
         ·replace c139 := Bool.eq_false_iff.mpr c139
          subst c139
          have H1 : (none) = some r := by rw [if_neg (show ¬ (false = true) by decide)] at H; exact H
          clear H
          have H := H1
          clear H1
          exact absurd H (by simp)
    ·replace c19 := Bool.eq_false_iff.mpr c19
     subst c19
     have H1 : (none) = some r := by rw [if_neg (show ¬ (false = true) by decide)] at H; exact H
     clear H
     have H := H1
     clear H1
     exact absurd H (by simp)
   ·replace c17 := Bool.eq_false_iff.mpr c17
    subst c17
    have H1 : (none) = some r := by rw [if_neg (show ¬ (false = true) by decide)] at H; exact H
    clear H
    have H := H1
    clear H1
    exact absurd H (by simp)
 ·replace c13 := Bool.eq_false_iff.mpr c13
  subst c13
  have H1 : (none) = some r := by rw [if_neg (show ¬ (false = true) by decide)] at H; exact H
  clear H
  have H := H1
  clear H1
  exact absurd H (by simp)

end Go.Proofs.Ytgdkgobplinelaa.P
