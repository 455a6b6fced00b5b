-- Written by a program of this session (wip/pp.py over the kit's printer, with our own texts put in).
import Derived.Test.YtkmhanpamdgnjaaP0
import Derived.Test.YtkmhanpamdgnjaaP5
namespace Go.Proofs.Ytkmhanpamdgnjaa.P
open Go.RowKit Go.Proofs.YtkmhanpamdgnjaaW.PrintWords Go.Proofs.YtkmhanpamdgnjaaW.PrintLast Go.Proofs.YtkmhanpamdgnjaaW.PrintMore
attribute [local go_sem] max2_int min2_int max_two min_two max_three min_three max_four min_four   -- for this text's walks alone
set_option linter.unusedVariables false
set_option linter.unusedSimpArgs false

/-! ### cenotaphlaw07_near: function 22 -/
def cenotaphlaw07_near.f (a0_0 : Int) (a0_1 : Int) : Option (Bool) := if a0_0 < 1099511627776 then (if a0_0 > (-1099511627776) then (if a0_1 < 1099511627776 then (some (decide (a0_1 > (-1099511627776)))) else (some false)) else (some false)) else (some false)
set_option maxHeartbeats 8000000 in
set_option maxRecDepth 100000 in
theorem cenotaphlaw07_near.calls (a0_0 : Int) (a0_1 : Int) (r : Bool) (w : World) (h : cenotaphlaw07_near.f a0_0 a0_1 = some r) :
    Calls Try.prog 22 #[.agg #[.int .i64 a0_0, .int .i64 a0_1]] w fun e w' => e = .returned (.bool r) ∧ Below w.heap.size w w' := by
  have hu44 := Try.underlying44
  have HB := Aside0.mk (Below.refl w.heap.size w)
  have H : (if a0_0 < 1099511627776 then (if a0_0 > (-1099511627776) then (if a0_1 < 1099511627776 then (some (decide (a0_1 > (-1099511627776)))) else (some false)) else (some false)) else (some false)) = some r := h
  clear h
  by_cases c2 : a0_0 < 1099511627776
  · rw [if_pos c2] at H
    have c2b0 : decide (a0_0 < 1099511627776) = true := decide_eq_true c2
    clear c2
    by_cases c3 : a0_0 > (-1099511627776)
    · rw [if_pos c3] at H
      have c3b0 : decide ((-1099511627776) < a0_0) = true := decide_eq_true c3
      clear c3
      by_cases c4 : a0_1 < 1099511627776
      · rw [if_pos c4] at H
        have c4b0 : decide (a0_1 < 1099511627776) = true := decide_eq_true c4
        clear c4
        obtain rfl := Option.some.inj H
        go_enter Try.func22, Try.ntmps22
        go_wp2_with (first | ((with_reducible refine gate_dst (N := 1) rfl ?_); refine box_event ?hg (N := 1) ?hd (cs := #[.int .i64 a0_0, .int .i64 a0_1]) (t := 44) ?hr ?_; (case hd => rfl); (case hg => rfl); (case hr => first | (go_simp; done) | (go_simp; rfl)); intro gb184 hg w5 hbox hb; have n0_ := Aside0.mk (below_step (by repeat (first | (with_reducible first | exact HB.out | apply below_alloc | apply pw_below_drewN | apply below_drew1) | exact HB.out)) hb); have n1_ := Aside0.mk (hbox); have n2_ := Aside0.mk ((by rw [hg]; exact (below_size (by repeat (first | (with_reducible first | exact HB.out | apply below_alloc | apply pw_below_drewN | apply below_drew1) | exact HB.out))) : w.heap.size ≤ gb184)); have n3_ := Aside0.mk ((by rw [hg]; exact (below_size (by repeat (first | (with_reducible first | exact HB.out | apply below_alloc | apply pw_below_drewN | apply below_drew1) | exact HB.out))) : w.heap.size ≤ gb184)); clear HB; have HB := n0_; have BK184 := n1_; have GW184 := n2_; have GE184 := n3_; clear n0_ n1_ n2_ n3_; clear hb hbox hg; have hcz6_0 : w5.cell? ⟨gb184, 0, none⟩ = some (.int .i64 a0_0) := (blk_cell BK184.out 0).trans rfl; have hcz6_1 : w5.cell? ⟨gb184, 1, none⟩ = some (.int .i64 a0_1) := (blk_cell BK184.out 1).trans rfl; have hfz6_0 := blk_frozen BK184.out 0; have hfz6_1 := blk_frozen BK184.out 1))
        go_ret
        exact ⟨by first | rfl | (simp [errW_none, errW_some] <;> rfl) | (simp [*, errW_none, errW_some] <;> rfl), by repeat (first | (with_reducible first | exact HB.out | apply below_alloc | apply pw_below_drewN | apply below_drew1 | refine below_set ?_ GE184.out) | exact HB.out)⟩
      · rw [if_neg c4] at H
        have c4b0 : decide (a0_1 < 1099511627776) = false := decide_eq_false c4
        clear c4
        obtain rfl := Option.some.inj H
        go_enter Try.func22, Try.ntmps22
        go_wp2_with (first | ((with_reducible refine gate_dst (N := 1) rfl ?_); refine box_event ?hg (N := 1) ?hd (cs := #[.int .i64 a0_0, .int .i64 a0_1]) (t := 44) ?hr ?_; (case hd => rfl); (case hg => rfl); (case hr => first | (go_simp; done) | (go_simp; rfl)); intro gb184 hg w7 hbox hb; have n0_ := Aside0.mk (below_step (by repeat (first | (with_reducible first | exact HB.out | apply below_alloc | apply pw_below_drewN | apply below_drew1) | exact HB.out)) hb); have n1_ := Aside0.mk (hbox); have n2_ := Aside0.mk ((by rw [hg]; exact (below_size (by repeat (first | (with_reducible first | exact HB.out | apply below_alloc | apply pw_below_drewN | apply below_drew1) | exact HB.out))) : w.heap.size ≤ gb184)); have n3_ := Aside0.mk ((by rw [hg]; exact (below_size (by repeat (first | (with_reducible first | exact HB.out | apply below_alloc | apply pw_below_drewN | apply below_drew1) | exact HB.out))) : w.heap.size ≤ gb184)); clear HB; have HB := n0_; have BK184 := n1_; have GW184 := n2_; have GE184 := n3_; clear n0_ n1_ n2_ n3_; clear hb hbox hg; have hcz8_0 : w7.cell? ⟨gb184, 0, none⟩ = some (.int .i64 a0_0) := (blk_cell BK184.out 0).trans rfl; have hcz8_1 : w7.cell? ⟨gb184, 1, none⟩ = some (.int .i64 a0_1) := (blk_cell BK184.out 1).trans rfl; have hfz8_0 := blk_frozen BK184.out 0; have hfz8_1 := blk_frozen BK184.out 1))
        go_ret
        exact ⟨by first | rfl | (simp [errW_none, errW_some] <;> rfl) | (simp [*, errW_none, errW_some] <;> rfl), by repeat (first | (with_reducible first | exact HB.out | apply below_alloc | apply pw_below_drewN | apply below_drew1 | refine below_set ?_ GE184.out) | exact HB.out)⟩
    · rw [if_neg c3] at H
      have c3b0 : decide ((-1099511627776) < a0_0) = false := decide_eq_false c3
      clear c3
      obtain rfl := Option.some.inj H
      go_enter Try.func22, Try.ntmps22
      go_wp2_with (first | ((with_reducible refine gate_dst (N := 1) rfl ?_); refine box_event ?hg (N := 1) ?hd (cs := #[.int .i64 a0_0, .int .i64 a0_1]) (t := 44) ?hr ?_; (case hd => rfl); (case hg => rfl); (case hr => first | (go_simp; done) | (go_simp; rfl)); intro gb184 hg w9 hbox hb; have n0_ := Aside0.mk (below_step (by repeat (first | (with_reducible first | exact HB.out | apply below_alloc | apply pw_below_drewN | apply below_drew1) | exact HB.out)) hb); have n1_ := Aside0.mk (hbox); have n2_ := Aside0.mk ((by rw [hg]; exact (below_size (by repeat (first | (with_reducible first | exact HB.out | apply below_alloc | apply pw_below_drewN | apply below_drew1) | exact HB.out))) : w.heap.size ≤ gb184)); have n3_ := Aside0.mk ((by rw [hg]; exact (below_size (by repeat (first | (with_reducible first | exact HB.out | apply below_alloc | apply pw_below_drewN | apply below_drew1) | exact HB.out))) : w.heap.size ≤ gb184)); clear HB; have HB := n0_; have BK184 := n1_; have GW184 := n2_; have GE184 := n3_; clear n0_ n1_ n2_ n3_; clear hb hbox hg; have hcz10_0 : w9.cell? ⟨gb184, 0, none⟩ = some (.int .i64 a0_0) := (blk_cell BK184.out 0).trans rfl; have hcz10_1 : w9.cell? ⟨gb184, 1, none⟩ = some (.int .i64 a0_1) := (blk_cell BK184.out 1).trans rfl; have hfz10_0 := blk_frozen BK184.out 0; have hfz10_1 := blk_frozen BK184.out 1))
      go_ret
      exact ⟨by first | rfl | (simp [errW_none, errW_some] <;> rfl) | (simp [*, errW_none, errW_some] <;> rfl), by repeat (first | (with_reducible first | exact HB.out | apply below_alloc | apply pw_below_drewN | apply below_drew1 | refine below_set ?_ GE184.out) | exact HB.out)⟩
  · rw [if_neg c2] at H
    have c2b0 : decide (a0_0 < 1099511627776) = false := decide_eq_false c2
    clear c2
    obtain rfl := Option.some.inj H
    go_enter Try.func22, Try.ntmps22
    go_wp2_with (first | ((with_reducible refine gate_dst (N := 1) rfl ?_); refine box_event ?hg (N := 1) ?hd (cs := #[.int .i64 a0_0, .int .i64 a0_1]) (t := 44) ?hr ?_; (case hd => rfl); (case hg => rfl); (case hr => first | (go_simp; done) | (go_simp; rfl)); intro gb184 hg w11 hbox hb; have n0_ := Aside0.mk (below_step (by repeat (first | (with_reducible first | exact HB.out | apply below_alloc | apply pw_below_drewN | apply below_drew1) | exact HB.out)) hb); have n1_ := Aside0.mk (hbox); have n2_ := Aside0.mk ((by rw [hg]; exact (below_size (by repeat (first | (with_reducible first | exact HB.out | apply below_alloc | apply pw_below_drewN | apply below_drew1) | exact HB.out))) : w.heap.size ≤ gb184)); have n3_ := Aside0.mk ((by rw [hg]; exact (below_size (by repeat (first | (with_reducible first | exact HB.out | apply below_alloc | apply pw_below_drewN | apply below_drew1) | exact HB.out))) : w.heap.size ≤ gb184)); clear HB; have HB := n0_; have BK184 := n1_; have GW184 := n2_; have GE184 := n3_; clear n0_ n1_ n2_ n3_; clear hb hbox hg; have hcz12_0 : w11.cell? ⟨gb184, 0, none⟩ = some (.int .i64 a0_0) := (blk_cell BK184.out 0).trans rfl; have hcz12_1 : w11.cell? ⟨gb184, 1, none⟩ = some (.int .i64 a0_1) := (blk_cell BK184.out 1).trans rfl; have hfz12_0 := blk_frozen BK184.out 0; have hfz12_1 := blk_frozen BK184.out 1))
    go_ret
    exact ⟨by first | rfl | (simp [errW_none, errW_some] <;> rfl) | (simp [*, errW_none, errW_some] <;> rfl), by repeat (first | (with_reducible first | exact HB.out | apply below_alloc | apply pw_below_drewN | apply below_drew1 | refine below_set ?_ GE184.out) | exact HB.out)⟩

/-! ### cenotaphref07_Stub: function 26 -/
def cenotaphref07_Stub.f (a0_0 : Int) (a0_1 : ByteArray) (a0_2 : Int) (a0_3 : Int) (a0_4 : Bool) (a0_5 : Int) (a0_6 : Int) (a0_7 : ByteArray) (a0_8 : Bool) : Option (Int × ByteArray × Int × Int × Bool × Int × Int × ByteArray × Bool) := some (a0_0, a0_1, a0_2, a0_3, a0_4, a0_5, a0_6, (⟨#[]⟩ : ByteArray), false)
set_option maxHeartbeats 8000000 in
set_option maxRecDepth 100000 in
theorem cenotaphref07_Stub.calls (a0_0 : Int) (a0_1 : ByteArray) (a0_2 : Int) (a0_3 : Int) (a0_4 : Bool) (a0_5 : Int) (a0_6 : Int) (a0_7 : ByteArray) (a0_8 : Bool) (r1 : Int) (r2 : ByteArray) (r3 : Int) (r4 : Int) (r5 : Bool) (r6 : Int) (r7 : Int) (r8 : ByteArray) (r9 : Bool) (w : World) (h : cenotaphref07_Stub.f a0_0 a0_1 a0_2 a0_3 a0_4 a0_5 a0_6 a0_7 a0_8 = some (r1, r2, r3, r4, r5, r6, r7, r8, r9)) :
    Calls Try.prog 26 #[.agg #[.int .i64 a0_0, .string a0_1, .int .i64 a0_2, .int .i64 a0_3, .bool a0_4, .int .i64 a0_5, .int .i64 a0_6, .string a0_7, .bool a0_8]] w fun e w' => e = .returned (.agg #[.int .i64 r1, .string r2, .int .i64 r3, .int .i64 r4, .bool r5, .int .i64 r6, .int .i64 r7, .string r8, .bool r9]) ∧ Below w.heap.size w w' := by
  have hu46 := Try.underlying46
  have HB := Aside0.mk (Below.refl w.heap.size w)
  have H : (some (a0_0, a0_1, a0_2, a0_3, a0_4, a0_5, a0_6, (⟨#[]⟩ : ByteArray), false)) = some (r1, r2, r3, r4, r5, r6, r7, r8, r9) := h
  clear h
  simp only [Option.some.injEq, Prod.mk.injEq] at H
  obtain ⟨rfl, rfl, rfl, rfl, rfl, rfl, rfl, rfl, rfl⟩ := H
  go_enter Try.func26, Try.ntmps26
  go_wp2_with (first | ((with_reducible refine gate_dst (N := 1) rfl ?_); refine box_event ?hg (N := 1) ?hd (cs := #[.int .i64 a0_0, .string a0_1, .int .i64 a0_2, .int .i64 a0_3, .bool a0_4, .int .i64 a0_5, .int .i64 a0_6, .string a0_7, .bool a0_8]) (t := 46) ?hr ?_; (case hd => rfl); (case hg => rfl); (case hr => first | (go_simp; done) | (go_simp; rfl)); intro gb185 hg w2 hbox hb; have n0_ := Aside0.mk (below_step (by repeat (first | (with_reducible first | exact HB.out | apply below_alloc | apply pw_below_drewN | apply below_drew1) | exact HB.out)) hb); have n1_ := Aside0.mk (hbox); have n2_ := Aside0.mk ((by rw [hg]; exact (below_size (by repeat (first | (with_reducible first | exact HB.out | apply below_alloc | apply pw_below_drewN | apply below_drew1) | exact HB.out))) : w.heap.size ≤ gb185)); have n3_ := Aside0.mk ((by rw [hg]; exact (below_size (by repeat (first | (with_reducible first | exact HB.out | apply below_alloc | apply pw_below_drewN | apply below_drew1) | exact HB.out))) : w.heap.size ≤ gb185)); clear HB; have HB := n0_; have BK185 := n1_; have GW185 := n2_; have GE185 := n3_; clear n0_ n1_ n2_ n3_; clear hb hbox hg) | ((with_reducible refine gate_dst (N := 2) rfl ?_); refine box_event ?hg (N := 2) ?hd (cs := #[.int .i64 0, .string (⟨#[]⟩ : ByteArray), .int .i64 0, .int .i64 0, .bool false, .int .i64 0, .int .i64 0, .string (⟨#[]⟩ : ByteArray), .bool false]) (t := 46) ?hr ?_; (case hd => rfl); (case hg => rfl); (case hr => first | (go_simp; done) | (go_simp; rfl)); intro gb186 hg w3 hbox hb; have n0_ := Aside0.mk (blk_below (g := gb185) (o := .cells #[.int .i64 a0_0, .string a0_1, .int .i64 a0_2, .int .i64 a0_3, .bool a0_4, .int .i64 a0_5, .int .i64 a0_6, .string a0_7, .bool a0_8] 46 (0, 0)) (by (with_reducible repeat (first | refine blk_drewN ?_ _ | refine blk_drew ?_ | refine blk_alloc ?_ _)); exact BK185.out) hb); have n1_ := Aside0.mk (below_step (by repeat (first | (with_reducible first | exact HB.out | apply below_alloc | apply pw_below_drewN | apply below_drew1 | refine below_set ?_ GE185.out) | exact HB.out)) hb); have n2_ := Aside0.mk (hbox); have n3_ := Aside0.mk ((by rw [hg]; exact (below_size (by repeat (first | (with_reducible first | exact HB.out | apply below_alloc | apply pw_below_drewN | apply below_drew1 | refine below_set ?_ GE185.out) | exact HB.out))) : w.heap.size ≤ gb186)); have n4_ := Aside0.mk ((by rw [hg]; exact (below_size (by repeat (first | (with_reducible first | exact HB.out | apply below_alloc | apply pw_below_drewN | apply below_drew1 | refine below_set ?_ GE185.out) | exact HB.out))) : w.heap.size ≤ gb186)); have n5_ := Aside0.mk ((by rw [hg]; exact Nat.ne_of_lt (blk_lt (g := gb185) (o := .cells #[.int .i64 a0_0, .string a0_1, .int .i64 a0_2, .int .i64 a0_3, .bool a0_4, .int .i64 a0_5, .int .i64 a0_6, .string a0_7, .bool a0_8] 46 (0, 0)) (by (with_reducible repeat (first | refine blk_drewN ?_ _ | refine blk_drew ?_ | refine blk_alloc ?_ _)); exact BK185.out)) : gb185 ≠ gb186)); have n6_ := Aside0.mk ((by rw [hg]; exact Nat.ne_of_gt (blk_lt (g := gb185) (o := .cells #[.int .i64 a0_0, .string a0_1, .int .i64 a0_2, .int .i64 a0_3, .bool a0_4, .int .i64 a0_5, .int .i64 a0_6, .string a0_7, .bool a0_8] 46 (0, 0)) (by (with_reducible repeat (first | refine blk_drewN ?_ _ | refine blk_drew ?_ | refine blk_alloc ?_ _)); exact BK185.out)) : gb186 ≠ gb185)); clear BK185; clear HB; have BK185 := n0_; have HB := n1_; have BK186 := n2_; have GW186 := n3_; have GE186 := n4_; have NB185_186 := n5_; have NB186_185 := n6_; clear n0_ n1_ n2_ n3_ n4_ n5_ n6_; clear hb hbox hg; have hnb4 := NB185_186.out; have hnc4 := NB186_185.out; have hcz5_0 : w3.cell? ⟨gb185, 0, none⟩ = some (.int .i64 a0_0) := (blk_cell BK185.out 0).trans rfl; have hcz5_1 : w3.cell? ⟨gb185, 1, none⟩ = some (.string a0_1) := (blk_cell BK185.out 1).trans rfl; have hcz5_2 : w3.cell? ⟨gb185, 2, none⟩ = some (.int .i64 a0_2) := (blk_cell BK185.out 2).trans rfl; have hcz5_3 : w3.cell? ⟨gb185, 3, none⟩ = some (.int .i64 a0_3) := (blk_cell BK185.out 3).trans rfl; have hcz5_4 : w3.cell? ⟨gb185, 4, none⟩ = some (.bool a0_4) := (blk_cell BK185.out 4).trans rfl; have hcz5_5 : w3.cell? ⟨gb185, 5, none⟩ = some (.int .i64 a0_5) := (blk_cell BK185.out 5).trans rfl; have hcz5_6 : w3.cell? ⟨gb185, 6, none⟩ = some (.int .i64 a0_6) := (blk_cell BK185.out 6).trans rfl; have hcz5_7 : w3.cell? ⟨gb185, 7, none⟩ = some (.string a0_7) := (blk_cell BK185.out 7).trans rfl; have hcz5_8 : w3.cell? ⟨gb185, 8, none⟩ = some (.bool a0_8) := (blk_cell BK185.out 8).trans rfl; have hfz5_0 := blk_frozen BK185.out 0; have hfz5_1 := blk_frozen BK185.out 1; have hfz5_2 := blk_frozen BK185.out 2; have hfz5_3 := blk_frozen BK185.out 3; have hfz5_4 := blk_frozen BK185.out 4; have hfz5_5 := blk_frozen BK185.out 5; have hfz5_6 := blk_frozen BK185.out 6; have hfz5_7 := blk_frozen BK185.out 7; have hfz5_8 := blk_frozen BK185.out 8; have hcz6_0 : w3.cell? ⟨gb186, 0, none⟩ = some (.int .i64 0) := (blk_cell BK186.out 0).trans rfl; have hcz6_1 : w3.cell? ⟨gb186, 1, none⟩ = some (.string (⟨#[]⟩ : ByteArray)) := (blk_cell BK186.out 1).trans rfl; have hcz6_2 : w3.cell? ⟨gb186, 2, none⟩ = some (.int .i64 0) := (blk_cell BK186.out 2).trans rfl; have hcz6_3 : w3.cell? ⟨gb186, 3, none⟩ = some (.int .i64 0) := (blk_cell BK186.out 3).trans rfl; have hcz6_4 : w3.cell? ⟨gb186, 4, none⟩ = some (.bool false) := (blk_cell BK186.out 4).trans rfl; have hcz6_5 : w3.cell? ⟨gb186, 5, none⟩ = some (.int .i64 0) := (blk_cell BK186.out 5).trans rfl; have hcz6_6 : w3.cell? ⟨gb186, 6, none⟩ = some (.int .i64 0) := (blk_cell BK186.out 6).trans rfl; have hcz6_7 : w3.cell? ⟨gb186, 7, none⟩ = some (.string (⟨#[]⟩ : ByteArray)) := (blk_cell BK186.out 7).trans rfl; have hcz6_8 : w3.cell? ⟨gb186, 8, none⟩ = some (.bool false) := (blk_cell BK186.out 8).trans rfl; have hfz6_0 := blk_frozen BK186.out 0; have hfz6_1 := blk_frozen BK186.out 1; have hfz6_2 := blk_frozen BK186.out 2; have hfz6_3 := blk_frozen BK186.out 3; have hfz6_4 := blk_frozen BK186.out 4; have hfz6_5 := blk_frozen BK186.out 5; have hfz6_6 := blk_frozen BK186.out 6; have hfz6_7 := blk_frozen BK186.out 7; have hfz6_8 := blk_frozen BK186.out 8))
  refine bodyPost_ret (results_cell_row rfl _ _ gb186 46 #[.int .i64 a0_0, .string a0_1, .int .i64 a0_2, .int .i64 a0_3, .bool a0_4, .int .i64 a0_5, .int .i64 a0_6, .string (⟨#[]⟩ : ByteArray), .bool false] (0, 0) _ rfl (by (with_reducible repeat (first | refine blk_drewN ?_ _ | refine blk_drew ?_ | refine blk_alloc ?_ _)); refine blk_put (cs := #[.int .i64 a0_0, .string a0_1, .int .i64 a0_2, .int .i64 a0_3, .bool a0_4, .int .i64 a0_5, .int .i64 a0_6, .string (⟨#[]⟩ : ByteArray), .bool false]) ?_ 8 _ rfl; (with_reducible repeat (first | refine blk_drewN ?_ _ | refine blk_drew ?_ | refine blk_alloc ?_ _)); refine blk_put (cs := #[.int .i64 a0_0, .string a0_1, .int .i64 a0_2, .int .i64 a0_3, .bool a0_4, .int .i64 a0_5, .int .i64 a0_6, .string (⟨#[]⟩ : ByteArray), .bool false]) ?_ 7 _ rfl; (with_reducible repeat (first | refine blk_drewN ?_ _ | refine blk_drew ?_ | refine blk_alloc ?_ _)); refine blk_put (cs := #[.int .i64 a0_0, .string a0_1, .int .i64 a0_2, .int .i64 a0_3, .bool a0_4, .int .i64 a0_5, .int .i64 0, .string (⟨#[]⟩ : ByteArray), .bool false]) ?_ 6 _ rfl; (with_reducible repeat (first | refine blk_drewN ?_ _ | refine blk_drew ?_ | refine blk_alloc ?_ _)); refine blk_put (cs := #[.int .i64 a0_0, .string a0_1, .int .i64 a0_2, .int .i64 a0_3, .bool a0_4, .int .i64 0, .int .i64 0, .string (⟨#[]⟩ : ByteArray), .bool false]) ?_ 5 _ rfl; (with_reducible repeat (first | refine blk_drewN ?_ _ | refine blk_drew ?_ | refine blk_alloc ?_ _)); refine blk_put (cs := #[.int .i64 a0_0, .string a0_1, .int .i64 a0_2, .int .i64 a0_3, .bool false, .int .i64 0, .int .i64 0, .string (⟨#[]⟩ : ByteArray), .bool false]) ?_ 4 _ rfl; (with_reducible repeat (first | refine blk_drewN ?_ _ | refine blk_drew ?_ | refine blk_alloc ?_ _)); refine blk_put (cs := #[.int .i64 a0_0, .string a0_1, .int .i64 a0_2, .int .i64 0, .bool false, .int .i64 0, .int .i64 0, .string (⟨#[]⟩ : ByteArray), .bool false]) ?_ 3 _ rfl; (with_reducible repeat (first | refine blk_drewN ?_ _ | refine blk_drew ?_ | refine blk_alloc ?_ _)); refine blk_put (cs := #[.int .i64 a0_0, .string a0_1, .int .i64 0, .int .i64 0, .bool false, .int .i64 0, .int .i64 0, .string (⟨#[]⟩ : ByteArray), .bool false]) ?_ 2 _ rfl; (with_reducible repeat (first | refine blk_drewN ?_ _ | refine blk_drew ?_ | refine blk_alloc ?_ _)); refine blk_put (cs := #[.int .i64 a0_0, .string (⟨#[]⟩ : ByteArray), .int .i64 0, .int .i64 0, .bool false, .int .i64 0, .int .i64 0, .string (⟨#[]⟩ : ByteArray), .bool false]) ?_ 1 _ rfl; (with_reducible repeat (first | refine blk_drewN ?_ _ | refine blk_drew ?_ | refine blk_alloc ?_ _)); refine blk_put (cs := #[.int .i64 0, .string (⟨#[]⟩ : ByteArray), .int .i64 0, .int .i64 0, .bool false, .int .i64 0, .int .i64 0, .string (⟨#[]⟩ : ByteArray), .bool false]) ?_ 0 _ rfl; (with_reducible repeat (first | refine blk_drewN ?_ _ | refine blk_drew ?_ | refine blk_alloc ?_ _)); refine blk_far ?_ NB186_185.out _; (with_reducible repeat (first | refine blk_drewN ?_ _ | refine blk_drew ?_ | refine blk_alloc ?_ _)); refine blk_far ?_ NB186_185.out _; (with_reducible repeat (first | refine blk_drewN ?_ _ | refine blk_drew ?_ | refine blk_alloc ?_ _)); exact BK186.out) Try.underlying46 rfl (by kernel_rfl)) rfl ?_
  exact ⟨by first | rfl | (simp [errW_none, errW_some] <;> rfl) | (simp [*, errW_none, errW_some] <;> rfl), by repeat (first | (with_reducible first | exact HB.out | apply below_alloc | apply pw_below_drewN | apply below_drew1 | refine below_set ?_ GE185.out | refine below_set ?_ GE186.out) | exact HB.out)⟩

/-! ### cenotaphref06_Put: function 48 -/
theorem zq48_0 {p_ : Prop} (h_ : p_ := by repeat (first | (with_reducible first | exact HB.out | apply below_alloc | apply pw_below_drewN | apply below_drew1) | exact HB.out)) : p_ := h_
theorem zq48_1 {p_ : Prop} (h_ : p_ := by first | rfl | (simp; done) | (simp [*]; done)) : p_ := h_
mutual
def cenotaphref06_Put.j0 : Nat → List Int → Int → Option (List Int)
 | 0, _, _ => none
 | k + 1, x0, x1 => (some (([] : List Int) : List Int)).bind fun y187 => (if y187.length + x0.length < 140737488355328 then (cenotaphref06_Put.l0 k x1 (y187 ++ x0)) else (none))
def cenotaphref06_Put.l0 : Nat → Int → List Int → Option (List Int)
 | 0, _, _ => none
 | k + 1, x1, x5 => if x1 ≥ 128 then (if x5.length < 140737488355328 then (cenotaphref06_Put.l0 k (wrap64 (Int.tdiv x1 128)) (x5 ++ [(wrap64 ((Int.tmod x1 128) + 128)) % 256])) else (none)) else (if x5.length < 140737488355328 then (some (x5 ++ [(x1) % 256])) else (none))
end
def cenotaphref06_Put.f (k : Nat) (l0 : List Int) (a1 : Int) : Option (List Int) := if a1 < 0 then (cenotaphref06_Put.j0 k l0 0) else (cenotaphref06_Put.j0 k l0 a1)
theorem cenotaphref06_Put.mono_l : ∀ k, (∀ y0 y1, LeO (cenotaphref06_Put.j0 k y0 y1) (cenotaphref06_Put.j0 (k + 1) y0 y1)) ∧ (∀ y0 y1, LeO (cenotaphref06_Put.l0 k y0 y1) (cenotaphref06_Put.l0 (k + 1) y0 y1))
 | 0 => ⟨fun _ _ r h => by simp [cenotaphref06_Put.j0] at h, fun _ _ r h => by simp [cenotaphref06_Put.l0] at h⟩
 | k + 1 => by
  obtain ⟨ih0, ih1⟩ := cenotaphref06_Put.mono_l k
  refine ⟨?_, ?_⟩
  ·intro y0 y1
   unfold cenotaphref06_Put.j0
   repeat' first
   | (with_reducible exact ih0 _ _)
   | (with_reducible exact ih1 _ _)
   | (with_reducible exact LeO.refl _)
   | (with_reducible exact LeO.none _)
   | (with_reducible refine LeO.ite ?_ ?_)
   | (with_reducible refine LeO.bind ?_ (fun _ => ?_))
   | exact ih0 _ _
   | exact ih1 _ _
   | exact LeO.none _
   | refine LeO.ite ?_ ?_
   | refine LeO.bind ?_ (fun _ => ?_)
  ·intro y0 y1
   unfold cenotaphref06_Put.l0
   repeat' first
   | (with_reducible exact ih0 _ _)
   | (with_reducible exact ih1 _ _)
   | (with_reducible exact LeO.refl _)
   | (with_reducible exact LeO.none _)
   | (with_reducible refine LeO.ite ?_ ?_)
   | (with_reducible refine LeO.bind ?_ (fun _ => ?_))
   | exact ih0 _ _
   | exact ih1 _ _
   | exact LeO.none _
   | refine LeO.ite ?_ ?_
   | refine LeO.bind ?_ (fun _ => ?_)
theorem cenotaphref06_Put.mono : ∀ a0 a1 k, LeO (cenotaphref06_Put.f k a0 a1) (cenotaphref06_Put.f (k + 1) a0 a1) := by
 intro a0 a1 k
 obtain ⟨ih0, ih1⟩ := cenotaphref06_Put.mono_l k
 unfold cenotaphref06_Put.f
 repeat' first
   | (with_reducible exact ih0 _ _)
   | (with_reducible exact ih1 _ _)
   | (with_reducible exact LeO.refl _)
   | (with_reducible exact LeO.none _)
   | (with_reducible refine LeO.ite ?_ ?_)
   | (with_reducible refine LeO.bind ?_ (fun _ => ?_))
   | exact ih0 _ _
   | exact ih1 _ _
   | exact LeO.none _
   | refine LeO.ite ?_ ?_
   | refine LeO.bind ?_ (fun _ => ?_)
set_option maxHeartbeats 8000000 in
set_option maxRecDepth 100000 in
theorem cenotaphref06_Put.calls (k : Nat) (A0 : Option Addr) (c0 : Nat) (l0 : List Int) (a1 : Int) (r : List Int) (w : World) (hr0 : Kd.C (Kd.int .u8) w A0 l0.length l0) (hc0 : l0.length ≤ c0) (h : cenotaphref06_Put.f k l0 a1 = some r) :
  Calls Try.prog 48 #[.slice A0 l0.length c0, .int .i64 a1] w fun e w' => ∃ v0_ : Value, e = .returned (v0_) ∧ Kd.R (Kd.int .u8) 5 w' w.heap.size (fun _ => True) v0_ r ∧ Below w.heap.size w w' := by
 have HR0 := Aside0.mk hr0
 have HC0 := Aside0.mk hc0
 clear hr0 hc0
 have HB := Aside0.mk (Below.refl w.heap.size w)
 have H : (if a1 < 0 then (cenotaphref06_Put.j0 k l0 0) else (cenotaphref06_Put.j0 k l0 a1)) = some r := h
 clear h
 have HC3 := Aside0.mk H
 clear H
 go_enter Try.func48, Try.ntmps48
 go_upto_if 7 with (fail)
 go_cut [1] (fun v1 wc => ∃ (kq : Nat) (x1_2 : Int), v1 = .int .i64 x1_2 ∧ Aside0 (cenotaphref06_Put.j0 kq l0 x1_2 = some r) ∧ Aside0 (kq ≤ k) ∧ Aside0 (Below w.heap.size w wc))
 case first =>
  have H := HC3.out
  clear HC3
  by_cases c4 : a1 < 0
  ·rw [if_pos c4] at H
   have c4b0 : decide (a1 < 0) = true := decide_eq_true c4
   clear c4
   (first | rw [c4b0] | (simp only [i64_w, i32_w]; rw [c4b0]) | skip)
   have H' := Aside0.mk H
   clear H
   go_wp2
   go_meet
   case rel => exact ⟨_, (0), zq48_1, H', ⟨by first | omega | exact Nat.le_refl _⟩, ⟨by repeat (first | (with_reducible first | exact HB.out | apply below_alloc | apply pw_below_drewN | apply below_drew1) | exact HB.out)⟩⟩
  ·rw [if_neg c4] at H
   have c4b0 : decide (a1 < 0) = false := decide_eq_false c4
   clear c4
   (first | rw [c4b0] | (simp only [i64_w, i32_w]; rw [c4b0]) | skip)
   have H' := Aside0.mk H
   clear H
   go_wp2
   go_meet
   case rel => exact ⟨_, (a1), zq48_1, H', ⟨by first | omega | exact Nat.le_refl _⟩, ⟨by repeat (first | (with_reducible first | exact HB.out | apply below_alloc | apply pw_below_drewN | apply below_drew1) | exact HB.out)⟩⟩
 case rest =>
  clear HC3
  try clear p2
  try clear c4
  try clear c4b0
  obtain ⟨kq, x1_2, rfl, HA, HJ2, HB⟩ := hcut
  cases kq with
  | zero => exact absurd HA.out (by simp [cenotaphref06_Put.j0])
  | succ kj2 =>
   have H := HA.out
   clear HA
   simp only [cenotaphref06_Put.j0] at H
   obtain ⟨y187, hy187⟩ : ∃ y_ : List Int, y_ = (([] : List Int)) := ⟨_, rfl⟩
   replace H : (if y187.length + l0.length < 140737488355328 then (cenotaphref06_Put.l0 kj2 x1_2 (y187 ++ l0)) else (none)) = some r := by first | (rw [hy187]; with_reducible exact H) | (have H2_ := (Option.bind_some _ _).symm.trans H; rw [hy187]; with_reducible exact H2_) | (have H2_ := (Option.bind_some _ _).symm.trans H; with_reducible exact H2_) | with_reducible exact H | (rw [hy187]; exact H) | exact H
   have Ny187 := Aside0.mk hy187
   clear hy187
   by_cases c5 : y187.length + l0.length < 140737488355328
   ·rw [if_pos c5] at H
    have LMc5 := Aside0.mk c5
    clear c5
    obtain ⟨y190, hy190⟩ : ∃ y_ : List Int, y_ = (y187 ++ l0) := ⟨_, rfl⟩
    replace H : (cenotaphref06_Put.l0 kj2 x1_2 y190) = some r := by first | (rw [hy190]; with_reducible exact H) | (have H2_ := (Option.bind_some _ _).symm.trans H; rw [hy190]; with_reducible exact H2_) | (have H2_ := (Option.bind_some _ _).symm.trans H; with_reducible exact H2_) | with_reducible exact H | (rw [hy190]; exact H) | exact H
    have Ny190 := Aside0.mk hy190
    clear hy190
    have H' := Aside0.mk H
    clear H
    go_wp2_with (first | ((with_reducible refine gate_dst (N := 8) rfl ?_); refine Kd.R_lit (Kd.int .u8) _ 5 ?hg (N := 8) ?hd (xs := ([] : List Int)) (inner := []) (ok := fun _ => True) (okp := fun _ => True) ?hr ?hp (fun _ hk => hk) trivial (Below.refl _ _) (Nat.le_refl _) (by simp) ?_; (case hd => rfl); (case hg => rfl); (case hr => first | (go_simp; done) | (go_simp; rfl)); (case hp => exact (Reps.none _ _)); intro v188 w6 ho7 hb hg_ hnew_; clear hg_ hnew_; (first | rw [← Ny187.out] at ho7 | (simp only [Int.reduceToNat] at ho7; rw [← Ny187.out] at ho7)); have n0_ := Aside0.mk (Kd.R_lower ho7 (below_size zq48_0)); have n1_ := Aside0.mk (below_step zq48_0 hb); clear HB; have HO189 := n0_; have HB := n1_; clear n0_ n1_; clear hb ho7) | ((with_reducible refine gate_builtin (b := .append) (xs := #[.tmp 8, .tmp 9]) rfl ?_); at_builtin; refine Kd.R_append_rows (Kd.int .u8) (w0 := w) w.heap.size rfl (.tmp 8) (.tmp 9) 32 5 (.int .u8 0) 1 rfl Try.underlying32 info5 rfl (by decide) (by omega) v188 y187 l0 _ _ _ (fun _ => True) (fun _ => False) rfl rfl ?aO ?aR (fun _ _ h => h) (fun _ h => h.elim) ?aF ?aB ?aS ?aL ?_; (case aR => repeat (first | exact (Kd.C_below HR0.out HB.out) | (with_reducible refine Kd.C_alloc ?_ _) | (with_reducible refine Kd.C_drewN ?_ _) | (with_reducible refine Kd.C_drew ?_))); (case aB => exact zq48_0); (case aF => exact (fun _ _ => trivial)); (case aO => exact (by (with_reducible repeat (first | apply Kd.R_alloc | apply Kd.R_drewN | apply Kd.R_drew)); exact HO189.out)); (case aS => exact (below_size zq48_0)); (case aL => have := LMc5.out; omega); intro v191 w8 ho hb hg hat; rw [← Ny190.out] at ho; have n0_ := Aside0.mk (hb); have n1_ := Aside0.mk (ho); clear HB; clear HO189; have HB := n0_; have HO192 := n1_; clear n0_ n1_; clear ho hb hg hat))
    go_loopg [1, 5] kj2 (fun kq v1 v5 w' => ∃ (x1_2 : Int) (x5_2 : List Int), v1 = .int .i64 x1_2 ∧ Aside0 (cenotaphref06_Put.l0 kq x1_2 x5_2 = some r) ∧ Aside0 (kq ≤ kj2) ∧ Aside0 (Kd.R (Kd.int .u8) 5 w' w.heap.size (fun _ => True) v5 x5_2) ∧ Aside0 (Below w.heap.size w w'))
    case atStart => exact ⟨(x1_2), (y190), zq48_1, H', ⟨Nat.le_refl _⟩, ⟨by (with_reducible repeat (first | apply Kd.R_alloc | apply Kd.R_drewN | apply Kd.R_drew)); exact HO192.out⟩, ⟨by repeat (first | (with_reducible first | exact HB.out | apply below_alloc | apply pw_below_drewN | apply below_drew1) | exact HB.out)⟩⟩
    case round =>
     clear H'
     try clear p2
     try clear c4
     try clear c4b0
     try clear c5
     try clear p2
     obtain ⟨x1_2, x5_2, rfl, HA, HK2, HO_5, HB⟩ := hrel
     cases gk with
     | zero => exact absurd HA.out (by simp [cenotaphref06_Put.l0])
     | succ k2 =>
      have H := HA.out
      clear HA
      simp only [cenotaphref06_Put.l0] at H
      by_cases c9 : x1_2 ≥ 128
      ·rw [if_pos c9] at H
       have c9b0 : decide (128 ≤ x1_2) = true := decide_eq_true c9
       clear c9
       by_cases c10 : x5_2.length < 140737488355328
       ·rw [if_pos c10] at H
        have LMc10 := Aside0.mk c10
        clear c10
        obtain ⟨y193, hy193⟩ : ∃ y_ : List Int, y_ = (x5_2 ++ [(wrap64 ((Int.tmod x1_2 128) + 128)) % 256]) := ⟨_, rfl⟩
        replace H : (cenotaphref06_Put.l0 k2 (wrap64 (Int.tdiv x1_2 128)) y193) = some r := by first | (rw [hy193]; with_reducible exact H) | (have H2_ := (Option.bind_some _ _).symm.trans H; rw [hy193]; with_reducible exact H2_) | (have H2_ := (Option.bind_some _ _).symm.trans H; with_reducible exact H2_) | with_reducible exact H | (rw [hy193]; exact H) | exact H
        have Ny193 := Aside0.mk hy193
        clear hy193
        have H' := Aside0.mk H
        clear H
        go_wp2_with (first | ((with_reducible refine gate_builtin (b := .append) (xs := #[.tmp 13, .tmp 18]) rfl ?_); at_builtin; refine Kd.R_append (Kd.int .u8) (w0 := w) w.heap.size rfl (.tmp 13) (.tmp 18) 32 5 (.int .u8 0) 1 rfl Try.underlying32 info5 rfl (by decide) (by omega) u5 x5_2 ((wrap64 ((Int.tmod x1_2 128) + 128)) % 256) [.int .u8 ((wrap64 ((Int.tmod x1_2 128) + 128)) % 256)] (fun _ => True) (fun _ => False) rfl rfl ?aP (fun _ hk => hk.elim) ?aF ?aO ?aB ?aS ?aL ?_; (case aP => exact rfl); (case aB => exact zq48_0); (case aF => exact (fun _ _ => trivial)); (case aO => exact (by (with_reducible repeat (first | apply Kd.R_alloc | apply Kd.R_drewN | apply Kd.R_drew)); exact HO_5.out)); (case aS => exact (below_size zq48_0)); (case aL => have := LMc10.out; omega); intro v194 w11 ho hb hg hat; rw [← Ny193.out] at ho; have n0_ := Aside0.mk (hb); have n1_ := Aside0.mk (ho); clear HB; clear HO_5; have HB := n0_; have HO195 := n1_; clear n0_ n1_; clear ho hb hg hat))
        go_roundg k2
        case measure => have := HJ2.out; have := HK2.out; omega
        case rel => exact ⟨(wrap64 (Int.tdiv x1_2 128)), (y193), zq48_1, H', ⟨by have := HJ2.out; have := HK2.out; omega⟩, ⟨by (with_reducible repeat (first | apply Kd.R_alloc | apply Kd.R_drewN | apply Kd.R_drew)); exact HO195.out⟩, ⟨by repeat (first | (with_reducible first | exact HB.out | apply below_alloc | apply pw_below_drewN | apply below_drew1) | exact HB.out)⟩⟩
       ·rw [if_neg c10] at H
        exact absurd H (by simp)
      ·rw [if_neg c9] at H
       have c9b0 : decide (128 ≤ x1_2) = false := decide_eq_false c9
       clear c9
       by_cases c12 : x5_2.length < 140737488355328
       ·rw [if_pos c12] at H
        have LMc12 := Aside0.mk c12
        clear c12
        obtain ⟨y196, hy196⟩ : ∃ y_ : List Int, y_ = (x5_2 ++ [(x1_2) % 256]) := ⟨_, rfl⟩
        replace H : (some y196) = some r := by first | (rw [hy196]; with_reducible exact H) | (have H2_ := (Option.bind_some _ _).symm.trans H; rw [hy196]; with_reducible exact H2_) | (have H2_ := (Option.bind_some _ _).symm.trans H; with_reducible exact H2_) | with_reducible exact H | (rw [hy196]; exact H) | exact H
        have Ny196 := Aside0.mk hy196
        clear hy196
        obtain rfl := Option.some.inj H
        go_wp2_with (first | ((with_reducible refine gate_builtin (b := .append) (xs := #[.tmp 22, .tmp 25]) rfl ?_); at_builtin; refine Kd.R_append (Kd.int .u8) (w0 := w) w.heap.size rfl (.tmp 22) (.tmp 25) 32 5 (.int .u8 0) 1 rfl Try.underlying32 info5 rfl (by decide) (by omega) u5 x5_2 ((x1_2) % 256) [.int .u8 ((x1_2) % 256)] (fun _ => True) (fun _ => False) rfl rfl ?aP (fun _ hk => hk.elim) ?aF ?aO ?aB ?aS ?aL ?_; (case aP => exact rfl); (case aB => exact zq48_0); (case aF => exact (fun _ _ => trivial)); (case aO => exact (by (with_reducible repeat (first | apply Kd.R_alloc | apply Kd.R_drewN | apply Kd.R_drew)); exact HO_5.out)); (case aS => exact (below_size zq48_0)); (case aL => have := LMc12.out; omega); intro v197 w13 ho hb hg hat; rw [← Ny196.out] at ho; have n0_ := Aside0.mk (hb); have n1_ := Aside0.mk (ho); clear HB; clear HO_5; have HB := n0_; have HO198 := n1_; clear n0_ n1_; clear ho hb hg hat))
        go_ret
        exact ⟨_, by first | rfl | (simp [errW_none, errW_some] <;> rfl) | (simp [*, errW_none, errW_some] <;> rfl), by (with_reducible repeat (first | apply Kd.R_alloc | apply Kd.R_drewN | apply Kd.R_drew)); exact HO198.out, by repeat (first | (with_reducible first | exact HB.out | apply below_alloc | apply pw_below_drewN | apply below_drew1) | exact HB.out)⟩
       ·rw [if_neg c12] at H
        exact absurd H (by simp)
   ·rw [if_neg c5] at H
    exact absurd H (by simp)

/-! ### cenotaphref06_PutText: function 49 -/
def cenotaphref06_PutText.f (k : Nat) (l0 : List Int) (a1 : ByteArray) : Option (List Int) := (cenotaphref06_Put.f k l0 (a1.size : Int)).bind fun t199 => (if t199.length + a1.size < 140737488355328 then (some (t199 ++ bytesOf a1)) else (none))
theorem cenotaphref06_PutText.mono : ∀ a0 a1 k, LeO (cenotaphref06_PutText.f k a0 a1) (cenotaphref06_PutText.f (k + 1) a0 a1) := by
  intro a0 a1 k
  unfold cenotaphref06_PutText.f
  repeat' first
      | (with_reducible exact cenotaphref06_Put.mono _ _ _)
      | (with_reducible exact LeO.refl _)
      | (with_reducible exact LeO.none _)
      | (with_reducible refine LeO.ite ?_ ?_)
      | (with_reducible refine LeO.bind ?_ (fun _ => ?_))
      | exact cenotaphref06_Put.mono _ _ _
      | exact LeO.none _
      | refine LeO.ite ?_ ?_
      | refine LeO.bind ?_ (fun _ => ?_)
set_option maxHeartbeats 8000000 in
set_option maxRecDepth 100000 in
theorem cenotaphref06_PutText.calls (k : Nat) (A0 : Option Addr) (c0 : Nat) (l0 : List Int) (a1 : ByteArray) (r : List Int) (w : World) (hr0 : Kd.C (Kd.int .u8) w A0 l0.length l0) (hc0 : l0.length ≤ c0) (h : cenotaphref06_PutText.f k l0 a1 = some r) :
    Calls Try.prog 49 #[.slice A0 l0.length c0, .string a1] w fun e w' => ∃ v0_ : Value, e = .returned (v0_) ∧ Kd.R (Kd.int .u8) 5 w' w.heap.size (fun _ => True) v0_ r ∧ Below w.heap.size w w' := by
  have HR0 := Aside0.mk hr0
  have HC0 := Aside0.mk hc0
  clear hr0 hc0
  have HB := Aside0.mk (Below.refl w.heap.size w)
  have H : ((cenotaphref06_Put.f k l0 (a1.size : Int)).bind fun t199 => (if t199.length + a1.size < 140737488355328 then (some (t199 ++ bytesOf a1)) else (none))) = some r := h
  clear h
  replace H := Option.bind_eq_some_iff.mp H
  obtain ⟨t199, A30, H⟩ := H
  replace H : (if t199.length + a1.size < 140737488355328 then (some (t199 ++ bytesOf a1)) else (none)) = some r := H
  have A3 := Aside0.mk A30
  clear A30
  by_cases c4 : t199.length + a1.size < 140737488355328
  · rw [if_pos c4] at H
    have LMc4 := Aside0.mk c4
    clear c4
    obtain ⟨y202, hy202⟩ : ∃ y_ : List Int, y_ = (t199 ++ bytesOf a1) := ⟨_, rfl⟩
    replace H : (some y202) = some r := by first | (rw [hy202]; with_reducible exact H) | (have H2_ := (Option.bind_some _ _).symm.trans H; rw [hy202]; with_reducible exact H2_) | (have H2_ := (Option.bind_some _ _).symm.trans H; with_reducible exact H2_) | with_reducible exact H | (rw [hy202]; exact H) | exact H
    have Ny202 := Aside0.mk hy202
    clear hy202
    obtain rfl := Option.some.inj H
    go_enter Try.func49, Try.ntmps49
    go_wp2_with (first | ((with_reducible refine gate_callee (f := 48) rfl ?_); refine goesL_ (some 8) rfl rfl Try.func48 (by kernel_rfl) rfl #[.slice A0 l0.length c0, .int .i64 (a1.size : Int)] rfl (by (try simp only [List.map_toArray, List.map_cons, List.map_nil]); first | done | rfl | (simp only [List.length_drop, List.length_take]; rfl)) ?_; (with_reducible refine (cenotaphref06_Put.calls k _ _ l0 (a1.size : Int) t199 _ ?side1 ?side2 A3.out).mono ?_); (case side1 => repeat (first | exact HR0.out | (with_reducible refine Kd.C_alloc ?_ _) | (with_reducible refine Kd.C_drewN ?_ _) | (with_reducible refine Kd.C_drew ?_))); (case side2 => exact HC0.out); rintro e w5 ⟨v200, rfl, ho0, hb⟩; refine ⟨_, rfl, ?_⟩; have n0_ := Aside0.mk (Kd.R_lower ho0 (below_size (by repeat (first | (with_reducible first | exact HB.out | apply below_alloc | apply pw_below_drewN | apply below_drew1) | exact HB.out)))); have n1_ := Aside0.mk (below_step (by repeat (first | (with_reducible first | exact HB.out | apply below_alloc | apply pw_below_drewN | apply below_drew1) | exact HB.out)) hb); clear HB; have HO201 := n0_; have HB := n1_; clear n0_ n1_; (try clear hb); (try clear hb2); (try clear hk); (try clear hi); (try clear ho0)) | (at_builtin; refine print_append_str (w0 := w) w.heap.size rfl (.tmp 8) _ 32 9 5 rfl Try.underlying32 Try.underlying9 info5 v200 t199 a1 rfl rfl ?aO ?aB ?aS ?aL ?_; (case aB => exact (by repeat (first | (with_reducible first | exact HB.out | apply below_alloc | apply pw_below_drewN | apply below_drew1) | exact HB.out))); (case aO => exact (Kd.own_of_R (by (with_reducible repeat (first | apply Kd.R_alloc | apply Kd.R_drewN | apply Kd.R_drew)); exact HO201.out))); (case aS => exact (below_size (by repeat (first | (with_reducible first | exact HB.out | apply below_alloc | apply pw_below_drewN | apply below_drew1) | exact HB.out)))); (case aL => have := LMc4.out; omega); intro v203 w6 ho0 hb hg; have ho := Kd.R_of_own (h1 := fun _ => rfl) (ok := fun _ => True) ho0 (fun _ _ => trivial); clear ho0; have hat := True.intro; rw [← Ny202.out] at ho; change Kd.R (Kd.int .u8) 5 w6 w.heap.size (fun _ => True) v203 y202 at ho; have n0_ := Aside0.mk (hb); have n1_ := Aside0.mk (ho); clear HB; clear HO201; have HB := n0_; have HO204 := n1_; clear n0_ n1_; clear ho hb hg hat))
    go_ret
    exact ⟨_, by first | rfl | (simp [errW_none, errW_some] <;> rfl) | (simp [*, errW_none, errW_some] <;> rfl), by (with_reducible repeat (first | apply Kd.R_alloc | apply Kd.R_drewN | apply Kd.R_drew)); exact HO204.out, by repeat (first | (with_reducible first | exact HB.out | apply below_alloc | apply pw_below_drewN | apply below_drew1) | exact HB.out)⟩
  · rw [if_neg c4] at H
    exact absurd H (by simp)

/-! ### cenotaphref07_Put: function 27 -/
theorem zq27_0 {p_ : Prop} (h_ : p_ := by rw [hg]; exact (below_size (by repeat (first | (with_reducible first | exact HB.out | apply below_alloc | apply pw_below_drewN | apply below_drew1) | exact HB.out)))) : p_ := h_
theorem zq27_1 {p_ : Prop} (h_ : p_ := by repeat (first | (with_reducible first | exact HB.out | apply below_alloc | apply pw_below_drewN | apply below_drew1 | refine below_set ?_ GE205.out) | exact HB.out)) : p_ := h_
theorem zq27_2 {p_ : Prop} (h_ : p_ := by (try simp only [List.map_toArray, List.map_cons, List.map_nil]); first | done | rfl | (simp only [List.length_drop, List.length_take]; rfl)) : p_ := h_
theorem zq27_3 {p_ : Prop} (h_ : p_ := by repeat (first | (with_reducible first | exact HB.out | apply below_alloc | apply pw_below_drewN | apply below_drew1) | exact HB.out)) : p_ := h_
theorem zq27_4 {p_ : Prop} (h_ : p_ := by (with_reducible repeat (first | refine blk_drewN ?_ _ | refine blk_drew ?_ | refine blk_alloc ?_ _)); exact BK205.out) : p_ := h_
theorem zq27_5 {p_ : Prop} (h_ : p_ := by (with_reducible repeat (first | apply Kd.R_alloc | apply Kd.R_drewN | apply Kd.R_drew)); exact HO215.out) : p_ := h_
theorem zq27_6 {p_ : Prop} (h_ : p_ := by (with_reducible repeat (first | apply Kd.R_alloc | apply Kd.R_drewN | apply Kd.R_drew)); exact HO218.out) : p_ := h_
theorem zq27_7 {p_ : Prop} (h_ : p_ := by (with_reducible repeat (first | apply Kd.R_alloc | apply Kd.R_drewN | apply Kd.R_drew)); exact HO221.out) : p_ := h_
theorem zq27_8 {p_ : Prop} (h_ : p_ := by (with_reducible repeat (first | apply Kd.R_alloc | apply Kd.R_drewN | apply Kd.R_drew)); exact HO230.out) : p_ := h_
theorem zq27_9 {p_ : Prop} (h_ : p_ := by (with_reducible repeat (first | apply Kd.R_alloc | apply Kd.R_drewN | apply Kd.R_drew)); exact HO233.out) : p_ := h_
theorem zq27_10 {p_ : Prop} (h_ : p_ := by (with_reducible repeat (first | apply Kd.R_alloc | apply Kd.R_drewN | apply Kd.R_drew)); exact HO_0.out) : p_ := h_
def cenotaphref07_Put.j0 : Nat → List Int → Int → Int → ByteArray → Int → Int → Bool → Int → Int → ByteArray → Bool → Option (List Int)
 | 0, _, _, _, _, _, _, _, _, _, _, _ => none
 | k + 1, x0, x5, x206000, x206001, x206002, x206003, x206004, x206005, x206006, x206007, x206008 => (cenotaphref06_Put.f k x0 x5).bind fun t228 => ((cenotaphref06_Put.f k t228 (wrap64 (x206005 + 1000))).bind fun t231 => ((cenotaphref06_Put.f k t231 (wrap64 (x206006 + 1000))).bind fun t234 => (if x206008 = true then ((cenotaphref06_PutText.f k t234 x206007).bind fun t237 => (some t237)) else (some t234))))
def cenotaphref07_Put.f (k : Nat) (l0 : List Int) (a1_0 : Int) (a1_1 : ByteArray) (a1_2 : Int) (a1_3 : Int) (a1_4 : Bool) (a1_5 : Int) (a1_6 : Int) (a1_7 : ByteArray) (a1_8 : Bool) : Option (List Int) := (cenotaphref07_Right.f k a1_0 a1_1 a1_2 a1_3 a1_4 a1_5 a1_6 a1_7 a1_8).bind fun t206 => (if t206 = true then ((cenotaphref06_Put.f k l0 a1_0).bind fun t213 => ((cenotaphref06_PutText.f k t213 a1_1).bind fun t216 => ((cenotaphref06_Put.f k t216 a1_2).bind fun t219 => ((cenotaphref06_Put.f k t219 a1_3).bind fun t222 => (if a1_4 = true then ((cenotaphref06_Put.f k t222 0).bind fun t225 => (some t225)) else (if a1_8 = true then (cenotaphref07_Put.j0 k t222 2 a1_0 a1_1 a1_2 a1_3 a1_4 a1_5 a1_6 a1_7 a1_8) else (cenotaphref07_Put.j0 k t222 1 a1_0 a1_1 a1_2 a1_3 a1_4 a1_5 a1_6 a1_7 a1_8))))))) else ((some (([] : List Int) : List Int)).bind fun y207 => (if y207.length + l0.length < 140737488355328 then (some (y207 ++ l0)) else (none))))
theorem cenotaphref07_Put.mono_l : ∀ k, (∀ y0 y1 y2 y3 y4 y5 y6 y7 y8 y9 y10, LeO (cenotaphref07_Put.j0 k y0 y1 y2 y3 y4 y5 y6 y7 y8 y9 y10) (cenotaphref07_Put.j0 (k + 1) y0 y1 y2 y3 y4 y5 y6 y7 y8 y9 y10))
 | 0 => fun _ _ _ _ _ _ _ _ _ _ _ r h => by simp [cenotaphref07_Put.j0] at h
 | k + 1 => by
  have ih0 := cenotaphref07_Put.mono_l k
  ·intro y0 y1 y2 y3 y4 y5 y6 y7 y8 y9 y10
   unfold cenotaphref07_Put.j0
   repeat' first
   | (with_reducible exact ih0 _ _ _ _ _ _ _ _ _ _ _)
   | (with_reducible exact cenotaphref06_Put.mono _ _ _)
   | (with_reducible exact cenotaphref06_PutText.mono _ _ _)
   | (with_reducible exact cenotaphref07_Right.mono _ _ _ _ _ _ _ _ _ _)
   | (with_reducible exact LeO.refl _)
   | (with_reducible exact LeO.none _)
   | (with_reducible refine LeO.ite ?_ ?_)
   | (with_reducible refine LeO.bind ?_ (fun _ => ?_))
   | exact ih0 _ _ _ _ _ _ _ _ _ _ _
   | exact cenotaphref06_Put.mono _ _ _
   | exact cenotaphref06_PutText.mono _ _ _
   | exact cenotaphref07_Right.mono _ _ _ _ _ _ _ _ _ _
   | exact LeO.none _
   | refine LeO.ite ?_ ?_
   | refine LeO.bind ?_ (fun _ => ?_)
theorem cenotaphref07_Put.mono : ∀ a0 a1 a2 a3 a4 a5 a6 a7 a8 a9 k, LeO (cenotaphref07_Put.f k a0 a1 a2 a3 a4 a5 a6 a7 a8 a9) (cenotaphref07_Put.f (k + 1) a0 a1 a2 a3 a4 a5 a6 a7 a8 a9) := by
 intro a0 a1 a2 a3 a4 a5 a6 a7 a8 a9 k
 have ih0 := cenotaphref07_Put.mono_l k
 unfold cenotaphref07_Put.f
 repeat' first
   | (with_reducible exact ih0 _ _ _ _ _ _ _ _ _ _ _)
   | (with_reducible exact cenotaphref06_Put.mono _ _ _)
   | (with_reducible exact cenotaphref06_PutText.mono _ _ _)
   | (with_reducible exact cenotaphref07_Right.mono _ _ _ _ _ _ _ _ _ _)
   | (with_reducible exact LeO.refl _)
   | (with_reducible exact LeO.none _)
   | (with_reducible refine LeO.ite ?_ ?_)
   | (with_reducible refine LeO.bind ?_ (fun _ => ?_))
   | exact ih0 _ _ _ _ _ _ _ _ _ _ _
   | exact cenotaphref06_Put.mono _ _ _
   | exact cenotaphref06_PutText.mono _ _ _
   | exact cenotaphref07_Right.mono _ _ _ _ _ _ _ _ _ _
   | exact LeO.none _
   | refine LeO.ite ?_ ?_
   | refine LeO.bind ?_ (fun _ => ?_)
def cenotaphref07_Put.T5 : Bool × List (List Nat × List Nat) := (true, [([], []), ([], []), ([1], [1]), ([2], [2]), ([0, 3], [0, 3]), ([], []), ([5], [5]), ([6], [6]), ([4, 7, 4], [4, 7]), ([8, 8, 0, 1, 2, 3, 4, 5, 6, 7, 8], [0, 8])])
def cenotaphref07_Put.B5 : List Nat := [0, 0, 2, 6, 15, 0, 32, 96, 255, 511]
theorem cenotaphref07_Put.tab5 : rtab .any (opsOf Try.f27 5) = cenotaphref07_Put.T5 := by kernel_rfl
theorem cenotaphref07_Put.bits5 : waitsOk cenotaphref07_Put.T5.2 cenotaphref07_Put.B5 = true := by kernel_rfl
def cenotaphref07_Put.T11 : Bool × List (List Nat × List Nat) := (true, [([], []), ([], []), ([0, 1], [0, 1]), ([], []), ([3], [3]), ([4], [4]), ([5], [5]), ([2, 6, 2], [2, 6]), ([], []), ([8], [8]), ([9], [9]), ([10], [10]), ([7, 11, 7], [7, 11]), ([12, 12, 0, 1, 2, 3, 4, 5, 6, 7, 8, 9, 10, 11, 12], [0, 12])])
def cenotaphref07_Put.B11 : List Nat := [0, 0, 3, 0, 8, 24, 56, 127, 0, 256, 768, 1792, 4095, 8191]
theorem cenotaphref07_Put.tab11 : rtab .any (opsOf Try.f27 11) = cenotaphref07_Put.T11 := by kernel_rfl
theorem cenotaphref07_Put.bits11 : waitsOk cenotaphref07_Put.T11.2 cenotaphref07_Put.B11 = true := by kernel_rfl
set_option maxHeartbeats 8000000 in
set_option maxRecDepth 100000 in
theorem cenotaphref07_Put.calls (k : Nat) (A0 : Option Addr) (c0 : Nat) (l0 : List Int) (a1_0 : Int) (a1_1 : ByteArray) (a1_2 : Int) (a1_3 : Int) (a1_4 : Bool) (a1_5 : Int) (a1_6 : Int) (a1_7 : ByteArray) (a1_8 : Bool) (r : List Int) (w : World) (hr0 : Kd.C (Kd.int .u8) w A0 l0.length l0) (hc0 : l0.length ≤ c0) (h : cenotaphref07_Put.f k l0 a1_0 a1_1 a1_2 a1_3 a1_4 a1_5 a1_6 a1_7 a1_8 = some r) :
  Calls Try.prog 27 #[.slice A0 l0.length c0, .agg #[.int .i64 a1_0, .string a1_1, .int .i64 a1_2, .int .i64 a1_3, .bool a1_4, .int .i64 a1_5, .int .i64 a1_6, .string a1_7, .bool a1_8]] w fun e w' => ∃ v0_ : Value, e = .returned (v0_) ∧ Kd.R (Kd.int .u8) 5 w' w.heap.size (fun _ => True) v0_ r ∧ Below w.heap.size w w' := by
 have hu46 := Try.underlying46
 have HR0 := Aside0.mk hr0
 have HC0 := Aside0.mk hc0
 clear hr0 hc0
 have HB := Aside0.mk (Below.refl w.heap.size w)
 have H : ((cenotaphref07_Right.f k a1_0 a1_1 a1_2 a1_3 a1_4 a1_5 a1_6 a1_7 a1_8).bind fun t206 => (if t206 = true then ((cenotaphref06_Put.f k l0 a1_0).bind fun t213 => ((cenotaphref06_PutText.f k t213 a1_1).bind fun t216 => ((cenotaphref06_Put.f k t216 a1_2).bind fun t219 => ((cenotaphref06_Put.f k t219 a1_3).bind fun t222 => (if a1_4 = true then ((cenotaphref06_Put.f k t222 0).bind fun t225 => (some t225)) else (if a1_8 = true then (cenotaphref07_Put.j0 k t222 2 a1_0 a1_1 a1_2 a1_3 a1_4 a1_5 a1_6 a1_7 a1_8) else (cenotaphref07_Put.j0 k t222 1 a1_0 a1_1 a1_2 a1_3 a1_4 a1_5 a1_6 a1_7 a1_8))))))) else ((some (([] : List Int) : List Int)).bind fun y207 => (if y207.length + l0.length < 140737488355328 then (some (y207 ++ l0)) else (none))))) = some r := h
 clear h
 replace H := Option.bind_eq_some_iff.mp H
 obtain ⟨t206, A30, H⟩ := H
 replace H : (if t206 = true then ((cenotaphref06_Put.f k l0 a1_0).bind fun t213 => ((cenotaphref06_PutText.f k t213 a1_1).bind fun t216 => ((cenotaphref06_Put.f k t216 a1_2).bind fun t219 => ((cenotaphref06_Put.f k t219 a1_3).bind fun t222 => (if a1_4 = true then ((cenotaphref06_Put.f k t222 0).bind fun t225 => (some t225)) else (if a1_8 = true then (cenotaphref07_Put.j0 k t222 2 a1_0 a1_1 a1_2 a1_3 a1_4 a1_5 a1_6 a1_7 a1_8) else (cenotaphref07_Put.j0 k t222 1 a1_0 a1_1 a1_2 a1_3 a1_4 a1_5 a1_6 a1_7 a1_8))))))) else ((some (([] : List Int) : List Int)).bind fun y207 => (if y207.length + l0.length < 140737488355328 then (some (y207 ++ l0)) else (none)))) = some r := H
 have A3 := Aside0.mk A30
 clear A30
 by_cases c4 : t206 = true
 ·subst c4
  have H1 : ((cenotaphref06_Put.f k l0 a1_0).bind fun t213 => ((cenotaphref06_PutText.f k t213 a1_1).bind fun t216 => ((cenotaphref06_Put.f k t216 a1_2).bind fun t219 => ((cenotaphref06_Put.f k t219 a1_3).bind fun t222 => (if a1_4 = true then ((cenotaphref06_Put.f k t222 0).bind fun t225 => (some t225)) else (if a1_8 = true then (cenotaphref07_Put.j0 k t222 2 a1_0 a1_1 a1_2 a1_3 a1_4 a1_5 a1_6 a1_7 a1_8) else (cenotaphref07_Put.j0 k t222 1 a1_0 a1_1 a1_2 a1_3 a1_4 a1_5 a1_6 a1_7 a1_8))))))) = some r := by rw [if_pos rfl] at H; exact H
  clear H
  have H := H1
  clear H1
  replace H := Option.bind_eq_some_iff.mp H
  obtain ⟨t213, A50, H⟩ := H
  replace H : ((cenotaphref06_PutText.f k t213 a1_1).bind fun t216 => ((cenotaphref06_Put.f k t216 a1_2).bind fun t219 => ((cenotaphref06_Put.f k t219 a1_3).bind fun t222 => (if a1_4 = true then ((cenotaphref06_Put.f k t222 0).bind fun t225 => (some t225)) else (if a1_8 = true then (cenotaphref07_Put.j0 k t222 2 a1_0 a1_1 a1_2 a1_3 a1_4 a1_5 a1_6 a1_7 a1_8) else (cenotaphref07_Put.j0 k t222 1 a1_0 a1_1 a1_2 a1_3 a1_4 a1_5 a1_6 a1_7 a1_8)))))) = some r := H
  have A5 := Aside0.mk A50
  clear A50
  replace H := Option.bind_eq_some_iff.mp H
  obtain ⟨t216, A60, H⟩ := H
  replace H : ((cenotaphref06_Put.f k t216 a1_2).bind fun t219 => ((cenotaphref06_Put.f k t219 a1_3).bind fun t222 => (if a1_4 = true then ((cenotaphref06_Put.f k t222 0).bind fun t225 => (some t225)) else (if a1_8 = true then (cenotaphref07_Put.j0 k t222 2 a1_0 a1_1 a1_2 a1_3 a1_4 a1_5 a1_6 a1_7 a1_8) else (cenotaphref07_Put.j0 k t222 1 a1_0 a1_1 a1_2 a1_3 a1_4 a1_5 a1_6 a1_7 a1_8))))) = some r := H
  have A6 := Aside0.mk A60
  clear A60
  replace H := Option.bind_eq_some_iff.mp H
  obtain ⟨t219, A70, H⟩ := H
  replace H : ((cenotaphref06_Put.f k t219 a1_3).bind fun t222 => (if a1_4 = true then ((cenotaphref06_Put.f k t222 0).bind fun t225 => (some t225)) else (if a1_8 = true then (cenotaphref07_Put.j0 k t222 2 a1_0 a1_1 a1_2 a1_3 a1_4 a1_5 a1_6 a1_7 a1_8) else (cenotaphref07_Put.j0 k t222 1 a1_0 a1_1 a1_2 a1_3 a1_4 a1_5 a1_6 a1_7 a1_8)))) = some r := H
  have A7 := Aside0.mk A70
  clear A70
  replace H := Option.bind_eq_some_iff.mp H
  obtain ⟨t222, A80, H⟩ := H
  replace H : (if a1_4 = true then ((cenotaphref06_Put.f k t222 0).bind fun t225 => (some t225)) else (if a1_8 = true then (cenotaphref07_Put.j0 k t222 2 a1_0 a1_1 a1_2 a1_3 a1_4 a1_5 a1_6 a1_7 a1_8) else (cenotaphref07_Put.j0 k t222 1 a1_0 a1_1 a1_2 a1_3 a1_4 a1_5 a1_6 a1_7 a1_8))) = some r := H
  have A8 := Aside0.mk A80
  clear A80
  by_cases c9 : a1_4 = true
  ·subst c9
   have H1 : ((cenotaphref06_Put.f k t222 0).bind fun t225 => (some t225)) = some r := by rw [if_pos rfl] at H; exact H
   clear H
   have H := H1
   clear H1
   replace H := Option.bind_eq_some_iff.mp H
   obtain ⟨t225, A100, H⟩ := H
   replace H : (some t225) = some r := H
   have A10 := Aside0.mk A100
   clear A100
   obtain rfl := Option.some.inj H
   go_enter Try.func27, Try.ntmps27
   try go_wp2_with (first | ((with_reducible refine gate_dst (N := 3) rfl ?_); refine box_event ?hg (N := 3) ?hd (cs := #[.int .i64 a1_0, .string a1_1, .int .i64 a1_2, .int .i64 a1_3, .bool true, .int .i64 a1_5, .int .i64 a1_6, .string a1_7, .bool a1_8]) (t := 46) ?hr ?_; (case hd => rfl); (case hg => rfl); (case hr => first | (go_simp; done) | (go_simp; rfl)); intro gb205 hg w11 hbox hb; have n0_ := Aside0.mk (below_step zq27_3 hb); have n1_ := Aside0.mk (hbox); have n2_ := Aside0.mk ((zq27_0 : w.heap.size ≤ gb205)); have n3_ := Aside0.mk ((zq27_0 : w.heap.size ≤ gb205)); clear HB; have HB := n0_; have BK205 := n1_; have GW205 := n2_; have GE205 := n3_; clear n0_ n1_ n2_ n3_; clear hb hbox hg; have hcz12_0 : w11.cell? ⟨gb205, 0, none⟩ = some (.int .i64 a1_0) := (blk_cell BK205.out 0).trans rfl; have hcz12_1 : w11.cell? ⟨gb205, 1, none⟩ = some (.string a1_1) := (blk_cell BK205.out 1).trans rfl; have hcz12_2 : w11.cell? ⟨gb205, 2, none⟩ = some (.int .i64 a1_2) := (blk_cell BK205.out 2).trans rfl; have hcz12_3 : w11.cell? ⟨gb205, 3, none⟩ = some (.int .i64 a1_3) := (blk_cell BK205.out 3).trans rfl; have hcz12_4 : w11.cell? ⟨gb205, 4, none⟩ = some (.bool true) := (blk_cell BK205.out 4).trans rfl; have hcz12_5 : w11.cell? ⟨gb205, 5, none⟩ = some (.int .i64 a1_5) := (blk_cell BK205.out 5).trans rfl; have hcz12_6 : w11.cell? ⟨gb205, 6, none⟩ = some (.int .i64 a1_6) := (blk_cell BK205.out 6).trans rfl; have hcz12_7 : w11.cell? ⟨gb205, 7, none⟩ = some (.string a1_7) := (blk_cell BK205.out 7).trans rfl; have hcz12_8 : w11.cell? ⟨gb205, 8, none⟩ = some (.bool a1_8) := (blk_cell BK205.out 8).trans rfl; have hfz12_0 := blk_frozen BK205.out 0; have hfz12_1 := blk_frozen BK205.out 1; have hfz12_2 := blk_frozen BK205.out 2; have hfz12_3 := blk_frozen BK205.out 3; have hfz12_4 := blk_frozen BK205.out 4; have hfz12_5 := blk_frozen BK205.out 5; have hfz12_6 := blk_frozen BK205.out 6; have hfz12_7 := blk_frozen BK205.out 7; have hfz12_8 := blk_frozen BK205.out 8) | ((with_reducible refine gate_callee (f := 24) rfl ?_); refine goesL_ (some 7) rfl rfl Try.func24 (by kernel_rfl) rfl #[.agg #[.int .i64 a1_0, .string a1_1, .int .i64 a1_2, .int .i64 a1_3, .bool true, .int .i64 a1_5, .int .i64 a1_6, .string a1_7, .bool a1_8]] rfl zq27_2 ?_; (with_reducible refine (cenotaphref07_Right.calls k a1_0 a1_1 a1_2 a1_3 true a1_5 a1_6 a1_7 a1_8 true _ A3.out).mono ?_); rintro e w13 ⟨rfl, hb⟩; refine ⟨_, rfl, ?_⟩; have n0_ := Aside0.mk (blk_below (g := gb205) (o := .cells #[.int .i64 a1_0, .string a1_1, .int .i64 a1_2, .int .i64 a1_3, .bool true, .int .i64 a1_5, .int .i64 a1_6, .string a1_7, .bool a1_8] 46 (0, 0)) zq27_4 hb); have n1_ := Aside0.mk (below_step zq27_1 hb); clear BK205; clear HB; have BK205 := n0_; have HB := n1_; clear n0_ n1_; (try clear hb); (try clear hb2); (try clear hk); (try clear hi); have hcz14_0 : w13.cell? ⟨gb205, 0, none⟩ = some (.int .i64 a1_0) := (blk_cell BK205.out 0).trans rfl; have hcz14_1 : w13.cell? ⟨gb205, 1, none⟩ = some (.string a1_1) := (blk_cell BK205.out 1).trans rfl; have hcz14_2 : w13.cell? ⟨gb205, 2, none⟩ = some (.int .i64 a1_2) := (blk_cell BK205.out 2).trans rfl; have hcz14_3 : w13.cell? ⟨gb205, 3, none⟩ = some (.int .i64 a1_3) := (blk_cell BK205.out 3).trans rfl; have hcz14_4 : w13.cell? ⟨gb205, 4, none⟩ = some (.bool true) := (blk_cell BK205.out 4).trans rfl; have hcz14_5 : w13.cell? ⟨gb205, 5, none⟩ = some (.int .i64 a1_5) := (blk_cell BK205.out 5).trans rfl; have hcz14_6 : w13.cell? ⟨gb205, 6, none⟩ = some (.int .i64 a1_6) := (blk_cell BK205.out 6).trans rfl; have hcz14_7 : w13.cell? ⟨gb205, 7, none⟩ = some (.string a1_7) := (blk_cell BK205.out 7).trans rfl; have hcz14_8 : w13.cell? ⟨gb205, 8, none⟩ = some (.bool a1_8) := (blk_cell BK205.out 8).trans rfl; have hfz14_0 := blk_frozen BK205.out 0; have hfz14_1 := blk_frozen BK205.out 1; have hfz14_2 := blk_frozen BK205.out 2; have hfz14_3 := blk_frozen BK205.out 3; have hfz14_4 := blk_frozen BK205.out 4; have hfz14_5 := blk_frozen BK205.out 5; have hfz14_6 := blk_frozen BK205.out 6; have hfz14_7 := blk_frozen BK205.out 7; have hfz14_8 := blk_frozen BK205.out 8) | ((with_reducible refine gate_callee (f := 48) rfl ?_); refine goesL_ (some 15) rfl rfl Try.func48 (by kernel_rfl) rfl #[.slice A0 l0.length c0, .int .i64 a1_0] rfl zq27_2 ?_; (with_reducible refine (cenotaphref06_Put.calls k _ _ l0 a1_0 t213 _ ?side1 ?side2 A5.out).mono ?_); (case side1 => repeat (first | exact (Kd.C_below HR0.out HB.out) | (with_reducible refine Kd.C_alloc ?_ _) | (with_reducible refine Kd.C_drewN ?_ _) | (with_reducible refine Kd.C_drew ?_))); (case side2 => exact HC0.out); rintro e w15 ⟨v214, rfl, ho0, hb⟩; refine ⟨_, rfl, ?_⟩; have n0_ := Aside0.mk (Kd.R_lower ho0 (below_size zq27_1)); have n1_ := Aside0.mk (blk_below (g := gb205) (o := .cells #[.int .i64 a1_0, .string a1_1, .int .i64 a1_2, .int .i64 a1_3, .bool true, .int .i64 a1_5, .int .i64 a1_6, .string a1_7, .bool a1_8] 46 (0, 0)) zq27_4 hb); have n2_ := Aside0.mk (below_step zq27_1 hb); clear BK205; clear HB; have HO215 := n0_; have BK205 := n1_; have HB := n2_; clear n0_ n1_ n2_; (try clear hb); (try clear hb2); (try clear hk); (try clear hi); (try clear ho0); have hcz16_0 : w15.cell? ⟨gb205, 0, none⟩ = some (.int .i64 a1_0) := (blk_cell BK205.out 0).trans rfl; have hcz16_1 : w15.cell? ⟨gb205, 1, none⟩ = some (.string a1_1) := (blk_cell BK205.out 1).trans rfl; have hcz16_2 : w15.cell? ⟨gb205, 2, none⟩ = some (.int .i64 a1_2) := (blk_cell BK205.out 2).trans rfl; have hcz16_3 : w15.cell? ⟨gb205, 3, none⟩ = some (.int .i64 a1_3) := (blk_cell BK205.out 3).trans rfl; have hcz16_4 : w15.cell? ⟨gb205, 4, none⟩ = some (.bool true) := (blk_cell BK205.out 4).trans rfl; have hcz16_5 : w15.cell? ⟨gb205, 5, none⟩ = some (.int .i64 a1_5) := (blk_cell BK205.out 5).trans rfl; have hcz16_6 : w15.cell? ⟨gb205, 6, none⟩ = some (.int .i64 a1_6) := (blk_cell BK205.out 6).trans rfl; have hcz16_7 : w15.cell? ⟨gb205, 7, none⟩ = some (.string a1_7) := (blk_cell BK205.out 7).trans rfl; have hcz16_8 : w15.cell? ⟨gb205, 8, none⟩ = some (.bool a1_8) := (blk_cell BK205.out 8).trans rfl; have hfz16_0 := blk_frozen BK205.out 0; have hfz16_1 := blk_frozen BK205.out 1; have hfz16_2 := blk_frozen BK205.out 2; have hfz16_3 := blk_frozen BK205.out 3; have hfz16_4 := blk_frozen BK205.out 4; have hfz16_5 := blk_frozen BK205.out 5; have hfz16_6 := blk_frozen BK205.out 6; have hfz16_7 := blk_frozen BK205.out 7; have hfz16_8 := blk_frozen BK205.out 8; obtain ⟨Ao17, co17, eo17⟩ := Kd.R_slice HO215.out; subst eo17) | ((with_reducible refine gate_callee (f := 49) rfl ?_); refine goesL_ (some 20) rfl rfl Try.func49 (by kernel_rfl) rfl #[.slice Ao17 t213.length co17, .string a1_1] rfl zq27_2 ?_; (with_reducible refine (cenotaphref06_PutText.calls k _ _ t213 a1_1 t216 _ ?side1 ?side2 A6.out).mono ?_); (case side1 => repeat (first | exact (Kd.R_reads' HO215.out).2.2 | (with_reducible refine Kd.C_alloc ?_ _) | (with_reducible refine Kd.C_drewN ?_ _) | (with_reducible refine Kd.C_drew ?_))); (case side2 => exact (Kd.R_reads' HO215.out).2.1); rintro e w18 ⟨v217, rfl, ho0, hb⟩; refine ⟨_, rfl, ?_⟩; have n0_ := Aside0.mk (Kd.R_elder' zq27_5 (Kd.R_base ho0) hb); have n1_ := Aside0.mk (Kd.R_lower (Kd.R_new' ho0 (Kd.R_lt zq27_5)) (below_size zq27_1)); have n2_ := Aside0.mk (blk_below (g := gb205) (o := .cells #[.int .i64 a1_0, .string a1_1, .int .i64 a1_2, .int .i64 a1_3, .bool true, .int .i64 a1_5, .int .i64 a1_6, .string a1_7, .bool a1_8] 46 (0, 0)) zq27_4 hb); have n3_ := Aside0.mk (below_step zq27_1 hb); clear HO215; clear BK205; clear HB; have HO215 := n0_; have HO218 := n1_; have BK205 := n2_; have HB := n3_; clear n0_ n1_ n2_ n3_; (try clear hb); (try clear hb2); (try clear hk); (try clear hi); (try clear ho0)))
   replace HO215 := Aside0.mk (Kd.R_drew HO215.out)
   replace HO218 := Aside0.mk (Kd.R_drew HO218.out)
   replace BK205 := Aside0.mk (blk_drew BK205.out)
   replace HB := Aside0.mk (below_drew1 HB.out)
   obtain ⟨Ao20, co20, eo20⟩ := Kd.R_slice HO218.out
   (first | subst eo20 | (injection eo20 with f1_ f2_ f3_; have f4_ := f1_.symm; have f5_ := f3_.symm; clear f1_ f2_ f3_; subst f4_; subst f5_))
   refine start_ (n := 10) (S := fun w' => w'.cell? ⟨gb205, 0, none⟩ = some (.int .i64 a1_0) ∧ w'.cell? ⟨gb205, 1, none⟩ = some (.string a1_1) ∧ w'.cell? ⟨gb205, 2, none⟩ = some (.int .i64 a1_2) ∧ w'.cell? ⟨gb205, 3, none⟩ = some (.int .i64 a1_3) ∧ w'.cell? ⟨gb205, 4, none⟩ = some (.bool true) ∧ w'.cell? ⟨gb205, 5, none⟩ = some (.int .i64 a1_5) ∧ w'.cell? ⟨gb205, 6, none⟩ = some (.int .i64 a1_6) ∧ w'.cell? ⟨gb205, 7, none⟩ = some (.string a1_7) ∧ w'.cell? ⟨gb205, 8, none⟩ = some (.bool a1_8)) (ds := []) #[false, false, false, false, false, false, false, false, false, false] (by kernel_rfl) rfl rfl ⟨(blk_cell BK205.out 0).trans rfl, (blk_cell BK205.out 1).trans rfl, (blk_cell BK205.out 2).trans rfl, (blk_cell BK205.out 3).trans rfl, (blk_cell BK205.out 4).trans rfl, (blk_cell BK205.out 5).trans rfl, (blk_cell BK205.out 6).trans rfl, (blk_cell BK205.out 7).trans rfl, (blk_cell BK205.out 8).trans rfl⟩ (fun hHeld => ?_); refine with_tabW cenotaphref07_Put.tab5 cenotaphref07_Put.bits5 (fun HT_ HW_ => ?_)
   generalize w18.drew = w19 at HO215 HO218 BK205 HB hHeld ⊢
   refine pure_ (i := 0) (N := some 21) (v := ?_) (a' := ?_) #[true, false, false, false, false, false, false, false, false, false] rfl rfl (any_of HT_.out (by kernel_rfl)) (fun _ _ _ h => h) (Or.inl ⟨by rfl, ?_⟩) ?_ ?_
   rotate_left
   ·intro w'
    go_simp
    with_reducible rfl
   rotate_left
   ·simp only [Act.put, List.setIfInBounds_toArray, List.set_cons_zero, List.set_cons_succ, i64_w, i32_w]
    rfl
   refine pure_ (i := 1) (N := some 22) (v := ?_) (a' := ?_) #[true, true, false, false, false, false, false, false, false, false] rfl rfl (any_of HT_.out (by kernel_rfl)) (fun _ _ _ h => h) (Or.inl ⟨by rfl, ?_⟩) ?_ ?_
   rotate_left
   ·intro w'
    go_simp
    with_reducible rfl
   rotate_left
   ·simp only [Act.put, List.setIfInBounds_toArray, List.set_cons_zero, List.set_cons_succ, i64_w, i32_w]
    rfl
   refine pure_ (i := 2) (N := some 23) (v := ?_) (a' := ?_) #[true, true, true, false, false, false, false, false, false, false] rfl rfl (any_of HT_.out (by kernel_rfl)) (fun _ _ _ h => h) (Or.inl ⟨by rfl, ?_⟩) ?_ ?_
   rotate_left
   ·intro w'
    go_simp
    with_reducible rfl
   rotate_left
   ·simp only [Act.put, List.setIfInBounds_toArray, List.set_cons_zero, List.set_cons_succ, i64_w, i32_w]
    rfl
   refine pure_ (i := 5) (N := some 26) (v := ?_) (a' := ?_) #[true, true, true, false, false, true, false, false, false, false] rfl rfl (any_of HT_.out (by kernel_rfl)) (fun _ _ _ h => h) (Or.inl ⟨by rfl, ?_⟩) ?_ ?_
   rotate_left
   ·intro w'
    go_simp
    with_reducible rfl
   rotate_left
   ·simp only [Act.put, List.setIfInBounds_toArray, List.set_cons_zero, List.set_cons_succ, i64_w, i32_w]
    rfl
   refine pure_ (i := 6) (N := some 27) (v := ?_) (a' := ?_) #[true, true, true, false, false, true, true, false, false, false] rfl rfl (any_of HT_.out (by kernel_rfl)) (fun _ _ _ h => h) (Or.inl ⟨by rfl, ?_⟩) ?_ ?_
   rotate_left
   ·intro w'
    go_simp
    with_reducible rfl
   rotate_left
   ·simp only [Act.put, List.setIfInBounds_toArray, List.set_cons_zero, List.set_cons_succ, i64_w, i32_w]
    rfl
   refine take_ (i := 3) (N := some 24) (v := ?_) (a' := ?_) #[true, true, true, true, false, true, true, false, false, false] rfl rfl (take_ofW HT_.out HW_.out (by kernel_rfl)) (fun _ _ _ h => h) (Or.inl ⟨by rfl, ?_⟩) hHeld ?_ ?_
   rotate_left
   ·rintro w' ⟨s0, s1, s2, s3, s4, s5, s6, s7, s8⟩
    go_simp
    with_reducible rfl
   rotate_left
   ·simp only [Act.put, List.setIfInBounds_toArray, List.set_cons_zero, List.set_cons_succ, i64_w, i32_w]
    rfl
   refine take_ (i := 7) (N := some 28) (v := ?_) (a' := ?_) #[true, true, true, true, false, true, true, true, false, false] rfl rfl (take_ofW HT_.out HW_.out (by kernel_rfl)) (fun _ _ _ h => h) (Or.inl ⟨by rfl, ?_⟩) hHeld ?_ ?_
   rotate_left
   ·rintro w' ⟨s0, s1, s2, s3, s4, s5, s6, s7, s8⟩
    go_simp
    with_reducible rfl
   rotate_left
   ·simp only [Act.put, List.setIfInBounds_toArray, List.set_cons_zero, List.set_cons_succ, i64_w, i32_w]
    rfl
   refine one_ (i := 4) (N := some 25) #[true, true, true, true, true, true, true, true, false, false] rfl rfl (one_of HT_.out (by kernel_rfl)) (by decide) (fun K hK => ?_)
   refine goes_ Try.func48 (by kernel_rfl) rfl #[.slice Ao20 t216.length co20, .int .i64 a1_2] (by rfl) rfl rfl zq27_2 ?_
   with_reducible refine (cenotaphref06_Put.calls k _ _ t216 a1_2 t219 _ ?side1 ?side2 A7.out).mono ?_
   (case side1 => repeat (first | exact (Kd.R_reads' HO218.out).2.2 | (with_reducible refine Kd.C_alloc ?_ _) | (with_reducible refine Kd.C_drewN ?_ _) | (with_reducible refine Kd.C_drew ?_)))
   (case side2 => exact (Kd.R_reads' HO218.out).2.1)
   rintro e w21 ⟨v220, rfl, ho0, hb⟩
   refine ⟨_, rfl, ?_⟩
   have HO221 := Aside0.mk (Kd.R_lower (Kd.R_new' (Kd.R_new' ho0 (Kd.R_lt zq27_5)) (Kd.R_lt zq27_6)) (below_size zq27_1))
   replace HO215 := Aside0.mk (Kd.R_elder' zq27_5 (Kd.R_base ho0) hb)
   replace HO218 := Aside0.mk (Kd.R_elder' zq27_6 (Kd.R_base ho0) hb)
   replace BK205 := Aside0.mk (blk_below (g := gb205) (o := .cells #[.int .i64 a1_0, .string a1_1, .int .i64 a1_2, .int .i64 a1_3, .bool true, .int .i64 a1_5, .int .i64 a1_6, .string a1_7, .bool a1_8] 46 (0, 0)) zq27_4 hb)
   replace HB := Aside0.mk (below_step zq27_1 hb)
   (try clear hb)
   (try clear hb2)
   (try clear hk)
   (try clear hi)
   (try clear ho0)
   obtain ⟨Ao22, co22, eo22⟩ := Kd.R_slice HO221.out
   (first | subst eo22 | (injection eo22 with f1_ f2_ f3_; have f4_ := f1_.symm; have f5_ := f3_.symm; clear f1_ f2_ f3_; subst f4_; subst f5_))
   refine hK.out _ _ ⟨(blk_cell BK205.out 0).trans rfl, (blk_cell BK205.out 1).trans rfl, (blk_cell BK205.out 2).trans rfl, (blk_cell BK205.out 3).trans rfl, (blk_cell BK205.out 4).trans rfl, (blk_cell BK205.out 5).trans rfl, (blk_cell BK205.out 6).trans rfl, (blk_cell BK205.out 7).trans rfl, (blk_cell BK205.out 8).trans rfl⟩ (fun hHeld => ?_)
   clear hK K
   refine norm_ (a' := ?_) ?_ ?_
   rotate_left
   ·show Act.put _ (some 25) _ = _
    simp only [Act.put, List.setIfInBounds_toArray, List.set_cons_zero, List.set_cons_succ, i64_w, i32_w]
    rfl
   refine one_ (i := 8) (N := some 29) #[true, true, true, true, true, true, true, true, true, false] rfl rfl (one_of HT_.out (by kernel_rfl)) (by decide) (fun K hK => ?_)
   refine goes_ Try.func48 (by kernel_rfl) rfl #[.slice Ao22 t219.length co22, .int .i64 a1_3] (by rfl) rfl rfl zq27_2 ?_
   with_reducible refine (cenotaphref06_Put.calls k _ _ t219 a1_3 t222 _ ?side1 ?side2 A8.out).mono ?_
   (case side1 => repeat (first | exact (Kd.R_reads' HO221.out).2.2 | (with_reducible refine Kd.C_alloc ?_ _) | (with_reducible refine Kd.C_drewN ?_ _) | (with_reducible refine Kd.C_drew ?_)))
   (case side2 => exact (Kd.R_reads' HO221.out).2.1)
   rintro e w23 ⟨v223, rfl, ho0, hb⟩
   refine ⟨_, rfl, ?_⟩
   have HO224 := Aside0.mk (Kd.R_lower (Kd.R_new' (Kd.R_new' (Kd.R_new' ho0 (Kd.R_lt zq27_5)) (Kd.R_lt zq27_6)) (Kd.R_lt zq27_7)) (below_size zq27_1))
   replace HO215 := Aside0.mk (Kd.R_elder' zq27_5 (Kd.R_base ho0) hb)
   replace HO218 := Aside0.mk (Kd.R_elder' zq27_6 (Kd.R_base ho0) hb)
   replace HO221 := Aside0.mk (Kd.R_elder' zq27_7 (Kd.R_base ho0) hb)
   replace BK205 := Aside0.mk (blk_below (g := gb205) (o := .cells #[.int .i64 a1_0, .string a1_1, .int .i64 a1_2, .int .i64 a1_3, .bool true, .int .i64 a1_5, .int .i64 a1_6, .string a1_7, .bool a1_8] 46 (0, 0)) zq27_4 hb)
   replace HB := Aside0.mk (below_step zq27_1 hb)
   (try clear hb)
   (try clear hb2)
   (try clear hk)
   (try clear hi)
   (try clear ho0)
   refine hK.out _ _ ⟨(blk_cell BK205.out 0).trans rfl, (blk_cell BK205.out 1).trans rfl, (blk_cell BK205.out 2).trans rfl, (blk_cell BK205.out 3).trans rfl, (blk_cell BK205.out 4).trans rfl, (blk_cell BK205.out 5).trans rfl, (blk_cell BK205.out 6).trans rfl, (blk_cell BK205.out 7).trans rfl, (blk_cell BK205.out 8).trans rfl⟩ (fun hHeld => ?_)
   clear hK K
   refine norm_ (a' := ?_) ?_ ?_
   rotate_left
   ·show Act.put _ (some 29) _ = _
    simp only [Act.put, List.setIfInBounds_toArray, List.set_cons_zero, List.set_cons_succ, i64_w, i32_w]
    rfl
   refine pure_ (i := 9) (N := some 0) (v := ?_) (a' := ?_) #[true, true, true, true, true, true, true, true, true, true] rfl rfl (any_of HT_.out (by kernel_rfl)) (fun _ _ _ h => h) (Or.inl ⟨by rfl, ?_⟩) ?_ ?_
   rotate_left
   ·intro w'
    go_simp
    with_reducible rfl
   rotate_left
   ·simp only [Act.put, List.setIfInBounds_toArray, List.set_cons_zero, List.set_cons_succ, i64_w, i32_w]
    rfl
   refine done_ (done_of HT_.out (by kernel_rfl)) ?_
   have hcz24_0 : w23.cell? ⟨gb205, 0, none⟩ = some (.int .i64 a1_0) := (blk_cell BK205.out 0).trans rfl
   have hcz24_1 : w23.cell? ⟨gb205, 1, none⟩ = some (.string a1_1) := (blk_cell BK205.out 1).trans rfl
   have hcz24_2 : w23.cell? ⟨gb205, 2, none⟩ = some (.int .i64 a1_2) := (blk_cell BK205.out 2).trans rfl
   have hcz24_3 : w23.cell? ⟨gb205, 3, none⟩ = some (.int .i64 a1_3) := (blk_cell BK205.out 3).trans rfl
   have hcz24_4 : w23.cell? ⟨gb205, 4, none⟩ = some (.bool true) := (blk_cell BK205.out 4).trans rfl
   have hcz24_5 : w23.cell? ⟨gb205, 5, none⟩ = some (.int .i64 a1_5) := (blk_cell BK205.out 5).trans rfl
   have hcz24_6 : w23.cell? ⟨gb205, 6, none⟩ = some (.int .i64 a1_6) := (blk_cell BK205.out 6).trans rfl
   have hcz24_7 : w23.cell? ⟨gb205, 7, none⟩ = some (.string a1_7) := (blk_cell BK205.out 7).trans rfl
   have hcz24_8 : w23.cell? ⟨gb205, 8, none⟩ = some (.bool a1_8) := (blk_cell BK205.out 8).trans rfl
   have hfz24_0 := blk_frozen BK205.out 0
   have hfz24_1 := blk_frozen BK205.out 1
   have hfz24_2 := blk_frozen BK205.out 2
   have hfz24_3 := blk_frozen BK205.out 3
   have hfz24_4 := blk_frozen BK205.out 4
   have hfz24_5 := blk_frozen BK205.out 5
   have hfz24_6 := blk_frozen BK205.out 6
   have hfz24_7 := blk_frozen BK205.out 7
   have hfz24_8 := blk_frozen BK205.out 8
   obtain ⟨Ao25, co25, eo25⟩ := Kd.R_slice HO224.out
   subst eo25
   try go_wp2_with (first | ((with_reducible refine gate_callee (f := 48) rfl ?_); refine goesL_ (some 33) rfl rfl Try.func48 (by kernel_rfl) rfl #[.slice Ao25 t222.length co25, .int .i64 0] rfl zq27_2 ?_; (with_reducible refine (cenotaphref06_Put.calls k _ _ t222 0 t225 _ ?side1 ?side2 A10.out).mono ?_); (case side1 => repeat (first | exact (Kd.R_reads' HO224.out).2.2 | (with_reducible refine Kd.C_alloc ?_ _) | (with_reducible refine Kd.C_drewN ?_ _) | (with_reducible refine Kd.C_drew ?_))); (case side2 => exact (Kd.R_reads' HO224.out).2.1); rintro e w26 ⟨v226, rfl, ho0, hb⟩; refine ⟨_, rfl, ?_⟩; have n0_ := Aside0.mk (Kd.R_elder' zq27_5 (Kd.R_base ho0) hb); have n1_ := Aside0.mk (Kd.R_elder' zq27_6 (Kd.R_base ho0) hb); have n2_ := Aside0.mk (Kd.R_elder' zq27_7 (Kd.R_base ho0) hb); have n3_ := Aside0.mk (Kd.R_elder' (by (with_reducible repeat (first | apply Kd.R_alloc | apply Kd.R_drewN | apply Kd.R_drew)); exact HO224.out) (Kd.R_base ho0) hb); have n4_ := Aside0.mk (Kd.R_lower (Kd.R_new' (Kd.R_new' (Kd.R_new' (Kd.R_new' ho0 (Kd.R_lt zq27_5)) (Kd.R_lt zq27_6)) (Kd.R_lt zq27_7)) (Kd.R_lt (by (with_reducible repeat (first | apply Kd.R_alloc | apply Kd.R_drewN | apply Kd.R_drew)); exact HO224.out))) (below_size zq27_1)); have n5_ := Aside0.mk (blk_below (g := gb205) (o := .cells #[.int .i64 a1_0, .string a1_1, .int .i64 a1_2, .int .i64 a1_3, .bool true, .int .i64 a1_5, .int .i64 a1_6, .string a1_7, .bool a1_8] 46 (0, 0)) zq27_4 hb); have n6_ := Aside0.mk (below_step zq27_1 hb); clear HO215; clear HO218; clear HO221; clear HO224; clear BK205; clear HB; have HO215 := n0_; have HO218 := n1_; have HO221 := n2_; have HO224 := n3_; have HO227 := n4_; have BK205 := n5_; have HB := n6_; clear n0_ n1_ n2_ n3_ n4_ n5_ n6_; (try clear hb); (try clear hb2); (try clear hk); (try clear hi); (try clear ho0)))
   go_ret
   exact ⟨_, by first | rfl | (simp [errW_none, errW_some] <;> rfl) | (simp [*, errW_none, errW_some] <;> rfl), by (with_reducible repeat (first | apply Kd.R_alloc | apply Kd.R_drewN | apply Kd.R_drew)); exact Kd.R_mono HO227.out (fun _ hk => trivial), by repeat (first | (with_reducible first | exact HB.out | apply below_alloc | apply pw_below_drewN | apply below_drew1 | refine below_set ?_ GE205.out) | exact HB.out)⟩
  ·replace c9 := Bool.eq_false_iff.mpr c9
   subst c9
   have H1 : (if a1_8 = true then (cenotaphref07_Put.j0 k t222 2 a1_0 a1_1 a1_2 a1_3 false a1_5 a1_6 a1_7 a1_8) else (cenotaphref07_Put.j0 k t222 1 a1_0 a1_1 a1_2 a1_3 false a1_5 a1_6 a1_7 a1_8)) = some r := by rw [if_neg (show ¬ (false = true) by decide)] at H; exact H
   clear H
   have H := H1
   clear H1
   have HC27 := Aside0.mk H
   clear H
   go_enter Try.func27, Try.ntmps27
   try go_wp2_with (first | ((with_reducible refine gate_dst (N := 3) rfl ?_); refine box_event ?hg (N := 3) ?hd (cs := #[.int .i64 a1_0, .string a1_1, .int .i64 a1_2, .int .i64 a1_3, .bool false, .int .i64 a1_5, .int .i64 a1_6, .string a1_7, .bool a1_8]) (t := 46) ?hr ?_; (case hd => rfl); (case hg => rfl); (case hr => first | (go_simp; done) | (go_simp; rfl)); intro gb205 hg w28 hbox hb; have n0_ := Aside0.mk (below_step zq27_3 hb); have n1_ := Aside0.mk (hbox); have n2_ := Aside0.mk ((zq27_0 : w.heap.size ≤ gb205)); have n3_ := Aside0.mk ((zq27_0 : w.heap.size ≤ gb205)); clear HB; have HB := n0_; have BK205 := n1_; have GW205 := n2_; have GE205 := n3_; clear n0_ n1_ n2_ n3_; clear hb hbox hg; have hcz29_0 : w28.cell? ⟨gb205, 0, none⟩ = some (.int .i64 a1_0) := (blk_cell BK205.out 0).trans rfl; have hcz29_1 : w28.cell? ⟨gb205, 1, none⟩ = some (.string a1_1) := (blk_cell BK205.out 1).trans rfl; have hcz29_2 : w28.cell? ⟨gb205, 2, none⟩ = some (.int .i64 a1_2) := (blk_cell BK205.out 2).trans rfl; have hcz29_3 : w28.cell? ⟨gb205, 3, none⟩ = some (.int .i64 a1_3) := (blk_cell BK205.out 3).trans rfl; have hcz29_4 : w28.cell? ⟨gb205, 4, none⟩ = some (.bool false) := (blk_cell BK205.out 4).trans rfl; have hcz29_5 : w28.cell? ⟨gb205, 5, none⟩ = some (.int .i64 a1_5) := (blk_cell BK205.out 5).trans rfl; have hcz29_6 : w28.cell? ⟨gb205, 6, none⟩ = some (.int .i64 a1_6) := (blk_cell BK205.out 6).trans rfl; have hcz29_7 : w28.cell? ⟨gb205, 7, none⟩ = some (.string a1_7) := (blk_cell BK205.out 7).trans rfl; have hcz29_8 : w28.cell? ⟨gb205, 8, none⟩ = some (.bool a1_8) := (blk_cell BK205.out 8).trans rfl; have hfz29_0 := blk_frozen BK205.out 0; have hfz29_1 := blk_frozen BK205.out 1; have hfz29_2 := blk_frozen BK205.out 2; have hfz29_3 := blk_frozen BK205.out 3; have hfz29_4 := blk_frozen BK205.out 4; have hfz29_5 := blk_frozen BK205.out 5; have hfz29_6 := blk_frozen BK205.out 6; have hfz29_7 := blk_frozen BK205.out 7; have hfz29_8 := blk_frozen BK205.out 8) | ((with_reducible refine gate_callee (f := 24) rfl ?_); refine goesL_ (some 7) rfl rfl Try.func24 (by kernel_rfl) rfl #[.agg #[.int .i64 a1_0, .string a1_1, .int .i64 a1_2, .int .i64 a1_3, .bool false, .int .i64 a1_5, .int .i64 a1_6, .string a1_7, .bool a1_8]] rfl zq27_2 ?_; (with_reducible refine (cenotaphref07_Right.calls k a1_0 a1_1 a1_2 a1_3 false a1_5 a1_6 a1_7 a1_8 true _ A3.out).mono ?_); rintro e w30 ⟨rfl, hb⟩; refine ⟨_, rfl, ?_⟩; have n0_ := Aside0.mk (blk_below (g := gb205) (o := .cells #[.int .i64 a1_0, .string a1_1, .int .i64 a1_2, .int .i64 a1_3, .bool false, .int .i64 a1_5, .int .i64 a1_6, .string a1_7, .bool a1_8] 46 (0, 0)) zq27_4 hb); have n1_ := Aside0.mk (below_step zq27_1 hb); clear BK205; clear HB; have BK205 := n0_; have HB := n1_; clear n0_ n1_; (try clear hb); (try clear hb2); (try clear hk); (try clear hi); have hcz31_0 : w30.cell? ⟨gb205, 0, none⟩ = some (.int .i64 a1_0) := (blk_cell BK205.out 0).trans rfl; have hcz31_1 : w30.cell? ⟨gb205, 1, none⟩ = some (.string a1_1) := (blk_cell BK205.out 1).trans rfl; have hcz31_2 : w30.cell? ⟨gb205, 2, none⟩ = some (.int .i64 a1_2) := (blk_cell BK205.out 2).trans rfl; have hcz31_3 : w30.cell? ⟨gb205, 3, none⟩ = some (.int .i64 a1_3) := (blk_cell BK205.out 3).trans rfl; have hcz31_4 : w30.cell? ⟨gb205, 4, none⟩ = some (.bool false) := (blk_cell BK205.out 4).trans rfl; have hcz31_5 : w30.cell? ⟨gb205, 5, none⟩ = some (.int .i64 a1_5) := (blk_cell BK205.out 5).trans rfl; have hcz31_6 : w30.cell? ⟨gb205, 6, none⟩ = some (.int .i64 a1_6) := (blk_cell BK205.out 6).trans rfl; have hcz31_7 : w30.cell? ⟨gb205, 7, none⟩ = some (.string a1_7) := (blk_cell BK205.out 7).trans rfl; have hcz31_8 : w30.cell? ⟨gb205, 8, none⟩ = some (.bool a1_8) := (blk_cell BK205.out 8).trans rfl; have hfz31_0 := blk_frozen BK205.out 0; have hfz31_1 := blk_frozen BK205.out 1; have hfz31_2 := blk_frozen BK205.out 2; have hfz31_3 := blk_frozen BK205.out 3; have hfz31_4 := blk_frozen BK205.out 4; have hfz31_5 := blk_frozen BK205.out 5; have hfz31_6 := blk_frozen BK205.out 6; have hfz31_7 := blk_frozen BK205.out 7; have hfz31_8 := blk_frozen BK205.out 8) | ((with_reducible refine gate_callee (f := 48) rfl ?_); refine goesL_ (some 15) rfl rfl Try.func48 (by kernel_rfl) rfl #[.slice A0 l0.length c0, .int .i64 a1_0] rfl zq27_2 ?_; (with_reducible refine (cenotaphref06_Put.calls k _ _ l0 a1_0 t213 _ ?side1 ?side2 A5.out).mono ?_); (case side1 => repeat (first | exact (Kd.C_below HR0.out HB.out) | (with_reducible refine Kd.C_alloc ?_ _) | (with_reducible refine Kd.C_drewN ?_ _) | (with_reducible refine Kd.C_drew ?_))); (case side2 => exact HC0.out); rintro e w32 ⟨v214, rfl, ho0, hb⟩; refine ⟨_, rfl, ?_⟩; have n0_ := Aside0.mk (Kd.R_lower ho0 (below_size zq27_1)); have n1_ := Aside0.mk (blk_below (g := gb205) (o := .cells #[.int .i64 a1_0, .string a1_1, .int .i64 a1_2, .int .i64 a1_3, .bool false, .int .i64 a1_5, .int .i64 a1_6, .string a1_7, .bool a1_8] 46 (0, 0)) zq27_4 hb); have n2_ := Aside0.mk (below_step zq27_1 hb); clear BK205; clear HB; have HO215 := n0_; have BK205 := n1_; have HB := n2_; clear n0_ n1_ n2_; (try clear hb); (try clear hb2); (try clear hk); (try clear hi); (try clear ho0); have hcz33_0 : w32.cell? ⟨gb205, 0, none⟩ = some (.int .i64 a1_0) := (blk_cell BK205.out 0).trans rfl; have hcz33_1 : w32.cell? ⟨gb205, 1, none⟩ = some (.string a1_1) := (blk_cell BK205.out 1).trans rfl; have hcz33_2 : w32.cell? ⟨gb205, 2, none⟩ = some (.int .i64 a1_2) := (blk_cell BK205.out 2).trans rfl; have hcz33_3 : w32.cell? ⟨gb205, 3, none⟩ = some (.int .i64 a1_3) := (blk_cell BK205.out 3).trans rfl; have hcz33_4 : w32.cell? ⟨gb205, 4, none⟩ = some (.bool false) := (blk_cell BK205.out 4).trans rfl; have hcz33_5 : w32.cell? ⟨gb205, 5, none⟩ = some (.int .i64 a1_5) := (blk_cell BK205.out 5).trans rfl; have hcz33_6 : w32.cell? ⟨gb205, 6, none⟩ = some (.int .i64 a1_6) := (blk_cell BK205.out 6).trans rfl; have hcz33_7 : w32.cell? ⟨gb205, 7, none⟩ = some (.string a1_7) := (blk_cell BK205.out 7).trans rfl; have hcz33_8 : w32.cell? ⟨gb205, 8, none⟩ = some (.bool a1_8) := (blk_cell BK205.out 8).trans rfl; have hfz33_0 := blk_frozen BK205.out 0; have hfz33_1 := blk_frozen BK205.out 1; have hfz33_2 := blk_frozen BK205.out 2; have hfz33_3 := blk_frozen BK205.out 3; have hfz33_4 := blk_frozen BK205.out 4; have hfz33_5 := blk_frozen BK205.out 5; have hfz33_6 := blk_frozen BK205.out 6; have hfz33_7 := blk_frozen BK205.out 7; have hfz33_8 := blk_frozen BK205.out 8; obtain ⟨Ao34, co34, eo34⟩ := Kd.R_slice HO215.out; subst eo34) | ((with_reducible refine gate_callee (f := 49) rfl ?_); refine goesL_ (some 20) rfl rfl Try.func49 (by kernel_rfl) rfl #[.slice Ao34 t213.length co34, .string a1_1] rfl zq27_2 ?_; (with_reducible refine (cenotaphref06_PutText.calls k _ _ t213 a1_1 t216 _ ?side1 ?side2 A6.out).mono ?_); (case side1 => repeat (first | exact (Kd.R_reads' HO215.out).2.2 | (with_reducible refine Kd.C_alloc ?_ _) | (with_reducible refine Kd.C_drewN ?_ _) | (with_reducible refine Kd.C_drew ?_))); (case side2 => exact (Kd.R_reads' HO215.out).2.1); rintro e w35 ⟨v217, rfl, ho0, hb⟩; refine ⟨_, rfl, ?_⟩; have n0_ := Aside0.mk (Kd.R_elder' zq27_5 (Kd.R_base ho0) hb); have n1_ := Aside0.mk (Kd.R_lower (Kd.R_new' ho0 (Kd.R_lt zq27_5)) (below_size zq27_1)); have n2_ := Aside0.mk (blk_below (g := gb205) (o := .cells #[.int .i64 a1_0, .string a1_1, .int .i64 a1_2, .int .i64 a1_3, .bool false, .int .i64 a1_5, .int .i64 a1_6, .string a1_7, .bool a1_8] 46 (0, 0)) zq27_4 hb); have n3_ := Aside0.mk (below_step zq27_1 hb); clear HO215; clear BK205; clear HB; have HO215 := n0_; have HO218 := n1_; have BK205 := n2_; have HB := n3_; clear n0_ n1_ n2_ n3_; (try clear hb); (try clear hb2); (try clear hk); (try clear hi); (try clear ho0)))
   replace HO215 := Aside0.mk (Kd.R_drew HO215.out)
   replace HO218 := Aside0.mk (Kd.R_drew HO218.out)
   replace BK205 := Aside0.mk (blk_drew BK205.out)
   replace HB := Aside0.mk (below_drew1 HB.out)
   obtain ⟨Ao37, co37, eo37⟩ := Kd.R_slice HO218.out
   (first | subst eo37 | (injection eo37 with f1_ f2_ f3_; have f4_ := f1_.symm; have f5_ := f3_.symm; clear f1_ f2_ f3_; subst f4_; subst f5_))
   refine start_ (n := 10) (S := fun w' => w'.cell? ⟨gb205, 0, none⟩ = some (.int .i64 a1_0) ∧ w'.cell? ⟨gb205, 1, none⟩ = some (.string a1_1) ∧ w'.cell? ⟨gb205, 2, none⟩ = some (.int .i64 a1_2) ∧ w'.cell? ⟨gb205, 3, none⟩ = some (.int .i64 a1_3) ∧ w'.cell? ⟨gb205, 4, none⟩ = some (.bool false) ∧ w'.cell? ⟨gb205, 5, none⟩ = some (.int .i64 a1_5) ∧ w'.cell? ⟨gb205, 6, none⟩ = some (.int .i64 a1_6) ∧ w'.cell? ⟨gb205, 7, none⟩ = some (.string a1_7) ∧ w'.cell? ⟨gb205, 8, none⟩ = some (.bool a1_8)) (ds := []) #[false, false, false, false, false, false, false, false, false, false] (by kernel_rfl) rfl rfl ⟨(blk_cell BK205.out 0).trans rfl, (blk_cell BK205.out 1).trans rfl, (blk_cell BK205.out 2).trans rfl, (blk_cell BK205.out 3).trans rfl, (blk_cell BK205.out 4).trans rfl, (blk_cell BK205.out 5).trans rfl, (blk_cell BK205.out 6).trans rfl, (blk_cell BK205.out 7).trans rfl, (blk_cell BK205.out 8).trans rfl⟩ (fun hHeld => ?_); refine with_tabW cenotaphref07_Put.tab5 cenotaphref07_Put.bits5 (fun HT_ HW_ => ?_)
   generalize w35.drew = w36 at HO215 HO218 BK205 HB hHeld ⊢
   refine pure_ (i := 0) (N := some 21) (v := ?_) (a' := ?_) #[true, false, false, false, false, false, false, false, false, false] rfl rfl (any_of HT_.out (by kernel_rfl)) (fun _ _ _ h => h) (Or.inl ⟨by rfl, ?_⟩) ?_ ?_
   rotate_left
   ·intro w'
    go_simp
    with_reducible rfl
   rotate_left
   ·simp only [Act.put, List.setIfInBounds_toArray, List.set_cons_zero, List.set_cons_succ, i64_w, i32_w]
    rfl
   refine pure_ (i := 1) (N := some 22) (v := ?_) (a' := ?_) #[true, true, false, false, false, false, false, false, false, false] rfl rfl (any_of HT_.out (by kernel_rfl)) (fun _ _ _ h => h) (Or.inl ⟨by rfl, ?_⟩) ?_ ?_
   rotate_left
   ·intro w'
    go_simp
    with_reducible rfl
   rotate_left
   ·simp only [Act.put, List.setIfInBounds_toArray, List.set_cons_zero, List.set_cons_succ, i64_w, i32_w]
    rfl
   refine pure_ (i := 2) (N := some 23) (v := ?_) (a' := ?_) #[true, true, true, false, false, false, false, false, false, false] rfl rfl (any_of HT_.out (by kernel_rfl)) (fun _ _ _ h => h) (Or.inl ⟨by rfl, ?_⟩) ?_ ?_
   rotate_left
   ·intro w'
    go_simp
    with_reducible rfl
   rotate_left
   ·simp only [Act.put, List.setIfInBounds_toArray, List.set_cons_zero, List.set_cons_succ, i64_w, i32_w]
    rfl
   refine pure_ (i := 5) (N := some 26) (v := ?_) (a' := ?_) #[true, true, true, false, false, true, false, false, false, false] rfl rfl (any_of HT_.out (by kernel_rfl)) (fun _ _ _ h => h) (Or.inl ⟨by rfl, ?_⟩) ?_ ?_
   rotate_left
   ·intro w'
    go_simp
    with_reducible rfl
   rotate_left
   ·simp only [Act.put, List.setIfInBounds_toArray, List.set_cons_zero, List.set_cons_succ, i64_w, i32_w]
    rfl
   refine pure_ (i := 6) (N := some 27) (v := ?_) (a' := ?_) #[true, true, true, false, false, true, true, false, false, false] rfl rfl (any_of HT_.out (by kernel_rfl)) (fun _ _ _ h => h) (Or.inl ⟨by rfl, ?_⟩) ?_ ?_
   rotate_left
   ·intro w'
    go_simp
    with_reducible rfl
   rotate_left
   ·simp only [Act.put, List.setIfInBounds_toArray, List.set_cons_zero, List.set_cons_succ, i64_w, i32_w]
    rfl
   refine take_ (i := 3) (N := some 24) (v := ?_) (a' := ?_) #[true, true, true, true, false, true, true, false, false, false] rfl rfl (take_ofW HT_.out HW_.out (by kernel_rfl)) (fun _ _ _ h => h) (Or.inl ⟨by rfl, ?_⟩) hHeld ?_ ?_
   rotate_left
   ·rintro w' ⟨s0, s1, s2, s3, s4, s5, s6, s7, s8⟩
    go_simp
    with_reducible rfl
   rotate_left
   ·simp only [Act.put, List.setIfInBounds_toArray, List.set_cons_zero, List.set_cons_succ, i64_w, i32_w]
    rfl
   refine take_ (i := 7) (N := some 28) (v := ?_) (a' := ?_) #[true, true, true, true, false, true, true, true, false, false] rfl rfl (take_ofW HT_.out HW_.out (by kernel_rfl)) (fun _ _ _ h => h) (Or.inl ⟨by rfl, ?_⟩) hHeld ?_ ?_
   rotate_left
   ·rintro w' ⟨s0, s1, s2, s3, s4, s5, s6, s7, s8⟩
    go_simp
    with_reducible rfl
   rotate_left
   ·simp only [Act.put, List.setIfInBounds_toArray, List.set_cons_zero, List.set_cons_succ, i64_w, i32_w]
    rfl
   refine one_ (i := 4) (N := some 25) #[true, true, true, true, true, true, true, true, false, false] rfl rfl (one_of HT_.out (by kernel_rfl)) (by decide) (fun K hK => ?_)
   refine goes_ Try.func48 (by kernel_rfl) rfl #[.slice Ao37 t216.length co37, .int .i64 a1_2] (by rfl) rfl rfl zq27_2 ?_
   with_reducible refine (cenotaphref06_Put.calls k _ _ t216 a1_2 t219 _ ?side1 ?side2 A7.out).mono ?_
   (case side1 => repeat (first | exact (Kd.R_reads' HO218.out).2.2 | (with_reducible refine Kd.C_alloc ?_ _) | (with_reducible refine Kd.C_drewN ?_ _) | (with_reducible refine Kd.C_drew ?_)))
   (case side2 => exact (Kd.R_reads' HO218.out).2.1)
   rintro e w38 ⟨v220, rfl, ho0, hb⟩
   refine ⟨_, rfl, ?_⟩
   have HO221 := Aside0.mk (Kd.R_lower (Kd.R_new' (Kd.R_new' ho0 (Kd.R_lt zq27_5)) (Kd.R_lt zq27_6)) (below_size zq27_1))
   replace HO215 := Aside0.mk (Kd.R_elder' zq27_5 (Kd.R_base ho0) hb)
   replace HO218 := Aside0.mk (Kd.R_elder' zq27_6 (Kd.R_base ho0) hb)
   replace BK205 := Aside0.mk (blk_below (g := gb205) (o := .cells #[.int .i64 a1_0, .string a1_1, .int .i64 a1_2, .int .i64 a1_3, .bool false, .int .i64 a1_5, .int .i64 a1_6, .string a1_7, .bool a1_8] 46 (0, 0)) zq27_4 hb)
   replace HB := Aside0.mk (below_step zq27_1 hb)
   (try clear hb)
   (try clear hb2)
   (try clear hk)
   (try clear hi)
   (try clear ho0)
   obtain ⟨Ao39, co39, eo39⟩ := Kd.R_slice HO221.out
   (first | subst eo39 | (injection eo39 with f1_ f2_ f3_; have f4_ := f1_.symm; have f5_ := f3_.symm; clear f1_ f2_ f3_; subst f4_; subst f5_))
   refine hK.out _ _ ⟨(blk_cell BK205.out 0).trans rfl, (blk_cell BK205.out 1).trans rfl, (blk_cell BK205.out 2).trans rfl, (blk_cell BK205.out 3).trans rfl, (blk_cell BK205.out 4).trans rfl, (blk_cell BK205.out 5).trans rfl, (blk_cell BK205.out 6).trans rfl, (blk_cell BK205.out 7).trans rfl, (blk_cell BK205.out 8).trans rfl⟩ (fun hHeld => ?_)
   clear hK K
   refine norm_ (a' := ?_) ?_ ?_
   rotate_left
   ·show Act.put _ (some 25) _ = _
    simp only [Act.put, List.setIfInBounds_toArray, List.set_cons_zero, List.set_cons_succ, i64_w, i32_w]
    rfl
   refine one_ (i := 8) (N := some 29) #[true, true, true, true, true, true, true, true, true, false] rfl rfl (one_of HT_.out (by kernel_rfl)) (by decide) (fun K hK => ?_)
   refine goes_ Try.func48 (by kernel_rfl) rfl #[.slice Ao39 t219.length co39, .int .i64 a1_3] (by rfl) rfl rfl zq27_2 ?_
   with_reducible refine (cenotaphref06_Put.calls k _ _ t219 a1_3 t222 _ ?side1 ?side2 A8.out).mono ?_
   (case side1 => repeat (first | exact (Kd.R_reads' HO221.out).2.2 | (with_reducible refine Kd.C_alloc ?_ _) | (with_reducible refine Kd.C_drewN ?_ _) | (with_reducible refine Kd.C_drew ?_)))
   (case side2 => exact (Kd.R_reads' HO221.out).2.1)
   rintro e w40 ⟨v223, rfl, ho0, hb⟩
   refine ⟨_, rfl, ?_⟩
   have HO224 := Aside0.mk (Kd.R_lower (Kd.R_new' (Kd.R_new' (Kd.R_new' ho0 (Kd.R_lt zq27_5)) (Kd.R_lt zq27_6)) (Kd.R_lt zq27_7)) (below_size zq27_1))
   replace HO215 := Aside0.mk (Kd.R_elder' zq27_5 (Kd.R_base ho0) hb)
   replace HO218 := Aside0.mk (Kd.R_elder' zq27_6 (Kd.R_base ho0) hb)
   replace HO221 := Aside0.mk (Kd.R_elder' zq27_7 (Kd.R_base ho0) hb)
   replace BK205 := Aside0.mk (blk_below (g := gb205) (o := .cells #[.int .i64 a1_0, .string a1_1, .int .i64 a1_2, .int .i64 a1_3, .bool false, .int .i64 a1_5, .int .i64 a1_6, .string a1_7, .bool a1_8] 46 (0, 0)) zq27_4 hb)
   replace HB := Aside0.mk (below_step zq27_1 hb)
   (try clear hb)
   (try clear hb2)
   (try clear hk)
   (try clear hi)
   (try clear ho0)
   refine hK.out _ _ ⟨(blk_cell BK205.out 0).trans rfl, (blk_cell BK205.out 1).trans rfl, (blk_cell BK205.out 2).trans rfl, (blk_cell BK205.out 3).trans rfl, (blk_cell BK205.out 4).trans rfl, (blk_cell BK205.out 5).trans rfl, (blk_cell BK205.out 6).trans rfl, (blk_cell BK205.out 7).trans rfl, (blk_cell BK205.out 8).trans rfl⟩ (fun hHeld => ?_)
   clear hK K
   refine norm_ (a' := ?_) ?_ ?_
   rotate_left
   ·show Act.put _ (some 29) _ = _
    simp only [Act.put, List.setIfInBounds_toArray, List.set_cons_zero, List.set_cons_succ, i64_w, i32_w]
    rfl
   refine pure_ (i := 9) (N := some 0) (v := ?_) (a' := ?_) #[true, true, true, true, true, true, true, true, true, true] rfl rfl (any_of HT_.out (by kernel_rfl)) (fun _ _ _ h => h) (Or.inl ⟨by rfl, ?_⟩) ?_ ?_
   rotate_left
   ·intro w'
    go_simp
    with_reducible rfl
   rotate_left
   ·simp only [Act.put, List.setIfInBounds_toArray, List.set_cons_zero, List.set_cons_succ, i64_w, i32_w]
    rfl
   refine done_ (done_of HT_.out (by kernel_rfl)) ?_
   have hcz41_0 : w40.cell? ⟨gb205, 0, none⟩ = some (.int .i64 a1_0) := (blk_cell BK205.out 0).trans rfl
   have hcz41_1 : w40.cell? ⟨gb205, 1, none⟩ = some (.string a1_1) := (blk_cell BK205.out 1).trans rfl
   have hcz41_2 : w40.cell? ⟨gb205, 2, none⟩ = some (.int .i64 a1_2) := (blk_cell BK205.out 2).trans rfl
   have hcz41_3 : w40.cell? ⟨gb205, 3, none⟩ = some (.int .i64 a1_3) := (blk_cell BK205.out 3).trans rfl
   have hcz41_4 : w40.cell? ⟨gb205, 4, none⟩ = some (.bool false) := (blk_cell BK205.out 4).trans rfl
   have hcz41_5 : w40.cell? ⟨gb205, 5, none⟩ = some (.int .i64 a1_5) := (blk_cell BK205.out 5).trans rfl
   have hcz41_6 : w40.cell? ⟨gb205, 6, none⟩ = some (.int .i64 a1_6) := (blk_cell BK205.out 6).trans rfl
   have hcz41_7 : w40.cell? ⟨gb205, 7, none⟩ = some (.string a1_7) := (blk_cell BK205.out 7).trans rfl
   have hcz41_8 : w40.cell? ⟨gb205, 8, none⟩ = some (.bool a1_8) := (blk_cell BK205.out 8).trans rfl
   have hfz41_0 := blk_frozen BK205.out 0
   have hfz41_1 := blk_frozen BK205.out 1
   have hfz41_2 := blk_frozen BK205.out 2
   have hfz41_3 := blk_frozen BK205.out 3
   have hfz41_4 := blk_frozen BK205.out 4
   have hfz41_5 := blk_frozen BK205.out 5
   have hfz41_6 := blk_frozen BK205.out 6
   have hfz41_7 := blk_frozen BK205.out 7
   have hfz41_8 := blk_frozen BK205.out 8
   go_upto_if 35 with (fail)
   go_cut [5] (fun v5 wc => ∃ (kq : Nat) (x5_26 : Int), v5 = .int .i64 x5_26 ∧ Aside0 (cenotaphref07_Put.j0 kq t222 x5_26 a1_0 a1_1 a1_2 a1_3 false a1_5 a1_6 a1_7 a1_8 = some r) ∧ Aside0 (kq ≤ k) ∧ Aside0 (Kd.R (Kd.int .u8) 5 wc w.heap.size (fun _ => True) v223 t222) ∧ Aside0 (wc.heap[gb205]? = some (.cells #[.int .i64 a1_0, .string a1_1, .int .i64 a1_2, .int .i64 a1_3, .bool false, .int .i64 a1_5, .int .i64 a1_6, .string a1_7, .bool a1_8] 46 (0, 0))) ∧ Aside0 (Below w.heap.size w wc))
   case first =>
    have H := HC27.out
    clear HC27
    by_cases c42 : a1_8 = true
    ·subst c42
     have H1 : (cenotaphref07_Put.j0 k t222 2 a1_0 a1_1 a1_2 a1_3 false a1_5 a1_6 a1_7 true) = some r := by rw [if_pos rfl] at H; exact H
     clear H
     have H := H1
     clear H1
     have H' := Aside0.mk H
     clear H
     go_wp2
     go_meet
     case rel => exact ⟨_, (2), (by first | rfl | (simp; done) | (simp [*]; done)), H', ⟨by first | omega | exact Nat.le_refl _⟩, ⟨by (with_reducible repeat (first | apply Kd.R_alloc | apply Kd.R_drewN | apply Kd.R_drew)); exact Kd.R_mono HO224.out (fun _ hk => trivial)⟩, ⟨by (with_reducible repeat (first | refine blk_drewN ?_ _ | refine blk_drew ?_ | refine blk_alloc ?_ _)); exact BK205.out⟩, ⟨by repeat (first | (with_reducible first | exact HB.out | apply below_alloc | apply pw_below_drewN | apply below_drew1 | refine below_set ?_ GE205.out) | exact HB.out)⟩⟩
    ·replace c42 := Bool.eq_false_iff.mpr c42
     subst c42
     have H1 : (cenotaphref07_Put.j0 k t222 1 a1_0 a1_1 a1_2 a1_3 false a1_5 a1_6 a1_7 false) = some r := by rw [if_neg (show ¬ (false = true) by decide)] at H; exact H
     clear H
     have H := H1
     clear H1
     have H' := Aside0.mk H
     clear H
     go_wp2
     go_meet
     case rel => exact ⟨_, (1), (by first | rfl | (simp; done) | (simp [*]; done)), H', ⟨by first | omega | exact Nat.le_refl _⟩, ⟨by (with_reducible repeat (first | apply Kd.R_alloc | apply Kd.R_drewN | apply Kd.R_drew)); exact Kd.R_mono HO224.out (fun _ hk => trivial)⟩, ⟨by (with_reducible repeat (first | refine blk_drewN ?_ _ | refine blk_drew ?_ | refine blk_alloc ?_ _)); exact BK205.out⟩, ⟨by repeat (first | (with_reducible first | exact HB.out | apply below_alloc | apply pw_below_drewN | apply below_drew1 | refine below_set ?_ GE205.out) | exact HB.out)⟩⟩
   case rest =>
    clear HC27
    try clear c2
    try clear p2
    try clear c4
    try clear c9
    try clear c24
    try clear c27
    try clear c42
    try clear hcz12_0
    try clear hcz12_1
    try clear hcz12_2
    try clear hcz12_3
    try clear hcz12_4
    try clear hcz12_5
    try clear hcz12_6
    try clear hcz12_7
    try clear hcz12_8
    try clear hcz14_0
    try clear hcz14_1
    try clear hcz14_2
    try clear hcz14_3
    try clear hcz14_4
    try clear hcz14_5
    try clear hcz14_6
    try clear hcz14_7
    try clear hcz14_8
    try clear hcz16_0
    try clear hcz16_1
    try clear hcz16_2
    try clear hcz16_3
    try clear hcz16_4
    try clear hcz16_5
    try clear hcz16_6
    try clear hcz16_7
    try clear hcz16_8
    try clear hcz24_0
    try clear hcz24_1
    try clear hcz24_2
    try clear hcz24_3
    try clear hcz24_4
    try clear hcz24_5
    try clear hcz24_6
    try clear hcz24_7
    try clear hcz24_8
    try clear hcz29_0
    try clear hcz29_1
    try clear hcz29_2
    try clear hcz29_3
    try clear hcz29_4
    try clear hcz29_5
    try clear hcz29_6
    try clear hcz29_7
    try clear hcz29_8
    try clear hcz31_0
    try clear hcz31_1
    try clear hcz31_2
    try clear hcz31_3
    try clear hcz31_4
    try clear hcz31_5
    try clear hcz31_6
    try clear hcz31_7
    try clear hcz31_8
    try clear hcz33_0
    try clear hcz33_1
    try clear hcz33_2
    try clear hcz33_3
    try clear hcz33_4
    try clear hcz33_5
    try clear hcz33_6
    try clear hcz33_7
    try clear hcz33_8
    try clear hcz41_0
    try clear hcz41_1
    try clear hcz41_2
    try clear hcz41_3
    try clear hcz41_4
    try clear hcz41_5
    try clear hcz41_6
    try clear hcz41_7
    try clear hcz41_8
    try clear hfz12_0
    try clear hfz12_1
    try clear hfz12_2
    try clear hfz12_3
    try clear hfz12_4
    try clear hfz12_5
    try clear hfz12_6
    try clear hfz12_7
    try clear hfz12_8
    try clear hfz14_0
    try clear hfz14_1
    try clear hfz14_2
    try clear hfz14_3
    try clear hfz14_4
    try clear hfz14_5
    try clear hfz14_6
    try clear hfz14_7
    try clear hfz14_8
    try clear hfz16_0
    try clear hfz16_1
    try clear hfz16_2
    try clear hfz16_3
    try clear hfz16_4
    try clear hfz16_5
    try clear hfz16_6
    try clear hfz16_7
    try clear hfz16_8
    try clear hfz24_0
    try clear hfz24_1
    try clear hfz24_2
    try clear hfz24_3
    try clear hfz24_4
    try clear hfz24_5
    try clear hfz24_6
    try clear hfz24_7
    try clear hfz24_8
    try clear hfz29_0
    try clear hfz29_1
    try clear hfz29_2
    try clear hfz29_3
    try clear hfz29_4
    try clear hfz29_5
    try clear hfz29_6
    try clear hfz29_7
    try clear hfz29_8
    try clear hfz31_0
    try clear hfz31_1
    try clear hfz31_2
    try clear hfz31_3
    try clear hfz31_4
    try clear hfz31_5
    try clear hfz31_6
    try clear hfz31_7
    try clear hfz31_8
    try clear hfz33_0
    try clear hfz33_1
    try clear hfz33_2
    try clear hfz33_3
    try clear hfz33_4
    try clear hfz33_5
    try clear hfz33_6
    try clear hfz33_7
    try clear hfz33_8
    try clear hfz41_0
    try clear hfz41_1
    try clear hfz41_2
    try clear hfz41_3
    try clear hfz41_4
    try clear hfz41_5
    try clear hfz41_6
    try clear hfz41_7
    try clear hfz41_8
    obtain ⟨kq, x5_26, rfl, HA, HJ26, HO_0, BK205, HB⟩ := hcut
    cases kq with
    | zero => exact absurd HA.out (by simp [cenotaphref07_Put.j0])
    | succ kj26 =>
     have H := HA.out
     clear HA
     simp only [cenotaphref07_Put.j0] at H
     replace H := Option.bind_eq_some_iff.mp H
     obtain ⟨t228, A430, H⟩ := H
     replace H : ((cenotaphref06_Put.f kj26 t228 (wrap64 (a1_5 + 1000))).bind fun t231 => ((cenotaphref06_Put.f kj26 t231 (wrap64 (a1_6 + 1000))).bind fun t234 => (if a1_8 = true then ((cenotaphref06_PutText.f kj26 t234 a1_7).bind fun t237 => (some t237)) else (some t234)))) = some r := H
     have A43 := Aside0.mk A430
     clear A430
     replace H := Option.bind_eq_some_iff.mp H
     obtain ⟨t231, A440, H⟩ := H
     replace H : ((cenotaphref06_Put.f kj26 t231 (wrap64 (a1_6 + 1000))).bind fun t234 => (if a1_8 = true then ((cenotaphref06_PutText.f kj26 t234 a1_7).bind fun t237 => (some t237)) else (some t234))) = some r := H
     have A44 := Aside0.mk A440
     clear A440
     replace H := Option.bind_eq_some_iff.mp H
     obtain ⟨t234, A450, H⟩ := H
     replace H : (if a1_8 = true then ((cenotaphref06_PutText.f kj26 t234 a1_7).bind fun t237 => (some t237)) else (some t234)) = some r := H
     have A45 := Aside0.mk A450
     clear A450
     by_cases c46 : a1_8 = true
     ·subst c46
      have H1 : ((cenotaphref06_PutText.f kj26 t234 a1_7).bind fun t237 => (some t237)) = some r := by rw [if_pos rfl] at H; exact H
      clear H
      have H := H1
      clear H1
      replace H := Option.bind_eq_some_iff.mp H
      obtain ⟨t237, A470, H⟩ := H
      replace H : (some t237) = some r := H
      have A47 := Aside0.mk A470
      clear A470
      obtain rfl := Option.some.inj H
      try go_wp2
      replace HO_0 := Aside0.mk (Kd.R_drew HO_0.out)
      replace BK205 := Aside0.mk (blk_drew BK205.out)
      replace HB := Aside0.mk (below_drew1 HB.out)
      obtain ⟨Ao49, co49, eo49⟩ := Kd.R_slice HO_0.out
      (first | subst eo49 | (injection eo49 with f1_ f2_ f3_; have f4_ := f1_.symm; have f5_ := f3_.symm; clear f1_ f2_ f3_; subst f4_; subst f5_))
      refine start_ (n := 14) (S := fun w' => w'.cell? ⟨gb205, 0, none⟩ = some (.int .i64 a1_0) ∧ w'.cell? ⟨gb205, 1, none⟩ = some (.string a1_1) ∧ w'.cell? ⟨gb205, 2, none⟩ = some (.int .i64 a1_2) ∧ w'.cell? ⟨gb205, 3, none⟩ = some (.int .i64 a1_3) ∧ w'.cell? ⟨gb205, 4, none⟩ = some (.bool false) ∧ w'.cell? ⟨gb205, 5, none⟩ = some (.int .i64 a1_5) ∧ w'.cell? ⟨gb205, 6, none⟩ = some (.int .i64 a1_6) ∧ w'.cell? ⟨gb205, 7, none⟩ = some (.string a1_7) ∧ w'.cell? ⟨gb205, 8, none⟩ = some (.bool true)) (ds := []) #[false, false, false, false, false, false, false, false, false, false, false, false, false, false] (by kernel_rfl) rfl rfl ⟨(blk_cell BK205.out 0).trans rfl, (blk_cell BK205.out 1).trans rfl, (blk_cell BK205.out 2).trans rfl, (blk_cell BK205.out 3).trans rfl, (blk_cell BK205.out 4).trans rfl, (blk_cell BK205.out 5).trans rfl, (blk_cell BK205.out 6).trans rfl, (blk_cell BK205.out 7).trans rfl, (blk_cell BK205.out 8).trans rfl⟩ (fun hHeld => ?_); refine with_tabW cenotaphref07_Put.tab11 cenotaphref07_Put.bits11 (fun HT_ HW_ => ?_)
      generalize wc.drew = w48 at HO_0 BK205 HB hHeld ⊢
      refine pure_ (i := 0) (N := some 36) (v := ?_) (a' := ?_) #[true, false, false, false, false, false, false, false, false, false, false, false, false, false] rfl rfl (any_of HT_.out (by kernel_rfl)) (fun _ _ _ h => h) (Or.inl ⟨by rfl, ?_⟩) ?_ ?_
      rotate_left
      ·intro w'
       go_simp
       with_reducible rfl
      rotate_left
      ·simp only [Act.put, List.setIfInBounds_toArray, List.set_cons_zero, List.set_cons_succ, i64_w, i32_w]
       rfl
      refine pure_ (i := 1) (N := some 37) (v := ?_) (a' := ?_) #[true, true, false, false, false, false, false, false, false, false, false, false, false, false] rfl rfl (any_of HT_.out (by kernel_rfl)) (fun _ _ _ h => h) (Or.inl ⟨by rfl, ?_⟩) ?_ ?_
      rotate_left
      ·intro w'
       go_simp
       with_reducible rfl
      rotate_left
      ·simp only [Act.put, List.setIfInBounds_toArray, List.set_cons_zero, List.set_cons_succ, i64_w, i32_w]
       rfl
      refine pure_ (i := 3) (N := some 39) (v := ?_) (a' := ?_) #[true, true, false, true, false, false, false, false, false, false, false, false, false, false] rfl rfl (any_of HT_.out (by kernel_rfl)) (fun _ _ _ h => h) (Or.inl ⟨by rfl, ?_⟩) ?_ ?_
      rotate_left
      ·intro w'
       go_simp
       with_reducible rfl
      rotate_left
      ·simp only [Act.put, List.setIfInBounds_toArray, List.set_cons_zero, List.set_cons_succ, i64_w, i32_w]
       rfl
      refine pure_ (i := 4) (N := some 40) (v := ?_) (a' := ?_) #[true, true, false, true, true, false, false, false, false, false, false, false, false, false] rfl rfl (any_of HT_.out (by kernel_rfl)) (fun _ _ _ h => h) (Or.inl ⟨by rfl, ?_⟩) ?_ ?_
      rotate_left
      ·intro w'
       go_simp
       with_reducible rfl
      rotate_left
      ·simp only [Act.put, List.setIfInBounds_toArray, List.set_cons_zero, List.set_cons_succ, i64_w, i32_w]
       rfl
      refine pure_ (i := 8) (N := some 44) (v := ?_) (a' := ?_) #[true, true, false, true, true, false, false, false, true, false, false, false, false, false] rfl rfl (any_of HT_.out (by kernel_rfl)) (fun _ _ _ h => h) (Or.inl ⟨by rfl, ?_⟩) ?_ ?_
      rotate_left
      ·intro w'
       go_simp
       with_reducible rfl
      rotate_left
      ·simp only [Act.put, List.setIfInBounds_toArray, List.set_cons_zero, List.set_cons_succ, i64_w, i32_w]
       rfl
      refine pure_ (i := 9) (N := some 45) (v := ?_) (a' := ?_) #[true, true, false, true, true, false, false, false, true, true, false, false, false, false] rfl rfl (any_of HT_.out (by kernel_rfl)) (fun _ _ _ h => h) (Or.inl ⟨by rfl, ?_⟩) ?_ ?_
      rotate_left
      ·intro w'
       go_simp
       with_reducible rfl
      rotate_left
      ·simp only [Act.put, List.setIfInBounds_toArray, List.set_cons_zero, List.set_cons_succ, i64_w, i32_w]
       rfl
      refine take_ (i := 5) (N := some 41) (v := ?_) (a' := ?_) #[true, true, false, true, true, true, false, false, true, true, false, false, false, false] rfl rfl (take_ofW HT_.out HW_.out (by kernel_rfl)) (fun _ _ _ h => h) (Or.inl ⟨by rfl, ?_⟩) hHeld ?_ ?_
      rotate_left
      ·rintro w' ⟨s0, s1, s2, s3, s4, s5, s6, s7, s8⟩
       go_simp
       with_reducible rfl
      rotate_left
      ·simp only [Act.put, List.setIfInBounds_toArray, List.set_cons_zero, List.set_cons_succ, i64_w, i32_w]
       rfl
      refine pure_ (i := 6) (N := some 42) (v := ?_) (a' := ?_) #[true, true, false, true, true, true, true, false, true, true, false, false, false, false] rfl rfl (any_of HT_.out (by kernel_rfl)) (fun _ _ _ h => h) (Or.inl ⟨by rfl, ?_⟩) ?_ ?_
      rotate_left
      ·intro w'
       go_simp
       with_reducible rfl
      rotate_left
      ·simp only [Act.put, List.setIfInBounds_toArray, List.set_cons_zero, List.set_cons_succ, i64_w, i32_w]
       rfl
      refine take_ (i := 10) (N := some 46) (v := ?_) (a' := ?_) #[true, true, false, true, true, true, true, false, true, true, true, false, false, false] rfl rfl (take_ofW HT_.out HW_.out (by kernel_rfl)) (fun _ _ _ h => h) (Or.inl ⟨by rfl, ?_⟩) hHeld ?_ ?_
      rotate_left
      ·rintro w' ⟨s0, s1, s2, s3, s4, s5, s6, s7, s8⟩
       go_simp
       with_reducible rfl
      rotate_left
      ·simp only [Act.put, List.setIfInBounds_toArray, List.set_cons_zero, List.set_cons_succ, i64_w, i32_w]
       rfl
      refine pure_ (i := 11) (N := some 47) (v := ?_) (a' := ?_) #[true, true, false, true, true, true, true, false, true, true, true, true, false, false] rfl rfl (any_of HT_.out (by kernel_rfl)) (fun _ _ _ h => h) (Or.inl ⟨by rfl, ?_⟩) ?_ ?_
      rotate_left
      ·intro w'
       go_simp
       with_reducible rfl
      rotate_left
      ·simp only [Act.put, List.setIfInBounds_toArray, List.set_cons_zero, List.set_cons_succ, i64_w, i32_w]
       rfl
      refine one_ (i := 2) (N := some 38) #[true, true, true, true, true, true, true, false, true, true, true, true, false, false] rfl rfl (one_of HT_.out (by kernel_rfl)) (by decide) (fun K hK => ?_)
      refine goes_ Try.func48 (by kernel_rfl) rfl #[.slice Ao49 t222.length co49, .int .i64 x5_26] (by rfl) rfl rfl zq27_2 ?_
      with_reducible refine (cenotaphref06_Put.calls kj26 _ _ t222 x5_26 t228 _ ?side1 ?side2 A43.out).mono ?_
      (case side1 => repeat (first | exact (Kd.R_reads' HO_0.out).2.2 | (with_reducible refine Kd.C_alloc ?_ _) | (with_reducible refine Kd.C_drewN ?_ _) | (with_reducible refine Kd.C_drew ?_)))
      (case side2 => exact (Kd.R_reads' HO_0.out).2.1)
      rintro e w50 ⟨v229, rfl, ho0, hb⟩
      refine ⟨_, rfl, ?_⟩
      have HO230 := Aside0.mk (Kd.R_lower (Kd.R_new' ho0 (Kd.R_lt zq27_10)) (below_size zq27_1))
      replace HO_0 := Aside0.mk (Kd.R_elder' zq27_10 (Kd.R_base ho0) hb)
      replace BK205 := Aside0.mk (blk_below (g := gb205) (o := .cells #[.int .i64 a1_0, .string a1_1, .int .i64 a1_2, .int .i64 a1_3, .bool false, .int .i64 a1_5, .int .i64 a1_6, .string a1_7, .bool true] 46 (0, 0)) zq27_4 hb)
      replace HB := Aside0.mk (below_step zq27_1 hb)
      (try clear hb)
      (try clear hb2)
      (try clear hk)
      (try clear hi)
      (try clear ho0)
      obtain ⟨Ao51, co51, eo51⟩ := Kd.R_slice HO230.out
      (first | subst eo51 | (injection eo51 with f1_ f2_ f3_; have f4_ := f1_.symm; have f5_ := f3_.symm; clear f1_ f2_ f3_; subst f4_; subst f5_))
      refine hK.out _ _ ⟨(blk_cell BK205.out 0).trans rfl, (blk_cell BK205.out 1).trans rfl, (blk_cell BK205.out 2).trans rfl, (blk_cell BK205.out 3).trans rfl, (blk_cell BK205.out 4).trans rfl, (blk_cell BK205.out 5).trans rfl, (blk_cell BK205.out 6).trans rfl, (blk_cell BK205.out 7).trans rfl, (blk_cell BK205.out 8).trans rfl⟩ (fun hHeld => ?_)
      clear hK K
      refine norm_ (a' := ?_) ?_ ?_
      rotate_left
      ·show Act.put _ (some 38) _ = _
       simp only [Act.put, List.setIfInBounds_toArray, List.set_cons_zero, List.set_cons_succ, i64_w, i32_w]
       rfl
      refine one_ (i := 7) (N := some 43) #[true, true, true, true, true, true, true, true, true, true, true, true, false, false] rfl rfl (one_of HT_.out (by kernel_rfl)) (by decide) (fun K hK => ?_)
      refine goes_ Try.func48 (by kernel_rfl) rfl #[.slice Ao51 t228.length co51, .int .i64 (wrap64 (a1_5 + 1000))] (by rfl) rfl rfl zq27_2 ?_
      with_reducible refine (cenotaphref06_Put.calls kj26 _ _ t228 (wrap64 (a1_5 + 1000)) t231 _ ?side1 ?side2 A44.out).mono ?_
      (case side1 => repeat (first | exact (Kd.R_reads' HO230.out).2.2 | (with_reducible refine Kd.C_alloc ?_ _) | (with_reducible refine Kd.C_drewN ?_ _) | (with_reducible refine Kd.C_drew ?_)))
      (case side2 => exact (Kd.R_reads' HO230.out).2.1)
      rintro e w52 ⟨v232, rfl, ho0, hb⟩
      refine ⟨_, rfl, ?_⟩
      have HO233 := Aside0.mk (Kd.R_lower (Kd.R_new' (Kd.R_new' ho0 (Kd.R_lt zq27_10)) (Kd.R_lt zq27_8)) (below_size zq27_1))
      replace HO_0 := Aside0.mk (Kd.R_elder' zq27_10 (Kd.R_base ho0) hb)
      replace HO230 := Aside0.mk (Kd.R_elder' zq27_8 (Kd.R_base ho0) hb)
      replace BK205 := Aside0.mk (blk_below (g := gb205) (o := .cells #[.int .i64 a1_0, .string a1_1, .int .i64 a1_2, .int .i64 a1_3, .bool false, .int .i64 a1_5, .int .i64 a1_6, .string a1_7, .bool true] 46 (0, 0)) zq27_4 hb)
      replace HB := Aside0.mk (below_step zq27_1 hb)
      (try clear hb)
      (try clear hb2)
      (try clear hk)
      (try clear hi)
      (try clear ho0)
      obtain ⟨Ao53, co53, eo53⟩ := Kd.R_slice HO233.out
      (first | subst eo53 | (injection eo53 with f1_ f2_ f3_; have f4_ := f1_.symm; have f5_ := f3_.symm; clear f1_ f2_ f3_; subst f4_; subst f5_))
      refine hK.out _ _ ⟨(blk_cell BK205.out 0).trans rfl, (blk_cell BK205.out 1).trans rfl, (blk_cell BK205.out 2).trans rfl, (blk_cell BK205.out 3).trans rfl, (blk_cell BK205.out 4).trans rfl, (blk_cell BK205.out 5).trans rfl, (blk_cell BK205.out 6).trans rfl, (blk_cell BK205.out 7).trans rfl, (blk_cell BK205.out 8).trans rfl⟩ (fun hHeld => ?_)
      clear hK K
      refine norm_ (a' := ?_) ?_ ?_
      rotate_left
      ·show Act.put _ (some 43) _ = _
       simp only [Act.put, List.setIfInBounds_toArray, List.set_cons_zero, List.set_cons_succ, i64_w, i32_w]
       rfl
      refine one_ (i := 12) (N := some 48) #[true, true, true, true, true, true, true, true, true, true, true, true, true, false] rfl rfl (one_of HT_.out (by kernel_rfl)) (by decide) (fun K hK => ?_)
      refine goes_ Try.func48 (by kernel_rfl) rfl #[.slice Ao53 t231.length co53, .int .i64 (wrap64 (a1_6 + 1000))] (by rfl) rfl rfl zq27_2 ?_
      with_reducible refine (cenotaphref06_Put.calls kj26 _ _ t231 (wrap64 (a1_6 + 1000)) t234 _ ?side1 ?side2 A45.out).mono ?_
      (case side1 => repeat (first | exact (Kd.R_reads' HO233.out).2.2 | (with_reducible refine Kd.C_alloc ?_ _) | (with_reducible refine Kd.C_drewN ?_ _) | (with_reducible refine Kd.C_drew ?_)))
      (case side2 => exact (Kd.R_reads' HO233.out).2.1)
      rintro e w54 ⟨v235, rfl, ho0, hb⟩
      refine ⟨_, rfl, ?_⟩
      have HO236 := Aside0.mk (Kd.R_lower (Kd.R_new' (Kd.R_new' (Kd.R_new' ho0 (Kd.R_lt zq27_10)) (Kd.R_lt zq27_8)) (Kd.R_lt zq27_9)) (below_size zq27_1))
      replace HO_0 := Aside0.mk (Kd.R_elder' zq27_10 (Kd.R_base ho0) hb)
      replace HO230 := Aside0.mk (Kd.R_elder' zq27_8 (Kd.R_base ho0) hb)
      replace HO233 := Aside0.mk (Kd.R_elder' zq27_9 (Kd.R_base ho0) hb)
      replace BK205 := Aside0.mk (blk_below (g := gb205) (o := .cells #[.int .i64 a1_0, .string a1_1, .int .i64 a1_2, .int .i64 a1_3, .bool false, .int .i64 a1_5, .int .i64 a1_6, .string a1_7, .bool true] 46 (0, 0)) zq27_4 hb)
      replace HB := Aside0.mk (below_step zq27_1 hb)
      (try clear hb)
      (try clear hb2)
      (try clear hk)
      (try clear hi)
      (try clear ho0)
      refine hK.out _ _ ⟨(blk_cell BK205.out 0).trans rfl, (blk_cell BK205.out 1).trans rfl, (blk_cell BK205.out 2).trans rfl, (blk_cell BK205.out 3).trans rfl, (blk_cell BK205.out 4).trans rfl, (blk_cell BK205.out 5).trans rfl, (blk_cell BK205.out 6).trans rfl, (blk_cell BK205.out 7).trans rfl, (blk_cell BK205.out 8).trans rfl⟩ (fun hHeld => ?_)
      clear hK K
      refine norm_ (a' := ?_) ?_ ?_
      rotate_left
      ·show Act.put _ (some 48) _ = _
       simp only [Act.put, List.setIfInBounds_toArray, List.set_cons_zero, List.set_cons_succ, i64_w, i32_w]
       rfl
      refine pure_ (i := 13) (N := some 0) (v := ?_) (a' := ?_) #[true, true, true, true, true, true, true, true, true, true, true, true, true, true] rfl rfl (any_of HT_.out (by kernel_rfl)) (fun _ _ _ h => h) (Or.inl ⟨by rfl, ?_⟩) ?_ ?_
      rotate_left
      ·intro w'
       go_simp
       with_reducible rfl
      rotate_left
      ·simp only [Act.put, List.setIfInBounds_toArray, List.set_cons_zero, List.set_cons_succ, i64_w, i32_w]
       rfl
      refine done_ (done_of HT_.out (by kernel_rfl)) ?_
      have hcz55_0 : w54.cell? ⟨gb205, 0, none⟩ = some (.int .i64 a1_0) := (blk_cell BK205.out 0).trans rfl
      have hcz55_1 : w54.cell? ⟨gb205, 1, none⟩ = some (.string a1_1) := (blk_cell BK205.out 1).trans rfl
      have hcz55_2 : w54.cell? ⟨gb205, 2, none⟩ = some (.int .i64 a1_2) := (blk_cell BK205.out 2).trans rfl
      have hcz55_3 : w54.cell? ⟨gb205, 3, none⟩ = some (.int .i64 a1_3) := (blk_cell BK205.out 3).trans rfl
      have hcz55_4 : w54.cell? ⟨gb205, 4, none⟩ = some (.bool false) := (blk_cell BK205.out 4).trans rfl
      have hcz55_5 : w54.cell? ⟨gb205, 5, none⟩ = some (.int .i64 a1_5) := (blk_cell BK205.out 5).trans rfl
      have hcz55_6 : w54.cell? ⟨gb205, 6, none⟩ = some (.int .i64 a1_6) := (blk_cell BK205.out 6).trans rfl
      have hcz55_7 : w54.cell? ⟨gb205, 7, none⟩ = some (.string a1_7) := (blk_cell BK205.out 7).trans rfl
      have hcz55_8 : w54.cell? ⟨gb205, 8, none⟩ = some (.bool true) := (blk_cell BK205.out 8).trans rfl
      have hfz55_0 := blk_frozen BK205.out 0
      have hfz55_1 := blk_frozen BK205.out 1
      have hfz55_2 := blk_frozen BK205.out 2
      have hfz55_3 := blk_frozen BK205.out 3
      have hfz55_4 := blk_frozen BK205.out 4
      have hfz55_5 := blk_frozen BK205.out 5
      have hfz55_6 := blk_frozen BK205.out 6
      have hfz55_7 := blk_frozen BK205.out 7
      have hfz55_8 := blk_frozen BK205.out 8
      obtain ⟨Ao56, co56, eo56⟩ := Kd.R_slice HO236.out
      subst eo56
      try go_wp2_with (first | ((with_reducible refine gate_callee (f := 49) rfl ?_); refine goesL_ (some 54) rfl rfl Try.func49 (by kernel_rfl) rfl #[.slice Ao56 t234.length co56, .string a1_7] rfl zq27_2 ?_; (with_reducible refine (cenotaphref06_PutText.calls kj26 _ _ t234 a1_7 t237 _ ?side1 ?side2 A47.out).mono ?_); (case side1 => repeat (first | exact (Kd.R_reads' HO236.out).2.2 | (with_reducible refine Kd.C_alloc ?_ _) | (with_reducible refine Kd.C_drewN ?_ _) | (with_reducible refine Kd.C_drew ?_))); (case side2 => exact (Kd.R_reads' HO236.out).2.1); rintro e w57 ⟨v238, rfl, ho0, hb⟩; refine ⟨_, rfl, ?_⟩; have n0_ := Aside0.mk (Kd.R_elder' zq27_10 (Kd.R_base ho0) hb); have n1_ := Aside0.mk (Kd.R_elder' zq27_8 (Kd.R_base ho0) hb); have n2_ := Aside0.mk (Kd.R_elder' zq27_9 (Kd.R_base ho0) hb); have n3_ := Aside0.mk (Kd.R_elder' (by (with_reducible repeat (first | apply Kd.R_alloc | apply Kd.R_drewN | apply Kd.R_drew)); exact HO236.out) (Kd.R_base ho0) hb); have n4_ := Aside0.mk (Kd.R_lower (Kd.R_new' (Kd.R_new' (Kd.R_new' (Kd.R_new' ho0 (Kd.R_lt zq27_10)) (Kd.R_lt zq27_8)) (Kd.R_lt zq27_9)) (Kd.R_lt (by (with_reducible repeat (first | apply Kd.R_alloc | apply Kd.R_drewN | apply Kd.R_drew)); exact HO236.out))) (below_size zq27_1)); have n5_ := Aside0.mk (blk_below (g := gb205) (o := .cells #[.int .i64 a1_0, .string a1_1, .int .i64 a1_2, .int .i64 a1_3, .bool false, .int .i64 a1_5, .int .i64 a1_6, .string a1_7, .bool true] 46 (0, 0)) zq27_4 hb); have n6_ := Aside0.mk (below_step zq27_1 hb); clear HO_0; clear HO230; clear HO233; clear HO236; clear BK205; clear HB; have HO_0 := n0_; have HO230 := n1_; have HO233 := n2_; have HO236 := n3_; have HO239 := n4_; have BK205 := n5_; have HB := n6_; clear n0_ n1_ n2_ n3_ n4_ n5_ n6_; (try clear hb); (try clear hb2); (try clear hk); (try clear hi); (try clear ho0)))
      go_ret
      exact ⟨_, by first | rfl | (simp [errW_none, errW_some] <;> rfl) | (simp [*, errW_none, errW_some] <;> rfl), by (with_reducible repeat (first | apply Kd.R_alloc | apply Kd.R_drewN | apply Kd.R_drew)); exact Kd.R_mono HO239.out (fun _ hk => trivial), by repeat (first | (with_reducible first | exact HB.out | apply below_alloc | apply pw_below_drewN | apply below_drew1 | refine below_set ?_ GE205.out) | exact HB.out)⟩
     ·replace c46 := Bool.eq_false_iff.mpr c46
      subst c46
      have H1 : (some t234) = some r := by rw [if_neg (show ¬ (false = true) by decide)] at H; exact H
      clear H
      have H := H1
      clear H1
      obtain rfl := Option.some.inj H
      try go_wp2
      replace HO_0 := Aside0.mk (Kd.R_drew HO_0.out)
      replace BK205 := Aside0.mk (blk_drew BK205.out)
      replace HB := Aside0.mk (below_drew1 HB.out)
      obtain ⟨Ao59, co59, eo59⟩ := Kd.R_slice HO_0.out
      (first | subst eo59 | (injection eo59 with f1_ f2_ f3_; have f4_ := f1_.symm; have f5_ := f3_.symm; clear f1_ f2_ f3_; subst f4_; subst f5_))
      refine start_ (n := 14) (S := fun w' => w'.cell? ⟨gb205, 0, none⟩ = some (.int .i64 a1_0) ∧ w'.cell? ⟨gb205, 1, none⟩ = some (.string a1_1) ∧ w'.cell? ⟨gb205, 2, none⟩ = some (.int .i64 a1_2) ∧ w'.cell? ⟨gb205, 3, none⟩ = some (.int .i64 a1_3) ∧ w'.cell? ⟨gb205, 4, none⟩ = some (.bool false) ∧ w'.cell? ⟨gb205, 5, none⟩ = some (.int .i64 a1_5) ∧ w'.cell? ⟨gb205, 6, none⟩ = some (.int .i64 a1_6) ∧ w'.cell? ⟨gb205, 7, none⟩ = some (.string a1_7) ∧ w'.cell? ⟨gb205, 8, none⟩ = some (.bool false)) (ds := []) #[false, false, false, false, false, false, false, false, false, false, false, false, false, false] (by kernel_rfl) rfl rfl ⟨(blk_cell BK205.out 0).trans rfl, (blk_cell BK205.out 1).trans rfl, (blk_cell BK205.out 2).trans rfl, (blk_cell BK205.out 3).trans rfl, (blk_cell BK205.out 4).trans rfl, (blk_cell BK205.out 5).trans rfl, (blk_cell BK205.out 6).trans rfl, (blk_cell BK205.out 7).trans rfl, (blk_cell BK205.out 8).trans rfl⟩ (fun hHeld => ?_); refine with_tabW cenotaphref07_Put.tab11 cenotaphref07_Put.bits11 (fun HT_ HW_ => ?_)
      generalize wc.drew = w58 at HO_0 BK205 HB hHeld ⊢
      refine pure_ (i := 0) (N := some 36) (v := ?_) (a' := ?_) #[true, false, false, false, false, false, false, false, false, false, false, false, false, false] rfl rfl (any_of HT_.out (by kernel_rfl)) (fun _ _ _ h => h) (Or.inl ⟨by rfl, ?_⟩) ?_ ?_
      rotate_left
      ·intro w'
       go_simp
       with_reducible rfl
      rotate_left
      ·simp only [Act.put, List.setIfInBounds_toArray, List.set_cons_zero, List.set_cons_succ, i64_w, i32_w]
       rfl
      refine pure_ (i := 1) (N := some 37) (v := ?_) (a' := ?_) #[true, true, false, false, false, false, false, false, false, false, false, false, false, false] rfl rfl (any_of HT_.out (by kernel_rfl)) (fun _ _ _ h => h) (Or.inl ⟨by rfl, ?_⟩) ?_ ?_
      rotate_left
      ·intro w'
       go_simp
       with_reducible rfl
      rotate_left
      ·simp only [Act.put, List.setIfInBounds_toArray, List.set_cons_zero, List.set_cons_succ, i64_w, i32_w]
       rfl
      refine pure_ (i := 3) (N := some 39) (v := ?_) (a' := ?_) #[true, true, false, true, false, false, false, false, false, false, false, false, false, false] rfl rfl (any_of HT_.out (by kernel_rfl)) (fun _ _ _ h => h) (Or.inl ⟨by rfl, ?_⟩) ?_ ?_
      rotate_left
      ·intro w'
       go_simp
       with_reducible rfl
      rotate_left
      ·simp only [Act.put, List.setIfInBounds_toArray, List.set_cons_zero, List.set_cons_succ, i64_w, i32_w]
       rfl
      refine pure_ (i := 4) (N := some 40) (v := ?_) (a' := ?_) #[true, true, false, true, true, false, false, false, false, false, false, false, false, false] rfl rfl (any_of HT_.out (by kernel_rfl)) (fun _ _ _ h => h) (Or.inl ⟨by rfl, ?_⟩) ?_ ?_
      rotate_left
      ·intro w'
       go_simp
       with_reducible rfl
      rotate_left
      ·simp only [Act.put, List.setIfInBounds_toArray, List.set_cons_zero, List.set_cons_succ, i64_w, i32_w]
       rfl
      refine pure_ (i := 8) (N := some 44) (v := ?_) (a' := ?_) #[true, true, false, true, true, false, false, false, true, false, false, false, false, false] rfl rfl (any_of HT_.out (by kernel_rfl)) (fun _ _ _ h => h) (Or.inl ⟨by rfl, ?_⟩) ?_ ?_
      rotate_left
      ·intro w'
       go_simp
       with_reducible rfl
      rotate_left
      ·simp only [Act.put, List.setIfInBounds_toArray, List.set_cons_zero, List.set_cons_succ, i64_w, i32_w]
       rfl
      refine pure_ (i := 9) (N := some 45) (v := ?_) (a' := ?_) #[true, true, false, true, true, false, false, false, true, true, false, false, false, false] rfl rfl (any_of HT_.out (by kernel_rfl)) (fun _ _ _ h => h) (Or.inl ⟨by rfl, ?_⟩) ?_ ?_
      rotate_left
      ·intro w'
       go_simp
       with_reducible rfl
      rotate_left
      ·simp only [Act.put, List.setIfInBounds_toArray, List.set_cons_zero, List.set_cons_succ, i64_w, i32_w]
       rfl
      refine take_ (i := 5) (N := some 41) (v := ?_) (a' := ?_) #[true, true, false, true, true, true, false, false, true, true, false, false, false, false] rfl rfl (take_ofW HT_.out HW_.out (by kernel_rfl)) (fun _ _ _ h => h) (Or.inl ⟨by rfl, ?_⟩) hHeld ?_ ?_
      rotate_left
      ·rintro w' ⟨s0, s1, s2, s3, s4, s5, s6, s7, s8⟩
       go_simp
       with_reducible rfl
      rotate_left
      ·simp only [Act.put, List.setIfInBounds_toArray, List.set_cons_zero, List.set_cons_succ, i64_w, i32_w]
       rfl
      refine pure_ (i := 6) (N := some 42) (v := ?_) (a' := ?_) #[true, true, false, true, true, true, true, false, true, true, false, false, false, false] rfl rfl (any_of HT_.out (by kernel_rfl)) (fun _ _ _ h => h) (Or.inl ⟨by rfl, ?_⟩) ?_ ?_
      rotate_left
      ·intro w'
       go_simp
       with_reducible rfl
      rotate_left
      ·simp only [Act.put, List.setIfInBounds_toArray, List.set_cons_zero, List.set_cons_succ, i64_w, i32_w]
       rfl
      refine take_ (i := 10) (N := some 46) (v := ?_) (a' := ?_) #[true, true, false, true, true, true, true, false, true, true, true, false, false, false] rfl rfl (take_ofW HT_.out HW_.out (by kernel_rfl)) (fun _ _ _ h => h) (Or.inl ⟨by rfl, ?_⟩) hHeld ?_ ?_
      rotate_left
      ·rintro w' ⟨s0, s1, s2, s3, s4, s5, s6, s7, s8⟩
       go_simp
       with_reducible rfl
      rotate_left
      ·simp only [Act.put, List.setIfInBounds_toArray, List.set_cons_zero, List.set_cons_succ, i64_w, i32_w]
       rfl
      refine pure_ (i := 11) (N := some 47) (v := ?_) (a' := ?_) #[true, true, false, true, true, true, true, false, true, true, true, true, false, false] rfl rfl (any_of HT_.out (by kernel_rfl)) (fun _ _ _ h => h) (Or.inl ⟨by rfl, ?_⟩) ?_ ?_
      rotate_left
      ·intro w'
       go_simp
       with_reducible rfl
      rotate_left
      ·simp only [Act.put, List.setIfInBounds_toArray, List.set_cons_zero, List.set_cons_succ, i64_w, i32_w]
       rfl
      refine one_ (i := 2) (N := some 38) #[true, true, true, true, true, true, true, false, true, true, true, true, false, false] rfl rfl (one_of HT_.out (by kernel_rfl)) (by decide) (fun K hK => ?_)
      refine goes_ Try.func48 (by kernel_rfl) rfl #[.slice Ao59 t222.length co59, .int .i64 x5_26] (by rfl) rfl rfl zq27_2 ?_
      with_reducible refine (cenotaphref06_Put.calls kj26 _ _ t222 x5_26 t228 _ ?side1 ?side2 A43.out).mono ?_
      (case side1 => repeat (first | exact (Kd.R_reads' HO_0.out).2.2 | (with_reducible refine Kd.C_alloc ?_ _) | (with_reducible refine Kd.C_drewN ?_ _) | (with_reducible refine Kd.C_drew ?_)))
      (case side2 => exact (Kd.R_reads' HO_0.out).2.1)
      rintro e w60 ⟨v229, rfl, ho0, hb⟩
      refine ⟨_, rfl, ?_⟩
      have HO230 := Aside0.mk (Kd.R_lower (Kd.R_new' ho0 (Kd.R_lt zq27_10)) (below_size zq27_1))
      replace HO_0 := Aside0.mk (Kd.R_elder' zq27_10 (Kd.R_base ho0) hb)
      replace BK205 := Aside0.mk (blk_below (g := gb205) (o := .cells #[.int .i64 a1_0, .string a1_1, .int .i64 a1_2, .int .i64 a1_3, .bool false, .int .i64 a1_5, .int .i64 a1_6, .string a1_7, .bool false] 46 (0, 0)) zq27_4 hb)
      replace HB := Aside0.mk (below_step zq27_1 hb)
      (try clear hb)
      (try clear hb2)
      (try clear hk)
      (try clear hi)
      (try clear ho0)
      obtain ⟨Ao61, co61, eo61⟩ := Kd.R_slice HO230.out
      (first | subst eo61 | (injection eo61 with f1_ f2_ f3_; have f4_ := f1_.symm; have f5_ := f3_.symm; clear f1_ f2_ f3_; subst f4_; subst f5_))
      refine hK.out _ _ ⟨(blk_cell BK205.out 0).trans rfl, (blk_cell BK205.out 1).trans rfl, (blk_cell BK205.out 2).trans rfl, (blk_cell BK205.out 3).trans rfl, (blk_cell BK205.out 4).trans rfl, (blk_cell BK205.out 5).trans rfl, (blk_cell BK205.out 6).trans rfl, (blk_cell BK205.out 7).trans rfl, (blk_cell BK205.out 8).trans rfl⟩ (fun hHeld => ?_)
      clear hK K
      refine norm_ (a' := ?_) ?_ ?_
      rotate_left
      ·show Act.put _ (some 38) _ = _
       simp only [Act.put, List.setIfInBounds_toArray, List.set_cons_zero, List.set_cons_succ, i64_w, i32_w]
       rfl
      refine one_ (i := 7) (N := some 43) #[true, true, true, true, true, true, true, true, true, true, true, true, false, false] rfl rfl (one_of HT_.out (by kernel_rfl)) (by decide) (fun K hK => ?_)
      refine goes_ Try.func48 (by kernel_rfl) rfl #[.slice Ao61 t228.length co61, .int .i64 (wrap64 (a1_5 + 1000))] (by rfl) rfl rfl zq27_2 ?_
      with_reducible refine (cenotaphref06_Put.calls kj26 _ _ t228 (wrap64 (a1_5 + 1000)) t231 _ ?side1 ?side2 A44.out).mono ?_
      (case side1 => repeat (first | exact (Kd.R_reads' HO230.out).2.2 | (with_reducible refine Kd.C_alloc ?_ _) | (with_reducible refine Kd.C_drewN ?_ _) | (with_reducible refine Kd.C_drew ?_)))
      (case side2 => exact (Kd.R_reads' HO230.out).2.1)
      rintro e w62 ⟨v232, rfl, ho0, hb⟩
      refine ⟨_, rfl, ?_⟩
      have HO233 := Aside0.mk (Kd.R_lower (Kd.R_new' (Kd.R_new' ho0 (Kd.R_lt zq27_10)) (Kd.R_lt zq27_8)) (below_size zq27_1))
      replace HO_0 := Aside0.mk (Kd.R_elder' zq27_10 (Kd.R_base ho0) hb)
      replace HO230 := Aside0.mk (Kd.R_elder' zq27_8 (Kd.R_base ho0) hb)
      replace BK205 := Aside0.mk (blk_below (g := gb205) (o := .cells #[.int .i64 a1_0, .string a1_1, .int .i64 a1_2, .int .i64 a1_3, .bool false, .int .i64 a1_5, .int .i64 a1_6, .string a1_7, .bool false] 46 (0, 0)) zq27_4 hb)
      replace HB := Aside0.mk (below_step zq27_1 hb)
      (try clear hb)
      (try clear hb2)
      (try clear hk)
      (try clear hi)
      (try clear ho0)
      obtain ⟨Ao63, co63, eo63⟩ := Kd.R_slice HO233.out
      (first | subst eo63 | (injection eo63 with f1_ f2_ f3_; have f4_ := f1_.symm; have f5_ := f3_.symm; clear f1_ f2_ f3_; subst f4_; subst f5_))
      refine hK.out _ _ ⟨(blk_cell BK205.out 0).trans rfl, (blk_cell BK205.out 1).trans rfl, (blk_cell BK205.out 2).trans rfl, (blk_cell BK205.out 3).trans rfl, (blk_cell BK205.out 4).trans rfl, (blk_cell BK205.out 5).trans rfl, (blk_cell BK205.out 6).trans rfl, (blk_cell BK205.out 7).trans rfl, (blk_cell BK205.out 8).trans rfl⟩ (fun hHeld => ?_)
      clear hK K
      refine norm_ (a' := ?_) ?_ ?_
      rotate_left
      ·show Act.put _ (some 43) _ = _
       simp only [Act.put, List.setIfInBounds_toArray, List.set_cons_zero, List.set_cons_succ, i64_w, i32_w]
       rfl
      refine one_ (i := 12) (N := some 48) #[true, true, true, true, true, true, true, true, true, true, true, true, true, false] rfl rfl (one_of HT_.out (by kernel_rfl)) (by decide) (fun K hK => ?_)
      refine goes_ Try.func48 (by kernel_rfl) rfl #[.slice Ao63 t231.length co63, .int .i64 (wrap64 (a1_6 + 1000))] (by rfl) rfl rfl zq27_2 ?_
      with_reducible refine (cenotaphref06_Put.calls kj26 _ _ t231 (wrap64 (a1_6 + 1000)) t234 _ ?side1 ?side2 A45.out).mono ?_
      (case side1 => repeat (first | exact (Kd.R_reads' HO233.out).2.2 | (with_reducible refine Kd.C_alloc ?_ _) | (with_reducible refine Kd.C_drewN ?_ _) | (with_reducible refine Kd.C_drew ?_)))
      (case side2 => exact (Kd.R_reads' HO233.out).2.1)
      rintro e w64 ⟨v235, rfl, ho0, hb⟩
      refine ⟨_, rfl, ?_⟩
      have HO236 := Aside0.mk (Kd.R_lower (Kd.R_new' (Kd.R_new' (Kd.R_new' ho0 (Kd.R_lt zq27_10)) (Kd.R_lt zq27_8)) (Kd.R_lt zq27_9)) (below_size zq27_1))
      replace HO_0 := Aside0.mk (Kd.R_elder' zq27_10 (Kd.R_base ho0) hb)
      replace HO230 := Aside0.mk (Kd.R_elder' zq27_8 (Kd.R_base ho0) hb)
      replace HO233 := Aside0.mk (Kd.R_elder' zq27_9 (Kd.R_base ho0) hb)
      replace BK205 := Aside0.mk (blk_below (g := gb205) (o := .cells #[.int .i64 a1_0, .string a1_1, .int .i64 a1_2, .int .i64 a1_3, .bool false, .int .i64 a1_5, .int .i64 a1_6, .string a1_7, .bool false] 46 (0, 0)) zq27_4 hb)
      replace HB := Aside0.mk (below_step zq27_1 hb)
      (try clear hb)
      (try clear hb2)
      (try clear hk)
      (try clear hi)
      (try clear ho0)
      refine hK.out _ _ ⟨(blk_cell BK205.out 0).trans rfl, (blk_cell BK205.out 1).trans rfl, (blk_cell BK205.out 2).trans rfl, (blk_cell BK205.out 3).trans rfl, (blk_cell BK205.out 4).trans rfl, (blk_cell BK205.out 5).trans rfl, (blk_cell BK205.out 6).trans rfl, (blk_cell BK205.out 7).trans rfl, (blk_cell BK205.out 8).trans rfl⟩ (fun hHeld => ?_)
      clear hK K
      refine norm_ (a' := ?_) ?_ ?_
      rotate_left
      ·show Act.put _ (some 48) _ = _
       simp only [Act.put, List.setIfInBounds_toArray, List.set_cons_zero, List.set_cons_succ, i64_w, i32_w]
       rfl
      refine pure_ (i := 13) (N := some 0) (v := ?_) (a' := ?_) #[true, true, true, true, true, true, true, true, true, true, true, true, true, true] rfl rfl (any_of HT_.out (by kernel_rfl)) (fun _ _ _ h => h) (Or.inl ⟨by rfl, ?_⟩) ?_ ?_
      rotate_left
      ·intro w'
       go_simp
       with_reducible rfl
      rotate_left
      ·simp only [Act.put, List.setIfInBounds_toArray, List.set_cons_zero, List.set_cons_succ, i64_w, i32_w]
       rfl
      refine done_ (done_of HT_.out (by kernel_rfl)) ?_
      have hcz65_0 : w64.cell? ⟨gb205, 0, none⟩ = some (.int .i64 a1_0) := (blk_cell BK205.out 0).trans rfl
      have hcz65_1 : w64.cell? ⟨gb205, 1, none⟩ = some (.string a1_1) := (blk_cell BK205.out 1).trans rfl
      have hcz65_2 : w64.cell? ⟨gb205, 2, none⟩ = some (.int .i64 a1_2) := (blk_cell BK205.out 2).trans rfl
      have hcz65_3 : w64.cell? ⟨gb205, 3, none⟩ = some (.int .i64 a1_3) := (blk_cell BK205.out 3).trans rfl
      have hcz65_4 : w64.cell? ⟨gb205, 4, none⟩ = some (.bool false) := (blk_cell BK205.out 4).trans rfl
      have hcz65_5 : w64.cell? ⟨gb205, 5, none⟩ = some (.int .i64 a1_5) := (blk_cell BK205.out 5).trans rfl
      have hcz65_6 : w64.cell? ⟨gb205, 6, none⟩ = some (.int .i64 a1_6) := (blk_cell BK205.out 6).trans rfl
      have hcz65_7 : w64.cell? ⟨gb205, 7, none⟩ = some (.string a1_7) := (blk_cell BK205.out 7).trans rfl
      have hcz65_8 : w64.cell? ⟨gb205, 8, none⟩ = some (.bool false) := (blk_cell BK205.out 8).trans rfl
      have hfz65_0 := blk_frozen BK205.out 0
      have hfz65_1 := blk_frozen BK205.out 1
      have hfz65_2 := blk_frozen BK205.out 2
      have hfz65_3 := blk_frozen BK205.out 3
      have hfz65_4 := blk_frozen BK205.out 4
      have hfz65_5 := blk_frozen BK205.out 5
      have hfz65_6 := blk_frozen BK205.out 6
      have hfz65_7 := blk_frozen BK205.out 7
      have hfz65_8 := blk_frozen BK205.out 8
      try go_wp2
      go_ret
      exact ⟨_, by first | rfl | (simp [errW_none, errW_some] <;> rfl) | (simp [*, errW_none, errW_some] <;> rfl), by (with_reducible repeat (first | apply Kd.R_alloc | apply Kd.R_drewN | apply Kd.R_drew)); exact Kd.R_mono HO236.out (fun _ hk => trivial), by repeat (first | (with_reducible first | exact HB.out | apply below_alloc | apply pw_below_drewN | apply below_drew1 | refine below_set ?_ GE205.out) | exact HB.out)⟩
 ·replace c4 := Bool.eq_false_iff.mpr c4
  subst c4
  have H1 : ((some (([] : List Int) : List Int)).bind fun y207 => (if y207.length + l0.length < 140737488355328 then (some (y207 ++ l0)) else (none))) = some r := by rw [if_neg (show ¬ (false = true) by decide)] at H; exact H
  clear H
  have H := H1
  clear H1
  obtain ⟨y207, hy207⟩ : ∃ y_ : List Int, y_ = (([] : List Int)) := ⟨_, rfl⟩
  replace H : (if y207.length + l0.length < 140737488355328 then (some (y207 ++ l0)) else (none)) = some r := by first | (rw [hy207]; with_reducible exact H) | (have H2_ := (Option.bind_some _ _).symm.trans H; rw [hy207]; with_reducible exact H2_) | (have H2_ := (Option.bind_some _ _).symm.trans H; with_reducible exact H2_) | with_reducible exact H | (rw [hy207]; exact H) | exact H
  have Ny207 := Aside0.mk hy207
  clear hy207
  by_cases c66 : y207.length + l0.length < 140737488355328
  ·rw [if_pos c66] at H
   have LMc66 := Aside0.mk c66
   clear c66
   obtain ⟨y210, hy210⟩ : ∃ y_ : List Int, y_ = (y207 ++ l0) := ⟨_, rfl⟩
   replace H : (some y210) = some r := by first | (rw [hy210]; with_reducible exact H) | (have H2_ := (Option.bind_some _ _).symm.trans H; rw [hy210]; with_reducible exact H2_) | (have H2_ := (Option.bind_some _ _).symm.trans H; with_reducible exact H2_) | with_reducible exact H | (rw [hy210]; exact H) | exact H
   have Ny210 := Aside0.mk hy210
   clear hy210
   obtain rfl := Option.some.inj H
   go_enter Try.func27, Try.ntmps27
   go_wp2_with (first | ((with_reducible refine gate_dst (N := 3) rfl ?_); refine box_event ?hg (N := 3) ?hd (cs := #[.int .i64 a1_0, .string a1_1, .int .i64 a1_2, .int .i64 a1_3, .bool a1_4, .int .i64 a1_5, .int .i64 a1_6, .string a1_7, .bool a1_8]) (t := 46) ?hr ?_; (case hd => rfl); (case hg => rfl); (case hr => first | (go_simp; done) | (go_simp; rfl)); intro gb205 hg w67 hbox hb; have n0_ := Aside0.mk (below_step zq27_3 hb); have n1_ := Aside0.mk (hbox); have n2_ := Aside0.mk ((zq27_0 : w.heap.size ≤ gb205)); have n3_ := Aside0.mk ((zq27_0 : w.heap.size ≤ gb205)); clear HB; have HB := n0_; have BK205 := n1_; have GW205 := n2_; have GE205 := n3_; clear n0_ n1_ n2_ n3_; clear hb hbox hg; have hcz68_0 : w67.cell? ⟨gb205, 0, none⟩ = some (.int .i64 a1_0) := (blk_cell BK205.out 0).trans rfl; have hcz68_1 : w67.cell? ⟨gb205, 1, none⟩ = some (.string a1_1) := (blk_cell BK205.out 1).trans rfl; have hcz68_2 : w67.cell? ⟨gb205, 2, none⟩ = some (.int .i64 a1_2) := (blk_cell BK205.out 2).trans rfl; have hcz68_3 : w67.cell? ⟨gb205, 3, none⟩ = some (.int .i64 a1_3) := (blk_cell BK205.out 3).trans rfl; have hcz68_4 : w67.cell? ⟨gb205, 4, none⟩ = some (.bool a1_4) := (blk_cell BK205.out 4).trans rfl; have hcz68_5 : w67.cell? ⟨gb205, 5, none⟩ = some (.int .i64 a1_5) := (blk_cell BK205.out 5).trans rfl; have hcz68_6 : w67.cell? ⟨gb205, 6, none⟩ = some (.int .i64 a1_6) := (blk_cell BK205.out 6).trans rfl; have hcz68_7 : w67.cell? ⟨gb205, 7, none⟩ = some (.string a1_7) := (blk_cell BK205.out 7).trans rfl; have hcz68_8 : w67.cell? ⟨gb205, 8, none⟩ = some (.bool a1_8) := (blk_cell BK205.out 8).trans rfl; have hfz68_0 := blk_frozen BK205.out 0; have hfz68_1 := blk_frozen BK205.out 1; have hfz68_2 := blk_frozen BK205.out 2; have hfz68_3 := blk_frozen BK205.out 3; have hfz68_4 := blk_frozen BK205.out 4; have hfz68_5 := blk_frozen BK205.out 5; have hfz68_6 := blk_frozen BK205.out 6; have hfz68_7 := blk_frozen BK205.out 7; have hfz68_8 := blk_frozen BK205.out 8) | ((with_reducible refine gate_callee (f := 24) rfl ?_); refine goesL_ (some 7) rfl rfl Try.func24 (by kernel_rfl) rfl #[.agg #[.int .i64 a1_0, .string a1_1, .int .i64 a1_2, .int .i64 a1_3, .bool a1_4, .int .i64 a1_5, .int .i64 a1_6, .string a1_7, .bool a1_8]] rfl zq27_2 ?_; (with_reducible refine (cenotaphref07_Right.calls k a1_0 a1_1 a1_2 a1_3 a1_4 a1_5 a1_6 a1_7 a1_8 false _ A3.out).mono ?_); rintro e w69 ⟨rfl, hb⟩; refine ⟨_, rfl, ?_⟩; have n0_ := Aside0.mk (blk_below (g := gb205) (o := .cells #[.int .i64 a1_0, .string a1_1, .int .i64 a1_2, .int .i64 a1_3, .bool a1_4, .int .i64 a1_5, .int .i64 a1_6, .string a1_7, .bool a1_8] 46 (0, 0)) zq27_4 hb); have n1_ := Aside0.mk (below_step zq27_1 hb); clear BK205; clear HB; have BK205 := n0_; have HB := n1_; clear n0_ n1_; (try clear hb); (try clear hb2); (try clear hk); (try clear hi)) | ((with_reducible refine gate_dst (N := 9) rfl ?_); refine Kd.R_lit (Kd.int .u8) _ 5 ?hg (N := 9) ?hd (xs := ([] : List Int)) (inner := []) (ok := fun _ => True) (okp := fun _ => True) ?hr ?hp (fun _ hk => hk) trivial (Below.refl _ _) (Nat.le_refl _) (by simp) ?_; (case hd => rfl); (case hg => rfl); (case hr => first | (go_simp; done) | (go_simp; rfl)); (case hp => exact (Reps.none _ _)); intro v208 w70 ho71 hb hg_ hnew_; clear hg_ hnew_; (first | rw [← Ny207.out] at ho71 | (simp only [Int.reduceToNat] at ho71; rw [← Ny207.out] at ho71)); have n0_ := Aside0.mk (Kd.R_lower ho71 (below_size zq27_1)); have n1_ := Aside0.mk (blk_below (g := gb205) (o := .cells #[.int .i64 a1_0, .string a1_1, .int .i64 a1_2, .int .i64 a1_3, .bool a1_4, .int .i64 a1_5, .int .i64 a1_6, .string a1_7, .bool a1_8] 46 (0, 0)) zq27_4 hb); have n2_ := Aside0.mk (below_step zq27_1 hb); clear BK205; clear HB; have HO209 := n0_; have BK205 := n1_; have HB := n2_; clear n0_ n1_ n2_; clear hb ho71) | ((with_reducible refine gate_builtin (b := .append) (xs := #[.tmp 9, .tmp 10]) rfl ?_); at_builtin; refine Kd.R_append_rows (Kd.int .u8) (w0 := w) w.heap.size rfl (.tmp 9) (.tmp 10) 32 5 (.int .u8 0) 1 rfl Try.underlying32 info5 rfl (by decide) (by omega) v208 y207 l0 _ _ _ (fun _ => True) (fun _ => False) rfl rfl ?aO ?aR (fun _ _ h => h) (fun _ h => h.elim) ?aF ?aB ?aS ?aL ?_; (case aR => repeat (first | exact (Kd.C_below HR0.out HB.out) | (with_reducible refine Kd.C_alloc ?_ _) | (with_reducible refine Kd.C_drewN ?_ _) | (with_reducible refine Kd.C_drew ?_))); (case aB => exact zq27_1); (case aF => exact (fun _ _ => trivial)); (case aO => exact (by (with_reducible repeat (first | apply Kd.R_alloc | apply Kd.R_drewN | apply Kd.R_drew)); exact HO209.out)); (case aS => exact (below_size zq27_1)); (case aL => have := LMc66.out; omega); intro v211 w72 ho hb hg hat; rw [← Ny210.out] at ho; have n0_ := Aside0.mk (blk_grown (g := gb205) (o := .cells #[.int .i64 a1_0, .string a1_1, .int .i64 a1_2, .int .i64 a1_3, .bool a1_4, .int .i64 a1_5, .int .i64 a1_6, .string a1_7, .bool a1_8] 46 (0, 0)) zq27_4 hg (Kd.R_ne HO209.out BK205.out (by decide))); have n1_ := Aside0.mk (hb); have n2_ := Aside0.mk (ho); clear BK205; clear HB; clear HO209; have BK205 := n0_; have HB := n1_; have HO212 := n2_; clear n0_ n1_ n2_; clear ho hb hg hat))
   go_ret
   exact ⟨_, by first | rfl | (simp [errW_none, errW_some] <;> rfl) | (simp [*, errW_none, errW_some] <;> rfl), by (with_reducible repeat (first | apply Kd.R_alloc | apply Kd.R_drewN | apply Kd.R_drew)); exact HO212.out, by repeat (first | (with_reducible first | exact HB.out | apply below_alloc | apply pw_below_drewN | apply below_drew1 | refine below_set ?_ GE205.out) | exact HB.out)⟩
  ·rw [if_neg c66] at H
   exact absurd H (by simp)

end Go.Proofs.Ytkmhanpamdgnjaa.P
