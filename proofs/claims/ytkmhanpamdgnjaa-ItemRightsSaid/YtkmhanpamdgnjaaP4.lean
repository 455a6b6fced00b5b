-- Written by a program of this session (wip/pp.py over the kit's printer, with our own texts put in).
import Derived.Test.YtkmhanpamdgnjaaP0
import Derived.Test.YtkmhanpamdgnjaaP3
namespace Go.Proofs.Ytkmhanpamdgnjaa.P
open Go.RowKit Go.Proofs.YtkmhanpamdgnjaaW.PrintWords Go.Proofs.YtkmhanpamdgnjaaW.PrintLast Go.Proofs.YtkmhanpamdgnjaaW.PrintMore
attribute [local go_sem] max2_int min2_int max_two min_two max_three min_three max_four min_four   -- for this text's walks alone
set_option linter.unusedVariables false
set_option linter.unusedSimpArgs false

/-! ### cenotaphref01_Fix: function 41 -/
def cenotaphref01_Fix.l0 : Nat → ByteArray → ByteArray → Int → Option (ByteArray)
  | 0, _, _, _ => none
  | k + 1, x0, x3, x4 => if x4 < (x0.size : Int) then (if x4 < 5 then (if 0 ≤ x4 then (if 0 ≤ (Int.tmod (bt x0 x4) 9) then (if (Int.tmod (bt x0 x4) 9) ≤ (((Int.tmod (bt x0 x4) 9) + 1) % 256) then (if (((Int.tmod (bt x0 x4) 9) + 1) % 256) ≤ 9 then (if x3.size + ((⟨#[49, 50, 51, 52, 53, 54, 55, 56, 57]⟩ : ByteArray).extract ((Int.tmod (bt x0 x4) 9) : Int).toNat ((((Int.tmod (bt x0 x4) 9) + 1) % 256) : Int).toNat).size ≤ 9223372036854775807 then (cenotaphref01_Fix.l0 k x0 (x3 ++ ((⟨#[49, 50, 51, 52, 53, 54, 55, 56, 57]⟩ : ByteArray).extract ((Int.tmod (bt x0 x4) 9) : Int).toNat ((((Int.tmod (bt x0 x4) 9) + 1) % 256) : Int).toNat)) (wrap64 (x4 + 1))) else (none)) else (none)) else (none)) else (none)) else (none)) else (some x3)) else (some x3)
def cenotaphref01_Fix.f (k : Nat) (a0 : ByteArray) : Option (ByteArray) := cenotaphref01_Fix.l0 k a0 (⟨#[48]⟩ : ByteArray) 0
theorem cenotaphref01_Fix.mono_l : ∀ k, (∀ y0 y1 y2, LeO (cenotaphref01_Fix.l0 k y0 y1 y2) (cenotaphref01_Fix.l0 (k + 1) y0 y1 y2))
  | 0 => fun _ _ _ r h => by simp [cenotaphref01_Fix.l0] at h
  | k + 1 => by
    have ih0 := cenotaphref01_Fix.mono_l k
    · intro y0 y1 y2
      unfold cenotaphref01_Fix.l0
      repeat' first
      | (with_reducible exact ih0 _ _ _)
      | (with_reducible exact LeO.refl _)
      | (with_reducible exact LeO.none _)
      | (with_reducible refine LeO.ite ?_ ?_)
      | (with_reducible refine LeO.bind ?_ (fun _ => ?_))
      | exact ih0 _ _ _
      | exact LeO.none _
      | refine LeO.ite ?_ ?_
      | refine LeO.bind ?_ (fun _ => ?_)
theorem cenotaphref01_Fix.mono : ∀ a0 k, LeO (cenotaphref01_Fix.f k a0) (cenotaphref01_Fix.f (k + 1) a0) := by
  intro a0 k
  have ih0 := cenotaphref01_Fix.mono_l k
  unfold cenotaphref01_Fix.f
  repeat' first
      | (with_reducible exact ih0 _ _ _)
      | (with_reducible exact LeO.refl _)
      | (with_reducible exact LeO.none _)
      | (with_reducible refine LeO.ite ?_ ?_)
      | (with_reducible refine LeO.bind ?_ (fun _ => ?_))
      | exact ih0 _ _ _
      | exact LeO.none _
      | refine LeO.ite ?_ ?_
      | refine LeO.bind ?_ (fun _ => ?_)
set_option maxHeartbeats 8000000 in
set_option maxRecDepth 100000 in
theorem cenotaphref01_Fix.calls (k : Nat) (a0 : ByteArray) (r : ByteArray) (w : World) (h : cenotaphref01_Fix.f k a0 = some r) :
    Calls Try.prog 41 #[.string a0] w fun e w' => e = .returned (.string r) ∧ Drawn0 w w' := by
  have H : (cenotaphref01_Fix.l0 k a0 (⟨#[48]⟩ : ByteArray) 0) = some r := h
  clear h
  have H' := Aside0.mk H
  clear H
  go_enter Try.func41, Try.ntmps41
  go_wp2
  repeat (go_quiet (fail); try go_wp2)
  go_loopg [3, 4] k (fun kq v3 v4 w' => ∃ (x3_1 : ByteArray) (x4_1 : Int), v3 = .string x3_1 ∧ v4 = .int .i64 x4_1 ∧ Aside0 (cenotaphref01_Fix.l0 kq a0 x3_1 x4_1 = some r) ∧ Aside0 (kq ≤ k) ∧ Drawn0 w w')
  case atStart => exact ⟨((⟨#[48]⟩ : ByteArray)), (0), (by first | rfl | (simp; done) | (simp [*]; done)), (by first | rfl | (simp; done) | (simp [*]; done)), H', ⟨Nat.le_refl _⟩, by repeat (first | exact Drawn0.refl _ | apply Drawn0.step)⟩
  case round =>
    clear H'
    obtain ⟨x3_1, x4_1, rfl, rfl, HA, HK1, ⟨m1, rfl⟩⟩ := hrel
    cases gk with
    | zero => exact absurd HA.out (by simp [cenotaphref01_Fix.l0])
    | succ k1 =>
      have H := HA.out
      clear HA
      simp only [cenotaphref01_Fix.l0] at H
      by_cases c2 : x4_1 < (a0.size : Int)
      · rw [if_pos c2] at H
        have c2b0 : decide (x4_1 < (a0.size : Int)) = true := decide_eq_true c2
        clear c2
        by_cases c3 : x4_1 < 5
        · rw [if_pos c3] at H
          have c3b0 : decide (x4_1 < 5) = true := decide_eq_true c3
          clear c3
          by_cases c4 : 0 ≤ x4_1
          · rw [if_pos c4] at H
            have c4b0 : decide (0 ≤ x4_1) = true := decide_eq_true c4
            clear c4
            obtain ⟨ji7, hji7⟩ : ∃ j_ : Int, (Int.tmod (bt a0 x4_1) 9) = j_ := ⟨_, rfl⟩
            replace H : (if 0 ≤ (ji7) then (if (ji7) ≤ (((ji7) + 1) % 256) then (if (((ji7) + 1) % 256) ≤ 9 then (if x3_1.size + ((⟨#[49, 50, 51, 52, 53, 54, 55, 56, 57]⟩ : ByteArray).extract ((ji7) : Int).toNat ((((ji7) + 1) % 256) : Int).toNat).size ≤ 9223372036854775807 then (cenotaphref01_Fix.l0 k1 a0 (x3_1 ++ ((⟨#[49, 50, 51, 52, 53, 54, 55, 56, 57]⟩ : ByteArray).extract ((ji7) : Int).toNat ((((ji7) + 1) % 256) : Int).toNat)) (wrap64 (x4_1 + 1))) else (none)) else (none)) else (none)) else (none)) = some r := by first | (rw [hji7] at H; exact H) | (simp only [hji7] at H ⊢; exact H)
            by_cases c8 : 0 ≤ (ji7)
            · rw [if_pos c8] at H
              have c8b0 := eq_true c8
              have c8b1 : decide (0 ≤ (ji7)) = true := decide_eq_true c8
              clear c8
              by_cases c9 : (ji7) ≤ (((ji7) + 1) % 256)
              · rw [if_pos c9] at H
                have c9b0 := eq_true c9
                have c9b1 : decide ((ji7) ≤ (((ji7) + 1) % 256)) = true := decide_eq_true c9
                by_cases c10 : (((ji7) + 1) % 256) ≤ 9
                · rw [if_pos c10] at H
                  have c10b0 := eq_true c10
                  have c10b1 : decide ((((ji7) + 1) % 256) ≤ 9) = true := decide_eq_true c10
                  by_cases c11 : x3_1.size + ((⟨#[49, 50, 51, 52, 53, 54, 55, 56, 57]⟩ : ByteArray).extract ((ji7) : Int).toNat ((((ji7) + 1) % 256) : Int).toNat).size ≤ 9223372036854775807
                  · rw [if_pos c11] at H
                    have c11b0 := eq_true c11
                    have c11b1 : decide (x3_1.size + ((⟨#[49, 50, 51, 52, 53, 54, 55, 56, 57]⟩ : ByteArray).extract ((ji7) : Int).toNat ((((ji7) + 1) % 256) : Int).toNat).size ≤ 9223372036854775807) = true := decide_eq_true c11
                    try have c11b2 : (9223372036854775807 < x3_1.size + ((⟨#[49, 50, 51, 52, 53, 54, 55, 56, 57]⟩ : ByteArray).extract ((ji7) : Int).toNat ((((ji7) + 1) % 256) : Int).toNat).size) = False := eq_false (Nat.not_lt.2 c11)
                    have H' := Aside0.mk H
                    clear H
                    have p5 : 0 ≤ (x4_1 : Int) := of_decide_eq_true (by first | (with_reducible assumption) | assumption)
                    have q5 : x4_1 < (a0.size : Int) := of_decide_eq_true (by first | (with_reducible assumption) | assumption)
                    have hx5 := bt_at a0 x4_1
                    replace p5 := eq_true p5
                    replace q5 := eq_true q5
                    have p6 : 0 ≤ (x4_1 : Int) := of_decide_eq_true (by first | (with_reducible assumption) | assumption)
                    have q6 : x4_1 < (a0.size : Int) := of_decide_eq_true (by first | (with_reducible assumption) | assumption)
                    have hx6 := bt_at a0 x4_1
                    replace p6 := eq_true p6
                    replace q6 := eq_true q6
                    go_wp2
                    repeat (go_quiet (fail); try go_wp2)
                    go_roundg k1
                    case measure => have := HK1.out; omega
                    case rel => exact ⟨(x3_1 ++ ((⟨#[49, 50, 51, 52, 53, 54, 55, 56, 57]⟩ : ByteArray).extract ((ji7) : Int).toNat ((((ji7) + 1) % 256) : Int).toNat)), (wrap64 (x4_1 + 1)), (by first | rfl | (simp; done) | (simp only [← hji7] <;> (first | rfl | simp)) | (simp [*]; done)), (by first | rfl | (simp; done) | (simp [*]; done)), H', ⟨by have := HK1.out; omega⟩, by repeat (first | exact Drawn0.refl _ | apply Drawn0.step)⟩
                  · rw [if_neg c11] at H
                    exact absurd H (by simp)
                · rw [if_neg c10] at H
                  exact absurd H (by simp)
              · rw [if_neg c9] at H
                exact absurd H (by simp)
            · rw [if_neg c8] at H
              exact absurd H (by simp)
          · rw [if_neg c4] at H
            exact absurd H (by simp)
        · rw [if_neg c3] at H
          have c3b0 : decide (x4_1 < 5) = false := decide_eq_false c3
          clear c3
          obtain rfl := Option.some.inj H
          go_wp2
          repeat (go_quiet (fail); try go_wp2)
          go_ret
          exact ⟨by first | rfl | (simp; done) | (simp [*]; done), by repeat (first | exact Drawn0.refl _ | apply Drawn0.step)⟩
      · rw [if_neg c2] at H
        have c2b0 : decide (x4_1 < (a0.size : Int)) = false := decide_eq_false c2
        clear c2
        obtain rfl := Option.some.inj H
        go_wp2
        repeat (go_quiet (fail); try go_wp2)
        go_ret
        exact ⟨by first | rfl | (simp; done) | (simp [*]; done), by repeat (first | exact Drawn0.refl _ | apply Drawn0.step)⟩

/-! ### cenotaphref05_Spot: function 42 -/
def cenotaphref05_Spot.f (a0_0 : Int) (a0_1 : Int) : Option (Int × Int) := some (wrap64 ((wrap64 (Int.tmod (IntKind.u64.wrap (a0_0)) 2001)) - 1000), wrap64 ((wrap64 (Int.tmod (IntKind.u64.wrap (a0_1)) 2001)) - 1000))
set_option maxHeartbeats 8000000 in
set_option maxRecDepth 100000 in
theorem cenotaphref05_Spot.calls (a0_0 : Int) (a0_1 : Int) (r1 : Int) (r2 : Int) (w : World) (h : cenotaphref05_Spot.f a0_0 a0_1 = some (r1, r2)) :
    Calls Try.prog 42 #[.agg #[.int .i64 a0_0, .int .i64 a0_1]] w fun e w' => e = .returned (.agg #[.int .i64 r1, .int .i64 r2]) ∧ Below w.heap.size w w' := by
  have hu44 := Try.underlying44
  have HB := Aside0.mk (Below.refl w.heap.size w)
  have H : (some (wrap64 ((wrap64 (Int.tmod (IntKind.u64.wrap (a0_0)) 2001)) - 1000), wrap64 ((wrap64 (Int.tmod (IntKind.u64.wrap (a0_1)) 2001)) - 1000))) = some (r1, r2) := h
  clear h
  simp only [Option.some.injEq, Prod.mk.injEq] at H
  obtain ⟨rfl, rfl⟩ := H
  go_enter Try.func42, Try.ntmps42
  go_wp2_with (first | ((with_reducible refine gate_dst (N := 1) rfl ?_); refine box_event ?hg (N := 1) ?hd (cs := #[.int .i64 a0_0, .int .i64 a0_1]) (t := 44) ?hr ?_; (case hd => rfl); (case hg => rfl); (case hr => first | (go_simp; done) | (go_simp; rfl)); intro gb182 hg w2 hbox hb; have n0_ := Aside0.mk (below_step (by repeat (first | (with_reducible first | exact HB.out | apply below_alloc | apply pw_below_drewN | apply below_drew1) | exact HB.out)) hb); have n1_ := Aside0.mk (hbox); have n2_ := Aside0.mk ((by rw [hg]; exact (below_size (by repeat (first | (with_reducible first | exact HB.out | apply below_alloc | apply pw_below_drewN | apply below_drew1) | exact HB.out))) : w.heap.size ≤ gb182)); have n3_ := Aside0.mk ((by rw [hg]; exact (below_size (by repeat (first | (with_reducible first | exact HB.out | apply below_alloc | apply pw_below_drewN | apply below_drew1) | exact HB.out))) : w.heap.size ≤ gb182)); clear HB; have HB := n0_; have BK182 := n1_; have GW182 := n2_; have GE182 := n3_; clear n0_ n1_ n2_ n3_; clear hb hbox hg) | ((with_reducible refine gate_dst (N := 2) rfl ?_); refine box_event ?hg (N := 2) ?hd (cs := #[.int .i64 0, .int .i64 0]) (t := 44) ?hr ?_; (case hd => rfl); (case hg => rfl); (case hr => first | (go_simp; done) | (go_simp; rfl)); intro gb183 hg w3 hbox hb; have n0_ := Aside0.mk (blk_below (g := gb182) (o := .cells #[.int .i64 a0_0, .int .i64 a0_1] 44 (0, 0)) (by (with_reducible repeat (first | refine blk_drewN ?_ _ | refine blk_drew ?_ | refine blk_alloc ?_ _)); exact BK182.out) hb); have n1_ := Aside0.mk (below_step (by repeat (first | (with_reducible first | exact HB.out | apply below_alloc | apply pw_below_drewN | apply below_drew1 | refine below_set ?_ GE182.out) | exact HB.out)) hb); have n2_ := Aside0.mk (hbox); have n3_ := Aside0.mk ((by rw [hg]; exact (below_size (by repeat (first | (with_reducible first | exact HB.out | apply below_alloc | apply pw_below_drewN | apply below_drew1 | refine below_set ?_ GE182.out) | exact HB.out))) : w.heap.size ≤ gb183)); have n4_ := Aside0.mk ((by rw [hg]; exact (below_size (by repeat (first | (with_reducible first | exact HB.out | apply below_alloc | apply pw_below_drewN | apply below_drew1 | refine below_set ?_ GE182.out) | exact HB.out))) : w.heap.size ≤ gb183)); have n5_ := Aside0.mk ((by rw [hg]; exact Nat.ne_of_lt (blk_lt (g := gb182) (o := .cells #[.int .i64 a0_0, .int .i64 a0_1] 44 (0, 0)) (by (with_reducible repeat (first | refine blk_drewN ?_ _ | refine blk_drew ?_ | refine blk_alloc ?_ _)); exact BK182.out)) : gb182 ≠ gb183)); have n6_ := Aside0.mk ((by rw [hg]; exact Nat.ne_of_gt (blk_lt (g := gb182) (o := .cells #[.int .i64 a0_0, .int .i64 a0_1] 44 (0, 0)) (by (with_reducible repeat (first | refine blk_drewN ?_ _ | refine blk_drew ?_ | refine blk_alloc ?_ _)); exact BK182.out)) : gb183 ≠ gb182)); clear BK182; clear HB; have BK182 := n0_; have HB := n1_; have BK183 := n2_; have GW183 := n3_; have GE183 := n4_; have NB182_183 := n5_; have NB183_182 := n6_; clear n0_ n1_ n2_ n3_ n4_ n5_ n6_; clear hb hbox hg; have hnb4 := NB182_183.out; have hnc4 := NB183_182.out; have hcz5_0 : w3.cell? ⟨gb182, 0, none⟩ = some (.int .i64 a0_0) := (blk_cell BK182.out 0).trans rfl; have hcz5_1 : w3.cell? ⟨gb182, 1, none⟩ = some (.int .i64 a0_1) := (blk_cell BK182.out 1).trans rfl; have hfz5_0 := blk_frozen BK182.out 0; have hfz5_1 := blk_frozen BK182.out 1; have hcz6_0 : w3.cell? ⟨gb183, 0, none⟩ = some (.int .i64 0) := (blk_cell BK183.out 0).trans rfl; have hcz6_1 : w3.cell? ⟨gb183, 1, none⟩ = some (.int .i64 0) := (blk_cell BK183.out 1).trans rfl; have hfz6_0 := blk_frozen BK183.out 0; have hfz6_1 := blk_frozen BK183.out 1))
  refine bodyPost_ret (results_cell_row rfl _ _ gb183 44 #[.int .i64 (wrap64 ((wrap64 (Int.tmod (IntKind.u64.wrap (a0_0)) 2001)) - 1000)), .int .i64 (wrap64 ((wrap64 (Int.tmod (IntKind.u64.wrap (a0_1)) 2001)) - 1000))] (0, 0) _ rfl (by (with_reducible repeat (first | refine blk_drewN ?_ _ | refine blk_drew ?_ | refine blk_alloc ?_ _)); refine blk_put (cs := #[.int .i64 (wrap64 ((wrap64 (Int.tmod (IntKind.u64.wrap (a0_0)) 2001)) - 1000)), .int .i64 0]) ?_ 1 _ rfl; (with_reducible repeat (first | refine blk_drewN ?_ _ | refine blk_drew ?_ | refine blk_alloc ?_ _)); refine blk_put (cs := #[.int .i64 0, .int .i64 0]) ?_ 0 _ rfl; (with_reducible repeat (first | refine blk_drewN ?_ _ | refine blk_drew ?_ | refine blk_alloc ?_ _)); exact BK183.out) Try.underlying44 rfl (by kernel_rfl)) rfl ?_
  exact ⟨by first | rfl | (simp [errW_none, errW_some] <;> rfl) | (simp [*, errW_none, errW_some] <;> rfl), by repeat (first | (with_reducible first | exact HB.out | apply below_alloc | apply pw_below_drewN | apply below_drew1 | refine below_set ?_ GE182.out | refine below_set ?_ GE183.out) | exact HB.out)⟩

/-! ### cenotaphref07_Fix: function 20 -/
def cenotaphref07_Fix.f (k : Nat) (a0_0 : Int) (a0_1 : ByteArray) (a0_2 : Int) (a0_3 : Int) (a0_4 : Bool) (a0_5 : Int) (a0_6 : Int) (a0_7 : ByteArray) (a0_8 : Bool) : Option (Int × ByteArray × Int × Int × Bool × Int × Int × ByteArray × Bool) := (cenotaphref01_Fix.f k a0_1).bind fun i => (cenotaphref05_Spot.f a0_5 a0_6).bind fun p =>
  some (wrap64 (Int.tmod (IntKind.u64.wrap a0_0) 32), i, wrap64 (1 + wrap64 (Int.tmod (IntKind.u64.wrap a0_2) 60)), wrap64 (1 + wrap64 (Int.tmod (IntKind.u64.wrap a0_3) 60)), a0_4, (if a0_4 = true then 0 else p.1), (if a0_4 = true then 0 else p.2), (if (a0_8 = true ∧ a0_4 = false) then a0_7.extract 0 ((mn (a0_7.size : Int) 16) : Int).toNat else ⟨#[]⟩), (if a0_4 = true then false else a0_8))
theorem cenotaphref07_Fix.mono (a0_0 : Int) (a0_1 : ByteArray) (a0_2 : Int) (a0_3 : Int) (a0_4 : Bool) (a0_5 : Int) (a0_6 : Int) (a0_7 : ByteArray) (a0_8 : Bool) : ∀ k, LeO (cenotaphref07_Fix.f k a0_0 a0_1 a0_2 a0_3 a0_4 a0_5 a0_6 a0_7 a0_8) (cenotaphref07_Fix.f (k + 1) a0_0 a0_1 a0_2 a0_3 a0_4 a0_5 a0_6 a0_7 a0_8) := fun k => LeO.bind (cenotaphref01_Fix.mono a0_1 k) fun i => LeO.refl _
set_option maxHeartbeats 8000000 in
set_option maxRecDepth 100000 in
theorem cenotaphref07_Fix.calls (k : Nat) (a0_0 : Int) (a0_1 : ByteArray) (a0_2 : Int) (a0_3 : Int) (a0_4 : Bool) (a0_5 : Int) (a0_6 : Int) (a0_7 : ByteArray) (a0_8 : Bool) (r1 : Int) (r2 : ByteArray) (r3 : Int) (r4 : Int) (r5 : Bool) (r6 : Int) (r7 : Int) (r8 : ByteArray) (r9 : Bool) (w : World) (h : cenotaphref07_Fix.f k a0_0 a0_1 a0_2 a0_3 a0_4 a0_5 a0_6 a0_7 a0_8 = some (r1, r2, r3, r4, r5, r6, r7, r8, r9)) :
    Calls Try.prog 20 #[.agg #[.int .i64 a0_0, .string a0_1, .int .i64 a0_2, .int .i64 a0_3, .bool a0_4, .int .i64 a0_5, .int .i64 a0_6, .string a0_7, .bool a0_8]] w fun e w' => e = .returned (.agg #[.int .i64 r1, .string r2, .int .i64 r3, .int .i64 r4, .bool r5, .int .i64 r6, .int .i64 r7, .string r8, .bool r9]) ∧ Below w.heap.size w w' := by
  obtain ⟨i, hi, h⟩ := Option.bind_eq_some_iff.mp h
  obtain ⟨⟨px, py⟩, hp, h⟩ := Option.bind_eq_some_iff.mp h
  dsimp only at h
  simp only [Option.some.injEq, Prod.mk.injEq] at h
  obtain ⟨rfl, rfl, rfl, rfl, rfl, rfl, rfl, rfl, rfl⟩ := h
  have HI := Aside0.mk hi
  have HP := Aside0.mk hp
  clear hi hp
  obtain ⟨K, hK⟩ : ∃ K, wrap64 (Int.tmod (IntKind.u64.wrap a0_0) 32) = K := ⟨_, rfl⟩
  obtain ⟨Q, hQ⟩ : ∃ K, wrap64 (1 + wrap64 (Int.tmod (IntKind.u64.wrap a0_2) 60)) = K := ⟨_, rfl⟩
  obtain ⟨ST, hS⟩ : ∃ K, wrap64 (1 + wrap64 (Int.tmod (IntKind.u64.wrap a0_3) 60)) = K := ⟨_, rfl⟩
  rw [hK, hQ, hS]
  obtain ⟨m, hm⟩ : ∃ m : Int, mn (a0_7.size : Int) 16 = m := ⟨_, rfl⟩
  rw [hm]
  have hm_ : (if 16 < (a0_7.size : Int) then 16 else (a0_7.size : Int)) = m := hm
  have hm0 : 0 ≤ m := by rw [← hm_]; split <;> omega
  have hm1 : m ≤ (a0_7.size : Int) := by rw [← hm_]; split <;> omega
  have q1 := eq_true hm0
  have q2 := eq_true hm1
  clear hm
  have hu := Try.underlying46
  have hu23 := Try.underlying23
  have hu44 := Try.underlying44
  have BX := Aside0.mk (blk_below (blk_new w (.cells #[.int .i64 K, .string a0_1, .int .i64 a0_2, .int .i64 a0_3, .bool a0_4, .int .i64 a0_5, .int .i64 a0_6, .string a0_7, .bool a0_8] 46)) (below_alloc (Below.refl _ _) (.cells #[.int .i64 0, .string ⟨#[]⟩, .int .i64 0, .int .i64 0, .bool false, .int .i64 0, .int .i64 0, .string ⟨#[]⟩, .bool false] 46)))
  have BR := Aside0.mk (blk_new (w.alloc (.cells #[.int .i64 K, .string a0_1, .int .i64 a0_2, .int .i64 a0_3, .bool a0_4, .int .i64 a0_5, .int .i64 a0_6, .string a0_7, .bool a0_8] 46)) (.cells #[.int .i64 0, .string ⟨#[]⟩, .int .i64 0, .int .i64 0, .bool false, .int .i64 0, .int .i64 0, .string ⟨#[]⟩, .bool false] 46))
  have HB := Aside0.mk (below_new (w := w) (.cells #[.int .i64 K, .string a0_1, .int .i64 a0_2, .int .i64 a0_3, .bool a0_4, .int .i64 a0_5, .int .i64 a0_6, .string a0_7, .bool a0_8] 46) (.cells #[.int .i64 0, .string ⟨#[]⟩, .int .i64 0, .int .i64 0, .bool false, .int .i64 0, .int .i64 0, .string ⟨#[]⟩, .bool false] 46))
  have e : (w.alloc (.cells #[.int .i64 K, .string a0_1, .int .i64 a0_2, .int .i64 a0_3, .bool a0_4, .int .i64 a0_5, .int .i64 a0_6, .string a0_7, .bool a0_8] 46)).heap.size = w.heap.size + 1 := Array.size_push _
  rw [e] at BR
  clear e
  go_enter Try.func20, Try.ntmps20
  go_upto_region 2 with fail
  generalize (w.alloc _).alloc _ = w1 at BX BR HB ⊢
  clear hK
  refine start_ (n := 21) (S := fun w' => w'.cell? ⟨w.heap.size, 0, none⟩ = some (.int .i64 K) ∧ w'.cell? ⟨w.heap.size, 1, none⟩ = some (.string a0_1) ∧ w'.cell? ⟨w.heap.size, 2, none⟩ = some (.int .i64 a0_2) ∧ w'.cell? ⟨w.heap.size, 3, none⟩ = some (.int .i64 a0_3) ∧ w'.cell? ⟨w.heap.size, 4, none⟩ = some (.bool a0_4) ∧ w'.cell? ⟨w.heap.size, 5, none⟩ = some (.int .i64 a0_5) ∧ w'.cell? ⟨w.heap.size, 6, none⟩ = some (.int .i64 a0_6) ∧ w'.cell? ⟨w.heap.size, 7, none⟩ = some (.string a0_7) ∧ w'.cell? ⟨w.heap.size, 8, none⟩ = some (.bool a0_8)) (ds := [20]) #[false, false, false, false, false, false, false, false, false, false, false, false, false, false, false, false, false, false, false, false, false] (by kernel_rfl) rfl rfl (ta_cells (blk_drew BX.out)) (fun hHeld => ?_)
  replace BX := Aside0.mk (blk_drew BX.out)
  replace BR := Aside0.mk (blk_drew BR.out)
  replace HB := Aside0.mk (below_drew1 HB.out)
  generalize w1.drew = w2 at BX BR HB hHeld ⊢
  refine pure_ (i := 0) (N := some 9) (v := ?_) (a' := ?_) #[true, false, false, false, false, false, false, false, false, false, false, false, false, false, false, false, false, false, false, false, false] rfl rfl (by kernel_rfl) (fun _ _ _ h => h) (Or.inl ⟨by rfl, ?_⟩) ?_ ?_
  rotate_left
  · intro w'
    go_simp
    with_reducible rfl
  rotate_left
  · simp only [Act.put, List.setIfInBounds_toArray, List.set_cons_zero, List.set_cons_succ, i64_w, i32_w]
    rfl
  refine pure_ (i := 1) (N := some 10) (v := ?_) (a' := ?_) #[true, true, false, false, false, false, false, false, false, false, false, false, false, false, false, false, false, false, false, false, false] rfl rfl (by kernel_rfl) (fun _ _ _ h => h) (Or.inl ⟨by rfl, ?_⟩) ?_ ?_
  rotate_left
  · intro w'
    go_simp
    with_reducible rfl
  rotate_left
  · simp only [Act.put, List.setIfInBounds_toArray, List.set_cons_zero, List.set_cons_succ, i64_w, i32_w]
    rfl
  refine take_ (i := 2) (N := some 11) (v := ?_) (a' := ?_) #[true, true, true, false, false, false, false, false, false, false, false, false, false, false, false, false, false, false, false, false, false] rfl rfl (by kernel_rfl) (fun _ _ _ h => h) (Or.inl ⟨by rfl, ?_⟩) hHeld ?_ ?_
  rotate_left
  · rintro w' ⟨s0, s1, s2, s3, s4, s5, s6, s7, s8⟩
    go_simp
    with_reducible rfl
  rotate_left
  · simp only [Act.put, List.setIfInBounds_toArray, List.set_cons_zero, List.set_cons_succ, i64_w, i32_w]
    rfl
  refine pure_ (i := 4) (N := some 13) (v := ?_) (a' := ?_) #[true, true, true, false, true, false, false, false, false, false, false, false, false, false, false, false, false, false, false, false, false] rfl rfl (by kernel_rfl) (fun _ _ _ h => h) (Or.inl ⟨by rfl, ?_⟩) ?_ ?_
  rotate_left
  · intro w'
    go_simp
    with_reducible rfl
  rotate_left
  · simp only [Act.put, List.setIfInBounds_toArray, List.set_cons_zero, List.set_cons_succ, i64_w, i32_w]
    rfl
  refine pure_ (i := 5) (N := some 14) (v := ?_) (a' := ?_) #[true, true, true, false, true, true, false, false, false, false, false, false, false, false, false, false, false, false, false, false, false] rfl rfl (by kernel_rfl) (fun _ _ _ h => h) (Or.inl ⟨by rfl, ?_⟩) ?_ ?_
  rotate_left
  · intro w'
    go_simp
    with_reducible rfl
  rotate_left
  · simp only [Act.put, List.setIfInBounds_toArray, List.set_cons_zero, List.set_cons_succ, i64_w, i32_w]
    rfl
  refine take_ (i := 6) (N := some 15) (v := ?_) (a' := ?_) #[true, true, true, false, true, true, true, false, false, false, false, false, false, false, false, false, false, false, false, false, false] rfl rfl (by kernel_rfl) (fun _ _ _ h => h) (Or.inl ⟨by rfl, ?_⟩) hHeld ?_ ?_
  rotate_left
  · rintro w' ⟨s0, s1, s2, s3, s4, s5, s6, s7, s8⟩
    go_simp
    with_reducible rfl
  rotate_left
  · simp only [Act.put, List.setIfInBounds_toArray, List.set_cons_zero, List.set_cons_succ, i64_w, i32_w]
    rfl
  refine pure_ (i := 7) (N := some 16) (v := ?_) (a' := ?_) #[true, true, true, false, true, true, true, true, false, false, false, false, false, false, false, false, false, false, false, false, false] rfl rfl (by kernel_rfl) (fun _ _ _ h => h) (Or.inl ⟨by rfl, ?_⟩) ?_ ?_
  rotate_left
  · intro w'
    go_simp
    with_reducible rfl
  rotate_left
  · simp only [Act.put, List.setIfInBounds_toArray, List.set_cons_zero, List.set_cons_succ, i64_w, i32_w]
    rfl
  refine pure_ (i := 8) (N := some 17) (v := ?_) (a' := ?_) #[true, true, true, false, true, true, true, true, true, false, false, false, false, false, false, false, false, false, false, false, false] rfl rfl (by kernel_rfl) (fun _ _ _ h => h) (Or.inl ⟨by rfl, ?_⟩) ?_ ?_
  rotate_left
  · intro w'
    go_simp
    with_reducible rfl
  rotate_left
  · simp only [Act.put, List.setIfInBounds_toArray, List.set_cons_zero, List.set_cons_succ, i64_w, i32_w]
    rfl
  refine pure_ (i := 9) (N := some 18) (v := ?_) (a' := ?_) #[true, true, true, false, true, true, true, true, true, true, false, false, false, false, false, false, false, false, false, false, false] rfl rfl (by kernel_rfl) (fun _ _ _ h => h) (Or.inl ⟨by rfl, ?_⟩) ?_ ?_
  rotate_left
  · intro w'
    go_simp
    with_reducible rfl
  rotate_left
  · simp only [Act.put, List.setIfInBounds_toArray, List.set_cons_zero, List.set_cons_succ, i64_w, i32_w]
    rfl
  refine pure_ (i := 10) (N := some 19) (v := ?_) (a' := ?_) #[true, true, true, false, true, true, true, true, true, true, true, false, false, false, false, false, false, false, false, false, false] rfl rfl (by kernel_rfl) (fun _ _ _ h => h) (Or.inl ⟨by rfl, ?_⟩) ?_ ?_
  rotate_left
  · intro w'
    go_simp
    with_reducible rfl
  rotate_left
  · simp only [Act.put, List.setIfInBounds_toArray, List.set_cons_zero, List.set_cons_succ, i64_w, i32_w]
    rfl
  refine pure_ (i := 11) (N := some 20) (v := ?_) (a' := ?_) #[true, true, true, false, true, true, true, true, true, true, true, true, false, false, false, false, false, false, false, false, false] rfl rfl (by kernel_rfl) (fun _ _ _ h => h) (Or.inl ⟨by rfl, ?_⟩) ?_ ?_
  rotate_left
  · intro w'
    go_simp
    with_reducible rfl
  rotate_left
  · simp only [Act.put, List.setIfInBounds_toArray, List.set_cons_zero, List.set_cons_succ, i64_w, i32_w]
    rfl
  refine pure_ (i := 12) (N := some 21) (v := ?_) (a' := ?_) #[true, true, true, false, true, true, true, true, true, true, true, true, true, false, false, false, false, false, false, false, false] rfl rfl (by kernel_rfl) (fun _ _ _ h => h) (Or.inl ⟨by rfl, ?_⟩) ?_ ?_
  rotate_left
  · intro w'
    go_simp
    with_reducible rfl
  rotate_left
  · simp only [Act.put, List.setIfInBounds_toArray, List.set_cons_zero, List.set_cons_succ, i64_w, i32_w]
    rfl
  refine take_ (i := 13) (N := some 22) (v := ?_) (a' := ?_) #[true, true, true, false, true, true, true, true, true, true, true, true, true, true, false, false, false, false, false, false, false] rfl rfl (by kernel_rfl) (fun _ _ _ h => h) (Or.inl ⟨by rfl, ?_⟩) hHeld ?_ ?_
  rotate_left
  · rintro w' ⟨s0, s1, s2, s3, s4, s5, s6, s7, s8⟩
    go_simp
    with_reducible rfl
  rotate_left
  · simp only [Act.put, List.setIfInBounds_toArray, List.set_cons_zero, List.set_cons_succ, i64_w, i32_w]
    rfl
  refine pure_ (i := 14) (N := some 23) (v := ?_) (a' := ?_) #[true, true, true, false, true, true, true, true, true, true, true, true, true, true, true, false, false, false, false, false, false] rfl rfl (by kernel_rfl) (fun _ _ _ h => h) (Or.inl ⟨by rfl, ?_⟩) ?_ ?_
  rotate_left
  · intro w'
    go_simp
    with_reducible rfl
  rotate_left
  · simp only [Act.put, List.setIfInBounds_toArray, List.set_cons_zero, List.set_cons_succ, i64_w, i32_w]
    rfl
  refine pure_ (i := 15) (N := some 24) (v := ?_) (a' := ?_) #[true, true, true, false, true, true, true, true, true, true, true, true, true, true, true, true, false, false, false, false, false] rfl rfl (by kernel_rfl) (fun _ _ _ h => h) (Or.inl ⟨by rfl, ?_⟩) ?_ ?_
  rotate_left
  · intro w'
    go_simp
    with_reducible rfl
  rotate_left
  · simp only [Act.put, List.setIfInBounds_toArray, List.set_cons_zero, List.set_cons_succ, i64_w, i32_w]
    rfl
  refine pure_ (i := 16) (N := some 25) (v := ?_) (a' := ?_) #[true, true, true, false, true, true, true, true, true, true, true, true, true, true, true, true, true, false, false, false, false] rfl rfl (by kernel_rfl) (fun _ _ _ h => h) (Or.inl ⟨by rfl, ?_⟩) ?_ ?_
  rotate_left
  · intro w'
    go_simp
    with_reducible rfl
  rotate_left
  · simp only [Act.put, List.setIfInBounds_toArray, List.set_cons_zero, List.set_cons_succ, i64_w, i32_w]
    rfl
  refine pure_ (i := 17) (N := some 26) (v := ?_) (a' := ?_) #[true, true, true, false, true, true, true, true, true, true, true, true, true, true, true, true, true, true, false, false, false] rfl rfl (by kernel_rfl) (fun _ _ _ h => h) (Or.inl ⟨by rfl, ?_⟩) ?_ ?_
  rotate_left
  · intro w'
    go_simp
    with_reducible rfl
  rotate_left
  · simp only [Act.put, List.setIfInBounds_toArray, List.set_cons_zero, List.set_cons_succ, i64_w, i32_w]
    rfl
  refine one_ (i := 3) (N := some 12) #[true, true, true, true, true, true, true, true, true, true, true, true, true, true, true, true, true, true, false, false, false] rfl rfl (by kernel_rfl) (by decide) (fun K_ hK_ => ?_)
  refine goes_ Try.func41 (by kernel_rfl) rfl #[.string a0_1] (by rfl) rfl rfl (by (try simp only [List.map_toArray, List.map_cons, List.map_nil]); first | done | rfl) ?_
  refine (cenotaphref01_Fix.calls k a0_1 i w2 HI.out).mono ?_
  rintro ev w3 ⟨rfl, hb⟩
  refine ⟨_, rfl, ?_⟩
  replace hb := hb.below
  replace BX := Aside0.mk (blk_below BX.out hb)
  replace BR := Aside0.mk (blk_below BR.out hb)
  replace HB := Aside0.mk (below_step HB.out hb)
  clear hb HI
  refine hK_.out _ _ (ta_cells BX.out) (fun hHeld => ?_)
  clear hK_ K_
  refine norm_ (a' := ?_) ?_ ?_
  rotate_left
  · show Act.put _ (some 12) _ = _
    simp only [Act.put, List.setIfInBounds_toArray, List.set_cons_zero, List.set_cons_succ, i64_w, i32_w]
    rfl
  refine pure_ (i := 18) (N := some 27) (v := ?_) (a' := ?_) #[true, true, true, true, true, true, true, true, true, true, true, true, true, true, true, true, true, true, true, false, false] rfl rfl (by kernel_rfl) (fun _ _ _ h => h) (Or.inl ⟨by rfl, ?_⟩) ?_ ?_
  rotate_left
  · intro w'
    go_simp
    with_reducible rfl
  rotate_left
  · simp only [Act.put, List.setIfInBounds_toArray, List.set_cons_zero, List.set_cons_succ, i64_w, i32_w]
    rfl
  refine pure_ (i := 19) (N := some 28) (v := ?_) (a' := ?_) #[true, true, true, true, true, true, true, true, true, true, true, true, true, true, true, true, true, true, true, true, false] rfl rfl (by kernel_rfl) (fun _ _ _ h => h) (Or.inl ⟨by rfl, ?_⟩) ?_ ?_
  rotate_left
  · intro w'
    go_simp
    with_reducible rfl
  rotate_left
  · simp only [Act.put, List.setIfInBounds_toArray, List.set_cons_zero, List.set_cons_succ, i64_w, i32_w]
    rfl
  refine last_ (i := 20) (N := none) #[true, true, true, true, true, true, true, true, true, true, true, true, true, true, true, true, true, true, true, true, true] rfl rfl (by kernel_rfl) (by decide) (fun K_ hK_ => ?_)
  obtain ⟨⟨c0, c1, c2, c3, c4, c5, c6, c7, c8⟩, z0, z1, z2, z3, z4, z5, z6, z7, z8⟩ := tf_cells BX.out
  refine skip_ (w1 := ?_) (by rfl) rfl ?_ ?_
  rotate_left
  · go_simp
    rfl
  refine hK_.out _ _ ?_
  clear hK_ K_
  refine done_ (by kernel_rfl) ?_
  clear hHeld
  replace BX := Aside0.mk (show ((((w3.setCell ⟨w.heap.size, 1, none⟩ (.string i)).setCell ⟨w.heap.size, 2, none⟩ (.int .i64 Q)).setCell ⟨w.heap.size, 3, none⟩ (.int .i64 ST))).heap[w.heap.size]? = some (.cells #[.int .i64 K, .string i, .int .i64 Q, .int .i64 ST, .bool a0_4, .int .i64 a0_5, .int .i64 a0_6, .string a0_7, .bool a0_8] 46 (0, 0)) from (blk_set (blk_set (blk_set BX.out 1 (.string i)) 2 (.int .i64 Q)) 3 (.int .i64 ST)))
  replace BR := Aside0.mk (show ((((w3.setCell ⟨w.heap.size, 1, none⟩ (.string i)).setCell ⟨w.heap.size, 2, none⟩ (.int .i64 Q)).setCell ⟨w.heap.size, 3, none⟩ (.int .i64 ST))).heap[w.heap.size + 1]? = _ from (blk_far (blk_far (blk_far BR.out (show w.heap.size + 1 ≠ w.heap.size by omega) (.string i)) (show w.heap.size + 1 ≠ w.heap.size by omega) (.int .i64 Q)) (show w.heap.size + 1 ≠ w.heap.size by omega) (.int .i64 ST)))
  replace HB := Aside0.mk (show Below w.heap.size w (((w3.setCell ⟨w.heap.size, 1, none⟩ (.string i)).setCell ⟨w.heap.size, 2, none⟩ (.int .i64 Q)).setCell ⟨w.heap.size, 3, none⟩ (.int .i64 ST)) from (((HB.out.setCell (Nat.le_refl _) (.string i)).setCell (Nat.le_refl _) (.int .i64 Q)).setCell (Nat.le_refl _) (.int .i64 ST)))
  clear c0 c1 c2 c3 c4 c5 c6 c7 c8 z0 z1 z2 z3 z4 z5 z6 z7 z8
  clear hQ hS
  obtain ⟨⟨c0, c1, c2, c3, c4, c5, c6, c7, c8⟩, z0, z1, z2, z3, z4, z5, z6, z7, z8⟩ := tf_cells BX.out
  generalize ((w3.setCell ⟨w.heap.size, 1, none⟩ (.string i)).setCell ⟨w.heap.size, 2, none⟩ (.int .i64 Q)).setCell ⟨w.heap.size, 3, none⟩ (.int .i64 ST) = w4 at *
  obtain ⟨tx, htx⟩ : ∃ tx, a0_7.extract 0 m.toNat = tx := ⟨_, rfl⟩
  go_wp2_with fail
  replace BX := Aside0.mk (show ((w4.setCell ⟨w.heap.size, 7, none⟩ (.string tx))).heap[w.heap.size]? = some (.cells #[.int .i64 K, .string i, .int .i64 Q, .int .i64 ST, .bool a0_4, .int .i64 a0_5, .int .i64 a0_6, .string tx, .bool a0_8] 46 (0, 0)) from (blk_set BX.out 7 (.string tx)))
  replace BR := Aside0.mk (show ((w4.setCell ⟨w.heap.size, 7, none⟩ (.string tx))).heap[w.heap.size + 1]? = _ from (blk_far BR.out (show w.heap.size + 1 ≠ w.heap.size by omega) (.string tx)))
  replace HB := Aside0.mk (show Below w.heap.size w (w4.setCell ⟨w.heap.size, 7, none⟩ (.string tx)) from (HB.out.setCell (Nat.le_refl _) (.string tx)))
  clear c0 c1 c2 c3 c4 c5 c6 c7 c8 z0 z1 z2 z3 z4 z5 z6 z7 z8
  generalize (w4.setCell ⟨w.heap.size, 7, none⟩ (.string tx)) = w4' at BX BR HB ⊢
  refine (cenotaphref05_Spot.calls a0_5 a0_6 px py _ HP.out).mono ?_
  rintro ev w5 ⟨rfl, hb⟩
  replace BX := Aside0.mk (blk_below BX.out hb)
  replace BR := Aside0.mk (blk_below BR.out hb)
  replace HB := Aside0.mk (below_step HB.out hb)
  clear hb HP
  obtain ⟨⟨c0, c1, c2, c3, c4, c5, c6, c7, c8⟩, z0, z1, z2, z3, z4, z5, z6, z7, z8⟩ := tf_cells BX.out
  go_upto_if 42 with fail
  replace BX := Aside0.mk (show (((w5.setCell ⟨w.heap.size, 5, none⟩ (.int .i64 px)).setCell ⟨w.heap.size, 6, none⟩ (.int .i64 py))).heap[w.heap.size]? = some (.cells #[.int .i64 K, .string i, .int .i64 Q, .int .i64 ST, .bool a0_4, .int .i64 px, .int .i64 py, .string tx, .bool a0_8] 46 (0, 0)) from (blk_set (blk_set BX.out 5 (.int .i64 px)) 6 (.int .i64 py)))
  replace BR := Aside0.mk (show (((w5.setCell ⟨w.heap.size, 5, none⟩ (.int .i64 px)).setCell ⟨w.heap.size, 6, none⟩ (.int .i64 py))).heap[w.heap.size + 1]? = _ from (blk_far (blk_far BR.out (show w.heap.size + 1 ≠ w.heap.size by omega) (.int .i64 px)) (show w.heap.size + 1 ≠ w.heap.size by omega) (.int .i64 py)))
  replace HB := Aside0.mk (show Below w.heap.size w ((w5.setCell ⟨w.heap.size, 5, none⟩ (.int .i64 px)).setCell ⟨w.heap.size, 6, none⟩ (.int .i64 py)) from ((HB.out.setCell (Nat.le_refl _) (.int .i64 px)).setCell (Nat.le_refl _) (.int .i64 py)))
  clear c0 c1 c2 c3 c4 c5 c6 c7 c8 z0 z1 z2 z3 z4 z5 z6 z7 z8
  generalize ((w5.setCell ⟨w.heap.size, 5, none⟩ (.int .i64 px)).setCell ⟨w.heap.size, 6, none⟩ (.int .i64 py)) = w6 at BX BR HB ⊢
  cases a0_4 with
  | true =>
    obtain ⟨⟨c0, c1, c2, c3, c4, c5, c6, c7, c8⟩, z0, z1, z2, z3, z4, z5, z6, z7, z8⟩ := tf_cells BX.out
    go_upto_if 48 with fail
    replace BX := Aside0.mk (show ((((w6.setCell ⟨w.heap.size, 5, none⟩ (.int .i64 0)).setCell ⟨w.heap.size, 6, none⟩ (.int .i64 0)).setCell ⟨w.heap.size, 8, none⟩ (.bool false))).heap[w.heap.size]? = some (.cells #[.int .i64 K, .string i, .int .i64 Q, .int .i64 ST, .bool true, .int .i64 0, .int .i64 0, .string tx, .bool false] 46 (0, 0)) from (blk_set (blk_set (blk_set BX.out 5 (.int .i64 0)) 6 (.int .i64 0)) 8 (.bool false)))
    replace BR := Aside0.mk (show ((((w6.setCell ⟨w.heap.size, 5, none⟩ (.int .i64 0)).setCell ⟨w.heap.size, 6, none⟩ (.int .i64 0)).setCell ⟨w.heap.size, 8, none⟩ (.bool false))).heap[w.heap.size + 1]? = _ from (blk_far (blk_far (blk_far BR.out (show w.heap.size + 1 ≠ w.heap.size by omega) (.int .i64 0)) (show w.heap.size + 1 ≠ w.heap.size by omega) (.int .i64 0)) (show w.heap.size + 1 ≠ w.heap.size by omega) (.bool false)))
    replace HB := Aside0.mk (show Below w.heap.size w (((w6.setCell ⟨w.heap.size, 5, none⟩ (.int .i64 0)).setCell ⟨w.heap.size, 6, none⟩ (.int .i64 0)).setCell ⟨w.heap.size, 8, none⟩ (.bool false)) from (((HB.out.setCell (Nat.le_refl _) (.int .i64 0)).setCell (Nat.le_refl _) (.int .i64 0)).setCell (Nat.le_refl _) (.bool false)))
    clear c0 c1 c2 c3 c4 c5 c6 c7 c8 z0 z1 z2 z3 z4 z5 z6 z7 z8
    generalize (((w6.setCell ⟨w.heap.size, 5, none⟩ (.int .i64 0)).setCell ⟨w.heap.size, 6, none⟩ (.int .i64 0)).setCell ⟨w.heap.size, 8, none⟩ (.bool false)) = w7 at BX BR HB ⊢
    obtain ⟨⟨c0, c1, c2, c3, c4, c5, c6, c7, c8⟩, z0, z1, z2, z3, z4, z5, z6, z7, z8⟩ := tf_cells BX.out
    go_upto_region 9 with fail
    replace BX := Aside0.mk (show ((w7.setCell ⟨w.heap.size, 7, none⟩ (.string ⟨#[]⟩))).heap[w.heap.size]? = some (.cells #[.int .i64 K, .string i, .int .i64 Q, .int .i64 ST, .bool true, .int .i64 0, .int .i64 0, .string ⟨#[]⟩, .bool false] 46 (0, 0)) from (blk_set BX.out 7 (.string ⟨#[]⟩)))
    replace BR := Aside0.mk (show ((w7.setCell ⟨w.heap.size, 7, none⟩ (.string ⟨#[]⟩))).heap[w.heap.size + 1]? = _ from (blk_far BR.out (show w.heap.size + 1 ≠ w.heap.size by omega) (.string ⟨#[]⟩)))
    replace HB := Aside0.mk (show Below w.heap.size w (w7.setCell ⟨w.heap.size, 7, none⟩ (.string ⟨#[]⟩)) from (HB.out.setCell (Nat.le_refl _) (.string ⟨#[]⟩)))
    clear c0 c1 c2 c3 c4 c5 c6 c7 c8 z0 z1 z2 z3 z4 z5 z6 z7 z8
    generalize (w7.setCell ⟨w.heap.size, 7, none⟩ (.string ⟨#[]⟩)) = w8 at BX BR HB ⊢
    cases a0_8 with
    | true =>
      obtain ⟨⟨c0, c1, c2, c3, c4, c5, c6, c7, c8⟩, -⟩ := tf_cells BX.out
      obtain ⟨⟨d0, d1, d2, d3, d4, d5, d6, d7, d8⟩, y0, y1, y2, y3, y4, y5, y6, y7, y8⟩ := tf_cells BR.out
      go_wp2_with fail
      exact bodyPost_ret (results_cell_row rfl _ _ (w.heap.size + 1) 46 #[.int .i64 K, .string i, .int .i64 Q, .int .i64 ST, .bool true, .int .i64 0, .int .i64 0, .string ⟨#[]⟩, .bool false] (0, 0) _ rfl (blk_put9 BR.out _ _ _ _ _ _ _ _ _) hu rfl (by kernel_rfl)) rfl ⟨by first | rfl | (rw [htx]; rfl) | (simp only [htx]; rfl), below_put9 HB.out (Nat.le_succ _) _ _ _ _ _ _ _ _ _⟩
    | false =>
      obtain ⟨⟨c0, c1, c2, c3, c4, c5, c6, c7, c8⟩, -⟩ := tf_cells BX.out
      obtain ⟨⟨d0, d1, d2, d3, d4, d5, d6, d7, d8⟩, y0, y1, y2, y3, y4, y5, y6, y7, y8⟩ := tf_cells BR.out
      go_wp2_with fail
      exact bodyPost_ret (results_cell_row rfl _ _ (w.heap.size + 1) 46 #[.int .i64 K, .string i, .int .i64 Q, .int .i64 ST, .bool true, .int .i64 0, .int .i64 0, .string ⟨#[]⟩, .bool false] (0, 0) _ rfl (blk_put9 BR.out _ _ _ _ _ _ _ _ _) hu rfl (by kernel_rfl)) rfl ⟨by first | rfl | (rw [htx]; rfl) | (simp only [htx]; rfl), below_put9 HB.out (Nat.le_succ _) _ _ _ _ _ _ _ _ _⟩
  | false =>
    cases a0_8 with
    | true =>
      obtain ⟨⟨c0, c1, c2, c3, c4, c5, c6, c7, c8⟩, -⟩ := tf_cells BX.out
      obtain ⟨⟨d0, d1, d2, d3, d4, d5, d6, d7, d8⟩, y0, y1, y2, y3, y4, y5, y6, y7, y8⟩ := tf_cells BR.out
      go_wp2_with fail
      exact bodyPost_ret (results_cell_row rfl _ _ (w.heap.size + 1) 46 #[.int .i64 K, .string i, .int .i64 Q, .int .i64 ST, .bool false, .int .i64 px, .int .i64 py, .string tx, .bool true] (0, 0) _ rfl (blk_put9 BR.out _ _ _ _ _ _ _ _ _) hu rfl (by kernel_rfl)) rfl ⟨by first | rfl | (rw [htx]; rfl) | (simp only [htx]; rfl), below_put9 HB.out (Nat.le_succ _) _ _ _ _ _ _ _ _ _⟩
    | false =>
      obtain ⟨⟨c0, c1, c2, c3, c4, c5, c6, c7, c8⟩, z0, z1, z2, z3, z4, z5, z6, z7, z8⟩ := tf_cells BX.out
      go_upto_region 9 with fail
      replace BX := Aside0.mk (show ((w6.setCell ⟨w.heap.size, 7, none⟩ (.string ⟨#[]⟩))).heap[w.heap.size]? = some (.cells #[.int .i64 K, .string i, .int .i64 Q, .int .i64 ST, .bool false, .int .i64 px, .int .i64 py, .string ⟨#[]⟩, .bool false] 46 (0, 0)) from (blk_set BX.out 7 (.string ⟨#[]⟩)))
      replace BR := Aside0.mk (show ((w6.setCell ⟨w.heap.size, 7, none⟩ (.string ⟨#[]⟩))).heap[w.heap.size + 1]? = _ from (blk_far BR.out (show w.heap.size + 1 ≠ w.heap.size by omega) (.string ⟨#[]⟩)))
      replace HB := Aside0.mk (show Below w.heap.size w (w6.setCell ⟨w.heap.size, 7, none⟩ (.string ⟨#[]⟩)) from (HB.out.setCell (Nat.le_refl _) (.string ⟨#[]⟩)))
      clear c0 c1 c2 c3 c4 c5 c6 c7 c8 z0 z1 z2 z3 z4 z5 z6 z7 z8
      generalize (w6.setCell ⟨w.heap.size, 7, none⟩ (.string ⟨#[]⟩)) = w8 at BX BR HB ⊢
      obtain ⟨⟨c0, c1, c2, c3, c4, c5, c6, c7, c8⟩, -⟩ := tf_cells BX.out
      obtain ⟨⟨d0, d1, d2, d3, d4, d5, d6, d7, d8⟩, y0, y1, y2, y3, y4, y5, y6, y7, y8⟩ := tf_cells BR.out
      go_wp2_with fail
      exact bodyPost_ret (results_cell_row rfl _ _ (w.heap.size + 1) 46 #[.int .i64 K, .string i, .int .i64 Q, .int .i64 ST, .bool false, .int .i64 px, .int .i64 py, .string ⟨#[]⟩, .bool false] (0, 0) _ rfl (blk_put9 BR.out _ _ _ _ _ _ _ _ _) hu rfl (by kernel_rfl)) rfl ⟨by first | rfl | (rw [htx]; rfl) | (simp only [htx]; rfl), below_put9 HB.out (Nat.le_succ _) _ _ _ _ _ _ _ _ _⟩
/-- Are two items the same, part by part? -/
def It.eq (I J : It) : Bool := (I.k == J.k) && (((I.i == J.i) && ((I.q == J.q) && (I.s == J.s))) && ((I.d == J.d) && (((I.x == J.x) && (I.y == J.y)) && ((I.t == J.t) && (I.h == J.h)))))
theorem byte_beq (a b : ByteArray) : (a == b) = true ↔ a = b := by
  obtain ⟨x⟩ := a
  obtain ⟨y⟩ := b
  show (x == y) = true ↔ _
  rw [beq_iff_eq, ByteArray.mk.injEq]
theorem It.eq_iff (I J : It) : I.eq J = true ↔ I = J := by
  obtain ⟨k, i, q, s, d, x, y, t, h⟩ := I
  obtain ⟨k', i', q', s', d', x', y', t', h'⟩ := J
  simp [It.eq, and_assoc, byte_beq]
theorem eqin_ref (I J : It) (d : Nat) (w : World) : (Op.equalIn (d + 3) 46 (.agg (rfC I.k I.i I.q I.s I.d I.x I.y I.t I.h)) (.agg (rfC J.k J.i J.q J.s J.d J.x J.y J.t J.h))).run Try.prog w = .ok (I.eq J) w := by
  refine eqA_of Try.underlying46 (by kernel_rfl) ?_
  refine eqf_cons (a := .int .i64 I.k) (b := .int .i64 J.k) (by rfl) (by kernel_rfl) (by kernel_rfl) (by kernel_rfl) ?_
  refine eqf_cons (a := .agg #[.string I.i, .int .i64 I.q, .int .i64 I.s]) (b := .agg #[.string J.i, .int .i64 J.q, .int .i64 J.s]) (by rfl) (by kernel_rfl) (by kernel_rfl) ?_ ?_
  · refine eqA_of Try.underlying23 (by kernel_rfl) ?_
    refine eqf_cons (a := .string I.i) (b := .string J.i) (by rfl) (by kernel_rfl) (by kernel_rfl) (by kernel_rfl) ?_
    refine eqf_cons (a := .int .i64 I.q) (b := .int .i64 J.q) (by rfl) (by kernel_rfl) (by kernel_rfl) (by kernel_rfl) ?_
    exact eqf_last (a := .int .i64 I.s) (b := .int .i64 J.s) (by rfl) (by kernel_rfl) (by kernel_rfl) (by kernel_rfl)
  refine eqf_cons (a := .bool I.d) (b := .bool J.d) (by rfl) (by kernel_rfl) (by kernel_rfl) (by kernel_rfl) ?_
  refine eqf_cons (a := .agg #[.int .i64 I.x, .int .i64 I.y]) (b := .agg #[.int .i64 J.x, .int .i64 J.y]) (by rfl) (by kernel_rfl) (by kernel_rfl) ?_ ?_
  · refine eqA_of Try.underlying44 (by kernel_rfl) ?_
    refine eqf_cons (a := .int .i64 I.x) (b := .int .i64 J.x) (by rfl) (by kernel_rfl) (by kernel_rfl) (by kernel_rfl) ?_
    exact eqf_last (a := .int .i64 I.y) (b := .int .i64 J.y) (by rfl) (by kernel_rfl) (by kernel_rfl) (by kernel_rfl)
  refine eqf_cons (a := .string I.t) (b := .string J.t) (by rfl) (by kernel_rfl) (by kernel_rfl) (by kernel_rfl) ?_
  exact eqf_last (a := .bool I.h) (b := .bool J.h) (by rfl) (by kernel_rfl) (by kernel_rfl) (by kernel_rfl)
theorem eqin_it (I J : It) (d : Nat) (w : World) (hI : I.x.natAbs < 2 ^ 53 ∧ I.y.natAbs < 2 ^ 53) (hJ : J.x.natAbs < 2 ^ 53 ∧ J.y.natAbs < 2 ^ 53) : (Op.equalIn (d + 3) 40 (.agg I.v) (.agg J.v)).run Try.prog w = .ok (I.eq J) w := by
  have e1 := fl_eq I.x J.x hI.1 hJ.1
  have e2 := fl_eq I.y J.y hI.2 hJ.2
  have e3 : ((FloatKind.f64.format.order (fl I.x) (fl J.x) == some .eq) && (FloatKind.f64.format.order (fl I.y) (fl J.y) == some .eq)) = ((I.x == J.x) && (I.y == J.y)) := by
    rw [e1, e2]; rfl
  have ec := eqIn_cxd (d + 1) (fl I.x) (fl I.y) (fl J.x) (fl J.y) w
  rw [e3] at ec
  clear e1 e2 e3 hI hJ
  refine eqA_of Try.underlying40 (by kernel_rfl) ?_
  refine eqf_cons (a := .int .i64 I.k) (b := .int .i64 J.k) (by rfl) (by kernel_rfl) (by kernel_rfl) (by kernel_rfl) ?_
  refine eqf_cons (a := .agg #[.string I.i, .int .i64 I.q, .int .i64 I.s]) (b := .agg #[.string J.i, .int .i64 J.q, .int .i64 J.s]) (by rfl) (by kernel_rfl) (by kernel_rfl) ?_ ?_
  · refine eqA_of Try.underlying27 (by kernel_rfl) ?_
    refine eqf_cons (a := .string I.i) (b := .string J.i) (by rfl) (by kernel_rfl) (by kernel_rfl) (by kernel_rfl) ?_
    refine eqf_cons (a := .int .i64 I.q) (b := .int .i64 J.q) (by rfl) (by kernel_rfl) (by kernel_rfl) (by kernel_rfl) ?_
    exact eqf_last (a := .int .i64 I.s) (b := .int .i64 J.s) (by rfl) (by kernel_rfl) (by kernel_rfl) (by kernel_rfl)
  refine eqf_cons (a := .bool I.d) (b := .bool J.d) (by rfl) (by kernel_rfl) (by kernel_rfl) (by kernel_rfl) ?_
  refine eqf_cons (a := .complex .f64 (fl I.x) (fl I.y)) (b := .complex .f64 (fl J.x) (fl J.y)) (by rfl) (by kernel_rfl) (by kernel_rfl) ec ?_
  refine eqf_cons (a := .string I.t) (b := .string J.t) (by rfl) (by kernel_rfl) (by kernel_rfl) (by kernel_rfl) ?_
  exact eqf_last (a := .bool I.h) (b := .bool J.h) (by rfl) (by kernel_rfl) (by kernel_rfl) (by kernel_rfl)
theorem eq_ref (I J : It) (w : World) : (binOp .eql 46 (.agg (rfC I.k I.i I.q I.s I.d I.x I.y I.t I.h)) (.agg (rfC J.k J.i J.q J.s J.d J.x J.y J.t J.h))).run Try.prog w = .ok (.bool (I.eq J)) w := by
  have h : (Op.equal 46 (.agg (rfC I.k I.i I.q I.s I.d I.x I.y I.t I.h)) (.agg (rfC J.k J.i J.q J.s J.d J.x J.y J.t J.h))).run Try.prog w = .ok (I.eq J) w := eqin_ref I J 9997 w
  simp only [binOp, Sem.run_bind, h, Result.andThen_ok]
  rfl
theorem neq_ref (I J : It) (w : World) : (binOp .neq 46 (.agg (rfC I.k I.i I.q I.s I.d I.x I.y I.t I.h)) (.agg (rfC J.k J.i J.q J.s J.d J.x J.y J.t J.h))).run Try.prog w = .ok (.bool (!I.eq J)) w := by
  have h : (Op.equal 46 (.agg (rfC I.k I.i I.q I.s I.d I.x I.y I.t I.h)) (.agg (rfC J.k J.i J.q J.s J.d J.x J.y J.t J.h))).run Try.prog w = .ok (I.eq J) w := eqin_ref I J 9997 w
  simp only [binOp, Sem.run_bind, h, Result.andThen_ok]
  rfl
theorem eq_it (I J : It) (w : World) (hI : I.x.natAbs < 2 ^ 53 ∧ I.y.natAbs < 2 ^ 53) (hJ : J.x.natAbs < 2 ^ 53 ∧ J.y.natAbs < 2 ^ 53) : (binOp .eql 40 (.agg I.v) (.agg J.v)).run Try.prog w = .ok (.bool (I.eq J)) w := by
  have h : (Op.equal 40 (.agg I.v) (.agg J.v)).run Try.prog w = .ok (I.eq J) w := eqin_it I J 9997 w hI hJ
  simp only [binOp, Sem.run_bind, h, Result.andThen_ok]
  rfl
abbrev It.rf (I : It) : Array Value := rfC I.k I.i I.q I.s I.d I.x I.y I.t I.h
/-- The document's Fix, as an item. -/
def fixI (k : Nat) (a0_0 : Int) (a0_1 : ByteArray) (a0_2 : Int) (a0_3 : Int) (a0_4 : Bool) (a0_5 : Int) (a0_6 : Int) (a0_7 : ByteArray) (a0_8 : Bool) : Option It := (cenotaphref07_Fix.f k a0_0 a0_1 a0_2 a0_3 a0_4 a0_5 a0_6 a0_7 a0_8).bind fun p => some ⟨p.1, p.2.1, p.2.2.1, p.2.2.2.1, p.2.2.2.2.1, p.2.2.2.2.2.1, p.2.2.2.2.2.2.1, p.2.2.2.2.2.2.2.1, p.2.2.2.2.2.2.2.2⟩
theorem fixI.calls (k : Nat) (a0_0 : Int) (a0_1 : ByteArray) (a0_2 : Int) (a0_3 : Int) (a0_4 : Bool) (a0_5 : Int) (a0_6 : Int) (a0_7 : ByteArray) (a0_8 : Bool) (I : It) (w : World) (h : fixI k a0_0 a0_1 a0_2 a0_3 a0_4 a0_5 a0_6 a0_7 a0_8 = some I) :
    Calls Try.prog 20 #[.agg #[.int .i64 a0_0, .string a0_1, .int .i64 a0_2, .int .i64 a0_3, .bool a0_4, .int .i64 a0_5, .int .i64 a0_6, .string a0_7, .bool a0_8]] w fun e w' => e = .returned (.agg #[.int .i64 I.k, .string I.i, .int .i64 I.q, .int .i64 I.s, .bool I.d, .int .i64 I.x, .int .i64 I.y, .string I.t, .bool I.h]) ∧ Below w.heap.size w w' := by
  obtain ⟨⟨r1, r2, r3, r4, r5, r6, r7, r8, r9⟩, hp, h⟩ := Option.bind_eq_some_iff.mp h
  obtain rfl := Option.some.inj h
  exact cenotaphref07_Fix.calls k a0_0 a0_1 a0_2 a0_3 a0_4 a0_5 a0_6 a0_7 a0_8 r1 r2 r3 r4 r5 r6 r7 r8 r9 w hp
/-- Are its parts small enough to be told as floats? -/
def It.ok (I : It) : Prop := I.x.natAbs < 2 ^ 53 ∧ I.y.natAbs < 2 ^ 53
instance (I : It) : Decidable I.ok := by unfold It.ok; infer_instance
theorem blk_far9 {W : World} {g g' : Nat} {T : TypeId} {cs : Array Value} (h : W.heap[g]? = some (.cells cs T (0, 0))) (hne : g ≠ g') (v0 v1 v2 v3 v4 v5 v6 v7 v8 : Value) : (((((((((W.setCell ⟨g', 0, none⟩ v0).setCell ⟨g', 1, none⟩ v1).setCell ⟨g', 2, none⟩ v2).setCell ⟨g', 3, none⟩ v3).setCell ⟨g', 4, none⟩ v4).setCell ⟨g', 5, none⟩ v5).setCell ⟨g', 6, none⟩ v6).setCell ⟨g', 7, none⟩ v7).setCell ⟨g', 8, none⟩ v8).heap[g]? = some (.cells cs T (0, 0)) :=
  blk_far (blk_far (blk_far (blk_far (blk_far (blk_far (blk_far (blk_far (blk_far h hne v0) hne v1) hne v2) hne v3) hne v4) hne v5) hne v6) hne v7) hne v8
theorem and9 {a0 a1 a2 a3 a4 a5 a6 a7 a8 b : Prop} (h : a0 ∧ a1 ∧ a2 ∧ a3 ∧ a4 ∧ a5 ∧ a6 ∧ a7 ∧ a8) (hb : b) : a0 ∧ a1 ∧ a2 ∧ a3 ∧ a4 ∧ a5 ∧ a6 ∧ a7 ∧ a8 ∧ b :=
  ⟨h.1, h.2.1, h.2.2.1, h.2.2.2.1, h.2.2.2.2.1, h.2.2.2.2.2.1, h.2.2.2.2.2.2.1, h.2.2.2.2.2.2.2.1, h.2.2.2.2.2.2.2.2, hb⟩
theorem and8 {a0 a1 a2 a3 a4 a5 a6 a7 b : Prop} (h : a0 ∧ a1 ∧ a2 ∧ a3 ∧ a4 ∧ a5 ∧ a6 ∧ a7) (hb : b) : a0 ∧ a1 ∧ a2 ∧ a3 ∧ a4 ∧ a5 ∧ a6 ∧ a7 ∧ b :=
  ⟨h.1, h.2.1, h.2.2.1, h.2.2.2.1, h.2.2.2.2.1, h.2.2.2.2.2.1, h.2.2.2.2.2.2.1, h.2.2.2.2.2.2.2, hb⟩

end Go.Proofs.Ytkmhanpamdgnjaa.P
