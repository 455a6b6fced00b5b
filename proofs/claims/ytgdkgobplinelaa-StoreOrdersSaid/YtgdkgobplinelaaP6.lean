-- Written by a program of this session (wip/pp.py over the kit's printer, with our own texts put in).
import Derived.Test.YtgdkgobplinelaaP0
namespace Go.Proofs.Ytgdkgobplinelaa.P
open Go.RowKit Go.Proofs.YtgdkgobplinelaaW.PrintWords Go.Proofs.YtgdkgobplinelaaW.PrintLast Go.Proofs.YtgdkgobplinelaaW.PrintMore
attribute [local go_sem] run_store_complex max2_int min2_int max_two min_two max_three min_three max_four min_four   -- for this text's walks alone
set_option linter.unusedVariables false
set_option linter.unusedSimpArgs false

/-! ### cenotaphref01_Fix: function 33 -/
def cenotaphref01_Fix.l0 : Nat → ByteArray → ByteArray → Int → Option (ByteArray)
  | 0, _, _, _ => none
  | k + 1, x0, x3, x4 => if x4 < (x0.size : Int) then (if x4 < 5 then (if 0 ≤ x4 then (if 0 ≤ (Int.tmod (bt x0 x4) 9) then (if (Int.tmod (bt x0 x4) 9) ≤ (((Int.tmod (bt x0 x4) 9) + 1) % 256) then (if (((Int.tmod (bt x0 x4) 9) + 1) % 256) ≤ 9 then (if x3.size + ((⟨#[49, 50, 51, 52, 53, 54, 55, 56, 57]⟩ : ByteArray).extract ((Int.tmod (bt x0 x4) 9) : Int).toNat ((((Int.tmod (bt x0 x4) 9) + 1) % 256) : Int).toNat).size ≤ 9223372036854775807 then (cenotaphref01_Fix.l0 k x0 (x3 ++ ((⟨#[49, 50, 51, 52, 53, 54, 55, 56, 57]⟩ : ByteArray).extract ((Int.tmod (bt x0 x4) 9) : Int).toNat ((((Int.tmod (bt x0 x4) 9) + 1) % 256) : Int).toNat)) (wrap64 (x4 + 1))) else (none)) else (none)) else (none)) else (none)) else (none)) else (some x3)) else (some x3)
def cenotaphref01_Fix.f (k : Nat) (a0 : ByteArray) : Option (ByteArray) := cenotaphref01_Fix.l0 k a0 (⟨#[48]⟩ : ByteArray) 0
theorem cenotaphref01_Fix.mono_l : ∀ k, (∀ y0 y1 y2, LeO (cenotaphref01_Fix.l0 k y0 y1 y2) (cenotaphref01_Fix.l0 (k + 1) y0 y1 y2))
  | 0 => fun _ _ _ r h => by simp [cenotaphref01_Fix.l0] at h
  | k + 1 => by
    have ih0 := cenotaphref01_Fix.mono_l k
    · intro y0 y1 y2
      unfold cenotaphref01_Fix.l0
      repeat' first
      | (with_reducible exact ih0 _ _ _)
      | (with_reducible exact LeO.refl _)
      | (with_reducible exact LeO.none _)
      | (with_reducible refine LeO.ite ?_ ?_)
      | (with_reducible refine LeO.bind ?_ (fun _ => ?_))
      | exact ih0 _ _ _
      | exact LeO.none _
      | refine LeO.ite ?_ ?_
      | refine LeO.bind ?_ (fun _ => ?_)
theorem cenotaphref01_Fix.mono : ∀ a0 k, LeO (cenotaphref01_Fix.f k a0) (cenotaphref01_Fix.f (k + 1) a0) := by
  intro a0 k
  have ih0 := cenotaphref01_Fix.mono_l k
  unfold cenotaphref01_Fix.f
  repeat' first
      | (with_reducible exact ih0 _ _ _)
      | (with_reducible exact LeO.refl _)
      | (with_reducible exact LeO.none _)
      | (with_reducible refine LeO.ite ?_ ?_)
      | (with_reducible refine LeO.bind ?_ (fun _ => ?_))
      | exact ih0 _ _ _
      | exact LeO.none _
      | refine LeO.ite ?_ ?_
      | refine LeO.bind ?_ (fun _ => ?_)
set_option maxHeartbeats 8000000 in
set_option maxRecDepth 100000 in
theorem cenotaphref01_Fix.calls (k : Nat) (a0 : ByteArray) (r : ByteArray) (w : World) (h : cenotaphref01_Fix.f k a0 = some r) :
    Calls Try.prog 33 #[.string a0] w fun e w' => e = .returned (.string r) ∧ Drawn0 w w' := by
  have H : (cenotaphref01_Fix.l0 k a0 (⟨#[48]⟩ : ByteArray) 0) = some r := h
  clear h
  have H' := Aside0.mk H
  clear H
  go_enter Try.func33, Try.ntmps33
  go_wp2
  repeat (go_quiet (fail); try go_wp2)
  go_loopg [3, 4] k (fun kq v3 v4 w' => ∃ (x3_1 : ByteArray) (x4_1 : Int), v3 = .string x3_1 ∧ v4 = .int .i64 x4_1 ∧ Aside0 (cenotaphref01_Fix.l0 kq a0 x3_1 x4_1 = some r) ∧ Aside0 (kq ≤ k) ∧ Drawn0 w w')
  case atStart => exact ⟨((⟨#[48]⟩ : ByteArray)), (0), (by first | rfl | (simp; done) | (simp [*]; done)), (by first | rfl | (simp; done) | (simp [*]; done)), H', ⟨Nat.le_refl _⟩, by repeat (first | exact Drawn0.refl _ | apply Drawn0.step)⟩
  case round =>
    clear H'
    obtain ⟨x3_1, x4_1, rfl, rfl, HA, HK1, ⟨m1, rfl⟩⟩ := hrel
    cases gk with
    | zero => exact absurd HA.out (by simp [cenotaphref01_Fix.l0])
    | succ k1 =>
      have H := HA.out
      clear HA
      simp only [cenotaphref01_Fix.l0] at H
      by_cases c2 : x4_1 < (a0.size : Int)
      · rw [if_pos c2] at H
        have c2b0 : decide (x4_1 < (a0.size : Int)) = true := decide_eq_true c2
        clear c2
        by_cases c3 : x4_1 < 5
        · rw [if_pos c3] at H
          have c3b0 : decide (x4_1 < 5) = true := decide_eq_true c3
          clear c3
          by_cases c4 : 0 ≤ x4_1
          · rw [if_pos c4] at H
            have c4b0 : decide (0 ≤ x4_1) = true := decide_eq_true c4
            clear c4
            obtain ⟨ji7, hji7⟩ : ∃ j_ : Int, (Int.tmod (bt a0 x4_1) 9) = j_ := ⟨_, rfl⟩
            replace H : (if 0 ≤ (ji7) then (if (ji7) ≤ (((ji7) + 1) % 256) then (if (((ji7) + 1) % 256) ≤ 9 then (if x3_1.size + ((⟨#[49, 50, 51, 52, 53, 54, 55, 56, 57]⟩ : ByteArray).extract ((ji7) : Int).toNat ((((ji7) + 1) % 256) : Int).toNat).size ≤ 9223372036854775807 then (cenotaphref01_Fix.l0 k1 a0 (x3_1 ++ ((⟨#[49, 50, 51, 52, 53, 54, 55, 56, 57]⟩ : ByteArray).extract ((ji7) : Int).toNat ((((ji7) + 1) % 256) : Int).toNat)) (wrap64 (x4_1 + 1))) else (none)) else (none)) else (none)) else (none)) = some r := by first | (rw [hji7] at H; exact H) | (simp only [hji7] at H ⊢; exact H)
            by_cases c8 : 0 ≤ (ji7)
            · rw [if_pos c8] at H
              have c8b0 := eq_true c8
              have c8b1 : decide (0 ≤ (ji7)) = true := decide_eq_true c8
              clear c8
              by_cases c9 : (ji7) ≤ (((ji7) + 1) % 256)
              · rw [if_pos c9] at H
                have c9b0 := eq_true c9
                have c9b1 : decide ((ji7) ≤ (((ji7) + 1) % 256)) = true := decide_eq_true c9
                by_cases c10 : (((ji7) + 1) % 256) ≤ 9
                · rw [if_pos c10] at H
                  have c10b0 := eq_true c10
                  have c10b1 : decide ((((ji7) + 1) % 256) ≤ 9) = true := decide_eq_true c10
                  by_cases c11 : x3_1.size + ((⟨#[49, 50, 51, 52, 53, 54, 55, 56, 57]⟩ : ByteArray).extract ((ji7) : Int).toNat ((((ji7) + 1) % 256) : Int).toNat).size ≤ 9223372036854775807
                  · rw [if_pos c11] at H
                    have c11b0 := eq_true c11
                    have c11b1 : decide (x3_1.size + ((⟨#[49, 50, 51, 52, 53, 54, 55, 56, 57]⟩ : ByteArray).extract ((ji7) : Int).toNat ((((ji7) + 1) % 256) : Int).toNat).size ≤ 9223372036854775807) = true := decide_eq_true c11
                    try have c11b2 : (9223372036854775807 < x3_1.size + ((⟨#[49, 50, 51, 52, 53, 54, 55, 56, 57]⟩ : ByteArray).extract ((ji7) : Int).toNat ((((ji7) + 1) % 256) : Int).toNat).size) = False := eq_false (Nat.not_lt.2 c11)
                    have H' := Aside0.mk H
                    clear H
                    have p5 : 0 ≤ (x4_1 : Int) := of_decide_eq_true (by first | (with_reducible assumption) | assumption)
                    have q5 : x4_1 < (a0.size : Int) := of_decide_eq_true (by first | (with_reducible assumption) | assumption)
                    have hx5 := bt_at a0 x4_1
                    replace p5 := eq_true p5
                    replace q5 := eq_true q5
                    have p6 : 0 ≤ (x4_1 : Int) := of_decide_eq_true (by first | (with_reducible assumption) | assumption)
                    have q6 : x4_1 < (a0.size : Int) := of_decide_eq_true (by first | (with_reducible assumption) | assumption)
                    have hx6 := bt_at a0 x4_1
                    replace p6 := eq_true p6
                    replace q6 := eq_true q6
                    go_wp2
                    repeat (go_quiet (fail); try go_wp2)
                    go_roundg k1
                    case measure => have := HK1.out; omega
                    case rel => exact ⟨(x3_1 ++ ((⟨#[49, 50, 51, 52, 53, 54, 55, 56, 57]⟩ : ByteArray).extract ((ji7) : Int).toNat ((((ji7) + 1) % 256) : Int).toNat)), (wrap64 (x4_1 + 1)), (by first | rfl | (simp; done) | (simp only [← hji7] <;> (first | rfl | simp)) | (simp [*]; done)), (by first | rfl | (simp; done) | (simp [*]; done)), H', ⟨by have := HK1.out; omega⟩, by repeat (first | exact Drawn0.refl _ | apply Drawn0.step)⟩
                  · rw [if_neg c11] at H
                    exact absurd H (by simp)
                · rw [if_neg c10] at H
                  exact absurd H (by simp)
              · rw [if_neg c9] at H
                exact absurd H (by simp)
            · rw [if_neg c8] at H
              exact absurd H (by simp)
          · rw [if_neg c4] at H
            exact absurd H (by simp)
        · rw [if_neg c3] at H
          have c3b0 : decide (x4_1 < 5) = false := decide_eq_false c3
          clear c3
          obtain rfl := Option.some.inj H
          go_wp2
          repeat (go_quiet (fail); try go_wp2)
          go_ret
          exact ⟨by first | rfl | (simp; done) | (simp [*]; done), by repeat (first | exact Drawn0.refl _ | apply Drawn0.step)⟩
      · rw [if_neg c2] at H
        have c2b0 : decide (x4_1 < (a0.size : Int)) = false := decide_eq_false c2
        clear c2
        obtain rfl := Option.some.inj H
        go_wp2
        repeat (go_quiet (fail); try go_wp2)
        go_ret
        exact ⟨by first | rfl | (simp; done) | (simp [*]; done), by repeat (first | exact Drawn0.refl _ | apply Drawn0.step)⟩

/-! ### cenotaphref05_Spot: function 34 -/
def cenotaphref05_Spot.f (a0_0 : Int) (a0_1 : Int) : Option (Int × Int) := some (wrap64 ((wrap64 (Int.tmod (IntKind.u64.wrap (a0_0)) 2001)) - 1000), wrap64 ((wrap64 (Int.tmod (IntKind.u64.wrap (a0_1)) 2001)) - 1000))
set_option maxHeartbeats 8000000 in
set_option maxRecDepth 100000 in
theorem cenotaphref05_Spot.calls (a0_0 : Int) (a0_1 : Int) (r1 : Int) (r2 : Int) (w : World) (h : cenotaphref05_Spot.f a0_0 a0_1 = some (r1, r2)) :
    Calls Try.prog 34 #[.agg #[.int .i64 a0_0, .int .i64 a0_1]] w fun e w' => e = .returned (.agg #[.int .i64 r1, .int .i64 r2]) ∧ Below w.heap.size w w' := by
  have hu26 := Try.underlying26
  have HB := Aside0.mk (Below.refl w.heap.size w)
  have H : (some (wrap64 ((wrap64 (Int.tmod (IntKind.u64.wrap (a0_0)) 2001)) - 1000), wrap64 ((wrap64 (Int.tmod (IntKind.u64.wrap (a0_1)) 2001)) - 1000))) = some (r1, r2) := h
  clear h
  simp only [Option.some.injEq, Prod.mk.injEq] at H
  obtain ⟨rfl, rfl⟩ := H
  go_enter Try.func34, Try.ntmps34
  go_wp2_with (first | ((with_reducible refine gate_dst (N := 1) rfl ?_); refine box_event ?hg (N := 1) ?hd (cs := #[.int .i64 a0_0, .int .i64 a0_1]) (t := 26) ?hr ?_; (case hd => rfl); (case hg => rfl); (case hr => first | (go_simp; done) | (go_simp; rfl)); intro gb101 hg w2 hbox hb; have BK101 := Aside0.mk (hbox); have GW101 := Aside0.mk ((by rw [hg]; exact (below_size (by repeat (first | (with_reducible first | exact HB.out | apply below_alloc | apply pw_below_drewN | apply below_drew1) | exact HB.out))) : w.heap.size ≤ gb101)); have GE101 := Aside0.mk ((by rw [hg]; exact (below_size (by repeat (first | (with_reducible first | exact HB.out | apply below_alloc | apply pw_below_drewN | apply below_drew1) | exact HB.out))) : w.heap.size ≤ gb101)); replace HB := Aside0.mk (below_step (by repeat (first | (with_reducible first | exact HB.out | apply below_alloc | apply pw_below_drewN | apply below_drew1) | exact HB.out)) hb); clear hb hbox hg) | ((with_reducible refine gate_dst (N := 2) rfl ?_); refine box_event ?hg (N := 2) ?hd (cs := #[.int .i64 0, .int .i64 0]) (t := 26) ?hr ?_; (case hd => rfl); (case hg => rfl); (case hr => first | (go_simp; done) | (go_simp; rfl)); intro gb102 hg w3 hbox hb; have BK102 := Aside0.mk (hbox); have GW102 := Aside0.mk ((by rw [hg]; exact (below_size (by repeat (first | (with_reducible first | exact HB.out | apply below_alloc | apply pw_below_drewN | apply below_drew1 | refine below_set ?_ GE101.out) | exact HB.out))) : w.heap.size ≤ gb102)); have GE102 := Aside0.mk ((by rw [hg]; exact (below_size (by repeat (first | (with_reducible first | exact HB.out | apply below_alloc | apply pw_below_drewN | apply below_drew1 | refine below_set ?_ GE101.out) | exact HB.out))) : w.heap.size ≤ gb102)); replace HB := Aside0.mk (below_step (by repeat (first | (with_reducible first | exact HB.out | apply below_alloc | apply pw_below_drewN | apply below_drew1 | refine below_set ?_ GE101.out) | exact HB.out)) hb); have NB101_102 := Aside0.mk ((by rw [hg]; exact Nat.ne_of_lt (blk_lt (g := gb101) (o := .cells #[.int .i64 a0_0, .int .i64 a0_1] 26 (0, 0)) (by (with_reducible repeat (first | refine blk_drewN ?_ _ | refine blk_drew ?_ | refine blk_alloc ?_ _)); exact BK101.out)) : gb101 ≠ gb102)); have NB102_101 := Aside0.mk ((by rw [hg]; exact Nat.ne_of_gt (blk_lt (g := gb101) (o := .cells #[.int .i64 a0_0, .int .i64 a0_1] 26 (0, 0)) (by (with_reducible repeat (first | refine blk_drewN ?_ _ | refine blk_drew ?_ | refine blk_alloc ?_ _)); exact BK101.out)) : gb102 ≠ gb101)); replace BK101 := Aside0.mk (blk_below (g := gb101) (o := .cells #[.int .i64 a0_0, .int .i64 a0_1] 26 (0, 0)) (by (with_reducible repeat (first | refine blk_drewN ?_ _ | refine blk_drew ?_ | refine blk_alloc ?_ _)); exact BK101.out) hb); clear hb hbox hg; have hnb4 := NB101_102.out; have hnc4 := NB102_101.out; have hcz5_0 : w3.cell? ⟨gb101, 0, none⟩ = some (.int .i64 a0_0) := (blk_cell BK101.out 0).trans rfl; have hcz5_1 : w3.cell? ⟨gb101, 1, none⟩ = some (.int .i64 a0_1) := (blk_cell BK101.out 1).trans rfl; have hfz5_0 := blk_frozen BK101.out 0; have hfz5_1 := blk_frozen BK101.out 1; have hcz6_0 : w3.cell? ⟨gb102, 0, none⟩ = some (.int .i64 0) := (blk_cell BK102.out 0).trans rfl; have hcz6_1 : w3.cell? ⟨gb102, 1, none⟩ = some (.int .i64 0) := (blk_cell BK102.out 1).trans rfl; have hfz6_0 := blk_frozen BK102.out 0; have hfz6_1 := blk_frozen BK102.out 1))
  refine bodyPost_ret (results_cell_row rfl _ _ gb102 26 #[.int .i64 (wrap64 ((wrap64 (Int.tmod (IntKind.u64.wrap (a0_0)) 2001)) - 1000)), .int .i64 (wrap64 ((wrap64 (Int.tmod (IntKind.u64.wrap (a0_1)) 2001)) - 1000))] (0, 0) _ rfl (by (with_reducible repeat (first | refine blk_drewN ?_ _ | refine blk_drew ?_ | refine blk_alloc ?_ _)); refine blk_put (cs := #[.int .i64 (wrap64 ((wrap64 (Int.tmod (IntKind.u64.wrap (a0_0)) 2001)) - 1000)), .int .i64 0]) ?_ 1 _ rfl; (with_reducible repeat (first | refine blk_drewN ?_ _ | refine blk_drew ?_ | refine blk_alloc ?_ _)); refine blk_put (cs := #[.int .i64 0, .int .i64 0]) ?_ 0 _ rfl; (with_reducible repeat (first | refine blk_drewN ?_ _ | refine blk_drew ?_ | refine blk_alloc ?_ _)); exact BK102.out) Try.underlying26 rfl (by kernel_rfl)) rfl ?_
  exact ⟨by first | rfl | (simp [errW_none, errW_some] <;> rfl) | (simp [*, errW_none, errW_some] <;> rfl), by repeat (first | (with_reducible first | exact HB.out | apply below_alloc | apply pw_below_drewN | apply below_drew1 | refine below_set ?_ GE101.out | refine below_set ?_ GE102.out) | exact HB.out)⟩

/-! ### cenotaphref07_Fix: function 9 -/
def cenotaphref07_Fix.f (k : Nat) (a0_0 : Int) (a0_1 : ByteArray) (a0_2 : Int) (a0_3 : Int) (a0_4 : Bool) (a0_5 : Int) (a0_6 : Int) (a0_7 : ByteArray) (a0_8 : Bool) : Option (Int × ByteArray × Int × Int × Bool × Int × Int × ByteArray × Bool) := (cenotaphref01_Fix.f k a0_1).bind fun i => (cenotaphref05_Spot.f a0_5 a0_6).bind fun p =>
 some (wrap64 (Int.tmod (IntKind.u64.wrap a0_0) 32), i, wrap64 (1 + wrap64 (Int.tmod (IntKind.u64.wrap a0_2) 60)), wrap64 (1 + wrap64 (Int.tmod (IntKind.u64.wrap a0_3) 60)), a0_4, (if a0_4 = true then 0 else p.1), (if a0_4 = true then 0 else p.2), (if (a0_8 = true ∧ a0_4 = false) then a0_7.extract 0 ((mn (a0_7.size : Int) 16) : Int).toNat else ⟨#[]⟩), (if a0_4 = true then false else a0_8))
theorem cenotaphref07_Fix.mono (a0_0 : Int) (a0_1 : ByteArray) (a0_2 : Int) (a0_3 : Int) (a0_4 : Bool) (a0_5 : Int) (a0_6 : Int) (a0_7 : ByteArray) (a0_8 : Bool) : ∀ k, LeO (cenotaphref07_Fix.f k a0_0 a0_1 a0_2 a0_3 a0_4 a0_5 a0_6 a0_7 a0_8) (cenotaphref07_Fix.f (k + 1) a0_0 a0_1 a0_2 a0_3 a0_4 a0_5 a0_6 a0_7 a0_8) := fun k => LeO.bind (cenotaphref01_Fix.mono a0_1 k) fun i => LeO.refl _
set_option maxHeartbeats 8000000 in
set_option maxRecDepth 100000 in
theorem cenotaphref07_Fix.calls (k : Nat) (a0_0 : Int) (a0_1 : ByteArray) (a0_2 : Int) (a0_3 : Int) (a0_4 : Bool) (a0_5 : Int) (a0_6 : Int) (a0_7 : ByteArray) (a0_8 : Bool) (r1 : Int) (r2 : ByteArray) (r3 : Int) (r4 : Int) (r5 : Bool) (r6 : Int) (r7 : Int) (r8 : ByteArray) (r9 : Bool) (w : World) (h : cenotaphref07_Fix.f k a0_0 a0_1 a0_2 a0_3 a0_4 a0_5 a0_6 a0_7 a0_8 = some (r1, r2, r3, r4, r5, r6, r7, r8, r9)) :
  Calls Try.prog 9 #[.agg #[.int .i64 a0_0, .string a0_1, .int .i64 a0_2, .int .i64 a0_3, .bool a0_4, .int .i64 a0_5, .int .i64 a0_6, .string a0_7, .bool a0_8]] w fun e w' => e = .returned (.agg #[.int .i64 r1, .string r2, .int .i64 r3, .int .i64 r4, .bool r5, .int .i64 r6, .int .i64 r7, .string r8, .bool r9]) ∧ Below w.heap.size w w' := by
 obtain ⟨i, hi, h⟩ := Option.bind_eq_some_iff.mp h
 obtain ⟨⟨px, py⟩, hp, h⟩ := Option.bind_eq_some_iff.mp h
 dsimp only at h
 simp only [Option.some.injEq, Prod.mk.injEq] at h
 obtain ⟨rfl, rfl, rfl, rfl, rfl, rfl, rfl, rfl, rfl⟩ := h
 have HI := Aside0.mk hi
 have HP := Aside0.mk hp
 clear hi hp
 obtain ⟨K, hK⟩ : ∃ K, wrap64 (Int.tmod (IntKind.u64.wrap a0_0) 32) = K := ⟨_, rfl⟩
 obtain ⟨Q, hQ⟩ : ∃ K, wrap64 (1 + wrap64 (Int.tmod (IntKind.u64.wrap a0_2) 60)) = K := ⟨_, rfl⟩
 obtain ⟨ST, hS⟩ : ∃ K, wrap64 (1 + wrap64 (Int.tmod (IntKind.u64.wrap a0_3) 60)) = K := ⟨_, rfl⟩
 rw [hK, hQ, hS]
 obtain ⟨m, hm⟩ : ∃ m : Int, mn (a0_7.size : Int) 16 = m := ⟨_, rfl⟩
 rw [hm]
 have hm_ : (if 16 < (a0_7.size : Int) then 16 else (a0_7.size : Int)) = m := hm
 have hm0 : 0 ≤ m := by rw [← hm_]; split <;> omega
 have hm1 : m ≤ (a0_7.size : Int) := by rw [← hm_]; split <;> omega
 have q1 := eq_true hm0
 have q2 := eq_true hm1
 clear hm
 have hu := Try.underlying28
 have hu23 := Try.underlying24
 have hu44 := Try.underlying26
 have BX := Aside0.mk (blk_below (blk_new w (.cells #[.int .i64 K, .string a0_1, .int .i64 a0_2, .int .i64 a0_3, .bool a0_4, .int .i64 a0_5, .int .i64 a0_6, .string a0_7, .bool a0_8] 28)) (below_alloc (Below.refl _ _) (.cells #[.int .i64 0, .string ⟨#[]⟩, .int .i64 0, .int .i64 0, .bool false, .int .i64 0, .int .i64 0, .string ⟨#[]⟩, .bool false] 28)))
 have BR := Aside0.mk (blk_new (w.alloc (.cells #[.int .i64 K, .string a0_1, .int .i64 a0_2, .int .i64 a0_3, .bool a0_4, .int .i64 a0_5, .int .i64 a0_6, .string a0_7, .bool a0_8] 28)) (.cells #[.int .i64 0, .string ⟨#[]⟩, .int .i64 0, .int .i64 0, .bool false, .int .i64 0, .int .i64 0, .string ⟨#[]⟩, .bool false] 28))
 have HB := Aside0.mk (below_new (w := w) (.cells #[.int .i64 K, .string a0_1, .int .i64 a0_2, .int .i64 a0_3, .bool a0_4, .int .i64 a0_5, .int .i64 a0_6, .string a0_7, .bool a0_8] 28) (.cells #[.int .i64 0, .string ⟨#[]⟩, .int .i64 0, .int .i64 0, .bool false, .int .i64 0, .int .i64 0, .string ⟨#[]⟩, .bool false] 28))
 have e : (w.alloc (.cells #[.int .i64 K, .string a0_1, .int .i64 a0_2, .int .i64 a0_3, .bool a0_4, .int .i64 a0_5, .int .i64 a0_6, .string a0_7, .bool a0_8] 28)).heap.size = w.heap.size + 1 := Array.size_push _
 rw [e] at BR
 clear e
 go_enter Try.func9, Try.ntmps9
 go_upto_region 2 with fail
 generalize (w.alloc _).alloc _ = w1 at BX BR HB ⊢
 clear hK
 refine start_ (n := 21) (S := fun w' => w'.cell? ⟨w.heap.size, 0, none⟩ = some (.int .i64 K) ∧ w'.cell? ⟨w.heap.size, 1, none⟩ = some (.string a0_1) ∧ w'.cell? ⟨w.heap.size, 2, none⟩ = some (.int .i64 a0_2) ∧ w'.cell? ⟨w.heap.size, 3, none⟩ = some (.int .i64 a0_3) ∧ w'.cell? ⟨w.heap.size, 4, none⟩ = some (.bool a0_4) ∧ w'.cell? ⟨w.heap.size, 5, none⟩ = some (.int .i64 a0_5) ∧ w'.cell? ⟨w.heap.size, 6, none⟩ = some (.int .i64 a0_6) ∧ w'.cell? ⟨w.heap.size, 7, none⟩ = some (.string a0_7) ∧ w'.cell? ⟨w.heap.size, 8, none⟩ = some (.bool a0_8)) (ds := [20]) #[false, false, false, false, false, false, false, false, false, false, false, false, false, false, false, false, false, false, false, false, false] (by kernel_rfl) rfl rfl (ta_cells (blk_drew BX.out)) (fun hHeld => ?_)
 replace BX := Aside0.mk (blk_drew BX.out)
 replace BR := Aside0.mk (blk_drew BR.out)
 replace HB := Aside0.mk (below_drew1 HB.out)
 generalize w1.drew = w2 at BX BR HB hHeld ⊢
 refine p_ 0 9 (mk_ 21 0x1) ?_
 refine p_ 1 10 (mk_ 21 0x3) ?_
 refine t_ 2 11 (mk_ 21 0x7) hHeld ?_
 refine p_ 4 13 (mk_ 21 0x17) ?_
 refine p_ 5 14 (mk_ 21 0x37) ?_
 refine t_ 6 15 (mk_ 21 0x77) hHeld ?_
 refine p_ 7 16 (mk_ 21 0xf7) ?_
 refine p_ 8 17 (mk_ 21 0x1f7) ?_
 refine p_ 9 18 (mk_ 21 0x3f7) ?_
 refine p_ 10 19 (mk_ 21 0x7f7) ?_
 refine p_ 11 20 (mk_ 21 0xff7) ?_
 refine p_ 12 21 (mk_ 21 0x1ff7) ?_
 refine t_ 13 22 (mk_ 21 0x3ff7) hHeld ?_
 refine p_ 14 23 (mk_ 21 0x7ff7) ?_
 refine p_ 15 24 (mk_ 21 0xfff7) ?_
 refine p_ 16 25 (mk_ 21 0x1fff7) ?_
 refine p_ 17 26 (mk_ 21 0x3fff7) ?_
 refine one_ (i := 3) (N := some 12) #[true, true, true, true, true, true, true, true, true, true, true, true, true, true, true, true, true, true, false, false, false] rfl rfl (by kernel_rfl) (by decide) (fun K_ hK_ => ?_)
 refine goes_ Try.func33 (by kernel_rfl) rfl #[.string a0_1] (by rfl) rfl rfl (by (try simp only [List.map_toArray, List.map_cons, List.map_nil]); first | done | rfl) ?_
 refine (cenotaphref01_Fix.calls k a0_1 i w2 HI.out).mono ?_
 rintro ev w3 ⟨rfl, hb⟩
 refine ⟨_, rfl, ?_⟩
 replace hb := hb.below
 replace BX := Aside0.mk (blk_below BX.out hb)
 replace BR := Aside0.mk (blk_below BR.out hb)
 replace HB := Aside0.mk (below_step HB.out hb)
 clear hb HI
 refine hK_.out _ _ (ta_cells BX.out) (fun hHeld => ?_)
 clear hK_ K_
 refine norm_ (a' := ?_) ?_ ?_
 rotate_left
 ·show Act.put _ (some 12) _ = _
  simp only [Act.put, List.setIfInBounds_toArray, List.set_cons_zero, List.set_cons_succ, i64_w, i32_w]
  rfl
 refine p_ 18 27 (mk_ 21 0x7ffff) ?_
 refine p_ 19 28 (mk_ 21 0xfffff) ?_
 refine last_ (i := 20) (N := none) #[true, true, true, true, true, true, true, true, true, true, true, true, true, true, true, true, true, true, true, true, true] rfl rfl (by kernel_rfl) (by decide) (fun K_ hK_ => ?_)
 obtain ⟨⟨c0, c1, c2, c3, c4, c5, c6, c7, c8⟩, z0, z1, z2, z3, z4, z5, z6, z7, z8⟩ := tf_cells BX.out
 refine skip_ (w1 := ?_) (by rfl) rfl ?_ ?_
 rotate_left
 ·go_simp
  rfl
 refine hK_.out _ _ ?_
 clear hK_ K_
 refine done_ (by kernel_rfl) ?_
 clear hHeld
 replace BX := Aside0.mk (show ((((w3.setCell ⟨w.heap.size, 1, none⟩ (.string i)).setCell ⟨w.heap.size, 2, none⟩ (.int .i64 Q)).setCell ⟨w.heap.size, 3, none⟩ (.int .i64 ST))).heap[w.heap.size]? = some (.cells #[.int .i64 K, .string i, .int .i64 Q, .int .i64 ST, .bool a0_4, .int .i64 a0_5, .int .i64 a0_6, .string a0_7, .bool a0_8] 28 (0, 0)) from (blk_set (blk_set (blk_set BX.out 1 (.string i)) 2 (.int .i64 Q)) 3 (.int .i64 ST)))
 replace BR := Aside0.mk (show ((((w3.setCell ⟨w.heap.size, 1, none⟩ (.string i)).setCell ⟨w.heap.size, 2, none⟩ (.int .i64 Q)).setCell ⟨w.heap.size, 3, none⟩ (.int .i64 ST))).heap[w.heap.size + 1]? = _ from (blk_far (blk_far (blk_far BR.out (show w.heap.size + 1 ≠ w.heap.size by omega) (.string i)) (show w.heap.size + 1 ≠ w.heap.size by omega) (.int .i64 Q)) (show w.heap.size + 1 ≠ w.heap.size by omega) (.int .i64 ST)))
 replace HB := Aside0.mk (show Below w.heap.size w (((w3.setCell ⟨w.heap.size, 1, none⟩ (.string i)).setCell ⟨w.heap.size, 2, none⟩ (.int .i64 Q)).setCell ⟨w.heap.size, 3, none⟩ (.int .i64 ST)) from (((HB.out.setCell (Nat.le_refl _) (.string i)).setCell (Nat.le_refl _) (.int .i64 Q)).setCell (Nat.le_refl _) (.int .i64 ST)))
 clear c0 c1 c2 c3 c4 c5 c6 c7 c8 z0 z1 z2 z3 z4 z5 z6 z7 z8
 clear hQ hS
 obtain ⟨⟨c0, c1, c2, c3, c4, c5, c6, c7, c8⟩, z0, z1, z2, z3, z4, z5, z6, z7, z8⟩ := tf_cells BX.out
 generalize ((w3.setCell ⟨w.heap.size, 1, none⟩ (.string i)).setCell ⟨w.heap.size, 2, none⟩ (.int .i64 Q)).setCell ⟨w.heap.size, 3, none⟩ (.int .i64 ST) = w4 at *
 obtain ⟨tx, htx⟩ : ∃ tx, a0_7.extract 0 m.toNat = tx := ⟨_, rfl⟩
 go_wp2_with fail
 replace BX := Aside0.mk (show ((w4.setCell ⟨w.heap.size, 7, none⟩ (.string tx))).heap[w.heap.size]? = some (.cells #[.int .i64 K, .string i, .int .i64 Q, .int .i64 ST, .bool a0_4, .int .i64 a0_5, .int .i64 a0_6, .string tx, .bool a0_8] 28 (0, 0)) from (blk_set BX.out 7 (.string tx)))
 replace BR := Aside0.mk (show ((w4.setCell ⟨w.heap.size, 7, none⟩ (.string tx))).heap[w.heap.size + 1]? = _ from (blk_far BR.out (show w.heap.size + 1 ≠ w.heap.size by omega) (.string tx)))
 replace HB := Aside0.mk (show Below w.heap.size w (w4.setCell ⟨w.heap.size, 7, none⟩ (.string tx)) from (HB.out.setCell (Nat.le_refl _) (.string tx)))
 clear c0 c1 c2 c3 c4 c5 c6 c7 c8 z0 z1 z2 z3 z4 z5 z6 z7 z8
 generalize (w4.setCell ⟨w.heap.size, 7, none⟩ (.string tx)) = w4' at BX BR HB ⊢
 refine (cenotaphref05_Spot.calls a0_5 a0_6 px py _ HP.out).mono ?_
 rintro ev w5 ⟨rfl, hb⟩
 replace BX := Aside0.mk (blk_below BX.out hb)
 replace BR := Aside0.mk (blk_below BR.out hb)
 replace HB := Aside0.mk (below_step HB.out hb)
 clear hb HP
 obtain ⟨⟨c0, c1, c2, c3, c4, c5, c6, c7, c8⟩, z0, z1, z2, z3, z4, z5, z6, z7, z8⟩ := tf_cells BX.out
 go_upto_if 42 with fail
 replace BX := Aside0.mk (show (((w5.setCell ⟨w.heap.size, 5, none⟩ (.int .i64 px)).setCell ⟨w.heap.size, 6, none⟩ (.int .i64 py))).heap[w.heap.size]? = some (.cells #[.int .i64 K, .string i, .int .i64 Q, .int .i64 ST, .bool a0_4, .int .i64 px, .int .i64 py, .string tx, .bool a0_8] 28 (0, 0)) from (blk_set (blk_set BX.out 5 (.int .i64 px)) 6 (.int .i64 py)))
 replace BR := Aside0.mk (show (((w5.setCell ⟨w.heap.size, 5, none⟩ (.int .i64 px)).setCell ⟨w.heap.size, 6, none⟩ (.int .i64 py))).heap[w.heap.size + 1]? = _ from (blk_far (blk_far BR.out (show w.heap.size + 1 ≠ w.heap.size by omega) (.int .i64 px)) (show w.heap.size + 1 ≠ w.heap.size by omega) (.int .i64 py)))
 replace HB := Aside0.mk (show Below w.heap.size w ((w5.setCell ⟨w.heap.size, 5, none⟩ (.int .i64 px)).setCell ⟨w.heap.size, 6, none⟩ (.int .i64 py)) from ((HB.out.setCell (Nat.le_refl _) (.int .i64 px)).setCell (Nat.le_refl _) (.int .i64 py)))
 clear c0 c1 c2 c3 c4 c5 c6 c7 c8 z0 z1 z2 z3 z4 z5 z6 z7 z8
 generalize ((w5.setCell ⟨w.heap.size, 5, none⟩ (.int .i64 px)).setCell ⟨w.heap.size, 6, none⟩ (.int .i64 py)) = w6 at BX BR HB ⊢
 cases a0_4 with
 | true =>
  obtain ⟨⟨c0, c1, c2, c3, c4, c5, c6, c7, c8⟩, z0, z1, z2, z3, z4, z5, z6, z7, z8⟩ := tf_cells BX.out
  go_upto_if 48 with fail
  replace BX := Aside0.mk (show ((((w6.setCell ⟨w.heap.size, 5, none⟩ (.int .i64 0)).setCell ⟨w.heap.size, 6, none⟩ (.int .i64 0)).setCell ⟨w.heap.size, 8, none⟩ (.bool false))).heap[w.heap.size]? = some (.cells #[.int .i64 K, .string i, .int .i64 Q, .int .i64 ST, .bool true, .int .i64 0, .int .i64 0, .string tx, .bool false] 28 (0, 0)) from (blk_set (blk_set (blk_set BX.out 5 (.int .i64 0)) 6 (.int .i64 0)) 8 (.bool false)))
  replace BR := Aside0.mk (show ((((w6.setCell ⟨w.heap.size, 5, none⟩ (.int .i64 0)).setCell ⟨w.heap.size, 6, none⟩ (.int .i64 0)).setCell ⟨w.heap.size, 8, none⟩ (.bool false))).heap[w.heap.size + 1]? = _ from (blk_far (blk_far (blk_far BR.out (show w.heap.size + 1 ≠ w.heap.size by omega) (.int .i64 0)) (show w.heap.size + 1 ≠ w.heap.size by omega) (.int .i64 0)) (show w.heap.size + 1 ≠ w.heap.size by omega) (.bool false)))
  replace HB := Aside0.mk (show Below w.heap.size w (((w6.setCell ⟨w.heap.size, 5, none⟩ (.int .i64 0)).setCell ⟨w.heap.size, 6, none⟩ (.int .i64 0)).setCell ⟨w.heap.size, 8, none⟩ (.bool false)) from (((HB.out.setCell (Nat.le_refl _) (.int .i64 0)).setCell (Nat.le_refl _) (.int .i64 0)).setCell (Nat.le_refl _) (.bool false)))
  clear c0 c1 c2 c3 c4 c5 c6 c7 c8 z0 z1 z2 z3 z4 z5 z6 z7 z8
  generalize (((w6.setCell ⟨w.heap.size, 5, none⟩ (.int .i64 0)).setCell ⟨w.heap.size, 6, none⟩ (.int .i64 0)).setCell ⟨w.heap.size, 8, none⟩ (.bool false)) = w7 at BX BR HB ⊢
  obtain ⟨⟨c0, c1, c2, c3, c4, c5, c6, c7, c8⟩, z0, z1, z2, z3, z4, z5, z6, z7, z8⟩ := tf_cells BX.out
  go_upto_region 9 with fail
  replace BX := Aside0.mk (show ((w7.setCell ⟨w.heap.size, 7, none⟩ (.string ⟨#[]⟩))).heap[w.heap.size]? = some (.cells #[.int .i64 K, .string i, .int .i64 Q, .int .i64 ST, .bool true, .int .i64 0, .int .i64 0, .string ⟨#[]⟩, .bool false] 28 (0, 0)) from (blk_set BX.out 7 (.string ⟨#[]⟩)))
  replace BR := Aside0.mk (show ((w7.setCell ⟨w.heap.size, 7, none⟩ (.string ⟨#[]⟩))).heap[w.heap.size + 1]? = _ from (blk_far BR.out (show w.heap.size + 1 ≠ w.heap.size by omega) (.string ⟨#[]⟩)))
  replace HB := Aside0.mk (show Below w.heap.size w (w7.setCell ⟨w.heap.size, 7, none⟩ (.string ⟨#[]⟩)) from (HB.out.setCell (Nat.le_refl _) (.string ⟨#[]⟩)))
  clear c0 c1 c2 c3 c4 c5 c6 c7 c8 z0 z1 z2 z3 z4 z5 z6 z7 z8
  generalize (w7.setCell ⟨w.heap.size, 7, none⟩ (.string ⟨#[]⟩)) = w8 at BX BR HB ⊢
  cases a0_8 with
  | true =>
   obtain ⟨⟨c0, c1, c2, c3, c4, c5, c6, c7, c8⟩, -⟩ := tf_cells BX.out
   obtain ⟨⟨d0, d1, d2, d3, d4, d5, d6, d7, d8⟩, y0, y1, y2, y3, y4, y5, y6, y7, y8⟩ := tf_cells BR.out
   go_wp2_with fail
   exact bodyPost_ret (results_cell_row rfl _ _ (w.heap.size + 1) 28 #[.int .i64 K, .string i, .int .i64 Q, .int .i64 ST, .bool true, .int .i64 0, .int .i64 0, .string ⟨#[]⟩, .bool false] (0, 0) _ rfl (blk_put9 BR.out _ _ _ _ _ _ _ _ _) hu rfl (by kernel_rfl)) rfl ⟨by first | rfl | (rw [htx]; rfl) | (simp only [htx]; rfl), below_put9 HB.out (Nat.le_succ _) _ _ _ _ _ _ _ _ _⟩
  | false =>
   obtain ⟨⟨c0, c1, c2, c3, c4, c5, c6, c7, c8⟩, -⟩ := tf_cells BX.out
   obtain ⟨⟨d0, d1, d2, d3, d4, d5, d6, d7, d8⟩, y0, y1, y2, y3, y4, y5, y6, y7, y8⟩ := tf_cells BR.out
   go_wp2_with fail
   exact bodyPost_ret (results_cell_row rfl _ _ (w.heap.size + 1) 28 #[.int .i64 K, .string i, .int .i64 Q, .int .i64 ST, .bool true, .int .i64 0, .int .i64 0, .string ⟨#[]⟩, .bool false] (0, 0) _ rfl (blk_put9 BR.out _ _ _ _ _ _ _ _ _) hu rfl (by kernel_rfl)) rfl ⟨by first | rfl | (rw [htx]; rfl) | (simp only [htx]; rfl), below_put9 HB.out (Nat.le_succ _) _ _ _ _ _ _ _ _ _⟩
 | false =>
  cases a0_8 with
  | true =>
   obtain ⟨⟨c0, c1, c2, c3, c4, c5, c6, c7, c8⟩, -⟩ := tf_cells BX.out
   obtain ⟨⟨d0, d1, d2, d3, d4, d5, d6, d7, d8⟩, y0, y1, y2, y3, y4, y5, y6, y7, y8⟩ := tf_cells BR.out
   go_wp2_with fail
   exact bodyPost_ret (results_cell_row rfl _ _ (w.heap.size + 1) 28 #[.int .i64 K, .string i, .int .i64 Q, .int .i64 ST, .bool false, .int .i64 px, .int .i64 py, .string tx, .bool true] (0, 0) _ rfl (blk_put9 BR.out _ _ _ _ _ _ _ _ _) hu rfl (by kernel_rfl)) rfl ⟨by first | rfl | (rw [htx]; rfl) | (simp only [htx]; rfl), below_put9 HB.out (Nat.le_succ _) _ _ _ _ _ _ _ _ _⟩
  | false =>
   obtain ⟨⟨c0, c1, c2, c3, c4, c5, c6, c7, c8⟩, z0, z1, z2, z3, z4, z5, z6, z7, z8⟩ := tf_cells BX.out
   go_upto_region 9 with fail
   replace BX := Aside0.mk (show ((w6.setCell ⟨w.heap.size, 7, none⟩ (.string ⟨#[]⟩))).heap[w.heap.size]? = some (.cells #[.int .i64 K, .string i, .int .i64 Q, .int .i64 ST, .bool false, .int .i64 px, .int .i64 py, .string ⟨#[]⟩, .bool false] 28 (0, 0)) from (blk_set BX.out 7 (.string ⟨#[]⟩)))
   replace BR := Aside0.mk (show ((w6.setCell ⟨w.heap.size, 7, none⟩ (.string ⟨#[]⟩))).heap[w.heap.size + 1]? = _ from (blk_far BR.out (show w.heap.size + 1 ≠ w.heap.size by omega) (.string ⟨#[]⟩)))
   replace HB := Aside0.mk (show Below w.heap.size w (w6.setCell ⟨w.heap.size, 7, none⟩ (.string ⟨#[]⟩)) from (HB.out.setCell (Nat.le_refl _) (.string ⟨#[]⟩)))
   clear c0 c1 c2 c3 c4 c5 c6 c7 c8 z0 z1 z2 z3 z4 z5 z6 z7 z8
   generalize (w6.setCell ⟨w.heap.size, 7, none⟩ (.string ⟨#[]⟩)) = w8 at BX BR HB ⊢
   obtain ⟨⟨c0, c1, c2, c3, c4, c5, c6, c7, c8⟩, -⟩ := tf_cells BX.out
   obtain ⟨⟨d0, d1, d2, d3, d4, d5, d6, d7, d8⟩, y0, y1, y2, y3, y4, y5, y6, y7, y8⟩ := tf_cells BR.out
   go_wp2_with fail
   exact bodyPost_ret (results_cell_row rfl _ _ (w.heap.size + 1) 28 #[.int .i64 K, .string i, .int .i64 Q, .int .i64 ST, .bool false, .int .i64 px, .int .i64 py, .string ⟨#[]⟩, .bool false] (0, 0) _ rfl (blk_put9 BR.out _ _ _ _ _ _ _ _ _) hu rfl (by kernel_rfl)) rfl ⟨by first | rfl | (rw [htx]; rfl) | (simp only [htx]; rfl), below_put9 HB.out (Nat.le_succ _) _ _ _ _ _ _ _ _ _⟩

/-! ### cenotaphref01_Compare: function 46 -/
theorem zq46_0 {p_ : Prop} (h_ : p_ := by first | (with_reducible assumption) | assumption) : p_ := h_
theorem zq46_1 {p_ : Prop} (h_ : p_ := by first | rfl | (simp; done) | (simp [*]; done)) : p_ := h_
mutual
def cenotaphref01_Compare.l0 : Nat → ByteArray → ByteArray → Int → Option (Int)
 | 0, _, _, _ => none
 | k + 1, x0, x1, x5 => if x5 < (x0.size : Int) then (cenotaphref01_Compare.j1 k x0 x1 x5 (decide (x5 < (x1.size : Int)))) else (cenotaphref01_Compare.j1 k x0 x1 x5 false)
def cenotaphref01_Compare.j1 : Nat → ByteArray → ByteArray → Int → Bool → Option (Int)
 | 0, _, _, _, _ => none
 | k + 1, x0, x1, x5, x15 => if x15 = true then (if 0 ≤ x5 then (if x5 < (x0.size : Int) then (if x5 < (x1.size : Int) then (if (bt x0 x5) < (bt x1 x5) then (some (-1)) else (if (bt x0 x5) > (bt x1 x5) then (some 1) else (cenotaphref01_Compare.l0 k x0 x1 (wrap64 (x5 + 1))))) else (none)) else (none)) else (none)) else (if (x0.size : Int) < (x1.size : Int) then (some (-1)) else (if (x0.size : Int) > (x1.size : Int) then (some 1) else (some 0)))
end
def cenotaphref01_Compare.f (k : Nat) (a0 : ByteArray) (a1 : ByteArray) : Option (Int) := cenotaphref01_Compare.l0 k a0 a1 0
theorem cenotaphref01_Compare.mono_l : ∀ k, (∀ y0 y1 y2, LeO (cenotaphref01_Compare.l0 k y0 y1 y2) (cenotaphref01_Compare.l0 (k + 1) y0 y1 y2)) ∧ (∀ y0 y1 y2 y3, LeO (cenotaphref01_Compare.j1 k y0 y1 y2 y3) (cenotaphref01_Compare.j1 (k + 1) y0 y1 y2 y3))
 | 0 => ⟨fun _ _ _ r h => by simp [cenotaphref01_Compare.l0] at h, fun _ _ _ _ r h => by simp [cenotaphref01_Compare.j1] at h⟩
 | k + 1 => by
  obtain ⟨ih0, ih1⟩ := cenotaphref01_Compare.mono_l k
  refine ⟨?_, ?_⟩
  ·intro y0 y1 y2
   unfold cenotaphref01_Compare.l0
   repeat' first
   | (with_reducible exact ih0 _ _ _)
   | (with_reducible exact ih1 _ _ _ _)
   | (with_reducible exact LeO.refl _)
   | (with_reducible exact LeO.none _)
   | (with_reducible refine LeO.ite ?_ ?_)
   | (with_reducible refine LeO.bind ?_ (fun _ => ?_))
   | exact ih0 _ _ _
   | exact ih1 _ _ _ _
   | exact LeO.none _
   | refine LeO.ite ?_ ?_
   | refine LeO.bind ?_ (fun _ => ?_)
  ·intro y0 y1 y2 y3
   unfold cenotaphref01_Compare.j1
   repeat' first
   | (with_reducible exact ih0 _ _ _)
   | (with_reducible exact ih1 _ _ _ _)
   | (with_reducible exact LeO.refl _)
   | (with_reducible exact LeO.none _)
   | (with_reducible refine LeO.ite ?_ ?_)
   | (with_reducible refine LeO.bind ?_ (fun _ => ?_))
   | exact ih0 _ _ _
   | exact ih1 _ _ _ _
   | exact LeO.none _
   | refine LeO.ite ?_ ?_
   | refine LeO.bind ?_ (fun _ => ?_)
theorem cenotaphref01_Compare.mono : ∀ a0 a1 k, LeO (cenotaphref01_Compare.f k a0 a1) (cenotaphref01_Compare.f (k + 1) a0 a1) := by
 intro a0 a1 k
 obtain ⟨ih0, ih1⟩ := cenotaphref01_Compare.mono_l k
 unfold cenotaphref01_Compare.f
 repeat' first
   | (with_reducible exact ih0 _ _ _)
   | (with_reducible exact ih1 _ _ _ _)
   | (with_reducible exact LeO.refl _)
   | (with_reducible exact LeO.none _)
   | (with_reducible refine LeO.ite ?_ ?_)
   | (with_reducible refine LeO.bind ?_ (fun _ => ?_))
   | exact ih0 _ _ _
   | exact ih1 _ _ _ _
   | exact LeO.none _
   | refine LeO.ite ?_ ?_
   | refine LeO.bind ?_ (fun _ => ?_)
set_option maxHeartbeats 8000000 in
set_option maxRecDepth 100000 in
theorem cenotaphref01_Compare.calls (k : Nat) (a0 : ByteArray) (a1 : ByteArray) (r : Int) (w : World) (h : cenotaphref01_Compare.f k a0 a1 = some r) :
  Calls Try.prog 46 #[.string a0, .string a1] w fun e w' => e = .returned (.int .i64 r) ∧ Drawn0 w w' := by
 have H : (cenotaphref01_Compare.l0 k a0 a1 0) = some r := h
 clear h
 have H' := Aside0.mk H
 clear H
 go_enter Try.func46, Try.ntmps46
 go_wp2
 repeat (go_quiet (fail); try go_wp2)
 go_loopg [5] k (fun kq v5 w' => ∃ (x5_1 : Int), v5 = .int .i64 x5_1 ∧ Aside0 (cenotaphref01_Compare.l0 kq a0 a1 x5_1 = some r) ∧ Aside0 (kq ≤ k) ∧ Drawn0 w w')
 case atStart => exact ⟨(0), zq46_1, H', ⟨Nat.le_refl _⟩, by repeat (first | exact Drawn0.refl _ | apply Drawn0.step)⟩
 case round =>
  clear H'
  try clear p2
  obtain ⟨x5_1, rfl, HA, HK1, ⟨m1, rfl⟩⟩ := hrel
  cases gk with
  | zero => exact absurd HA.out (by simp [cenotaphref01_Compare.l0])
  | succ k1 =>
   have H := HA.out
   clear HA
   simp only [cenotaphref01_Compare.l0] at H
   have HC3 := Aside0.mk H
   clear H
   go_upto_region 2 with (fail)
   repeat (go_quiet (fail); go_upto_region 2 with (fail))
   go_cut [15] (fun v15 wc => ∃ (kq : Nat) (x15_2 : Bool), v15 = .bool x15_2 ∧ Aside0 (cenotaphref01_Compare.j1 kq a0 a1 x5_1 x15_2 = some r) ∧ Aside0 (kq ≤ k1) ∧ Drawn0 w wc)
   case first =>
    have H := HC3.out
    clear HC3
    by_cases c4 : x5_1 < (a0.size : Int)
    ·rw [if_pos c4] at H
     have c4b0 : decide (x5_1 < (a0.size : Int)) = true := decide_eq_true c4
     clear c4
     (first | rw [c4b0] | (simp only [i64_w, i32_w]; rw [c4b0]) | skip)
     have H' := Aside0.mk H
     clear H
     go_wp2
     repeat (go_quiet (fail); try go_wp2)
     go_meet
     case rel => exact ⟨_, (decide (x5_1 < (a1.size : Int))), zq46_1, H', ⟨by have := HK1.out; first | omega | exact Nat.le_refl _⟩, by repeat (first | exact Drawn0.refl _ | apply Drawn0.step)⟩
    ·rw [if_neg c4] at H
     have c4b0 : decide (x5_1 < (a0.size : Int)) = false := decide_eq_false c4
     clear c4
     (first | rw [c4b0] | (simp only [i64_w, i32_w]; rw [c4b0]) | skip)
     have H' := Aside0.mk H
     clear H
     go_wp2
     repeat (go_quiet (fail); try go_wp2)
     go_meet
     case rel => exact ⟨_, (false), zq46_1, H', ⟨by have := HK1.out; first | omega | exact Nat.le_refl _⟩, by repeat (first | exact Drawn0.refl _ | apply Drawn0.step)⟩
   case rest =>
    clear HC3
    try clear p2
    try clear c4
    try clear c4b0
    try clear p2
    obtain ⟨kq, x15_2, rfl, HA, HJ2, ⟨mc2, rfl⟩⟩ := hcut
    cases kq with
    | zero => exact absurd HA.out (by simp [cenotaphref01_Compare.j1])
    | succ kj2 =>
     have H := HA.out
     clear HA
     simp only [cenotaphref01_Compare.j1] at H
     by_cases c5 : x15_2 = true
     ·subst c5
      have H1 : (if 0 ≤ x5_1 then (if x5_1 < (a0.size : Int) then (if x5_1 < (a1.size : Int) then (if (bt a0 x5_1) < (bt a1 x5_1) then (some (-1)) else (if (bt a0 x5_1) > (bt a1 x5_1) then (some 1) else (cenotaphref01_Compare.l0 kj2 a0 a1 (wrap64 (x5_1 + 1))))) else (none)) else (none)) else (none)) = some r := by rw [if_pos rfl] at H; exact H
      clear H
      have H := H1
      clear H1
      by_cases c6 : 0 ≤ x5_1
      ·rw [if_pos c6] at H
       have c6b0 : decide (0 ≤ x5_1) = true := decide_eq_true c6
       clear c6
       by_cases c7 : x5_1 < (a0.size : Int)
       ·rw [if_pos c7] at H
        have c7b0 : decide (x5_1 < (a0.size : Int)) = true := decide_eq_true c7
        clear c7
        by_cases c9 : x5_1 < (a1.size : Int)
        ·rw [if_pos c9] at H
         have c9b0 : decide (x5_1 < (a1.size : Int)) = true := decide_eq_true c9
         clear c9
         by_cases c11 : (bt a0 x5_1) < (bt a1 x5_1)
         ·rw [if_pos c11] at H
          have c11b0 : decide ((bt a0 x5_1) < (bt a1 x5_1)) = true := decide_eq_true c11
          clear c11
          obtain rfl := Option.some.inj H
          have p8 : 0 ≤ (x5_1 : Int) := of_decide_eq_true zq46_0
          have q8 : x5_1 < (a0.size : Int) := of_decide_eq_true zq46_0
          have hx8 := bt_at a0 x5_1
          replace p8 := eq_true p8
          replace q8 := eq_true q8
          have p10 : 0 ≤ (x5_1 : Int) := of_decide_eq_true zq46_0
          have q10 : x5_1 < (a1.size : Int) := of_decide_eq_true zq46_0
          have hx10 := bt_at a1 x5_1
          replace p10 := eq_true p10
          replace q10 := eq_true q10
          go_wp2
          repeat (go_quiet (fail); try go_wp2)
          go_ret
          exact ⟨by first | rfl | (simp; done) | (simp [*]; done), by repeat (first | exact Drawn0.refl _ | apply Drawn0.step)⟩
         ·rw [if_neg c11] at H
          have c11b0 : decide ((bt a0 x5_1) < (bt a1 x5_1)) = false := decide_eq_false c11
          clear c11
          by_cases c14 : (bt a0 x5_1) > (bt a1 x5_1)
          ·rw [if_pos c14] at H
           have c14b0 : decide ((bt a1 x5_1) < (bt a0 x5_1)) = true := decide_eq_true c14
           clear c14
           obtain rfl := Option.some.inj H
           have p8 : 0 ≤ (x5_1 : Int) := of_decide_eq_true zq46_0
           have q8 : x5_1 < (a0.size : Int) := of_decide_eq_true zq46_0
           have hx8 := bt_at a0 x5_1
           replace p8 := eq_true p8
           replace q8 := eq_true q8
           have p10 : 0 ≤ (x5_1 : Int) := of_decide_eq_true zq46_0
           have q10 : x5_1 < (a1.size : Int) := of_decide_eq_true zq46_0
           have hx10 := bt_at a1 x5_1
           replace p10 := eq_true p10
           replace q10 := eq_true q10
           have p12 : 0 ≤ (x5_1 : Int) := of_decide_eq_true zq46_0
           have q12 : x5_1 < (a0.size : Int) := of_decide_eq_true zq46_0
           have hx12 := bt_at a0 x5_1
           replace p12 := eq_true p12
           replace q12 := eq_true q12
           have p13 : 0 ≤ (x5_1 : Int) := of_decide_eq_true zq46_0
           have q13 : x5_1 < (a1.size : Int) := of_decide_eq_true zq46_0
           have hx13 := bt_at a1 x5_1
           replace p13 := eq_true p13
           replace q13 := eq_true q13
           go_wp2
           repeat (go_quiet (fail); try go_wp2)
           go_ret
           exact ⟨by first | rfl | (simp; done) | (simp [*]; done), by repeat (first | exact Drawn0.refl _ | apply Drawn0.step)⟩
          ·rw [if_neg c14] at H
           have c14b0 : decide ((bt a1 x5_1) < (bt a0 x5_1)) = false := decide_eq_false c14
           clear c14
           have H' := Aside0.mk H
           clear H
           have p8 : 0 ≤ (x5_1 : Int) := of_decide_eq_true zq46_0
           have q8 : x5_1 < (a0.size : Int) := of_decide_eq_true zq46_0
           have hx8 := bt_at a0 x5_1
           replace p8 := eq_true p8
           replace q8 := eq_true q8
           have p10 : 0 ≤ (x5_1 : Int) := of_decide_eq_true zq46_0
           have q10 : x5_1 < (a1.size : Int) := of_decide_eq_true zq46_0
           have hx10 := bt_at a1 x5_1
           replace p10 := eq_true p10
           replace q10 := eq_true q10
           have p12 : 0 ≤ (x5_1 : Int) := of_decide_eq_true zq46_0
           have q12 : x5_1 < (a0.size : Int) := of_decide_eq_true zq46_0
           have hx12 := bt_at a0 x5_1
           replace p12 := eq_true p12
           replace q12 := eq_true q12
           have p13 : 0 ≤ (x5_1 : Int) := of_decide_eq_true zq46_0
           have q13 : x5_1 < (a1.size : Int) := of_decide_eq_true zq46_0
           have hx13 := bt_at a1 x5_1
           replace p13 := eq_true p13
           replace q13 := eq_true q13
           go_wp2
           repeat (go_quiet (fail); try go_wp2)
           go_roundg kj2
           case measure => have := HK1.out; have := HJ2.out; omega
           case rel => exact ⟨(wrap64 (x5_1 + 1)), zq46_1, H', ⟨by have := HK1.out; have := HJ2.out; omega⟩, by repeat (first | exact Drawn0.refl _ | apply Drawn0.step)⟩
        ·rw [if_neg c9] at H
         exact absurd H (by simp)
       ·rw [if_neg c7] at H
        exact absurd H (by simp)
      ·rw [if_neg c6] at H
       exact absurd H (by simp)
     ·replace c5 := Bool.eq_false_iff.mpr c5
      subst c5
      have H1 : (if (a0.size : Int) < (a1.size : Int) then (some (-1)) else (if (a0.size : Int) > (a1.size : Int) then (some 1) else (some 0))) = some r := by rw [if_neg (show ¬ (false = true) by decide)] at H; exact H
      clear H
      have H := H1
      clear H1
      by_cases c15 : (a0.size : Int) < (a1.size : Int)
      ·rw [if_pos c15] at H
       have c15b0 : decide ((a0.size : Int) < (a1.size : Int)) = true := decide_eq_true c15
       have c15b1 : decide (a0.size < a1.size) = true := decide_eq_true (Int.ofNat_lt.mp c15)
       clear c15
       obtain rfl := Option.some.inj H
       go_wp2
       repeat (go_quiet (fail); try go_wp2)
       go_ret
       exact ⟨by first | rfl | (simp; done) | (simp [*]; done), by repeat (first | exact Drawn0.refl _ | apply Drawn0.step)⟩
      ·rw [if_neg c15] at H
       have c15b0 : decide ((a0.size : Int) < (a1.size : Int)) = false := decide_eq_false c15
       have c15b1 : decide (a0.size < a1.size) = false := decide_eq_false (fun h => c15 (Int.ofNat_lt.mpr h))
       clear c15
       by_cases c16 : (a0.size : Int) > (a1.size : Int)
       ·rw [if_pos c16] at H
        have c16b0 : decide ((a1.size : Int) < (a0.size : Int)) = true := decide_eq_true c16
        have c16b1 : decide (a1.size < a0.size) = true := decide_eq_true (Int.ofNat_lt.mp c16)
        clear c16
        obtain rfl := Option.some.inj H
        go_wp2
        repeat (go_quiet (fail); try go_wp2)
        go_ret
        exact ⟨by first | rfl | (simp; done) | (simp [*]; done), by repeat (first | exact Drawn0.refl _ | apply Drawn0.step)⟩
       ·rw [if_neg c16] at H
        have c16b0 : decide ((a1.size : Int) < (a0.size : Int)) = false := decide_eq_false c16
        have c16b1 : decide (a1.size < a0.size) = false := decide_eq_false (fun h => c16 (Int.ofNat_lt.mpr h))
        clear c16
        obtain rfl := Option.some.inj H
        go_wp2
        repeat (go_quiet (fail); try go_wp2)
        go_ret
        exact ⟨by first | rfl | (simp; done) | (simp [*]; done), by repeat (first | exact Drawn0.refl _ | apply Drawn0.step)⟩

/-! ### cenotaphref07_Newer: function 24 -/
theorem zq24_0 {p_ : Prop} (h_ : p_ := by rw [hg]; exact Nat.ne_of_lt (blk_lt (g := gb111) (o := .cells #[.string a0_0, .int .i64 a0_1, .int .i64 a0_2] 24 (0, 0)) (by (with_reducible repeat (first | refine blk_drewN ?_ _ | refine blk_drew ?_ | refine blk_alloc ?_ _)); exact BK111.out))) : p_ := h_
theorem zq24_1 {p_ : Prop} (h_ : p_ := by rw [hg]; exact Nat.ne_of_gt (blk_lt (g := gb111) (o := .cells #[.string a0_0, .int .i64 a0_1, .int .i64 a0_2] 24 (0, 0)) (by (with_reducible repeat (first | refine blk_drewN ?_ _ | refine blk_drew ?_ | refine blk_alloc ?_ _)); exact BK111.out))) : p_ := h_
theorem zq24_2 {p_ : Prop} (h_ : p_ := by rw [hg]; exact (below_size (by repeat (first | (with_reducible first | exact HB.out | apply below_alloc | apply pw_below_drewN | apply below_drew1 | refine below_set ?_ GE111.out) | exact HB.out)))) : p_ := h_
theorem zq24_3 {p_ : Prop} (h_ : p_ := by rw [hg]; exact (below_size (by repeat (first | (with_reducible first | exact HB.out | apply below_alloc | apply pw_below_drewN | apply below_drew1) | exact HB.out)))) : p_ := h_
theorem zq24_4 {p_ : Prop} (h_ : p_ := by repeat (first | (with_reducible first | exact HB.out | apply below_alloc | apply pw_below_drewN | apply below_drew1 | refine below_set ?_ GE111.out) | exact HB.out)) : p_ := h_
theorem zq24_5 {p_ : Prop} (h_ : p_ := by repeat (first | (with_reducible first | exact HB.out | apply below_alloc | apply pw_below_drewN | apply below_drew1) | exact HB.out)) : p_ := h_
theorem zq24_6 {p_ : Prop} (h_ : p_ := by (with_reducible repeat (first | refine blk_drewN ?_ _ | refine blk_drew ?_ | refine blk_alloc ?_ _)); exact BK111.out) : p_ := h_
def cenotaphref07_Newer.f (k : Nat) (a0_0 : ByteArray) (a0_1 : Int) (a0_2 : Int) (a1_0 : ByteArray) (a1_1 : Int) (a1_2 : Int) : Option (Bool) := if a0_2 > a1_2 then (some true) else (if a0_2 = a1_2 then ((cenotaphref01_Compare.f k a0_0 a1_0).bind fun t113 => (some (decide (t113 > 0)))) else (some false))
theorem cenotaphref07_Newer.mono : ∀ a0 a1 a2 a3 a4 a5 k, LeO (cenotaphref07_Newer.f k a0 a1 a2 a3 a4 a5) (cenotaphref07_Newer.f (k + 1) a0 a1 a2 a3 a4 a5) := by
 intro a0 a1 a2 a3 a4 a5 k
 unfold cenotaphref07_Newer.f
 repeat' first
   | (with_reducible exact cenotaphref01_Compare.mono _ _ _)
   | (with_reducible exact LeO.refl _)
   | (with_reducible exact LeO.none _)
   | (with_reducible refine LeO.ite ?_ ?_)
   | (with_reducible refine LeO.bind ?_ (fun _ => ?_))
   | exact cenotaphref01_Compare.mono _ _ _
   | exact LeO.none _
   | refine LeO.ite ?_ ?_
   | refine LeO.bind ?_ (fun _ => ?_)
set_option maxHeartbeats 8000000 in
set_option maxRecDepth 100000 in
theorem cenotaphref07_Newer.calls (k : Nat) (a0_0 : ByteArray) (a0_1 : Int) (a0_2 : Int) (a1_0 : ByteArray) (a1_1 : Int) (a1_2 : Int) (r : Bool) (w : World) (h : cenotaphref07_Newer.f k a0_0 a0_1 a0_2 a1_0 a1_1 a1_2 = some r) :
  Calls Try.prog 24 #[.agg #[.string a0_0, .int .i64 a0_1, .int .i64 a0_2], .agg #[.string a1_0, .int .i64 a1_1, .int .i64 a1_2]] w fun e w' => e = .returned (.bool r) ∧ Below w.heap.size w w' := by
 have hu24 := Try.underlying24
 have HB := Aside0.mk (Below.refl w.heap.size w)
 have H : (if a0_2 > a1_2 then (some true) else (if a0_2 = a1_2 then ((cenotaphref01_Compare.f k a0_0 a1_0).bind fun t113 => (some (decide (t113 > 0)))) else (some false))) = some r := h
 clear h
 by_cases c3 : a0_2 > a1_2
 ·rw [if_pos c3] at H
  have c3b0 : decide (a1_2 < a0_2) = true := decide_eq_true c3
  clear c3
  obtain rfl := Option.some.inj H
  go_enter Try.func24, Try.ntmps24
  go_wp2_with (first | ((with_reducible refine gate_dst (N := 2) rfl ?_); refine box_event ?hg (N := 2) ?hd (cs := #[.string a0_0, .int .i64 a0_1, .int .i64 a0_2]) (t := 24) ?hr ?_; (case hd => rfl); (case hg => rfl); (case hr => first | (go_simp; done) | (go_simp; rfl)); intro gb111 hg w4 hbox hb; have BK111 := Aside0.mk (hbox); have GW111 := Aside0.mk ((zq24_3 : w.heap.size ≤ gb111)); have GE111 := Aside0.mk ((zq24_3 : w.heap.size ≤ gb111)); replace HB := Aside0.mk (below_step zq24_5 hb); clear hb hbox hg) | ((with_reducible refine gate_dst (N := 3) rfl ?_); refine box_event ?hg (N := 3) ?hd (cs := #[.string a1_0, .int .i64 a1_1, .int .i64 a1_2]) (t := 24) ?hr ?_; (case hd => rfl); (case hg => rfl); (case hr => first | (go_simp; done) | (go_simp; rfl)); intro gb112 hg w5 hbox hb; have BK112 := Aside0.mk (hbox); have GW112 := Aside0.mk ((zq24_2 : w.heap.size ≤ gb112)); have GE112 := Aside0.mk ((zq24_2 : w.heap.size ≤ gb112)); replace HB := Aside0.mk (below_step zq24_4 hb); have NB111_112 := Aside0.mk ((zq24_0 : gb111 ≠ gb112)); have NB112_111 := Aside0.mk ((zq24_1 : gb112 ≠ gb111)); replace BK111 := Aside0.mk (blk_below (g := gb111) (o := .cells #[.string a0_0, .int .i64 a0_1, .int .i64 a0_2] 24 (0, 0)) zq24_6 hb); clear hb hbox hg; have hnb6 := NB111_112.out; have hnc6 := NB112_111.out; have hcz7_0 : w5.cell? ⟨gb111, 0, none⟩ = some (.string a0_0) := (blk_cell BK111.out 0).trans rfl; have hcz7_1 : w5.cell? ⟨gb111, 1, none⟩ = some (.int .i64 a0_1) := (blk_cell BK111.out 1).trans rfl; have hcz7_2 : w5.cell? ⟨gb111, 2, none⟩ = some (.int .i64 a0_2) := (blk_cell BK111.out 2).trans rfl; have hfz7_0 := blk_frozen BK111.out 0; have hfz7_1 := blk_frozen BK111.out 1; have hfz7_2 := blk_frozen BK111.out 2; have hcz8_0 : w5.cell? ⟨gb112, 0, none⟩ = some (.string a1_0) := (blk_cell BK112.out 0).trans rfl; have hcz8_1 : w5.cell? ⟨gb112, 1, none⟩ = some (.int .i64 a1_1) := (blk_cell BK112.out 1).trans rfl; have hcz8_2 : w5.cell? ⟨gb112, 2, none⟩ = some (.int .i64 a1_2) := (blk_cell BK112.out 2).trans rfl; have hfz8_0 := blk_frozen BK112.out 0; have hfz8_1 := blk_frozen BK112.out 1; have hfz8_2 := blk_frozen BK112.out 2))
  go_ret
  exact ⟨by first | rfl | (simp [errW_none, errW_some] <;> rfl) | (simp [*, errW_none, errW_some] <;> rfl), by repeat (first | (with_reducible first | exact HB.out | apply below_alloc | apply pw_below_drewN | apply below_drew1 | refine below_set ?_ GE111.out | refine below_set ?_ GE112.out) | exact HB.out)⟩
 ·rw [if_neg c3] at H
  have c3b0 : decide (a1_2 < a0_2) = false := decide_eq_false c3
  clear c3
  by_cases c9 : a0_2 = a1_2
  ·rw [if_pos c9] at H
   have c9b0 : (a0_2 == a1_2) = true := beq_iff_eq.mpr c9
   have c9b1 : (a0_2 != a1_2) = false := bne_eq_false_iff_eq.mpr c9
   clear c9
   replace H := Option.bind_eq_some_iff.mp H
   obtain ⟨t113, A100, H⟩ := H
   have A10 := Aside0.mk A100
   clear A100
   obtain rfl := Option.some.inj H
   go_enter Try.func24, Try.ntmps24
   go_wp2_with (first | ((with_reducible refine gate_dst (N := 2) rfl ?_); refine box_event ?hg (N := 2) ?hd (cs := #[.string a0_0, .int .i64 a0_1, .int .i64 a0_2]) (t := 24) ?hr ?_; (case hd => rfl); (case hg => rfl); (case hr => first | (go_simp; done) | (go_simp; rfl)); intro gb111 hg w11 hbox hb; have BK111 := Aside0.mk (hbox); have GW111 := Aside0.mk ((zq24_3 : w.heap.size ≤ gb111)); have GE111 := Aside0.mk ((zq24_3 : w.heap.size ≤ gb111)); replace HB := Aside0.mk (below_step zq24_5 hb); clear hb hbox hg) | ((with_reducible refine gate_dst (N := 3) rfl ?_); refine box_event ?hg (N := 3) ?hd (cs := #[.string a1_0, .int .i64 a1_1, .int .i64 a1_2]) (t := 24) ?hr ?_; (case hd => rfl); (case hg => rfl); (case hr => first | (go_simp; done) | (go_simp; rfl)); intro gb112 hg w12 hbox hb; have BK112 := Aside0.mk (hbox); have GW112 := Aside0.mk ((zq24_2 : w.heap.size ≤ gb112)); have GE112 := Aside0.mk ((zq24_2 : w.heap.size ≤ gb112)); replace HB := Aside0.mk (below_step zq24_4 hb); have NB111_112 := Aside0.mk ((zq24_0 : gb111 ≠ gb112)); have NB112_111 := Aside0.mk ((zq24_1 : gb112 ≠ gb111)); replace BK111 := Aside0.mk (blk_below (g := gb111) (o := .cells #[.string a0_0, .int .i64 a0_1, .int .i64 a0_2] 24 (0, 0)) zq24_6 hb); clear hb hbox hg; have hnb13 := NB111_112.out; have hnc13 := NB112_111.out; have hcz14_0 : w12.cell? ⟨gb111, 0, none⟩ = some (.string a0_0) := (blk_cell BK111.out 0).trans rfl; have hcz14_1 : w12.cell? ⟨gb111, 1, none⟩ = some (.int .i64 a0_1) := (blk_cell BK111.out 1).trans rfl; have hcz14_2 : w12.cell? ⟨gb111, 2, none⟩ = some (.int .i64 a0_2) := (blk_cell BK111.out 2).trans rfl; have hfz14_0 := blk_frozen BK111.out 0; have hfz14_1 := blk_frozen BK111.out 1; have hfz14_2 := blk_frozen BK111.out 2; have hcz15_0 : w12.cell? ⟨gb112, 0, none⟩ = some (.string a1_0) := (blk_cell BK112.out 0).trans rfl; have hcz15_1 : w12.cell? ⟨gb112, 1, none⟩ = some (.int .i64 a1_1) := (blk_cell BK112.out 1).trans rfl; have hcz15_2 : w12.cell? ⟨gb112, 2, none⟩ = some (.int .i64 a1_2) := (blk_cell BK112.out 2).trans rfl; have hfz15_0 := blk_frozen BK112.out 0; have hfz15_1 := blk_frozen BK112.out 1; have hfz15_2 := blk_frozen BK112.out 2) | (go_at_call 46; (with_reducible refine (cenotaphref01_Compare.calls k a0_0 a1_0 t113 _ A10.out).mono ?_); rintro e w' ⟨rfl, ⟨nd, rfl⟩⟩))
   go_ret
   exact ⟨by first | rfl | (simp [errW_none, errW_some] <;> rfl) | (simp [*, errW_none, errW_some] <;> rfl), by repeat (first | (with_reducible first | exact HB.out | apply below_alloc | apply pw_below_drewN | apply below_drew1 | refine below_set ?_ GE111.out | refine below_set ?_ GE112.out) | exact HB.out)⟩
  ·rw [if_neg c9] at H
   have c9b0 : (a0_2 == a1_2) = false := beq_eq_false_iff_ne.mpr c9
   have c9b1 : (a0_2 != a1_2) = true := bne_iff_ne.mpr c9
   obtain rfl := Option.some.inj H
   go_enter Try.func24, Try.ntmps24
   go_wp2_with (first | ((with_reducible refine gate_dst (N := 2) rfl ?_); refine box_event ?hg (N := 2) ?hd (cs := #[.string a0_0, .int .i64 a0_1, .int .i64 a0_2]) (t := 24) ?hr ?_; (case hd => rfl); (case hg => rfl); (case hr => first | (go_simp; done) | (go_simp; rfl)); intro gb111 hg w16 hbox hb; have BK111 := Aside0.mk (hbox); have GW111 := Aside0.mk ((zq24_3 : w.heap.size ≤ gb111)); have GE111 := Aside0.mk ((zq24_3 : w.heap.size ≤ gb111)); replace HB := Aside0.mk (below_step zq24_5 hb); clear hb hbox hg) | ((with_reducible refine gate_dst (N := 3) rfl ?_); refine box_event ?hg (N := 3) ?hd (cs := #[.string a1_0, .int .i64 a1_1, .int .i64 a1_2]) (t := 24) ?hr ?_; (case hd => rfl); (case hg => rfl); (case hr => first | (go_simp; done) | (go_simp; rfl)); intro gb112 hg w17 hbox hb; have BK112 := Aside0.mk (hbox); have GW112 := Aside0.mk ((zq24_2 : w.heap.size ≤ gb112)); have GE112 := Aside0.mk ((zq24_2 : w.heap.size ≤ gb112)); replace HB := Aside0.mk (below_step zq24_4 hb); have NB111_112 := Aside0.mk ((zq24_0 : gb111 ≠ gb112)); have NB112_111 := Aside0.mk ((zq24_1 : gb112 ≠ gb111)); replace BK111 := Aside0.mk (blk_below (g := gb111) (o := .cells #[.string a0_0, .int .i64 a0_1, .int .i64 a0_2] 24 (0, 0)) zq24_6 hb); clear hb hbox hg; have hnb18 := NB111_112.out; have hnc18 := NB112_111.out; have hcz19_0 : w17.cell? ⟨gb111, 0, none⟩ = some (.string a0_0) := (blk_cell BK111.out 0).trans rfl; have hcz19_1 : w17.cell? ⟨gb111, 1, none⟩ = some (.int .i64 a0_1) := (blk_cell BK111.out 1).trans rfl; have hcz19_2 : w17.cell? ⟨gb111, 2, none⟩ = some (.int .i64 a0_2) := (blk_cell BK111.out 2).trans rfl; have hfz19_0 := blk_frozen BK111.out 0; have hfz19_1 := blk_frozen BK111.out 1; have hfz19_2 := blk_frozen BK111.out 2; have hcz20_0 : w17.cell? ⟨gb112, 0, none⟩ = some (.string a1_0) := (blk_cell BK112.out 0).trans rfl; have hcz20_1 : w17.cell? ⟨gb112, 1, none⟩ = some (.int .i64 a1_1) := (blk_cell BK112.out 1).trans rfl; have hcz20_2 : w17.cell? ⟨gb112, 2, none⟩ = some (.int .i64 a1_2) := (blk_cell BK112.out 2).trans rfl; have hfz20_0 := blk_frozen BK112.out 0; have hfz20_1 := blk_frozen BK112.out 1; have hfz20_2 := blk_frozen BK112.out 2))
   go_ret
   exact ⟨by first | rfl | (simp [errW_none, errW_some] <;> rfl) | (simp [*, errW_none, errW_some] <;> rfl), by repeat (first | (with_reducible first | exact HB.out | apply below_alloc | apply pw_below_drewN | apply below_drew1 | refine below_set ?_ GE111.out | refine below_set ?_ GE112.out) | exact HB.out)⟩

/-! ### cenotaphlaw07_Ver: function 39 -/
def cenotaphlaw07_Ver.f (a0_0 : ByteArray) (a0_1 : Int) (a0_2 : Int) : Option (ByteArray × Int × Int) := some (a0_0, a0_1, a0_2)
set_option maxHeartbeats 8000000 in
set_option maxRecDepth 100000 in
theorem cenotaphlaw07_Ver.calls (a0_0 : ByteArray) (a0_1 : Int) (a0_2 : Int) (r1 : ByteArray) (r2 : Int) (r3 : Int) (w : World) (h : cenotaphlaw07_Ver.f a0_0 a0_1 a0_2 = some (r1, r2, r3)) :
    Calls Try.prog 39 #[.agg #[.string a0_0, .int .i64 a0_1, .int .i64 a0_2]] w fun e w' => e = .returned (.agg #[.string r1, .int .i64 r2, .int .i64 r3]) ∧ Below w.heap.size w w' := by
  have hu24 := Try.underlying24
  have hu38 := Try.underlying38
  have HB := Aside0.mk (Below.refl w.heap.size w)
  have H : (some (a0_0, a0_1, a0_2)) = some (r1, r2, r3) := h
  clear h
  simp only [Option.some.injEq, Prod.mk.injEq] at H
  obtain ⟨rfl, rfl, rfl⟩ := H
  go_enter Try.func39, Try.ntmps39
  go_wp2_with (first | ((with_reducible refine gate_dst (N := 1) rfl ?_); refine box_event ?hg (N := 1) ?hd (cs := #[.string a0_0, .int .i64 a0_1, .int .i64 a0_2]) (t := 24) ?hr ?_; (case hd => rfl); (case hg => rfl); (case hr => first | (go_simp; done) | (go_simp; rfl)); intro gb166 hg w2 hbox hb; have BK166 := Aside0.mk (hbox); have GW166 := Aside0.mk ((by rw [hg]; exact (below_size (by repeat (first | (with_reducible first | exact HB.out | apply below_alloc | apply pw_below_drewN | apply below_drew1) | exact HB.out))) : w.heap.size ≤ gb166)); have GE166 := Aside0.mk ((by rw [hg]; exact (below_size (by repeat (first | (with_reducible first | exact HB.out | apply below_alloc | apply pw_below_drewN | apply below_drew1) | exact HB.out))) : w.heap.size ≤ gb166)); replace HB := Aside0.mk (below_step (by repeat (first | (with_reducible first | exact HB.out | apply below_alloc | apply pw_below_drewN | apply below_drew1) | exact HB.out)) hb); clear hb hbox hg) | ((with_reducible refine gate_dst (N := 2) rfl ?_); refine box_event ?hg (N := 2) ?hd (cs := #[.string (⟨#[]⟩ : ByteArray), .int .i64 0, .int .i64 0]) (t := 38) ?hr ?_; (case hd => rfl); (case hg => rfl); (case hr => first | (go_simp; done) | (go_simp; rfl)); intro gb167 hg w3 hbox hb; have BK167 := Aside0.mk (hbox); have GW167 := Aside0.mk ((by rw [hg]; exact (below_size (by repeat (first | (with_reducible first | exact HB.out | apply below_alloc | apply pw_below_drewN | apply below_drew1 | refine below_set ?_ GE166.out) | exact HB.out))) : w.heap.size ≤ gb167)); have GE167 := Aside0.mk ((by rw [hg]; exact (below_size (by repeat (first | (with_reducible first | exact HB.out | apply below_alloc | apply pw_below_drewN | apply below_drew1 | refine below_set ?_ GE166.out) | exact HB.out))) : w.heap.size ≤ gb167)); replace HB := Aside0.mk (below_step (by repeat (first | (with_reducible first | exact HB.out | apply below_alloc | apply pw_below_drewN | apply below_drew1 | refine below_set ?_ GE166.out) | exact HB.out)) hb); have NB166_167 := Aside0.mk ((by rw [hg]; exact Nat.ne_of_lt (blk_lt (g := gb166) (o := .cells #[.string a0_0, .int .i64 a0_1, .int .i64 a0_2] 24 (0, 0)) (by (with_reducible repeat (first | refine blk_drewN ?_ _ | refine blk_drew ?_ | refine blk_alloc ?_ _)); exact BK166.out)) : gb166 ≠ gb167)); have NB167_166 := Aside0.mk ((by rw [hg]; exact Nat.ne_of_gt (blk_lt (g := gb166) (o := .cells #[.string a0_0, .int .i64 a0_1, .int .i64 a0_2] 24 (0, 0)) (by (with_reducible repeat (first | refine blk_drewN ?_ _ | refine blk_drew ?_ | refine blk_alloc ?_ _)); exact BK166.out)) : gb167 ≠ gb166)); replace BK166 := Aside0.mk (blk_below (g := gb166) (o := .cells #[.string a0_0, .int .i64 a0_1, .int .i64 a0_2] 24 (0, 0)) (by (with_reducible repeat (first | refine blk_drewN ?_ _ | refine blk_drew ?_ | refine blk_alloc ?_ _)); exact BK166.out) hb); clear hb hbox hg; have hnb4 := NB166_167.out; have hnc4 := NB167_166.out; have hcz5_0 : w3.cell? ⟨gb166, 0, none⟩ = some (.string a0_0) := (blk_cell BK166.out 0).trans rfl; have hcz5_1 : w3.cell? ⟨gb166, 1, none⟩ = some (.int .i64 a0_1) := (blk_cell BK166.out 1).trans rfl; have hcz5_2 : w3.cell? ⟨gb166, 2, none⟩ = some (.int .i64 a0_2) := (blk_cell BK166.out 2).trans rfl; have hfz5_0 := blk_frozen BK166.out 0; have hfz5_1 := blk_frozen BK166.out 1; have hfz5_2 := blk_frozen BK166.out 2; have hcz6_0 : w3.cell? ⟨gb167, 0, none⟩ = some (.string (⟨#[]⟩ : ByteArray)) := (blk_cell BK167.out 0).trans rfl; have hcz6_1 : w3.cell? ⟨gb167, 1, none⟩ = some (.int .i64 0) := (blk_cell BK167.out 1).trans rfl; have hcz6_2 : w3.cell? ⟨gb167, 2, none⟩ = some (.int .i64 0) := (blk_cell BK167.out 2).trans rfl; have hfz6_0 := blk_frozen BK167.out 0; have hfz6_1 := blk_frozen BK167.out 1; have hfz6_2 := blk_frozen BK167.out 2))
  refine bodyPost_ret (results_cell_row rfl _ _ gb167 38 #[.string a0_0, .int .i64 a0_1, .int .i64 a0_2] (0, 0) _ rfl (by (with_reducible repeat (first | refine blk_drewN ?_ _ | refine blk_drew ?_ | refine blk_alloc ?_ _)); refine blk_put (cs := #[.string a0_0, .int .i64 a0_1, .int .i64 0]) ?_ 2 _ rfl; (with_reducible repeat (first | refine blk_drewN ?_ _ | refine blk_drew ?_ | refine blk_alloc ?_ _)); refine blk_put (cs := #[.string a0_0, .int .i64 0, .int .i64 0]) ?_ 1 _ rfl; (with_reducible repeat (first | refine blk_drewN ?_ _ | refine blk_drew ?_ | refine blk_alloc ?_ _)); refine blk_put (cs := #[.string (⟨#[]⟩ : ByteArray), .int .i64 0, .int .i64 0]) ?_ 0 _ rfl; (with_reducible repeat (first | refine blk_drewN ?_ _ | refine blk_drew ?_ | refine blk_alloc ?_ _)); exact BK167.out) Try.underlying38 rfl (by kernel_rfl)) rfl ?_
  exact ⟨by first | rfl | (simp [errW_none, errW_some] <;> rfl) | (simp [*, errW_none, errW_some] <;> rfl), by repeat (first | (with_reducible first | exact HB.out | apply below_alloc | apply pw_below_drewN | apply below_drew1 | refine below_set ?_ GE166.out | refine below_set ?_ GE167.out) | exact HB.out)⟩

/-! ### cenotaphlaw05_Spot: function 40 -/
theorem it_spot (x y : Int) (w : World) : Calls Try.prog 40 #[.agg #[.int .i64 x, .int .i64 y]] w fun e w' => e = .returned (.complex .f64 (fl x) (fl y)) ∧ Below w.heap.size w w' := by
 go_enter Try.func40, Try.ntmps40
 go_wp2_with fail
 go_ret
 exact ⟨rfl, below_alloc (Below.refl _ _) _⟩
/-! ### cenotaphlaw07_To: function 12 -/
attribute [local go_sem] run_store_complex
set_option maxHeartbeats 8000000 in
set_option maxRecDepth 100000 in
theorem it_to (k : Int) (i : ByteArray) (q s : Int) (d : Bool) (x y : Int) (t : ByteArray) (h : Bool) (w : World) : Calls Try.prog 12 #[.agg (rfC k i q s d x y t h)] w fun e w' => e = .returned (.agg (itC k i q s d x y t h)) ∧ Below w.heap.size w w' := by
 have hu := Try.underlying41
 have hu2 := Try.underlying28
 have HLT := Aside0.mk (blk_lt (blk_new w (.cells (rfC k i q s d x y t h) 28)))
 have HB1 := Aside0.mk (below_alloc (Below.refl (w.alloc (.cells (rfC k i q s d x y t h) 28)).heap.size (w.alloc (.cells (rfC k i q s d x y t h) 28))) (.cells #[.int .i64 0, .string ⟨#[]⟩, .int .i64 0, .int .i64 0, .bool false, .complex .f64 0 0, .string ⟨#[]⟩, .bool false] 41))
 have BX := Aside0.mk (blk_below (blk_new w (.cells (rfC k i q s d x y t h) 28)) HB1.out)
 have BR := Aside0.mk (blk_new (w.alloc (.cells (rfC k i q s d x y t h) 28)) (.cells #[.int .i64 0, .string ⟨#[]⟩, .int .i64 0, .int .i64 0, .bool false, .complex .f64 0 0, .string ⟨#[]⟩, .bool false] 41))
 have HB := Aside0.mk (below_new (w := w) (.cells (rfC k i q s d x y t h) 28) (.cells #[.int .i64 0, .string ⟨#[]⟩, .int .i64 0, .int .i64 0, .bool false, .complex .f64 0 0, .string ⟨#[]⟩, .bool false] 41))
 have e : (w.alloc (.cells (rfC k i q s d x y t h) 28)).heap.size = w.heap.size + 1 := Array.size_push _
 rw [e] at BR
 clear e HB1 HLT
 go_enter Try.func12, Try.ntmps12
 go_upto_region 1 with fail
 generalize (w.alloc _).alloc _ = w1 at BX BR HB ⊢
 refine start_ (n := 16) (S := fun w' => w'.cell? ⟨w.heap.size, 0, none⟩ = some (.int .i64 k) ∧ w'.cell? ⟨w.heap.size, 1, none⟩ = some (.string i) ∧ w'.cell? ⟨w.heap.size, 2, none⟩ = some (.int .i64 q) ∧ w'.cell? ⟨w.heap.size, 3, none⟩ = some (.int .i64 s) ∧ w'.cell? ⟨w.heap.size, 4, none⟩ = some (.bool d) ∧ w'.cell? ⟨w.heap.size, 5, none⟩ = some (.int .i64 x) ∧ w'.cell? ⟨w.heap.size, 6, none⟩ = some (.int .i64 y) ∧ w'.cell? ⟨w.heap.size, 7, none⟩ = some (.string t) ∧ w'.cell? ⟨w.heap.size, 8, none⟩ = some (.bool h)) (ds := [15]) #[false, false, false, false, false, false, false, false, false, false, false, false, false, false, false, false] (by kernel_rfl) rfl rfl (ta_cells (blk_drew BX.out)) (fun hHeld => ?_)
 replace BX := Aside0.mk (blk_drew BX.out)
 replace BR := Aside0.mk (blk_drew BR.out)
 replace HB := Aside0.mk (below_drew1 HB.out)
 generalize w1.drew = w2 at BX BR HB hHeld ⊢
 refine p_ 0 3 (mk_ 16 0x1) ?_
 refine t_ 1 4 (mk_ 16 0x3) hHeld ?_
 refine p_ 2 5 (mk_ 16 0x7) ?_
 refine t_ 3 6 (mk_ 16 0xf) hHeld ?_
 refine p_ 5 8 (mk_ 16 0x2f) ?_
 refine t_ 6 9 (mk_ 16 0x6f) hHeld ?_
 refine p_ 7 10 (mk_ 16 0xef) ?_
 refine t_ 8 11 (mk_ 16 0x1ef) hHeld ?_
 refine p_ 10 13 (mk_ 16 0x5ef) ?_
 refine t_ 11 14 (mk_ 16 0xdef) hHeld ?_
 refine p_ 12 15 (mk_ 16 0x1def) ?_
 refine t_ 13 16 (mk_ 16 0x3def) hHeld ?_
 refine one_ (i := 4) (N := some 7) #[true, true, true, true, true, true, true, true, true, false, true, true, true, true, false, false] rfl rfl (by kernel_rfl) (by decide) (fun K hK => ?_)
 refine goes_ Try.func39 (by kernel_rfl) rfl #[.agg #[.string i, .int .i64 q, .int .i64 s]] (by rfl) rfl rfl (by (try simp only [List.map_toArray, List.map_cons, List.map_nil]); first | done | rfl) ?_
 refine (cenotaphlaw07_Ver.calls i q s i q s w2 rfl).mono ?_
 rintro ev w3 ⟨rfl, hb⟩
 refine ⟨_, rfl, ?_⟩
 replace BX := Aside0.mk (blk_below BX.out hb)
 replace BR := Aside0.mk (blk_below BR.out hb)
 replace HB := Aside0.mk (below_step HB.out hb)
 clear hb
 refine hK.out _ _ (ta_cells BX.out) (fun hHeld => ?_)
 clear hK K
 refine norm_ (a' := ?_) ?_ ?_
 rotate_left
 ·show Act.put _ (some 7) _ = _
  simp only [Act.put, List.setIfInBounds_toArray, List.set_cons_zero, List.set_cons_succ, i64_w, i32_w]
  rfl
 refine one_ (i := 9) (N := some 12) #[true, true, true, true, true, true, true, true, true, true, true, true, true, true, false, false] rfl rfl (by kernel_rfl) (by decide) (fun K hK => ?_)
 refine goes_ Try.func40 (by kernel_rfl) rfl #[.agg #[.int .i64 x, .int .i64 y]] (by rfl) rfl rfl (by (try simp only [List.map_toArray, List.map_cons, List.map_nil]); first | done | rfl) ?_
 refine (it_spot x y w3).mono ?_
 rintro ev w4 ⟨rfl, hb⟩
 refine ⟨_, rfl, ?_⟩
 replace BX := Aside0.mk (blk_below BX.out hb)
 replace BR := Aside0.mk (blk_below BR.out hb)
 replace HB := Aside0.mk (below_step HB.out hb)
 clear hb
 refine hK.out _ _ (ta_cells BX.out) (fun hHeld => ?_)
 clear hK K
 refine norm_ (a' := ?_) ?_ ?_
 rotate_left
 ·show Act.put _ (some 12) _ = _
  simp only [Act.put, List.setIfInBounds_toArray, List.set_cons_zero, List.set_cons_succ, i64_w, i32_w]
  rfl
 refine p_ 14 17 (mk_ 16 0x7fff) ?_
 refine last_ (i := 15) (N := none) #[true, true, true, true, true, true, true, true, true, true, true, true, true, true, true, true] rfl rfl (by kernel_rfl) (by decide) (fun K hK => ?_)
 obtain ⟨⟨c0, c1, c2, c3, c4, c5, c6, c7⟩, z0, z1, z2, z3, z4, z5, z6, z7⟩ := tk_cells BR.out
 refine skip_ (w1 := ?_) (by rfl) rfl ?_ ?_
 rotate_left
 ·go_simp
  rfl
 refine hK.out _ _ ?_
 clear hK K
 refine done_ (by kernel_rfl) ?_
 go_wp2_with fail
 exact bodyPost_ret (results_cell_row rfl _ _ (w.heap.size + 1) 41 (itC k i q s d x y t h) (0, 0) _ rfl (blk_put8 BR.out _ _ _ _ _ _ _ _) hu rfl (by kernel_rfl)) rfl ⟨rfl, below_put8 HB.out (Nat.le_succ _) _ _ _ _ _ _ _ _⟩
def cenotaphlaw07_To.f (a0_0 : Int) (a0_1 : ByteArray) (a0_2 : Int) (a0_3 : Int) (a0_4 : Bool) (a0_5 : Int) (a0_6 : Int) (a0_7 : ByteArray) (a0_8 : Bool) : Option (Int × ByteArray × Int × Int × Bool × Cx × ByteArray × Bool) := some (a0_0, a0_1, a0_2, a0_3, a0_4, cxOf a0_5 a0_6, a0_7, a0_8)
theorem cenotaphlaw07_To.calls (a0_0 : Int) (a0_1 : ByteArray) (a0_2 : Int) (a0_3 : Int) (a0_4 : Bool) (a0_5 : Int) (a0_6 : Int) (a0_7 : ByteArray) (a0_8 : Bool) (r1 : Int) (r2 : ByteArray) (r3 : Int) (r4 : Int) (r5 : Bool) (r6 : Cx) (r7 : ByteArray) (r8 : Bool) (w : World) (h : cenotaphlaw07_To.f a0_0 a0_1 a0_2 a0_3 a0_4 a0_5 a0_6 a0_7 a0_8 = some (r1, r2, r3, r4, r5, r6, r7, r8)) :
  Calls Try.prog 12 #[.agg #[.int .i64 a0_0, .string a0_1, .int .i64 a0_2, .int .i64 a0_3, .bool a0_4, .int .i64 a0_5, .int .i64 a0_6, .string a0_7, .bool a0_8]] w fun e w' => e = .returned (.agg #[.int .i64 r1, .string r2, .int .i64 r3, .int .i64 r4, .bool r5, .complex .f64 r6.re r6.im, .string r7, .bool r8]) ∧ Below w.heap.size w w' := by
 cases h
 exact it_to a0_0 a0_1 a0_2 a0_3 a0_4 a0_5 a0_6 a0_7 a0_8 w

/-! ### item_Item_35: function 35 -/
def item_Item_35.f (l0 : List (S41)) : Option ((List (S41))) := (some (([] : List (S41)) : List (S41))).bind fun y180 => (if y180.length + l0.length < 1599289640401 then (some (y180 ++ l0)) else (none))
set_option maxHeartbeats 8000000 in
set_option maxRecDepth 100000 in
theorem item_Item_35.calls_some (ad0 : Addr) (c0 : Nat) (l0 : List (S41)) (r : List (S41)) (w : World) (hr0 : Kd.C k41 w (some ad0) l0.length l0) (hc0 : l0.length ≤ c0) (h : item_Item_35.f l0 = some r) :
    Calls Try.prog 35 #[.slice (some ad0) l0.length c0] w fun e w' => ∃ v0_ : Value, e = .returned (v0_) ∧ Kd.R k41 41 w' w.heap.size (fun _ => True) v0_ r ∧ Below w.heap.size w w' := by
  have HR0 := Aside0.mk hr0
  have HC0 := Aside0.mk hc0
  clear hr0 hc0
  have HB := Aside0.mk (Below.refl w.heap.size w)
  have H : ((some (([] : List (S41)) : List (S41))).bind fun y180 => (if y180.length + l0.length < 1599289640401 then (some (y180 ++ l0)) else (none))) = some r := h
  clear h
  obtain ⟨y180, hy180⟩ : ∃ y_ : List (S41), y_ = (([] : List (S41))) := ⟨_, rfl⟩
  replace H : (if y180.length + l0.length < 1599289640401 then (some (y180 ++ l0)) else (none)) = some r := by first | (rw [hy180]; with_reducible exact H) | (have H2_ := (Option.bind_some _ _).symm.trans H; rw [hy180]; with_reducible exact H2_) | (have H2_ := (Option.bind_some _ _).symm.trans H; with_reducible exact H2_) | with_reducible exact H | (rw [hy180]; exact H) | exact H
  have Ny180 := Aside0.mk hy180
  clear hy180
  by_cases c2 : y180.length + l0.length < 1599289640401
  · rw [if_pos c2] at H
    have LMc2 := Aside0.mk c2
    clear c2
    obtain ⟨y183, hy183⟩ : ∃ y_ : List (S41), y_ = (y180 ++ l0) := ⟨_, rfl⟩
    replace H : (some y183) = some r := by first | (rw [hy183]; with_reducible exact H) | (have H2_ := (Option.bind_some _ _).symm.trans H; rw [hy183]; with_reducible exact H2_) | (have H2_ := (Option.bind_some _ _).symm.trans H; with_reducible exact H2_) | with_reducible exact H | (rw [hy183]; exact H) | exact H
    have Ny183 := Aside0.mk hy183
    clear hy183
    obtain rfl := Option.some.inj H
    have hnq_ : ∀ W : World, (binOp .eql 33 (.slice (some ad0) l0.length c0) (.slice none 0 0)).run Try.prog W = .ok (.bool ((some ad0) : Option Addr).isNone) W := fun W => by first | exact Lib.run_eql_slice_nil W 33 41 _ _ _ 0 0 Try.underlying33 | exact Lib.run_eql_slice_nil W 33 41 _ _ _ Try.underlying33
    go_enter Try.func35, Try.ntmps35
    go_wp2_with (first | ((with_reducible refine gate_dst (N := 5) rfl ?_); refine Kd.R_lit k41 _ 41 ?hg (N := 5) ?hd (xs := ([] : List (S41))) (inner := []) (ok := fun _ => True) (okp := fun _ => True) ?hr ?hp (fun _ hk => hk) trivial (Below.refl _ _) (Nat.le_refl _) (by simp) ?_; (case hd => rfl); (case hg => rfl); (case hr => first | (go_simp; done) | (go_simp; rfl)); (case hp => exact (Reps.none _ _)); intro v181 w3 ho4 hb hg_ hnew_; clear hg_ hnew_; (first | rw [← Ny180.out] at ho4 | (simp only [Int.reduceToNat] at ho4; rw [← Ny180.out] at ho4)); have HO182 := Aside0.mk (Kd.R_lower ho4 (below_size (by repeat (first | (with_reducible first | exact HB.out | apply below_alloc | apply pw_below_drewN | apply below_drew1) | exact HB.out)))); replace HB := Aside0.mk (below_step (by repeat (first | (with_reducible first | exact HB.out | apply below_alloc | apply pw_below_drewN | apply below_drew1) | exact HB.out)) hb); clear hb ho4) | ((with_reducible refine gate_builtin (b := .append) (xs := #[.tmp 5, .tmp 6]) rfl ?_); at_builtin; refine Kd.R_append_rows k41 (w0 := w) w.heap.size rfl (.tmp 5) (.tmp 6) 33 41 (.agg #[(.int .i64 0), (.string ⟨#[]⟩), (.int .i64 0), (.int .i64 0), (.bool false), (.complex .f64 0 0), (.string ⟨#[]⟩), (.bool false)]) 88 rfl Try.underlying33 info41 rfl (by decide) (by omega) v181 y180 l0 _ _ _ (fun _ => True) (fun _ => False) rfl rfl ?aO ?aR (fun _ _ h => h) (fun _ h => h.elim) ?aF ?aB ?aS ?aL ?_; (case aR => repeat (first | exact (Kd.C_below HR0.out HB.out) | (with_reducible refine Kd.C_alloc ?_ _) | (with_reducible refine Kd.C_drewN ?_ _) | (with_reducible refine Kd.C_drew ?_))); (case aB => exact (by repeat (first | (with_reducible first | exact HB.out | apply below_alloc | apply pw_below_drewN | apply below_drew1) | exact HB.out))); (case aF => exact (fun _ _ => trivial)); (case aO => exact (by (with_reducible repeat (first | apply Kd.R_alloc | apply Kd.R_drewN | apply Kd.R_drew)); exact HO182.out)); (case aS => exact (below_size (by repeat (first | (with_reducible first | exact HB.out | apply below_alloc | apply pw_below_drewN | apply below_drew1) | exact HB.out)))); (case aL => have := LMc2.out; omega); intro v184 w5 ho hb hg hat; rw [← Ny183.out] at ho; replace HB := Aside0.mk (hb); have HO185 := Aside0.mk (ho); clear HO182; clear ho hb hg hat))
    go_ret
    exact ⟨_, by first | rfl | (simp [errW_none, errW_some] <;> rfl) | (simp [*, errW_none, errW_some] <;> rfl), by (with_reducible repeat (first | apply Kd.R_alloc | apply Kd.R_drewN | apply Kd.R_drew)); exact HO185.out, by repeat (first | (with_reducible first | exact HB.out | apply below_alloc | apply pw_below_drewN | apply below_drew1) | exact HB.out)⟩
  · rw [if_neg c2] at H
    exact absurd H (by simp)

set_option maxHeartbeats 8000000 in
set_option maxRecDepth 100000 in
theorem item_Item_35.calls (A0 : Option Addr) (c0 : Nat) (l0 : List (S41)) (r : List (S41)) (w : World) (hr0 : Kd.C k41 w A0 l0.length l0) (hc0 : l0.length ≤ c0) (h : item_Item_35.f l0 = some r) :
    Calls Try.prog 35 #[.slice A0 l0.length c0] w fun e w' => ∃ v0_ : Value, e = .returned (v0_) ∧ Kd.R k41 41 w' w.heap.size (fun _ => True) v0_ r ∧ Below w.heap.size w w' := by
  cases A0 with
  | some ad0 => exact item_Item_35.calls_some ad0 c0 l0 r w hr0 hc0 h
  | none =>
    have hl : l0 = [] := by
      cases l0 with
      | nil => rfl
      | cons x t => obtain ⟨ad, e, _⟩ := hr0.2.2 (by simp); cases e
    subst hl
    have hr : r = [] := by simpa [item_Item_35.f] using h.symm
    subst hr
    clear h hr0
    have hnq_ : ∀ W : World, (binOp .eql 33 (.slice none 0 c0) (.slice none 0 0)).run Try.prog W = .ok (.bool (none : Option Addr).isNone) W := fun W => by first | exact Lib.run_eql_slice_nil W 33 41 _ _ _ 0 0 Try.underlying33 | exact Lib.run_eql_slice_nil W 33 41 _ _ _ Try.underlying33
    simp only [List.length_nil]
    go_enter Try.func35, Try.ntmps35
    go_wp2
    go_ret
    exact ⟨_, rfl, Kd.R_nil _ _ _ _ _, Below.refl _ _⟩

/-! ### cmp_isNaN_int: function 81 -/
def cmp_isNaN_int.f (a0 : Int) : Option (Bool) := some (a0 != a0)
set_option maxHeartbeats 8000000 in
set_option maxRecDepth 100000 in
theorem cmp_isNaN_int.calls (a0 : Int) (r : Bool) (w : World) (h : cmp_isNaN_int.f a0 = some r) :
    Calls Try.prog 81 #[.int .i64 a0] w fun e w' => e = .returned (.bool r) ∧ Drawn0 w w' := by
  have H : (some (a0 != a0)) = some r := h
  clear h
  obtain rfl := Option.some.inj H
  go_enter Try.func81, Try.ntmps81
  go_wp2
  go_ret
  exact ⟨by first | rfl | (simp; done) | (simp [*]; done), by repeat (first | exact Drawn0.refl _ | apply Drawn0.step)⟩

/-! ### cmp_Compare_int: function 64 -/
def cmp_Compare_int.f (a0 : Int) (a1 : Int) : Option (Int) := (cmp_isNaN_int.f a0).bind fun t186 => ((cmp_isNaN_int.f a1).bind fun t187 => (if t186 = true then (if t187 = true then (some 0) else (some (-1))) else (if t187 = true then (some 1) else (if a0 < a1 then (some (-1)) else (if a0 > a1 then (some 1) else (some 0))))))
set_option maxHeartbeats 8000000 in
set_option maxRecDepth 100000 in
theorem cmp_Compare_int.calls (a0 : Int) (a1 : Int) (r : Int) (w : World) (h : cmp_Compare_int.f a0 a1 = some r) :
    Calls Try.prog 64 #[.int .i64 a0, .int .i64 a1] w fun e w' => e = .returned (.int .i64 r) ∧ Drawn0 w w' := by
  have H := h
  unfold cmp_Compare_int.f at H
  clear h
  replace H := Option.bind_eq_some_iff.mp H
  obtain ⟨t186, A30, H⟩ := H
  have A3 := Aside0.mk A30
  clear A30
  replace H := Option.bind_eq_some_iff.mp H
  obtain ⟨t187, A40, H⟩ := H
  have A4 := Aside0.mk A40
  clear A40
  by_cases c5 : t186 = true
  · subst c5
    have H1 : (if t187 = true then (some 0) else (some (-1))) = some r := by rw [if_pos rfl] at H; exact H
    clear H
    have H := H1
    clear H1
    by_cases c6 : t187 = true
    · subst c6
      have H1 : (some 0) = some r := by rw [if_pos rfl] at H; exact H
      clear H
      have H := H1
      clear H1
      obtain rfl := Option.some.inj H
      go_enter Try.func64, Try.ntmps64
      go_wp2_with (first | ((with_reducible refine gate_callee (f := 81) rfl ?_); refine goesL_ (some 8) rfl rfl Try.func81 (by kernel_rfl) rfl #[.int .i64 a0] rfl (by (try simp only [List.map_toArray, List.map_cons, List.map_nil]); first | done | rfl | (simp only [List.length_drop, List.length_take]; rfl)) ?_; (with_reducible refine (cmp_isNaN_int.calls a0 true _ A3.out).mono ?_); rintro e w' ⟨rfl, ⟨nd, rfl⟩⟩; refine ⟨_, rfl, ?_⟩) | ((with_reducible refine gate_callee (f := 81) rfl ?_); refine goesL_ (some 10) rfl rfl Try.func81 (by kernel_rfl) rfl #[.int .i64 a1] rfl (by (try simp only [List.map_toArray, List.map_cons, List.map_nil]); first | done | rfl | (simp only [List.length_drop, List.length_take]; rfl)) ?_; (with_reducible refine (cmp_isNaN_int.calls a1 true _ A4.out).mono ?_); rintro e w' ⟨rfl, ⟨nd, rfl⟩⟩; refine ⟨_, rfl, ?_⟩))
      go_ret
      exact ⟨by first | rfl | (simp; done) | (simp [*]; done), by repeat (first | exact Drawn0.refl _ | apply Drawn0.step)⟩
    · replace c6 := Bool.eq_false_iff.mpr c6
      subst c6
      have H1 : (some (-1)) = some r := by rw [if_neg (show ¬ (false = true) by decide)] at H; exact H
      clear H
      have H := H1
      clear H1
      obtain rfl := Option.some.inj H
      go_enter Try.func64, Try.ntmps64
      go_wp2_with (first | ((with_reducible refine gate_callee (f := 81) rfl ?_); refine goesL_ (some 8) rfl rfl Try.func81 (by kernel_rfl) rfl #[.int .i64 a0] rfl (by (try simp only [List.map_toArray, List.map_cons, List.map_nil]); first | done | rfl | (simp only [List.length_drop, List.length_take]; rfl)) ?_; (with_reducible refine (cmp_isNaN_int.calls a0 true _ A3.out).mono ?_); rintro e w' ⟨rfl, ⟨nd, rfl⟩⟩; refine ⟨_, rfl, ?_⟩) | ((with_reducible refine gate_callee (f := 81) rfl ?_); refine goesL_ (some 10) rfl rfl Try.func81 (by kernel_rfl) rfl #[.int .i64 a1] rfl (by (try simp only [List.map_toArray, List.map_cons, List.map_nil]); first | done | rfl | (simp only [List.length_drop, List.length_take]; rfl)) ?_; (with_reducible refine (cmp_isNaN_int.calls a1 false _ A4.out).mono ?_); rintro e w' ⟨rfl, ⟨nd, rfl⟩⟩; refine ⟨_, rfl, ?_⟩))
      go_ret
      exact ⟨by first | rfl | (simp; done) | (simp [*]; done), by repeat (first | exact Drawn0.refl _ | apply Drawn0.step)⟩
  · replace c5 := Bool.eq_false_iff.mpr c5
    subst c5
    have H1 : (if t187 = true then (some 1) else (if a0 < a1 then (some (-1)) else (if a0 > a1 then (some 1) else (some 0)))) = some r := by rw [if_neg (show ¬ (false = true) by decide)] at H; exact H
    clear H
    have H := H1
    clear H1
    by_cases c7 : t187 = true
    · subst c7
      have H1 : (some 1) = some r := by rw [if_pos rfl] at H; exact H
      clear H
      have H := H1
      clear H1
      obtain rfl := Option.some.inj H
      go_enter Try.func64, Try.ntmps64
      go_wp2_with (first | ((with_reducible refine gate_callee (f := 81) rfl ?_); refine goesL_ (some 8) rfl rfl Try.func81 (by kernel_rfl) rfl #[.int .i64 a0] rfl (by (try simp only [List.map_toArray, List.map_cons, List.map_nil]); first | done | rfl | (simp only [List.length_drop, List.length_take]; rfl)) ?_; (with_reducible refine (cmp_isNaN_int.calls a0 false _ A3.out).mono ?_); rintro e w' ⟨rfl, ⟨nd, rfl⟩⟩; refine ⟨_, rfl, ?_⟩) | ((with_reducible refine gate_callee (f := 81) rfl ?_); refine goesL_ (some 10) rfl rfl Try.func81 (by kernel_rfl) rfl #[.int .i64 a1] rfl (by (try simp only [List.map_toArray, List.map_cons, List.map_nil]); first | done | rfl | (simp only [List.length_drop, List.length_take]; rfl)) ?_; (with_reducible refine (cmp_isNaN_int.calls a1 true _ A4.out).mono ?_); rintro e w' ⟨rfl, ⟨nd, rfl⟩⟩; refine ⟨_, rfl, ?_⟩))
      go_ret
      exact ⟨by first | rfl | (simp; done) | (simp [*]; done), by repeat (first | exact Drawn0.refl _ | apply Drawn0.step)⟩
    · replace c7 := Bool.eq_false_iff.mpr c7
      subst c7
      have H1 : (if a0 < a1 then (some (-1)) else (if a0 > a1 then (some 1) else (some 0))) = some r := by rw [if_neg (show ¬ (false = true) by decide)] at H; exact H
      clear H
      have H := H1
      clear H1
      by_cases c8 : a0 < a1
      · rw [if_pos c8] at H
        have c8b0 : decide (a0 < a1) = true := decide_eq_true c8
        clear c8
        obtain rfl := Option.some.inj H
        go_enter Try.func64, Try.ntmps64
        go_wp2_with (first | ((with_reducible refine gate_callee (f := 81) rfl ?_); refine goesL_ (some 8) rfl rfl Try.func81 (by kernel_rfl) rfl #[.int .i64 a0] rfl (by (try simp only [List.map_toArray, List.map_cons, List.map_nil]); first | done | rfl | (simp only [List.length_drop, List.length_take]; rfl)) ?_; (with_reducible refine (cmp_isNaN_int.calls a0 false _ A3.out).mono ?_); rintro e w' ⟨rfl, ⟨nd, rfl⟩⟩; refine ⟨_, rfl, ?_⟩) | ((with_reducible refine gate_callee (f := 81) rfl ?_); refine goesL_ (some 10) rfl rfl Try.func81 (by kernel_rfl) rfl #[.int .i64 a1] rfl (by (try simp only [List.map_toArray, List.map_cons, List.map_nil]); first | done | rfl | (simp only [List.length_drop, List.length_take]; rfl)) ?_; (with_reducible refine (cmp_isNaN_int.calls a1 false _ A4.out).mono ?_); rintro e w' ⟨rfl, ⟨nd, rfl⟩⟩; refine ⟨_, rfl, ?_⟩))
        go_ret
        exact ⟨by first | rfl | (simp; done) | (simp [*]; done), by repeat (first | exact Drawn0.refl _ | apply Drawn0.step)⟩
      · rw [if_neg c8] at H
        have c8b0 : decide (a0 < a1) = false := decide_eq_false c8
        clear c8
        by_cases c9 : a0 > a1
        · rw [if_pos c9] at H
          have c9b0 : decide (a1 < a0) = true := decide_eq_true c9
          clear c9
          obtain rfl := Option.some.inj H
          go_enter Try.func64, Try.ntmps64
          go_wp2_with (first | ((with_reducible refine gate_callee (f := 81) rfl ?_); refine goesL_ (some 8) rfl rfl Try.func81 (by kernel_rfl) rfl #[.int .i64 a0] rfl (by (try simp only [List.map_toArray, List.map_cons, List.map_nil]); first | done | rfl | (simp only [List.length_drop, List.length_take]; rfl)) ?_; (with_reducible refine (cmp_isNaN_int.calls a0 false _ A3.out).mono ?_); rintro e w' ⟨rfl, ⟨nd, rfl⟩⟩; refine ⟨_, rfl, ?_⟩) | ((with_reducible refine gate_callee (f := 81) rfl ?_); refine goesL_ (some 10) rfl rfl Try.func81 (by kernel_rfl) rfl #[.int .i64 a1] rfl (by (try simp only [List.map_toArray, List.map_cons, List.map_nil]); first | done | rfl | (simp only [List.length_drop, List.length_take]; rfl)) ?_; (with_reducible refine (cmp_isNaN_int.calls a1 false _ A4.out).mono ?_); rintro e w' ⟨rfl, ⟨nd, rfl⟩⟩; refine ⟨_, rfl, ?_⟩))
          go_ret
          exact ⟨by first | rfl | (simp; done) | (simp [*]; done), by repeat (first | exact Drawn0.refl _ | apply Drawn0.step)⟩
        · rw [if_neg c9] at H
          have c9b0 : decide (a1 < a0) = false := decide_eq_false c9
          clear c9
          obtain rfl := Option.some.inj H
          go_enter Try.func64, Try.ntmps64
          go_wp2_with (first | ((with_reducible refine gate_callee (f := 81) rfl ?_); refine goesL_ (some 8) rfl rfl Try.func81 (by kernel_rfl) rfl #[.int .i64 a0] rfl (by (try simp only [List.map_toArray, List.map_cons, List.map_nil]); first | done | rfl | (simp only [List.length_drop, List.length_take]; rfl)) ?_; (with_reducible refine (cmp_isNaN_int.calls a0 false _ A3.out).mono ?_); rintro e w' ⟨rfl, ⟨nd, rfl⟩⟩; refine ⟨_, rfl, ?_⟩) | ((with_reducible refine gate_callee (f := 81) rfl ?_); refine goesL_ (some 10) rfl rfl Try.func81 (by kernel_rfl) rfl #[.int .i64 a1] rfl (by (try simp only [List.map_toArray, List.map_cons, List.map_nil]); first | done | rfl | (simp only [List.length_drop, List.length_take]; rfl)) ?_; (with_reducible refine (cmp_isNaN_int.calls a1 false _ A4.out).mono ?_); rintro e w' ⟨rfl, ⟨nd, rfl⟩⟩; refine ⟨_, rfl, ?_⟩))
          go_ret
          exact ⟨by first | rfl | (simp; done) | (simp [*]; done), by repeat (first | exact Drawn0.refl _ | apply Drawn0.step)⟩

/-! ### store_order: function 42 -/
def store_order.f (a0_0 : Int) (a0_1 : ByteArray) (a0_2 : Int) (a0_3 : Int) (a0_4 : Bool) (a0_5 : Cx) (a0_6 : ByteArray) (a0_7 : Bool) (a1_0 : Int) (a1_1 : ByteArray) (a1_2 : Int) (a1_3 : Int) (a1_4 : Bool) (a1_5 : Cx) (a1_6 : ByteArray) (a1_7 : Bool) : Option (Int) := (cmp_Compare_int.f a0_0 a1_0).bind fun t190 => (some t190)
set_option maxHeartbeats 8000000 in
set_option maxRecDepth 100000 in
theorem store_order.calls (a0_0 : Int) (a0_1 : ByteArray) (a0_2 : Int) (a0_3 : Int) (a0_4 : Bool) (a0_5 : Cx) (a0_6 : ByteArray) (a0_7 : Bool) (a1_0 : Int) (a1_1 : ByteArray) (a1_2 : Int) (a1_3 : Int) (a1_4 : Bool) (a1_5 : Cx) (a1_6 : ByteArray) (a1_7 : Bool) (r : Int) (w : World) (h : store_order.f a0_0 a0_1 a0_2 a0_3 a0_4 a0_5 a0_6 a0_7 a1_0 a1_1 a1_2 a1_3 a1_4 a1_5 a1_6 a1_7 = some r) :
    Calls Try.prog 42 #[.agg #[.int .i64 a0_0, .string a0_1, .int .i64 a0_2, .int .i64 a0_3, .bool a0_4, .complex .f64 a0_5.re a0_5.im, .string a0_6, .bool a0_7], .agg #[.int .i64 a1_0, .string a1_1, .int .i64 a1_2, .int .i64 a1_3, .bool a1_4, .complex .f64 a1_5.re a1_5.im, .string a1_6, .bool a1_7]] w fun e w' => e = .returned (.int .i64 r) ∧ Below w.heap.size w w' := by
  have hu41 := Try.underlying41
  have HB := Aside0.mk (Below.refl w.heap.size w)
  have H : ((cmp_Compare_int.f a0_0 a1_0).bind fun t190 => (some t190)) = some r := h
  clear h
  replace H := Option.bind_eq_some_iff.mp H
  obtain ⟨t190, A30, H⟩ := H
  have A3 := Aside0.mk A30
  clear A30
  obtain rfl := Option.some.inj H
  go_enter Try.func42, Try.ntmps42
  go_wp2_with (first | ((with_reducible refine gate_dst (N := 2) rfl ?_); refine box_event ?hg (N := 2) ?hd (cs := #[.int .i64 a0_0, .string a0_1, .int .i64 a0_2, .int .i64 a0_3, .bool a0_4, .complex .f64 a0_5.re a0_5.im, .string a0_6, .bool a0_7]) (t := 41) ?hr ?_; (case hd => rfl); (case hg => rfl); (case hr => first | (go_simp; done) | (go_simp; rfl)); intro gb188 hg w4 hbox hb; have BK188 := Aside0.mk (hbox); have GW188 := Aside0.mk ((by rw [hg]; exact (below_size (by repeat (first | (with_reducible first | exact HB.out | apply below_alloc | apply pw_below_drewN | apply below_drew1) | exact HB.out))) : w.heap.size ≤ gb188)); have GE188 := Aside0.mk ((by rw [hg]; exact (below_size (by repeat (first | (with_reducible first | exact HB.out | apply below_alloc | apply pw_below_drewN | apply below_drew1) | exact HB.out))) : w.heap.size ≤ gb188)); replace HB := Aside0.mk (below_step (by repeat (first | (with_reducible first | exact HB.out | apply below_alloc | apply pw_below_drewN | apply below_drew1) | exact HB.out)) hb); clear hb hbox hg) | ((with_reducible refine gate_dst (N := 3) rfl ?_); refine box_event ?hg (N := 3) ?hd (cs := #[.int .i64 a1_0, .string a1_1, .int .i64 a1_2, .int .i64 a1_3, .bool a1_4, .complex .f64 a1_5.re a1_5.im, .string a1_6, .bool a1_7]) (t := 41) ?hr ?_; (case hd => rfl); (case hg => rfl); (case hr => first | (go_simp; done) | (go_simp; rfl)); intro gb189 hg w5 hbox hb; have BK189 := Aside0.mk (hbox); have GW189 := Aside0.mk ((by rw [hg]; exact (below_size (by repeat (first | (with_reducible first | exact HB.out | apply below_alloc | apply pw_below_drewN | apply below_drew1 | refine below_set ?_ GE188.out) | exact HB.out))) : w.heap.size ≤ gb189)); have GE189 := Aside0.mk ((by rw [hg]; exact (below_size (by repeat (first | (with_reducible first | exact HB.out | apply below_alloc | apply pw_below_drewN | apply below_drew1 | refine below_set ?_ GE188.out) | exact HB.out))) : w.heap.size ≤ gb189)); replace HB := Aside0.mk (below_step (by repeat (first | (with_reducible first | exact HB.out | apply below_alloc | apply pw_below_drewN | apply below_drew1 | refine below_set ?_ GE188.out) | exact HB.out)) hb); have NB188_189 := Aside0.mk ((by rw [hg]; exact Nat.ne_of_lt (blk_lt (g := gb188) (o := .cells #[.int .i64 a0_0, .string a0_1, .int .i64 a0_2, .int .i64 a0_3, .bool a0_4, .complex .f64 a0_5.re a0_5.im, .string a0_6, .bool a0_7] 41 (0, 0)) (by (with_reducible repeat (first | refine blk_drewN ?_ _ | refine blk_drew ?_ | refine blk_alloc ?_ _)); exact BK188.out)) : gb188 ≠ gb189)); have NB189_188 := Aside0.mk ((by rw [hg]; exact Nat.ne_of_gt (blk_lt (g := gb188) (o := .cells #[.int .i64 a0_0, .string a0_1, .int .i64 a0_2, .int .i64 a0_3, .bool a0_4, .complex .f64 a0_5.re a0_5.im, .string a0_6, .bool a0_7] 41 (0, 0)) (by (with_reducible repeat (first | refine blk_drewN ?_ _ | refine blk_drew ?_ | refine blk_alloc ?_ _)); exact BK188.out)) : gb189 ≠ gb188)); replace BK188 := Aside0.mk (blk_below (g := gb188) (o := .cells #[.int .i64 a0_0, .string a0_1, .int .i64 a0_2, .int .i64 a0_3, .bool a0_4, .complex .f64 a0_5.re a0_5.im, .string a0_6, .bool a0_7] 41 (0, 0)) (by (with_reducible repeat (first | refine blk_drewN ?_ _ | refine blk_drew ?_ | refine blk_alloc ?_ _)); exact BK188.out) hb); clear hb hbox hg; have hnb6 := NB188_189.out; have hnc6 := NB189_188.out; have hcz7_0 : w5.cell? ⟨gb188, 0, none⟩ = some (.int .i64 a0_0) := (blk_cell BK188.out 0).trans rfl; have hcz7_1 : w5.cell? ⟨gb188, 1, none⟩ = some (.string a0_1) := (blk_cell BK188.out 1).trans rfl; have hcz7_2 : w5.cell? ⟨gb188, 2, none⟩ = some (.int .i64 a0_2) := (blk_cell BK188.out 2).trans rfl; have hcz7_3 : w5.cell? ⟨gb188, 3, none⟩ = some (.int .i64 a0_3) := (blk_cell BK188.out 3).trans rfl; have hcz7_4 : w5.cell? ⟨gb188, 4, none⟩ = some (.bool a0_4) := (blk_cell BK188.out 4).trans rfl; have hcz7_5 : w5.cell? ⟨gb188, 5, none⟩ = some (.complex .f64 a0_5.re a0_5.im) := (blk_cell BK188.out 5).trans rfl; have hcz7_6 : w5.cell? ⟨gb188, 6, none⟩ = some (.string a0_6) := (blk_cell BK188.out 6).trans rfl; have hcz7_7 : w5.cell? ⟨gb188, 7, none⟩ = some (.bool a0_7) := (blk_cell BK188.out 7).trans rfl; have hfz7_0 := blk_frozen BK188.out 0; have hfz7_1 := blk_frozen BK188.out 1; have hfz7_2 := blk_frozen BK188.out 2; have hfz7_3 := blk_frozen BK188.out 3; have hfz7_4 := blk_frozen BK188.out 4; have hfz7_5 := blk_frozen BK188.out 5; have hfz7_6 := blk_frozen BK188.out 6; have hfz7_7 := blk_frozen BK188.out 7; have hcz8_0 : w5.cell? ⟨gb189, 0, none⟩ = some (.int .i64 a1_0) := (blk_cell BK189.out 0).trans rfl; have hcz8_1 : w5.cell? ⟨gb189, 1, none⟩ = some (.string a1_1) := (blk_cell BK189.out 1).trans rfl; have hcz8_2 : w5.cell? ⟨gb189, 2, none⟩ = some (.int .i64 a1_2) := (blk_cell BK189.out 2).trans rfl; have hcz8_3 : w5.cell? ⟨gb189, 3, none⟩ = some (.int .i64 a1_3) := (blk_cell BK189.out 3).trans rfl; have hcz8_4 : w5.cell? ⟨gb189, 4, none⟩ = some (.bool a1_4) := (blk_cell BK189.out 4).trans rfl; have hcz8_5 : w5.cell? ⟨gb189, 5, none⟩ = some (.complex .f64 a1_5.re a1_5.im) := (blk_cell BK189.out 5).trans rfl; have hcz8_6 : w5.cell? ⟨gb189, 6, none⟩ = some (.string a1_6) := (blk_cell BK189.out 6).trans rfl; have hcz8_7 : w5.cell? ⟨gb189, 7, none⟩ = some (.bool a1_7) := (blk_cell BK189.out 7).trans rfl; have hfz8_0 := blk_frozen BK189.out 0; have hfz8_1 := blk_frozen BK189.out 1; have hfz8_2 := blk_frozen BK189.out 2; have hfz8_3 := blk_frozen BK189.out 3; have hfz8_4 := blk_frozen BK189.out 4; have hfz8_5 := blk_frozen BK189.out 5; have hfz8_6 := blk_frozen BK189.out 6; have hfz8_7 := blk_frozen BK189.out 7) | ((with_reducible refine gate_callee (f := 64) rfl ?_); refine goesL_ (some 9) rfl rfl Try.func64 (by kernel_rfl) rfl #[.int .i64 a0_0, .int .i64 a1_0] rfl (by (try simp only [List.map_toArray, List.map_cons, List.map_nil]); first | done | rfl | (simp only [List.length_drop, List.length_take]; rfl)) ?_; (with_reducible refine (cmp_Compare_int.calls a0_0 a1_0 t190 _ A3.out).mono ?_); rintro e w' ⟨rfl, ⟨nd, rfl⟩⟩; refine ⟨_, rfl, ?_⟩))
  go_ret
  exact ⟨by first | rfl | (simp [errW_none, errW_some] <;> rfl) | (simp [*, errW_none, errW_some] <;> rfl), by repeat (first | (with_reducible first | exact HB.out | apply below_alloc | apply pw_below_drewN | apply below_drew1 | refine below_set ?_ GE188.out | refine below_set ?_ GE189.out) | exact HB.out)⟩

/-! ### store_find: function 36 -/
theorem order_is (a0 : Int) (a1 : ByteArray) (a2 a3 : Int) (a4 : Bool) (a5 : Cx) (a6 : ByteArray) (a7 : Bool) (b0 : Int) (b1 : ByteArray) (b2 b3 : Int) (b4 : Bool) (b5 : Cx) (b6 : ByteArray) (b7 : Bool) : store_order.f a0 a1 a2 a3 a4 a5 a6 a7 b0 b1 b2 b3 b4 b5 b6 b7 = some (cmpI a0 b0) := by
 have h : ∀ x : Int, (x != x) = false := fun x => by simp
 simp only [store_order.f, cmp_Compare_int.f, cmp_isNaN_int.f, h, Option.bind_some, Bool.false_eq_true, if_false, cmpI]
 split
 ·rfl
 ·split <;> rfl
set_option maxHeartbeats 1600000 in
set_option maxRecDepth 100000 in
theorem stf_bsearch (A0 : Option Addr) (c0 : Nat) (l0 : List S41) (a1 : Int) (w : World) (hr0 : Kd.C k41 w A0 l0.length l0) (hlim : l0.length ≤ 140737488355328) :
  Calls Try.prog 59 #[.slice A0 l0.length c0, .agg #[.int .i64 a1, .string ⟨#[]⟩, .int .i64 0, .int .i64 0, .bool false, .complex .f64 0 0, .string ⟨#[]⟩, .bool false], .func (.func 42) #[] #[]] w fun e w' => e = .returned (.tuple #[.int .i64 (bsN (fun i => cmpI (l0.getD i z41).f0 a1) l0.length : Nat), .bool (bsB (fun i => cmpI (l0.getD i z41).f0 a1) l0.length)]) ∧ Below w.heap.size w w' := by
 have hlen := hr0.2.1
 have HR0 := Aside0.mk hr0
 clear hr0
 generalize hc : (fun i => cmpI (l0.getD i z41).f0 a1) = c
 have HCC := Aside0.mk (show ∀ i, cmpI (l0.getD i z41).f0 a1 = c i from fun i => by rw [← hc])
 clear hc
 generalize hn : l0.length = n at *
 have HR := Aside0.mk (show bsN c n = bsI c (n + 1) 0 n from rfl)
 clear hn
 have HB := Aside0.mk (below_alloc (Below.refl w.heap.size w) (.cells #[.int .i64 a1, .string ⟨#[]⟩, .int .i64 0, .int .i64 0, .bool false, .complex .f64 0 0, .string ⟨#[]⟩, .bool false] 41))
 have BK := Aside0.mk (blk_new w (.cells #[.int .i64 a1, .string ⟨#[]⟩, .int .i64 0, .int .i64 0, .bool false, .complex .f64 0 0, .string ⟨#[]⟩, .bool false] 41))
 have hut := Try.underlying41
 go_enter Try.func59, Try.ntmps59
 go_wp2
 go_loopw [9, 10, 11] (fun vi vj _ wr => ∃ i j fu : Nat, vi = .int .i64 i ∧ vj = .int .i64 j ∧ i ≤ j ∧ j ≤ n ∧ j - i < fu ∧ Aside0 (bsI c fu i j = bsN c n) ∧ Aside0 (Below w.heap.size w wr) ∧ Aside0 (wr.heap[w.heap.size]? = some (.cells #[.int .i64 a1, .string ⟨#[]⟩, .int .i64 0, .int .i64 0, .bool false, .complex .f64 0 0, .string ⟨#[]⟩, .bool false] 41 (0, 0)))) (fun vi vj _ _ => ((intOf vj).toNat - (intOf vi).toNat))
 case atStart => exact ⟨0, n, n + 1, rfl, rfl, Nat.zero_le _, Nat.le_refl _, by omega, ⟨HR.out.symm⟩, HB, BK⟩
 case round =>
  clear HB BK
  obtain ⟨i, j, fu, rfl, rfl, hij, hjn, hfu, HI, HB, BK⟩ := hrel
  by_cases hlt : i < j
  ·obtain ⟨ad, hA, hx0, hx1, hx2, hx3, hx4, hx5, hx6, hx7⟩ := at_T41 HR0.out (((i : Int) + (j : Int)) / 2) (by omega) (by omega)
   obtain rfl := hA
   have hw0 := hx0; have hw1 := hx1; have hw2 := hx2; have hw3 := hx3; have hw4 := hx4; have hw5 := hx5; have hw6 := hx6; have hw7 := hx7; replace hx0 := (HB.out.cell (World.block_lt_of_cell? w _ hx0)).trans hx0; replace hx1 := (HB.out.cell (World.block_lt_of_cell? w _ hx1)).trans hx1; replace hx2 := (HB.out.cell (World.block_lt_of_cell? w _ hx2)).trans hx2; replace hx3 := (HB.out.cell (World.block_lt_of_cell? w _ hx3)).trans hx3; replace hx4 := (HB.out.cell (World.block_lt_of_cell? w _ hx4)).trans hx4; replace hx5 := (HB.out.cell (World.block_lt_of_cell? w _ hx5)).trans hx5; replace hx6 := (HB.out.cell (World.block_lt_of_cell? w _ hx6)).trans hx6; replace hx7 := (HB.out.cell (World.block_lt_of_cell? w _ hx7)).trans hx7
   have hm : (((i : Int) + (j : Int)) / 2).toNat = (i + j) / 2 := by omega
   have e2 : cmpI (l0.getD (((i : Int) + (j : Int)) / 2).toNat z41).f0 a1 = c ((i + j) / 2) := by rw [hm]; exact HCC.out _
   have pm := eq_true (show (0 : Int) ≤ ((i : Int) + (j : Int)) / 2 by omega)
   have qm := eq_true (show ((i : Int) + (j : Int)) / 2 < (n : Int) by omega)
   clear hm
   have hub : bsI c (fu - 1 + 1) i j = if c ((i + j) / 2) < 0 then bsI c (fu - 1) ((i + j) / 2 + 1) j else bsI c (fu - 1) i ((i + j) / 2) := by
    simp only [bsI]; rw [if_pos hlt]
   have HU := Aside0.mk hub
   have hcalls := fun W => store_order.calls (rd_T41 l0 (((i : Int) + (j : Int)) / 2)).f0 (rd_T41 l0 (((i : Int) + (j : Int)) / 2)).f1.f0 (rd_T41 l0 (((i : Int) + (j : Int)) / 2)).f1.f1 (rd_T41 l0 (((i : Int) + (j : Int)) / 2)).f1.f2 (rd_T41 l0 (((i : Int) + (j : Int)) / 2)).f2 (rd_T41 l0 (((i : Int) + (j : Int)) / 2)).f3 (rd_T41 l0 (((i : Int) + (j : Int)) / 2)).f4 (rd_T41 l0 (((i : Int) + (j : Int)) / 2)).f5 a1 ⟨#[]⟩ 0 0 false ⟨0, 0⟩ ⟨#[]⟩ false (c ((i + j) / 2)) W (by rw [← e2]; exact order_is _ _ _ _ _ _ _ _ _ _ _ _ _ _ _ _)
   clear hub e2
   have HK := Aside0.mk hcalls
   clear hcalls
   have hfu1 : fu - 1 + 1 = fu := by omega
   have HF := Aside0.mk hfu1
   clear hfu1
   by_cases hneg : c ((i + j) / 2) < 0
   ·have HN := Aside0.mk hneg
    have hdn : decide (c ((i + j) / 2) < 0) = true := decide_eq_true hneg
    generalize hq : c ((i + j) / 2) = q at hdn HK hneg
    have HQ := Aside0.mk hq
    clear hq
    go_wp2_with fail
    refine start_ (n := 8) (S := fun w' => w'.cell? (ad.add ((((i : Int) + (j : Int)) / 2).toNat * 8)) = some (.int .i64 (rd_T41 l0 (((i : Int) + (j : Int)) / 2)).f0) ∧ w'.cell? ⟨(ad.add ((((i : Int) + (j : Int)) / 2).toNat * 8)).block, (ad.add ((((i : Int) + (j : Int)) / 2).toNat * 8)).off + 1, none⟩ = some (.string (rd_T41 l0 (((i : Int) + (j : Int)) / 2)).f1.f0) ∧ w'.cell? ⟨(ad.add ((((i : Int) + (j : Int)) / 2).toNat * 8)).block, (ad.add ((((i : Int) + (j : Int)) / 2).toNat * 8)).off + 2, none⟩ = some (.int .i64 (rd_T41 l0 (((i : Int) + (j : Int)) / 2)).f1.f1) ∧ w'.cell? ⟨(ad.add ((((i : Int) + (j : Int)) / 2).toNat * 8)).block, (ad.add ((((i : Int) + (j : Int)) / 2).toNat * 8)).off + 3, none⟩ = some (.int .i64 (rd_T41 l0 (((i : Int) + (j : Int)) / 2)).f1.f2) ∧ w'.cell? ⟨(ad.add ((((i : Int) + (j : Int)) / 2).toNat * 8)).block, (ad.add ((((i : Int) + (j : Int)) / 2).toNat * 8)).off + 4, none⟩ = some (.bool (rd_T41 l0 (((i : Int) + (j : Int)) / 2)).f2) ∧ w'.cell? ⟨(ad.add ((((i : Int) + (j : Int)) / 2).toNat * 8)).block, (ad.add ((((i : Int) + (j : Int)) / 2).toNat * 8)).off + 5, none⟩ = some (.complex .f64 (rd_T41 l0 (((i : Int) + (j : Int)) / 2)).f3.re (rd_T41 l0 (((i : Int) + (j : Int)) / 2)).f3.im) ∧ w'.cell? ⟨(ad.add ((((i : Int) + (j : Int)) / 2).toNat * 8)).block, (ad.add ((((i : Int) + (j : Int)) / 2).toNat * 8)).off + 6, none⟩ = some (.string (rd_T41 l0 (((i : Int) + (j : Int)) / 2)).f4) ∧ w'.cell? ⟨(ad.add ((((i : Int) + (j : Int)) / 2).toNat * 8)).block, (ad.add ((((i : Int) + (j : Int)) / 2).toNat * 8)).off + 7, none⟩ = some (.bool (rd_T41 l0 (((i : Int) + (j : Int)) / 2)).f5) ∧ w'.cell? ⟨w.heap.size, 0, none⟩ = some (.int .i64 a1) ∧ w'.cell? ⟨w.heap.size, 1, none⟩ = some (.string ⟨#[]⟩) ∧ w'.cell? ⟨w.heap.size, 2, none⟩ = some (.int .i64 0) ∧ w'.cell? ⟨w.heap.size, 3, none⟩ = some (.int .i64 0) ∧ w'.cell? ⟨w.heap.size, 4, none⟩ = some (.bool false) ∧ w'.cell? ⟨w.heap.size, 5, none⟩ = some (.complex .f64 0 0) ∧ w'.cell? ⟨w.heap.size, 6, none⟩ = some (.string ⟨#[]⟩) ∧ w'.cell? ⟨w.heap.size, 7, none⟩ = some (.bool false)) (ds := []) #[false, false, false, false, false, false, false, false] (by kernel_rfl) rfl rfl ⟨hx0, hx1, hx2, hx3, hx4, hx5, hx6, hx7, (blk_cell (blk_drew BK.out) 0).trans rfl, (blk_cell (blk_drew BK.out) 1).trans rfl, (blk_cell (blk_drew BK.out) 2).trans rfl, (blk_cell (blk_drew BK.out) 3).trans rfl, (blk_cell (blk_drew BK.out) 4).trans rfl, (blk_cell (blk_drew BK.out) 5).trans rfl, (blk_cell (blk_drew BK.out) 6).trans rfl, (blk_cell (blk_drew BK.out) 7).trans rfl⟩ (fun hHeld => ?_)
    refine p_ 0 24 (mk_ 8 0x1) ?_
    refine p_ 1 25 (mk_ 8 0x3) ?_
    refine p_ 2 26 (mk_ 8 0x7) ?_
    refine p_ 3 27 (mk_ 8 0xf) ?_
    refine t_ 4 28 (mk_ 8 0x1f) hHeld ?_
    refine t_ 5 29 (mk_ 8 0x3f) hHeld ?_
    refine one_ (i := 6) (N := some 30) #[true, true, true, true, true, true, true, false] rfl rfl (by kernel_rfl) (by decide) (fun K hK => ?_)
    refine goesV_ Try.func42 (by kernel_rfl) rfl #[.agg #[.int .i64 (rd_T41 l0 (((i : Int) + (j : Int)) / 2)).f0, .string (rd_T41 l0 (((i : Int) + (j : Int)) / 2)).f1.f0, .int .i64 (rd_T41 l0 (((i : Int) + (j : Int)) / 2)).f1.f1, .int .i64 (rd_T41 l0 (((i : Int) + (j : Int)) / 2)).f1.f2, .bool (rd_T41 l0 (((i : Int) + (j : Int)) / 2)).f2, .complex .f64 (rd_T41 l0 (((i : Int) + (j : Int)) / 2)).f3.re (rd_T41 l0 (((i : Int) + (j : Int)) / 2)).f3.im, .string (rd_T41 l0 (((i : Int) + (j : Int)) / 2)).f4, .bool (rd_T41 l0 (((i : Int) + (j : Int)) / 2)).f5], .agg #[.int .i64 a1, .string ⟨#[]⟩, .int .i64 0, .int .i64 0, .bool false, .complex .f64 0 0, .string ⟨#[]⟩, .bool false]] (by rfl) rfl rfl rfl (by (try simp only [List.map_toArray, List.map_cons, List.map_nil]); first | done | rfl) ?_
    refine (HK.out _).mono ?_
    rintro e w' ⟨rfl, hb1⟩
    refine ⟨_, rfl, ?_⟩
    have HB1 := Aside0.mk (below_step (below_drew1 HB.out) hb1)
    have BK1 := Aside0.mk (blk_below (blk_drew BK.out) hb1)
    clear hb1
    refine hK.out _ _ ⟨(HB1.out.cell (World.block_lt_of_cell? w _ hw0)).trans hw0, (HB1.out.cell (World.block_lt_of_cell? w _ hw1)).trans hw1, (HB1.out.cell (World.block_lt_of_cell? w _ hw2)).trans hw2, (HB1.out.cell (World.block_lt_of_cell? w _ hw3)).trans hw3, (HB1.out.cell (World.block_lt_of_cell? w _ hw4)).trans hw4, (HB1.out.cell (World.block_lt_of_cell? w _ hw5)).trans hw5, (HB1.out.cell (World.block_lt_of_cell? w _ hw6)).trans hw6, (HB1.out.cell (World.block_lt_of_cell? w _ hw7)).trans hw7, (blk_cell BK1.out 0).trans rfl, (blk_cell BK1.out 1).trans rfl, (blk_cell BK1.out 2).trans rfl, (blk_cell BK1.out 3).trans rfl, (blk_cell BK1.out 4).trans rfl, (blk_cell BK1.out 5).trans rfl, (blk_cell BK1.out 6).trans rfl, (blk_cell BK1.out 7).trans rfl⟩ (fun hHeld => ?_)
    clear hK K
    refine norm_ (a' := ?_) ?_ ?_
    rotate_left
    ·show Act.put _ (some 30) _ = _
     simp only [Act.put, List.setIfInBounds_toArray, List.set_cons_zero, List.set_cons_succ, i64_w, i32_w]
     rfl
    refine p_ 7 31 (mk_ 8 0xff) ?_
    refine done_ (by kernel_rfl) ?_
    go_wp2_with fail
    go_roundw
    case rel => exact ⟨(i + j) / 2 + 1, j, fu - 1, by go_num, rfl, by omega, hjn, by omega, ⟨by have := HU.out; rw [HF.out, HI.out, if_pos HN.out] at this; exact this.symm⟩, HB1, BK1⟩
    case measure => simp [intOf]; omega
   ·have HN := Aside0.mk hneg
    have hdn : decide (c ((i + j) / 2) < 0) = false := decide_eq_false hneg
    generalize hq : c ((i + j) / 2) = q at hdn HK hneg
    have HQ := Aside0.mk hq
    clear hq
    go_wp2_with fail
    refine start_ (n := 8) (S := fun w' => w'.cell? (ad.add ((((i : Int) + (j : Int)) / 2).toNat * 8)) = some (.int .i64 (rd_T41 l0 (((i : Int) + (j : Int)) / 2)).f0) ∧ w'.cell? ⟨(ad.add ((((i : Int) + (j : Int)) / 2).toNat * 8)).block, (ad.add ((((i : Int) + (j : Int)) / 2).toNat * 8)).off + 1, none⟩ = some (.string (rd_T41 l0 (((i : Int) + (j : Int)) / 2)).f1.f0) ∧ w'.cell? ⟨(ad.add ((((i : Int) + (j : Int)) / 2).toNat * 8)).block, (ad.add ((((i : Int) + (j : Int)) / 2).toNat * 8)).off + 2, none⟩ = some (.int .i64 (rd_T41 l0 (((i : Int) + (j : Int)) / 2)).f1.f1) ∧ w'.cell? ⟨(ad.add ((((i : Int) + (j : Int)) / 2).toNat * 8)).block, (ad.add ((((i : Int) + (j : Int)) / 2).toNat * 8)).off + 3, none⟩ = some (.int .i64 (rd_T41 l0 (((i : Int) + (j : Int)) / 2)).f1.f2) ∧ w'.cell? ⟨(ad.add ((((i : Int) + (j : Int)) / 2).toNat * 8)).block, (ad.add ((((i : Int) + (j : Int)) / 2).toNat * 8)).off + 4, none⟩ = some (.bool (rd_T41 l0 (((i : Int) + (j : Int)) / 2)).f2) ∧ w'.cell? ⟨(ad.add ((((i : Int) + (j : Int)) / 2).toNat * 8)).block, (ad.add ((((i : Int) + (j : Int)) / 2).toNat * 8)).off + 5, none⟩ = some (.complex .f64 (rd_T41 l0 (((i : Int) + (j : Int)) / 2)).f3.re (rd_T41 l0 (((i : Int) + (j : Int)) / 2)).f3.im) ∧ w'.cell? ⟨(ad.add ((((i : Int) + (j : Int)) / 2).toNat * 8)).block, (ad.add ((((i : Int) + (j : Int)) / 2).toNat * 8)).off + 6, none⟩ = some (.string (rd_T41 l0 (((i : Int) + (j : Int)) / 2)).f4) ∧ w'.cell? ⟨(ad.add ((((i : Int) + (j : Int)) / 2).toNat * 8)).block, (ad.add ((((i : Int) + (j : Int)) / 2).toNat * 8)).off + 7, none⟩ = some (.bool (rd_T41 l0 (((i : Int) + (j : Int)) / 2)).f5) ∧ w'.cell? ⟨w.heap.size, 0, none⟩ = some (.int .i64 a1) ∧ w'.cell? ⟨w.heap.size, 1, none⟩ = some (.string ⟨#[]⟩) ∧ w'.cell? ⟨w.heap.size, 2, none⟩ = some (.int .i64 0) ∧ w'.cell? ⟨w.heap.size, 3, none⟩ = some (.int .i64 0) ∧ w'.cell? ⟨w.heap.size, 4, none⟩ = some (.bool false) ∧ w'.cell? ⟨w.heap.size, 5, none⟩ = some (.complex .f64 0 0) ∧ w'.cell? ⟨w.heap.size, 6, none⟩ = some (.string ⟨#[]⟩) ∧ w'.cell? ⟨w.heap.size, 7, none⟩ = some (.bool false)) (ds := []) #[false, false, false, false, false, false, false, false] (by kernel_rfl) rfl rfl ⟨hx0, hx1, hx2, hx3, hx4, hx5, hx6, hx7, (blk_cell (blk_drew BK.out) 0).trans rfl, (blk_cell (blk_drew BK.out) 1).trans rfl, (blk_cell (blk_drew BK.out) 2).trans rfl, (blk_cell (blk_drew BK.out) 3).trans rfl, (blk_cell (blk_drew BK.out) 4).trans rfl, (blk_cell (blk_drew BK.out) 5).trans rfl, (blk_cell (blk_drew BK.out) 6).trans rfl, (blk_cell (blk_drew BK.out) 7).trans rfl⟩ (fun hHeld => ?_)
    refine p_ 0 24 (mk_ 8 0x1) ?_
    refine p_ 1 25 (mk_ 8 0x3) ?_
    refine p_ 2 26 (mk_ 8 0x7) ?_
    refine p_ 3 27 (mk_ 8 0xf) ?_
    refine t_ 4 28 (mk_ 8 0x1f) hHeld ?_
    refine t_ 5 29 (mk_ 8 0x3f) hHeld ?_
    refine one_ (i := 6) (N := some 30) #[true, true, true, true, true, true, true, false] rfl rfl (by kernel_rfl) (by decide) (fun K hK => ?_)
    refine goesV_ Try.func42 (by kernel_rfl) rfl #[.agg #[.int .i64 (rd_T41 l0 (((i : Int) + (j : Int)) / 2)).f0, .string (rd_T41 l0 (((i : Int) + (j : Int)) / 2)).f1.f0, .int .i64 (rd_T41 l0 (((i : Int) + (j : Int)) / 2)).f1.f1, .int .i64 (rd_T41 l0 (((i : Int) + (j : Int)) / 2)).f1.f2, .bool (rd_T41 l0 (((i : Int) + (j : Int)) / 2)).f2, .complex .f64 (rd_T41 l0 (((i : Int) + (j : Int)) / 2)).f3.re (rd_T41 l0 (((i : Int) + (j : Int)) / 2)).f3.im, .string (rd_T41 l0 (((i : Int) + (j : Int)) / 2)).f4, .bool (rd_T41 l0 (((i : Int) + (j : Int)) / 2)).f5], .agg #[.int .i64 a1, .string ⟨#[]⟩, .int .i64 0, .int .i64 0, .bool false, .complex .f64 0 0, .string ⟨#[]⟩, .bool false]] (by rfl) rfl rfl rfl (by (try simp only [List.map_toArray, List.map_cons, List.map_nil]); first | done | rfl) ?_
    refine (HK.out _).mono ?_
    rintro e w' ⟨rfl, hb1⟩
    refine ⟨_, rfl, ?_⟩
    have HB1 := Aside0.mk (below_step (below_drew1 HB.out) hb1)
    have BK1 := Aside0.mk (blk_below (blk_drew BK.out) hb1)
    clear hb1
    refine hK.out _ _ ⟨(HB1.out.cell (World.block_lt_of_cell? w _ hw0)).trans hw0, (HB1.out.cell (World.block_lt_of_cell? w _ hw1)).trans hw1, (HB1.out.cell (World.block_lt_of_cell? w _ hw2)).trans hw2, (HB1.out.cell (World.block_lt_of_cell? w _ hw3)).trans hw3, (HB1.out.cell (World.block_lt_of_cell? w _ hw4)).trans hw4, (HB1.out.cell (World.block_lt_of_cell? w _ hw5)).trans hw5, (HB1.out.cell (World.block_lt_of_cell? w _ hw6)).trans hw6, (HB1.out.cell (World.block_lt_of_cell? w _ hw7)).trans hw7, (blk_cell BK1.out 0).trans rfl, (blk_cell BK1.out 1).trans rfl, (blk_cell BK1.out 2).trans rfl, (blk_cell BK1.out 3).trans rfl, (blk_cell BK1.out 4).trans rfl, (blk_cell BK1.out 5).trans rfl, (blk_cell BK1.out 6).trans rfl, (blk_cell BK1.out 7).trans rfl⟩ (fun hHeld => ?_)
    clear hK K
    refine norm_ (a' := ?_) ?_ ?_
    rotate_left
    ·show Act.put _ (some 30) _ = _
     simp only [Act.put, List.setIfInBounds_toArray, List.set_cons_zero, List.set_cons_succ, i64_w, i32_w]
     rfl
    refine p_ 7 31 (mk_ 8 0xff) ?_
    refine done_ (by kernel_rfl) ?_
    go_wp2_with fail
    go_roundw
    case rel => exact ⟨i, (i + j) / 2, fu - 1, rfl, by go_num, by omega, by omega, by omega, ⟨by have := HU.out; rw [HF.out, HI.out, if_neg (by have := HN.out; omega)] at this; exact this.symm⟩, HB1, BK1⟩
    case measure => simp [intOf]; omega
  ·have hres : bsN c n = i := by
    rw [← HI.out]
    obtain ⟨f, rfl⟩ : ∃ f, fu = f + 1 := ⟨fu - 1, by omega⟩
    simp only [bsI]; rw [if_neg hlt]
   have HRS := Aside0.mk hres
   clear hres
   have hge : decide ((i : Int) < (j : Int)) = false := by simp; omega
   by_cases hin : i < n
   ·obtain ⟨ad, hA, hx0, hx1, hx2, hx3, hx4, hx5, hx6, hx7⟩ := at_T41 HR0.out (i : Int) (by omega) (by omega)
    obtain rfl := hA
    have pm := eq_true (show (0 : Int) ≤ (i : Int) by omega)
    have qm := eq_true (show (i : Int) < (n : Int) by omega)
    have hw0 := hx0; have hw1 := hx1; have hw2 := hx2; have hw3 := hx3; have hw4 := hx4; have hw5 := hx5; have hw6 := hx6; have hw7 := hx7; replace hx0 := (HB.out.cell (World.block_lt_of_cell? w _ hx0)).trans hx0; replace hx1 := (HB.out.cell (World.block_lt_of_cell? w _ hx1)).trans hx1; replace hx2 := (HB.out.cell (World.block_lt_of_cell? w _ hx2)).trans hx2; replace hx3 := (HB.out.cell (World.block_lt_of_cell? w _ hx3)).trans hx3; replace hx4 := (HB.out.cell (World.block_lt_of_cell? w _ hx4)).trans hx4; replace hx5 := (HB.out.cell (World.block_lt_of_cell? w _ hx5)).trans hx5; replace hx6 := (HB.out.cell (World.block_lt_of_cell? w _ hx6)).trans hx6; replace hx7 := (HB.out.cell (World.block_lt_of_cell? w _ hx7)).trans hx7
    have hcalls := fun W => store_order.calls (rd_T41 l0 (i : Int)).f0 (rd_T41 l0 (i : Int)).f1.f0 (rd_T41 l0 (i : Int)).f1.f1 (rd_T41 l0 (i : Int)).f1.f2 (rd_T41 l0 (i : Int)).f2 (rd_T41 l0 (i : Int)).f3 (rd_T41 l0 (i : Int)).f4 (rd_T41 l0 (i : Int)).f5 a1 ⟨#[]⟩ 0 0 false ⟨0, 0⟩ ⟨#[]⟩ false (c i) W (by rw [← HCC.out i]; exact order_is _ _ _ _ _ _ _ _ _ _ _ _ _ _ _ _)
    have HK := Aside0.mk hcalls
    clear hcalls
    have hbb : bsB c n = decide (c i = 0) := by unfold bsB; rw [HRS.out, decide_eq_true hin, Bool.true_and]
    have HBB := Aside0.mk hbb
    clear hbb
    have hin2 : decide ((i : Int) < (n : Int)) = true := by simp; omega
    generalize hq : c i = q at HK HBB
    have HQ := Aside0.mk hq
    clear hq
    go_wp2_with fail
    refine start_ (n := 16) (S := fun w' => w'.cell? (ad.add (i * 8)) = some (.int .i64 (rd_T41 l0 (i : Int)).f0) ∧ w'.cell? ⟨(ad.add (i * 8)).block, (ad.add (i * 8)).off + 1, none⟩ = some (.string (rd_T41 l0 (i : Int)).f1.f0) ∧ w'.cell? ⟨(ad.add (i * 8)).block, (ad.add (i * 8)).off + 2, none⟩ = some (.int .i64 (rd_T41 l0 (i : Int)).f1.f1) ∧ w'.cell? ⟨(ad.add (i * 8)).block, (ad.add (i * 8)).off + 3, none⟩ = some (.int .i64 (rd_T41 l0 (i : Int)).f1.f2) ∧ w'.cell? ⟨(ad.add (i * 8)).block, (ad.add (i * 8)).off + 4, none⟩ = some (.bool (rd_T41 l0 (i : Int)).f2) ∧ w'.cell? ⟨(ad.add (i * 8)).block, (ad.add (i * 8)).off + 5, none⟩ = some (.complex .f64 (rd_T41 l0 (i : Int)).f3.re (rd_T41 l0 (i : Int)).f3.im) ∧ w'.cell? ⟨(ad.add (i * 8)).block, (ad.add (i * 8)).off + 6, none⟩ = some (.string (rd_T41 l0 (i : Int)).f4) ∧ w'.cell? ⟨(ad.add (i * 8)).block, (ad.add (i * 8)).off + 7, none⟩ = some (.bool (rd_T41 l0 (i : Int)).f5) ∧ w'.cell? ⟨w.heap.size, 0, none⟩ = some (.int .i64 a1) ∧ w'.cell? ⟨w.heap.size, 1, none⟩ = some (.string ⟨#[]⟩) ∧ w'.cell? ⟨w.heap.size, 2, none⟩ = some (.int .i64 0) ∧ w'.cell? ⟨w.heap.size, 3, none⟩ = some (.int .i64 0) ∧ w'.cell? ⟨w.heap.size, 4, none⟩ = some (.bool false) ∧ w'.cell? ⟨w.heap.size, 5, none⟩ = some (.complex .f64 0 0) ∧ w'.cell? ⟨w.heap.size, 6, none⟩ = some (.string ⟨#[]⟩) ∧ w'.cell? ⟨w.heap.size, 7, none⟩ = some (.bool false)) (ds := []) #[false, false, false, false, false, false, false, false, false, false, false, false, false, false, false, false] (by kernel_rfl) rfl rfl ⟨hx0, hx1, hx2, hx3, hx4, hx5, hx6, hx7, (blk_cell (blk_drew BK.out) 0).trans rfl, (blk_cell (blk_drew BK.out) 1).trans rfl, (blk_cell (blk_drew BK.out) 2).trans rfl, (blk_cell (blk_drew BK.out) 3).trans rfl, (blk_cell (blk_drew BK.out) 4).trans rfl, (blk_cell (blk_drew BK.out) 5).trans rfl, (blk_cell (blk_drew BK.out) 6).trans rfl, (blk_cell (blk_drew BK.out) 7).trans rfl⟩ (fun hHeld => ?_)
    refine p_ 0 35 (mk_ 16 0x1) ?_
    refine p_ 1 36 (mk_ 16 0x3) ?_
    refine p_ 2 37 (mk_ 16 0x7) ?_
    refine p_ 3 38 (mk_ 16 0xf) ?_
    refine p_ 4 39 (mk_ 16 0x1f) ?_
    refine p_ 5 40 (mk_ 16 0x3f) ?_
    refine p_ 6 41 (mk_ 16 0x7f) ?_
    refine p_ 7 42 (mk_ 16 0xff) ?_
    refine p_ 8 43 (mk_ 16 0x1ff) ?_
    refine t_ 9 44 (mk_ 16 0x3ff) hHeld ?_
    refine t_ 10 45 (mk_ 16 0x7ff) hHeld ?_
    refine one_ (i := 11) (N := some 46) #[true, true, true, true, true, true, true, true, true, true, true, true, false, false, false, false] rfl rfl (by kernel_rfl) (by decide) (fun K hK => ?_)
    refine goesV_ Try.func42 (by kernel_rfl) rfl #[.agg #[.int .i64 (rd_T41 l0 (i : Int)).f0, .string (rd_T41 l0 (i : Int)).f1.f0, .int .i64 (rd_T41 l0 (i : Int)).f1.f1, .int .i64 (rd_T41 l0 (i : Int)).f1.f2, .bool (rd_T41 l0 (i : Int)).f2, .complex .f64 (rd_T41 l0 (i : Int)).f3.re (rd_T41 l0 (i : Int)).f3.im, .string (rd_T41 l0 (i : Int)).f4, .bool (rd_T41 l0 (i : Int)).f5], .agg #[.int .i64 a1, .string ⟨#[]⟩, .int .i64 0, .int .i64 0, .bool false, .complex .f64 0 0, .string ⟨#[]⟩, .bool false]] (by rfl) rfl rfl rfl (by (try simp only [List.map_toArray, List.map_cons, List.map_nil]); first | done | rfl) ?_
    refine (HK.out _).mono ?_
    rintro e w' ⟨rfl, hb1⟩
    refine ⟨_, rfl, ?_⟩
    have HB1 := Aside0.mk (below_step (below_drew1 HB.out) hb1)
    have BK1 := Aside0.mk (blk_below (blk_drew BK.out) hb1)
    clear hb1
    refine hK.out _ _ ⟨(HB1.out.cell (World.block_lt_of_cell? w _ hw0)).trans hw0, (HB1.out.cell (World.block_lt_of_cell? w _ hw1)).trans hw1, (HB1.out.cell (World.block_lt_of_cell? w _ hw2)).trans hw2, (HB1.out.cell (World.block_lt_of_cell? w _ hw3)).trans hw3, (HB1.out.cell (World.block_lt_of_cell? w _ hw4)).trans hw4, (HB1.out.cell (World.block_lt_of_cell? w _ hw5)).trans hw5, (HB1.out.cell (World.block_lt_of_cell? w _ hw6)).trans hw6, (HB1.out.cell (World.block_lt_of_cell? w _ hw7)).trans hw7, (blk_cell BK1.out 0).trans rfl, (blk_cell BK1.out 1).trans rfl, (blk_cell BK1.out 2).trans rfl, (blk_cell BK1.out 3).trans rfl, (blk_cell BK1.out 4).trans rfl, (blk_cell BK1.out 5).trans rfl, (blk_cell BK1.out 6).trans rfl, (blk_cell BK1.out 7).trans rfl⟩ (fun hHeld => ?_)
    clear hK K
    refine norm_ (a' := ?_) ?_ ?_
    rotate_left
    ·show Act.put _ (some 46) _ = _
     simp only [Act.put, List.setIfInBounds_toArray, List.set_cons_zero, List.set_cons_succ, i64_w, i32_w]
     rfl
    refine p_ 12 47 (mk_ 16 0x1fff) ?_
    refine p_ 13 48 (mk_ 16 0x3fff) ?_
    refine p_ 14 6 (mk_ 16 0x7fff) ?_
    refine p_ 15 7 (mk_ 16 0xffff) ?_
    refine done_ (by kernel_rfl) ?_
    go_wp2_with fail
    go_ret2
    exact ⟨by rw [HRS.out, HBB.out]; rfl, HB1.out⟩
   ·have hbb : bsB c n = false := by unfold bsB; rw [HRS.out, decide_eq_false hin, Bool.false_and]
    have HBB := Aside0.mk hbb
    clear hbb
    have hin2 : decide ((i : Int) < (n : Int)) = false := by simp; omega
    go_wp2_with fail
    go_quiet (fail)
    try go_wp2
    go_ret2
    exact ⟨by rw [HRS.out, HBB.out]; rfl, pw_below_drewN HB.out _⟩

/-- A key's place in a Store, and whether it is there. -/
def sN (l : List S41) (a : Int) : Nat := bsN (fun i => cmpI (l.getD i z41).f0 a) l.length
def sB (l : List S41) (a : Int) : Bool := bsB (fun i => cmpI (l.getD i z41).f0 a) l.length
def store_find.f (l0 : List S41) (a1 : Int) : Option (Int × Bool) := if l0.length < 1000000000 then some ((sN l0 a1 : Nat), sB l0 a1) else none
set_option maxHeartbeats 800000 in
set_option maxRecDepth 100000 in
theorem store_find.calls (A0 : Option Addr) (c0 : Nat) (l0 : List S41) (a1 : Int) (r1 : Int) (r2 : Bool) (w : World) (hr0 : Kd.C k41 w A0 l0.length l0) (hc0 : l0.length ≤ c0) (h : store_find.f l0 a1 = some (r1, r2)) :
  Calls Try.prog 36 #[.slice A0 l0.length c0, .int .i64 a1] w fun e w' => e = .returned (.tuple #[.int .i64 r1, .bool r2]) ∧ Below w.heap.size w w' := by
 have hlim : l0.length < 1000000000 := by
  by_cases hx : l0.length < 1000000000
  ·exact hx
  ·rw [store_find.f, if_neg hx] at h; cases h
 have hr : ((sN l0 a1 : Nat) : Int) = r1 ∧ sB l0 a1 = r2 := by rw [store_find.f, if_pos hlim] at h; exact Prod.mk.inj (Option.some.inj h)
 obtain ⟨e1, e2⟩ := hr
 have HB := Aside0.mk (Below.refl w.heap.size w)
 have hc := fun (W : World) (hW : Below w.heap.size w W) => stf_bsearch A0 c0 l0 a1 W (Kd.C_below hr0 hW) (by omega)
 unfold sN at e1
 unfold sB at e2
 rw [e1, e2] at hc
 have HC := Aside0.mk hc
 clear hc h hlim hr0 e1 e2
 have hut := Try.underlying41
 go_enter Try.func36, Try.ntmps36
 go_wp2_with fail
 refine (HC.out _ (by repeat (first | (with_reducible first | exact HB.out | apply below_alloc | apply pw_below_drewN | apply below_drew1) | exact HB.out))).mono ?_
 rintro e w' ⟨rfl, hb⟩
 have HB1 := Aside0.mk (below_step HB.out hb)
 clear hb
 go_wp2_with fail
 go_ret2
 exact ⟨rfl, HB1.out⟩

/-! ### bytealg_CompareString: function 93 -/
def bytealg_CompareString.f (a0 : ByteArray) (a1 : ByteArray) : Option Int := some (Lib.compareBytes a0.data.toList a1.data.toList)
set_option maxHeartbeats 800000 in
set_option maxRecDepth 100000 in
theorem bytealg_CompareString.calls (a0 : ByteArray) (a1 : ByteArray) (r : Int) (w : World) (h : bytealg_CompareString.f a0 a1 = some r) :
  Calls Try.prog 93 #[.string a0, .string a1] w fun e w' => e = .returned (.int .i64 r) ∧ Drawn0 w w' := by
 have HR := Aside0.mk (show Lib.compareBytes a0.data.toList a1.data.toList = r from Option.some.inj h)
 clear h
 go_enter Try.func93, Try.ntmps93
 go_wp2
 rw [run_callFunc_extern Try.func100 (by kernel_rfl) (by kernel_rfl) (by kernel_rfl) (e := Extern.BytealgCompare.compare) (by kernel_rfl), Lib.run_compareString, HR.out]
 simp only [Result.andThen]
 rw [Oper.upon_value]
 go_wp2
 go_ret
 exact ⟨rfl, Drawn0.refl _⟩

/-! ### strings_Compare: function 85 -/
def strings_Compare.f (a0 : ByteArray) (a1 : ByteArray) : Option (Int) := (bytealg_CompareString.f a0 a1).bind fun t191 => (some t191)
set_option maxHeartbeats 8000000 in
set_option maxRecDepth 100000 in
theorem strings_Compare.calls (a0 : ByteArray) (a1 : ByteArray) (r : Int) (w : World) (h : strings_Compare.f a0 a1 = some r) :
    Calls Try.prog 85 #[.string a0, .string a1] w fun e w' => e = .returned (.int .i64 r) ∧ Drawn0 w w' := by
  have H : ((bytealg_CompareString.f a0 a1).bind fun t191 => (some t191)) = some r := h
  clear h
  replace H := Option.bind_eq_some_iff.mp H
  obtain ⟨t191, A30, H⟩ := H
  have A3 := Aside0.mk A30
  clear A30
  obtain rfl := Option.some.inj H
  go_enter Try.func85, Try.ntmps85
  go_wp2_with (first | ((with_reducible refine gate_callee (f := 93) rfl ?_); refine goesL_ (some 7) rfl rfl Try.func93 (by kernel_rfl) rfl #[.string a0, .string a1] rfl (by (try simp only [List.map_toArray, List.map_cons, List.map_nil]); first | done | rfl | (simp only [List.length_drop, List.length_take]; rfl)) ?_; (with_reducible refine (bytealg_CompareString.calls a0 a1 t191 _ A3.out).mono ?_); rintro e w' ⟨rfl, ⟨nd, rfl⟩⟩; refine ⟨_, rfl, ?_⟩))
  go_ret
  exact ⟨by first | rfl | (simp; done) | (simp [*]; done), by repeat (first | exact Drawn0.refl _ | apply Drawn0.step)⟩

/-! ### id_Compare: function 72 -/
def id_Compare.f (a0 : ByteArray) (a1 : ByteArray) : Option (Int) := (strings_Compare.f a0 a1).bind fun t192 => (some t192)
set_option maxHeartbeats 8000000 in
set_option maxRecDepth 100000 in
theorem id_Compare.calls (a0 : ByteArray) (a1 : ByteArray) (r : Int) (w : World) (h : id_Compare.f a0 a1 = some r) :
    Calls Try.prog 72 #[.string a0, .string a1] w fun e w' => e = .returned (.int .i64 r) ∧ Drawn0 w w' := by
  have H : ((strings_Compare.f a0 a1).bind fun t192 => (some t192)) = some r := h
  clear h
  replace H := Option.bind_eq_some_iff.mp H
  obtain ⟨t192, A30, H⟩ := H
  have A3 := Aside0.mk A30
  clear A30
  obtain rfl := Option.some.inj H
  go_enter Try.func72, Try.ntmps72
  go_wp2_with (first | ((with_reducible refine gate_callee (f := 85) rfl ?_); refine goesL_ (some 7) rfl rfl Try.func85 (by kernel_rfl) rfl #[.string a0, .string a1] rfl (by (try simp only [List.map_toArray, List.map_cons, List.map_nil]); first | done | rfl | (simp only [List.length_drop, List.length_take]; rfl)) ?_; (with_reducible refine (strings_Compare.calls a0 a1 t192 _ A3.out).mono ?_); rintro e w' ⟨rfl, ⟨nd, rfl⟩⟩; refine ⟨_, rfl, ?_⟩))
  go_ret
  exact ⟨by first | rfl | (simp; done) | (simp [*]; done), by repeat (first | exact Drawn0.refl _ | apply Drawn0.step)⟩

/-! ### item_Newer: function 53 -/
def item_Newer.f (a0_0 : ByteArray) (a0_1 : Int) (a0_2 : Int) (a1_0 : ByteArray) (a1_1 : Int) (a1_2 : Int) : Option (Bool) := if a0_2 = a1_2 then ((id_Compare.f a0_0 a1_0).bind fun t195 => (some (decide (t195 > 0)))) else (some (decide (a0_2 > a1_2)))
set_option maxHeartbeats 8000000 in
set_option maxRecDepth 100000 in
theorem item_Newer.calls (a0_0 : ByteArray) (a0_1 : Int) (a0_2 : Int) (a1_0 : ByteArray) (a1_1 : Int) (a1_2 : Int) (r : Bool) (w : World) (h : item_Newer.f a0_0 a0_1 a0_2 a1_0 a1_1 a1_2 = some r) :
    Calls Try.prog 53 #[.agg #[.string a0_0, .int .i64 a0_1, .int .i64 a0_2], .agg #[.string a1_0, .int .i64 a1_1, .int .i64 a1_2]] w fun e w' => e = .returned (.bool r) ∧ Below w.heap.size w w' := by
  have hu38 := Try.underlying38
  have HB := Aside0.mk (Below.refl w.heap.size w)
  have H : (if a0_2 = a1_2 then ((id_Compare.f a0_0 a1_0).bind fun t195 => (some (decide (t195 > 0)))) else (some (decide (a0_2 > a1_2)))) = some r := h
  clear h
  by_cases c3 : a0_2 = a1_2
  · rw [if_pos c3] at H
    have c3b0 : (a0_2 == a1_2) = true := beq_iff_eq.mpr c3
    have c3b1 : (a0_2 != a1_2) = false := bne_eq_false_iff_eq.mpr c3
    clear c3
    replace H := Option.bind_eq_some_iff.mp H
    obtain ⟨t195, A40, H⟩ := H
    have A4 := Aside0.mk A40
    clear A40
    obtain rfl := Option.some.inj H
    go_enter Try.func53, Try.ntmps53
    go_wp2_with (first | ((with_reducible refine gate_dst (N := 2) rfl ?_); refine box_event ?hg (N := 2) ?hd (cs := #[.string a0_0, .int .i64 a0_1, .int .i64 a0_2]) (t := 38) ?hr ?_; (case hd => rfl); (case hg => rfl); (case hr => first | (go_simp; done) | (go_simp; rfl)); intro gb193 hg w5 hbox hb; have BK193 := Aside0.mk (hbox); have GW193 := Aside0.mk ((by rw [hg]; exact (below_size (by repeat (first | (with_reducible first | exact HB.out | apply below_alloc | apply pw_below_drewN | apply below_drew1) | exact HB.out))) : w.heap.size ≤ gb193)); have GE193 := Aside0.mk ((by rw [hg]; exact (below_size (by repeat (first | (with_reducible first | exact HB.out | apply below_alloc | apply pw_below_drewN | apply below_drew1) | exact HB.out))) : w.heap.size ≤ gb193)); replace HB := Aside0.mk (below_step (by repeat (first | (with_reducible first | exact HB.out | apply below_alloc | apply pw_below_drewN | apply below_drew1) | exact HB.out)) hb); clear hb hbox hg) | ((with_reducible refine gate_dst (N := 3) rfl ?_); refine box_event ?hg (N := 3) ?hd (cs := #[.string a1_0, .int .i64 a1_1, .int .i64 a1_2]) (t := 38) ?hr ?_; (case hd => rfl); (case hg => rfl); (case hr => first | (go_simp; done) | (go_simp; rfl)); intro gb194 hg w6 hbox hb; have BK194 := Aside0.mk (hbox); have GW194 := Aside0.mk ((by rw [hg]; exact (below_size (by repeat (first | (with_reducible first | exact HB.out | apply below_alloc | apply pw_below_drewN | apply below_drew1 | refine below_set ?_ GE193.out) | exact HB.out))) : w.heap.size ≤ gb194)); have GE194 := Aside0.mk ((by rw [hg]; exact (below_size (by repeat (first | (with_reducible first | exact HB.out | apply below_alloc | apply pw_below_drewN | apply below_drew1 | refine below_set ?_ GE193.out) | exact HB.out))) : w.heap.size ≤ gb194)); replace HB := Aside0.mk (below_step (by repeat (first | (with_reducible first | exact HB.out | apply below_alloc | apply pw_below_drewN | apply below_drew1 | refine below_set ?_ GE193.out) | exact HB.out)) hb); have NB193_194 := Aside0.mk ((by rw [hg]; exact Nat.ne_of_lt (blk_lt (g := gb193) (o := .cells #[.string a0_0, .int .i64 a0_1, .int .i64 a0_2] 38 (0, 0)) (by (with_reducible repeat (first | refine blk_drewN ?_ _ | refine blk_drew ?_ | refine blk_alloc ?_ _)); exact BK193.out)) : gb193 ≠ gb194)); have NB194_193 := Aside0.mk ((by rw [hg]; exact Nat.ne_of_gt (blk_lt (g := gb193) (o := .cells #[.string a0_0, .int .i64 a0_1, .int .i64 a0_2] 38 (0, 0)) (by (with_reducible repeat (first | refine blk_drewN ?_ _ | refine blk_drew ?_ | refine blk_alloc ?_ _)); exact BK193.out)) : gb194 ≠ gb193)); replace BK193 := Aside0.mk (blk_below (g := gb193) (o := .cells #[.string a0_0, .int .i64 a0_1, .int .i64 a0_2] 38 (0, 0)) (by (with_reducible repeat (first | refine blk_drewN ?_ _ | refine blk_drew ?_ | refine blk_alloc ?_ _)); exact BK193.out) hb); clear hb hbox hg; have hnb7 := NB193_194.out; have hnc7 := NB194_193.out; have hcz8_0 : w6.cell? ⟨gb193, 0, none⟩ = some (.string a0_0) := (blk_cell BK193.out 0).trans rfl; have hcz8_1 : w6.cell? ⟨gb193, 1, none⟩ = some (.int .i64 a0_1) := (blk_cell BK193.out 1).trans rfl; have hcz8_2 : w6.cell? ⟨gb193, 2, none⟩ = some (.int .i64 a0_2) := (blk_cell BK193.out 2).trans rfl; have hfz8_0 := blk_frozen BK193.out 0; have hfz8_1 := blk_frozen BK193.out 1; have hfz8_2 := blk_frozen BK193.out 2; have hcz9_0 : w6.cell? ⟨gb194, 0, none⟩ = some (.string a1_0) := (blk_cell BK194.out 0).trans rfl; have hcz9_1 : w6.cell? ⟨gb194, 1, none⟩ = some (.int .i64 a1_1) := (blk_cell BK194.out 1).trans rfl; have hcz9_2 : w6.cell? ⟨gb194, 2, none⟩ = some (.int .i64 a1_2) := (blk_cell BK194.out 2).trans rfl; have hfz9_0 := blk_frozen BK194.out 0; have hfz9_1 := blk_frozen BK194.out 1; have hfz9_2 := blk_frozen BK194.out 2) | ((with_reducible refine gate_callee (f := 72) rfl ?_); refine goesL_ (some 19) rfl rfl Try.func72 (by kernel_rfl) rfl #[.string a0_0, .string a1_0] rfl (by (try simp only [List.map_toArray, List.map_cons, List.map_nil]); first | done | rfl | (simp only [List.length_drop, List.length_take]; rfl)) ?_; (with_reducible refine (id_Compare.calls a0_0 a1_0 t195 _ A4.out).mono ?_); rintro e w' ⟨rfl, ⟨nd, rfl⟩⟩; refine ⟨_, rfl, ?_⟩))
    go_ret
    exact ⟨by first | rfl | (simp [errW_none, errW_some] <;> rfl) | (simp [*, errW_none, errW_some] <;> rfl), by repeat (first | (with_reducible first | exact HB.out | apply below_alloc | apply pw_below_drewN | apply below_drew1 | refine below_set ?_ GE193.out | refine below_set ?_ GE194.out) | exact HB.out)⟩
  · rw [if_neg c3] at H
    have c3b0 : (a0_2 == a1_2) = false := beq_eq_false_iff_ne.mpr c3
    have c3b1 : (a0_2 != a1_2) = true := bne_iff_ne.mpr c3
    obtain rfl := Option.some.inj H
    go_enter Try.func53, Try.ntmps53
    go_wp2_with (first | ((with_reducible refine gate_dst (N := 2) rfl ?_); refine box_event ?hg (N := 2) ?hd (cs := #[.string a0_0, .int .i64 a0_1, .int .i64 a0_2]) (t := 38) ?hr ?_; (case hd => rfl); (case hg => rfl); (case hr => first | (go_simp; done) | (go_simp; rfl)); intro gb193 hg w10 hbox hb; have BK193 := Aside0.mk (hbox); have GW193 := Aside0.mk ((by rw [hg]; exact (below_size (by repeat (first | (with_reducible first | exact HB.out | apply below_alloc | apply pw_below_drewN | apply below_drew1) | exact HB.out))) : w.heap.size ≤ gb193)); have GE193 := Aside0.mk ((by rw [hg]; exact (below_size (by repeat (first | (with_reducible first | exact HB.out | apply below_alloc | apply pw_below_drewN | apply below_drew1) | exact HB.out))) : w.heap.size ≤ gb193)); replace HB := Aside0.mk (below_step (by repeat (first | (with_reducible first | exact HB.out | apply below_alloc | apply pw_below_drewN | apply below_drew1) | exact HB.out)) hb); clear hb hbox hg) | ((with_reducible refine gate_dst (N := 3) rfl ?_); refine box_event ?hg (N := 3) ?hd (cs := #[.string a1_0, .int .i64 a1_1, .int .i64 a1_2]) (t := 38) ?hr ?_; (case hd => rfl); (case hg => rfl); (case hr => first | (go_simp; done) | (go_simp; rfl)); intro gb194 hg w11 hbox hb; have BK194 := Aside0.mk (hbox); have GW194 := Aside0.mk ((by rw [hg]; exact (below_size (by repeat (first | (with_reducible first | exact HB.out | apply below_alloc | apply pw_below_drewN | apply below_drew1 | refine below_set ?_ GE193.out) | exact HB.out))) : w.heap.size ≤ gb194)); have GE194 := Aside0.mk ((by rw [hg]; exact (below_size (by repeat (first | (with_reducible first | exact HB.out | apply below_alloc | apply pw_below_drewN | apply below_drew1 | refine below_set ?_ GE193.out) | exact HB.out))) : w.heap.size ≤ gb194)); replace HB := Aside0.mk (below_step (by repeat (first | (with_reducible first | exact HB.out | apply below_alloc | apply pw_below_drewN | apply below_drew1 | refine below_set ?_ GE193.out) | exact HB.out)) hb); have NB193_194 := Aside0.mk ((by rw [hg]; exact Nat.ne_of_lt (blk_lt (g := gb193) (o := .cells #[.string a0_0, .int .i64 a0_1, .int .i64 a0_2] 38 (0, 0)) (by (with_reducible repeat (first | refine blk_drewN ?_ _ | refine blk_drew ?_ | refine blk_alloc ?_ _)); exact BK193.out)) : gb193 ≠ gb194)); have NB194_193 := Aside0.mk ((by rw [hg]; exact Nat.ne_of_gt (blk_lt (g := gb193) (o := .cells #[.string a0_0, .int .i64 a0_1, .int .i64 a0_2] 38 (0, 0)) (by (with_reducible repeat (first | refine blk_drewN ?_ _ | refine blk_drew ?_ | refine blk_alloc ?_ _)); exact BK193.out)) : gb194 ≠ gb193)); replace BK193 := Aside0.mk (blk_below (g := gb193) (o := .cells #[.string a0_0, .int .i64 a0_1, .int .i64 a0_2] 38 (0, 0)) (by (with_reducible repeat (first | refine blk_drewN ?_ _ | refine blk_drew ?_ | refine blk_alloc ?_ _)); exact BK193.out) hb); clear hb hbox hg; have hnb12 := NB193_194.out; have hnc12 := NB194_193.out; have hcz13_0 : w11.cell? ⟨gb193, 0, none⟩ = some (.string a0_0) := (blk_cell BK193.out 0).trans rfl; have hcz13_1 : w11.cell? ⟨gb193, 1, none⟩ = some (.int .i64 a0_1) := (blk_cell BK193.out 1).trans rfl; have hcz13_2 : w11.cell? ⟨gb193, 2, none⟩ = some (.int .i64 a0_2) := (blk_cell BK193.out 2).trans rfl; have hfz13_0 := blk_frozen BK193.out 0; have hfz13_1 := blk_frozen BK193.out 1; have hfz13_2 := blk_frozen BK193.out 2; have hcz14_0 : w11.cell? ⟨gb194, 0, none⟩ = some (.string a1_0) := (blk_cell BK194.out 0).trans rfl; have hcz14_1 : w11.cell? ⟨gb194, 1, none⟩ = some (.int .i64 a1_1) := (blk_cell BK194.out 1).trans rfl; have hcz14_2 : w11.cell? ⟨gb194, 2, none⟩ = some (.int .i64 a1_2) := (blk_cell BK194.out 2).trans rfl; have hfz14_0 := blk_frozen BK194.out 0; have hfz14_1 := blk_frozen BK194.out 1; have hfz14_2 := blk_frozen BK194.out 2))
    go_ret
    exact ⟨by first | rfl | (simp [errW_none, errW_some] <;> rfl) | (simp [*, errW_none, errW_some] <;> rfl), by repeat (first | (with_reducible first | exact HB.out | apply below_alloc | apply pw_below_drewN | apply below_drew1 | refine below_set ?_ GE193.out | refine below_set ?_ GE194.out) | exact HB.out)⟩

end Go.Proofs.Ytgdkgobplinelaa.P
