-- Written by a program of this session (wip/pp.py over the kit's printer, with our own texts put in).
import Derived.Test.YtgdkgobplinelaaP0
import Derived.Test.YtgdkgobplinelaaP2
import Derived.Test.YtgdkgobplinelaaP5
namespace Go.Proofs.Ytgdkgobplinelaa.P
open Go.RowKit Go.Proofs.YtgdkgobplinelaaW.PrintWords Go.Proofs.YtgdkgobplinelaaW.PrintLast Go.Proofs.YtgdkgobplinelaaW.PrintMore
attribute [local go_sem] run_store_complex max2_int min2_int max_two min_two max_three min_three max_four min_four   -- for this text's walks alone
set_option linter.unusedVariables false
set_option linter.unusedSimpArgs false

attribute [local go_sem high] eqA26 eqA41
/-! ### cenotaphref01_Right: function 66 -/
mutual
def cenotaphref01_Right.j0 : Nat → ByteArray → Bool → Option (Bool)
  | 0, _, _ => none
  | k + 1, x0, x16 => if x16 = true then (some false) else (cenotaphref01_Right.l0 k x0 1)
def cenotaphref01_Right.l0 : Nat → ByteArray → Int → Option (Bool)
  | 0, _, _ => none
  | k + 1, x0, x3 => if x3 < (x0.size : Int) then (if 0 ≤ x3 then (if (bt x0 x3) < 49 then (some false) else (if (bt x0 x3) > 57 then (some false) else (cenotaphref01_Right.l0 k x0 (wrap64 (x3 + 1))))) else (none)) else (some true)
end
def cenotaphref01_Right.f (k : Nat) (a0 : ByteArray) : Option (Bool) := if (a0.size : Int) < 1 then (cenotaphref01_Right.j0 k a0 true) else (if (a0.size : Int) > 6 then (cenotaphref01_Right.j0 k a0 true) else (if 0 < (a0.size : Int) then (cenotaphref01_Right.j0 k a0 ((bt a0 0) != 48)) else (none)))
theorem cenotaphref01_Right.mono_l : ∀ k, (∀ y0 y1, LeO (cenotaphref01_Right.j0 k y0 y1) (cenotaphref01_Right.j0 (k + 1) y0 y1)) ∧ (∀ y0 y1, LeO (cenotaphref01_Right.l0 k y0 y1) (cenotaphref01_Right.l0 (k + 1) y0 y1))
  | 0 => ⟨fun _ _ r h => by simp [cenotaphref01_Right.j0] at h, fun _ _ r h => by simp [cenotaphref01_Right.l0] at h⟩
  | k + 1 => by
    obtain ⟨ih0, ih1⟩ := cenotaphref01_Right.mono_l k
    refine ⟨?_, ?_⟩
    · intro y0 y1
      unfold cenotaphref01_Right.j0
      repeat' first
      | (with_reducible exact ih0 _ _)
      | (with_reducible exact ih1 _ _)
      | (with_reducible exact LeO.refl _)
      | (with_reducible exact LeO.none _)
      | (with_reducible refine LeO.ite ?_ ?_)
      | (with_reducible refine LeO.bind ?_ (fun _ => ?_))
      | exact ih0 _ _
      | exact ih1 _ _
      | exact LeO.none _
      | refine LeO.ite ?_ ?_
      | refine LeO.bind ?_ (fun _ => ?_)
    · intro y0 y1
      unfold cenotaphref01_Right.l0
      repeat' first
      | (with_reducible exact ih0 _ _)
      | (with_reducible exact ih1 _ _)
      | (with_reducible exact LeO.refl _)
      | (with_reducible exact LeO.none _)
      | (with_reducible refine LeO.ite ?_ ?_)
      | (with_reducible refine LeO.bind ?_ (fun _ => ?_))
      | exact ih0 _ _
      | exact ih1 _ _
      | exact LeO.none _
      | refine LeO.ite ?_ ?_
      | refine LeO.bind ?_ (fun _ => ?_)
theorem cenotaphref01_Right.mono : ∀ a0 k, LeO (cenotaphref01_Right.f k a0) (cenotaphref01_Right.f (k + 1) a0) := by
  intro a0 k
  obtain ⟨ih0, ih1⟩ := cenotaphref01_Right.mono_l k
  unfold cenotaphref01_Right.f
  repeat' first
      | (with_reducible exact ih0 _ _)
      | (with_reducible exact ih1 _ _)
      | (with_reducible exact LeO.refl _)
      | (with_reducible exact LeO.none _)
      | (with_reducible refine LeO.ite ?_ ?_)
      | (with_reducible refine LeO.bind ?_ (fun _ => ?_))
      | exact ih0 _ _
      | exact ih1 _ _
      | exact LeO.none _
      | refine LeO.ite ?_ ?_
      | refine LeO.bind ?_ (fun _ => ?_)
set_option maxHeartbeats 8000000 in
set_option maxRecDepth 100000 in
theorem cenotaphref01_Right.calls (k : Nat) (a0 : ByteArray) (r : Bool) (w : World) (h : cenotaphref01_Right.f k a0 = some r) :
    Calls Try.prog 66 #[.string a0] w fun e w' => e = .returned (.bool r) ∧ Drawn0 w w' := by
  have H := h
  unfold cenotaphref01_Right.f at H
  clear h
  have HC2 := Aside0.mk H
  clear H
  go_enter Try.func66, Try.ntmps66
  go_upto_region 1 with (fail)
  go_cut [16] (fun v16 wc => ∃ (kq : Nat) (x16_1 : Bool), v16 = .bool x16_1 ∧ Aside0 (cenotaphref01_Right.j0 kq a0 x16_1 = some r) ∧ Aside0 (kq ≤ k) ∧ Drawn0 w wc)
  case first =>
    have H := HC2.out
    clear HC2
    by_cases c3 : (a0.size : Int) < 1
    · rw [if_pos c3] at H
      have c3b0 : decide ((a0.size : Int) < 1) = true := decide_eq_true c3
      have c3b1 : decide (a0.size < 1) = true := decide_eq_true (by omega)
      clear c3
      (first | rw [c3b0] | (simp only [i64_w, i32_w]; rw [c3b0]) | skip)
      have H' := Aside0.mk H
      clear H
      go_wp2
      go_meet
      case rel => exact ⟨_, (true), (by first | rfl | (simp; done) | (simp [*]; done)), H', ⟨by first | omega | exact Nat.le_refl _⟩, by repeat (first | exact Drawn0.refl _ | apply Drawn0.step)⟩
    · rw [if_neg c3] at H
      have c3b0 : decide ((a0.size : Int) < 1) = false := decide_eq_false c3
      have c3b1 : decide (a0.size < 1) = false := decide_eq_false (by omega)
      clear c3
      (first | rw [c3b0] | (simp only [i64_w, i32_w]; rw [c3b0]) | skip)
      by_cases c4 : (a0.size : Int) > 6
      · rw [if_pos c4] at H
        have c4b0 : decide (6 < (a0.size : Int)) = true := decide_eq_true c4
        have c4b1 : decide (6 < a0.size) = true := decide_eq_true (by omega)
        clear c4
        have H' := Aside0.mk H
        clear H
        go_wp2
        go_meet
        case rel => exact ⟨_, (true), (by first | rfl | (simp; done) | (simp [*]; done)), H', ⟨by first | omega | exact Nat.le_refl _⟩, by repeat (first | exact Drawn0.refl _ | apply Drawn0.step)⟩
      · rw [if_neg c4] at H
        have c4b0 : decide (6 < (a0.size : Int)) = false := decide_eq_false c4
        have c4b1 : decide (6 < a0.size) = false := decide_eq_false (by omega)
        clear c4
        by_cases c5 : 0 < (a0.size : Int)
        · rw [if_pos c5] at H
          have c5b0 : decide (0 < (a0.size : Int)) = true := decide_eq_true c5
          have c5b1 : decide (0 < a0.size) = true := decide_eq_true (by omega)
          clear c5
          have H' := Aside0.mk H
          clear H
          have p6 : 0 ≤ (0 : Int) := (by omega)
          have q6 : 0 < a0.size := (by have : (0 : Int) < (a0.size : Int) := of_decide_eq_true (by first | (with_reducible assumption) | assumption); omega)
          have hx6 : ∀ h : 0 < a0.size, ((a0[0]'h).toNat : Int) = bt a0 0 := bt_at a0 0
          clear p6
          have qi6 : (0 < (a0.size : Int)) = True := eq_true (of_decide_eq_true (by first | (with_reducible assumption) | assumption))
          replace q6 := eq_true q6
          go_wp2
          go_meet
          case rel => exact ⟨_, (((bt a0 0) != 48)), (by first | rfl | (simp; done) | (simp [*]; done)), H', ⟨by first | omega | exact Nat.le_refl _⟩, by repeat (first | exact Drawn0.refl _ | apply Drawn0.step)⟩
        · rw [if_neg c5] at H
          exact absurd H (by simp)
  case rest =>
    clear HC2
    try clear p2
    try clear c3
    try clear c3b0
    try clear c3b1
    try clear c4
    try clear c4b0
    try clear c4b1
    try clear c5
    try clear c5b0
    try clear c5b1
    try clear c6
    try clear p6
    try clear q6
    try clear hx6
    try clear qi6
    try clear p6
    try clear q6
    obtain ⟨kq, x16_1, rfl, HA, HJ1, ⟨mc1, rfl⟩⟩ := hcut
    cases kq with
    | zero => exact absurd HA.out (by simp [cenotaphref01_Right.j0])
    | succ kj1 =>
      have H := HA.out
      clear HA
      simp only [cenotaphref01_Right.j0] at H
      by_cases c7 : x16_1 = true
      · subst c7
        have H1 : (some false) = some r := by rw [if_pos rfl] at H; exact H
        clear H
        have H := H1
        clear H1
        obtain rfl := Option.some.inj H
        go_wp2
        go_ret
        exact ⟨by first | rfl | (simp; done) | (simp [*]; done), by repeat (first | exact Drawn0.refl _ | apply Drawn0.step)⟩
      · replace c7 := Bool.eq_false_iff.mpr c7
        subst c7
        have H1 : (cenotaphref01_Right.l0 kj1 a0 1) = some r := by rw [if_neg (show ¬ (false = true) by decide)] at H; exact H
        clear H
        have H := H1
        clear H1
        have H' := Aside0.mk H
        clear H
        go_wp2
        go_loopg [3] kj1 (fun kq v3 w' => ∃ (x3_2 : Int), v3 = .int .i64 x3_2 ∧ Aside0 (cenotaphref01_Right.l0 kq a0 x3_2 = some r) ∧ Aside0 (kq ≤ kj1) ∧ Drawn0 w w')
        case atStart => exact ⟨(1), (by first | rfl | (simp; done) | (simp [*]; done)), H', ⟨Nat.le_refl _⟩, by repeat (first | exact Drawn0.refl _ | apply Drawn0.step)⟩
        case round =>
          clear H'
          try clear c1
          try clear p2
          try clear c3
          try clear c3b0
          try clear c3b1
          try clear c4
          try clear c4b0
          try clear c4b1
          try clear c5
          try clear c5b0
          try clear c5b1
          try clear c6
          try clear p6
          try clear q6
          try clear hx6
          try clear qi6
          try clear c7
          try clear p2
          try clear p6
          try clear q6
          obtain ⟨x3_2, rfl, HA, HK2, ⟨m2, rfl⟩⟩ := hrel
          cases gk with
          | zero => exact absurd HA.out (by simp [cenotaphref01_Right.l0])
          | succ k2 =>
            have H := HA.out
            clear HA
            simp only [cenotaphref01_Right.l0] at H
            by_cases c8 : x3_2 < (a0.size : Int)
            · rw [if_pos c8] at H
              have c8b0 : decide (x3_2 < (a0.size : Int)) = true := decide_eq_true c8
              clear c8
              by_cases c9 : 0 ≤ x3_2
              · rw [if_pos c9] at H
                have c9b0 : decide (0 ≤ x3_2) = true := decide_eq_true c9
                clear c9
                by_cases c11 : (bt a0 x3_2) < 49
                · rw [if_pos c11] at H
                  have c11b0 : decide ((bt a0 x3_2) < 49) = true := decide_eq_true c11
                  clear c11
                  obtain rfl := Option.some.inj H
                  have p10 : 0 ≤ (x3_2 : Int) := of_decide_eq_true (by first | (with_reducible assumption) | assumption)
                  have q10 : x3_2 < (a0.size : Int) := of_decide_eq_true (by first | (with_reducible assumption) | assumption)
                  have hx10 := bt_at a0 x3_2
                  replace p10 := eq_true p10
                  replace q10 := eq_true q10
                  go_wp2
                  go_ret
                  exact ⟨by first | rfl | (simp; done) | (simp [*]; done), by repeat (first | exact Drawn0.refl _ | apply Drawn0.step)⟩
                · rw [if_neg c11] at H
                  have c11b0 : decide ((bt a0 x3_2) < 49) = false := decide_eq_false c11
                  clear c11
                  by_cases c13 : (bt a0 x3_2) > 57
                  · rw [if_pos c13] at H
                    have c13b0 : decide (57 < (bt a0 x3_2)) = true := decide_eq_true c13
                    clear c13
                    obtain rfl := Option.some.inj H
                    have p10 : 0 ≤ (x3_2 : Int) := of_decide_eq_true (by first | (with_reducible assumption) | assumption)
                    have q10 : x3_2 < (a0.size : Int) := of_decide_eq_true (by first | (with_reducible assumption) | assumption)
                    have hx10 := bt_at a0 x3_2
                    replace p10 := eq_true p10
                    replace q10 := eq_true q10
                    have p12 : 0 ≤ (x3_2 : Int) := of_decide_eq_true (by first | (with_reducible assumption) | assumption)
                    have q12 : x3_2 < (a0.size : Int) := of_decide_eq_true (by first | (with_reducible assumption) | assumption)
                    have hx12 := bt_at a0 x3_2
                    replace p12 := eq_true p12
                    replace q12 := eq_true q12
                    go_wp2
                    go_ret
                    exact ⟨by first | rfl | (simp; done) | (simp [*]; done), by repeat (first | exact Drawn0.refl _ | apply Drawn0.step)⟩
                  · rw [if_neg c13] at H
                    have c13b0 : decide (57 < (bt a0 x3_2)) = false := decide_eq_false c13
                    clear c13
                    have H' := Aside0.mk H
                    clear H
                    have p10 : 0 ≤ (x3_2 : Int) := of_decide_eq_true (by first | (with_reducible assumption) | assumption)
                    have q10 : x3_2 < (a0.size : Int) := of_decide_eq_true (by first | (with_reducible assumption) | assumption)
                    have hx10 := bt_at a0 x3_2
                    replace p10 := eq_true p10
                    replace q10 := eq_true q10
                    have p12 : 0 ≤ (x3_2 : Int) := of_decide_eq_true (by first | (with_reducible assumption) | assumption)
                    have q12 : x3_2 < (a0.size : Int) := of_decide_eq_true (by first | (with_reducible assumption) | assumption)
                    have hx12 := bt_at a0 x3_2
                    replace p12 := eq_true p12
                    replace q12 := eq_true q12
                    go_wp2
                    go_roundg k2
                    case measure => have := HJ1.out; have := HK2.out; omega
                    case rel => exact ⟨(wrap64 (x3_2 + 1)), (by first | rfl | (simp; done) | (simp [*]; done)), H', ⟨by have := HJ1.out; have := HK2.out; omega⟩, by repeat (first | exact Drawn0.refl _ | apply Drawn0.step)⟩
              · rw [if_neg c9] at H
                exact absurd H (by simp)
            · rw [if_neg c8] at H
              have c8b0 : decide (x3_2 < (a0.size : Int)) = false := decide_eq_false c8
              clear c8
              obtain rfl := Option.some.inj H
              go_wp2
              go_ret
              exact ⟨by first | rfl | (simp; done) | (simp [*]; done), by repeat (first | exact Drawn0.refl _ | apply Drawn0.step)⟩

/-! ### cenotaphref05_near: function 82 -/
def cenotaphref05_near.f (a0 : Int) (a1 : Int) : Option (Bool) := if a0 ≥ (wrap64 (-a1)) then (some (decide (a0 ≤ a1))) else (some false)
set_option maxHeartbeats 8000000 in
set_option maxRecDepth 100000 in
theorem cenotaphref05_near.calls (a0 : Int) (a1 : Int) (r : Bool) (w : World) (h : cenotaphref05_near.f a0 a1 = some r) :
    Calls Try.prog 82 #[.int .i64 a0, .int .i64 a1] w fun e w' => e = .returned (.bool r) ∧ Drawn0 w w' := by
  have H : (if a0 ≥ (wrap64 (-a1)) then (some (decide (a0 ≤ a1))) else (some false)) = some r := h
  clear h
  by_cases c3 : a0 ≥ (wrap64 (-a1))
  · rw [if_pos c3] at H
    have c3b0 : decide ((wrap64 (-a1)) ≤ a0) = true := decide_eq_true c3
    clear c3
    obtain rfl := Option.some.inj H
    go_enter Try.func82, Try.ntmps82
    go_wp2
    go_ret
    exact ⟨by first | rfl | (simp; done) | (simp [*]; done), by repeat (first | exact Drawn0.refl _ | apply Drawn0.step)⟩
  · rw [if_neg c3] at H
    have c3b0 : decide ((wrap64 (-a1)) ≤ a0) = false := decide_eq_false c3
    clear c3
    obtain rfl := Option.some.inj H
    go_enter Try.func82, Try.ntmps82
    go_wp2
    go_ret
    exact ⟨by first | rfl | (simp; done) | (simp [*]; done), by repeat (first | exact Drawn0.refl _ | apply Drawn0.step)⟩

/-! ### cenotaphref05_Whole: function 67 -/
def cenotaphref05_Whole.f (a0_0 : Int) (a0_1 : Int) : Option (Bool) := (cenotaphref05_near.f a0_0 1000).bind fun t542 => (if t542 = true then ((cenotaphref05_near.f a0_1 1000).bind fun t543 => (some t543)) else (some false))
set_option maxHeartbeats 8000000 in
set_option maxRecDepth 100000 in
theorem cenotaphref05_Whole.calls (a0_0 : Int) (a0_1 : Int) (r : Bool) (w : World) (h : cenotaphref05_Whole.f a0_0 a0_1 = some r) :
    Calls Try.prog 67 #[.agg #[.int .i64 a0_0, .int .i64 a0_1]] w fun e w' => e = .returned (.bool r) ∧ Below w.heap.size w w' := by
  have hu26 := Try.underlying26
  have HB := Aside0.mk (Below.refl w.heap.size w)
  have H : ((cenotaphref05_near.f a0_0 1000).bind fun t542 => (if t542 = true then ((cenotaphref05_near.f a0_1 1000).bind fun t543 => (some t543)) else (some false))) = some r := h
  clear h
  replace H := Option.bind_eq_some_iff.mp H
  obtain ⟨t542, A20, H⟩ := H
  have A2 := Aside0.mk A20
  clear A20
  by_cases c3 : t542 = true
  · subst c3
    have H1 : ((cenotaphref05_near.f a0_1 1000).bind fun t543 => (some t543)) = some r := by rw [if_pos rfl] at H; exact H
    clear H
    have H := H1
    clear H1
    replace H := Option.bind_eq_some_iff.mp H
    obtain ⟨t543, A40, H⟩ := H
    have A4 := Aside0.mk A40
    clear A40
    obtain rfl := Option.some.inj H
    go_enter Try.func67, Try.ntmps67
    go_wp2_with (first | ((with_reducible refine gate_dst (N := 1) rfl ?_); refine box_event ?hg (N := 1) ?hd (cs := #[.int .i64 a0_0, .int .i64 a0_1]) (t := 26) ?hr ?_; (case hd => rfl); (case hg => rfl); (case hr => first | (go_simp; done) | (go_simp; rfl)); intro gb541 hg w5 hbox hb; have BK541 := Aside0.mk (hbox); have GW541 := Aside0.mk ((by rw [hg]; exact (below_size (by repeat (first | (with_reducible first | exact HB.out | apply below_alloc | apply pw_below_drewN | apply below_drew1) | exact HB.out))) : w.heap.size ≤ gb541)); have GE541 := Aside0.mk ((by rw [hg]; exact (below_size (by repeat (first | (with_reducible first | exact HB.out | apply below_alloc | apply pw_below_drewN | apply below_drew1) | exact HB.out))) : w.heap.size ≤ gb541)); replace HB := Aside0.mk (below_step (by repeat (first | (with_reducible first | exact HB.out | apply below_alloc | apply pw_below_drewN | apply below_drew1) | exact HB.out)) hb); clear hb hbox hg; have hcz6_0 : w5.cell? ⟨gb541, 0, none⟩ = some (.int .i64 a0_0) := (blk_cell BK541.out 0).trans rfl; have hcz6_1 : w5.cell? ⟨gb541, 1, none⟩ = some (.int .i64 a0_1) := (blk_cell BK541.out 1).trans rfl; have hfz6_0 := blk_frozen BK541.out 0; have hfz6_1 := blk_frozen BK541.out 1) | ((with_reducible refine gate_callee (f := 82) rfl ?_); refine goesL_ (some 5) rfl rfl Try.func82 (by kernel_rfl) rfl #[.int .i64 a0_0, .int .i64 1000] rfl (by (try simp only [List.map_toArray, List.map_cons, List.map_nil]); first | done | rfl | (simp only [List.length_drop, List.length_take]; rfl)) ?_; (with_reducible refine (cenotaphref05_near.calls a0_0 1000 true _ A2.out).mono ?_); rintro e w' ⟨rfl, ⟨nd, rfl⟩⟩; refine ⟨_, rfl, ?_⟩) | (go_at_call 82; (with_reducible refine (cenotaphref05_near.calls a0_1 1000 t543 _ A4.out).mono ?_); rintro e w' ⟨rfl, ⟨nd, rfl⟩⟩))
    go_ret
    exact ⟨by first | rfl | (simp [errW_none, errW_some] <;> rfl) | (simp [*, errW_none, errW_some] <;> rfl), by repeat (first | (with_reducible first | exact HB.out | apply below_alloc | apply pw_below_drewN | apply below_drew1 | refine below_set ?_ GE541.out) | exact HB.out)⟩
  · replace c3 := Bool.eq_false_iff.mpr c3
    subst c3
    have H1 : (some false) = some r := by rw [if_neg (show ¬ (false = true) by decide)] at H; exact H
    clear H
    have H := H1
    clear H1
    obtain rfl := Option.some.inj H
    go_enter Try.func67, Try.ntmps67
    go_wp2_with (first | ((with_reducible refine gate_dst (N := 1) rfl ?_); refine box_event ?hg (N := 1) ?hd (cs := #[.int .i64 a0_0, .int .i64 a0_1]) (t := 26) ?hr ?_; (case hd => rfl); (case hg => rfl); (case hr => first | (go_simp; done) | (go_simp; rfl)); intro gb541 hg w7 hbox hb; have BK541 := Aside0.mk (hbox); have GW541 := Aside0.mk ((by rw [hg]; exact (below_size (by repeat (first | (with_reducible first | exact HB.out | apply below_alloc | apply pw_below_drewN | apply below_drew1) | exact HB.out))) : w.heap.size ≤ gb541)); have GE541 := Aside0.mk ((by rw [hg]; exact (below_size (by repeat (first | (with_reducible first | exact HB.out | apply below_alloc | apply pw_below_drewN | apply below_drew1) | exact HB.out))) : w.heap.size ≤ gb541)); replace HB := Aside0.mk (below_step (by repeat (first | (with_reducible first | exact HB.out | apply below_alloc | apply pw_below_drewN | apply below_drew1) | exact HB.out)) hb); clear hb hbox hg; have hcz8_0 : w7.cell? ⟨gb541, 0, none⟩ = some (.int .i64 a0_0) := (blk_cell BK541.out 0).trans rfl; have hcz8_1 : w7.cell? ⟨gb541, 1, none⟩ = some (.int .i64 a0_1) := (blk_cell BK541.out 1).trans rfl; have hfz8_0 := blk_frozen BK541.out 0; have hfz8_1 := blk_frozen BK541.out 1) | ((with_reducible refine gate_callee (f := 82) rfl ?_); refine goesL_ (some 5) rfl rfl Try.func82 (by kernel_rfl) rfl #[.int .i64 a0_0, .int .i64 1000] rfl (by (try simp only [List.map_toArray, List.map_cons, List.map_nil]); first | done | rfl | (simp only [List.length_drop, List.length_take]; rfl)) ?_; (with_reducible refine (cenotaphref05_near.calls a0_0 1000 false _ A2.out).mono ?_); rintro e w' ⟨rfl, ⟨nd, rfl⟩⟩; refine ⟨_, rfl, ?_⟩))
    go_ret
    exact ⟨by first | rfl | (simp [errW_none, errW_some] <;> rfl) | (simp [*, errW_none, errW_some] <;> rfl), by repeat (first | (with_reducible first | exact HB.out | apply below_alloc | apply pw_below_drewN | apply below_drew1 | refine below_set ?_ GE541.out) | exact HB.out)⟩

/-! ### cenotaphref07_Right: function 47 -/
theorem zq47_0 {p_ : Prop} (h_ : p_ := by repeat (first | (with_reducible first | exact HB.out | apply below_alloc | apply pw_below_drewN | apply below_drew1 | refine below_set ?_ GE544.out) | exact HB.out)) : p_ := h_
theorem zq47_1 {p_ : Prop} (h_ : p_ := by (try simp only [List.map_toArray, List.map_cons, List.map_nil]); first | done | rfl | (simp only [List.length_drop, List.length_take]; rfl)) : p_ := h_
theorem zq47_2 {p_ : Prop} (h_ : p_ := by repeat (first | (with_reducible first | exact HB.out | apply below_alloc | apply pw_below_drewN | apply below_drew1) | exact HB.out)) : p_ := h_
theorem zq47_3 {p_ : Prop} (h_ : p_ := by (with_reducible repeat (first | refine blk_drewN ?_ _ | refine blk_drew ?_ | refine blk_alloc ?_ _)); exact BK544.out) : p_ := h_
theorem zq47_4 {p_ : Prop} (h_ : p_ := by first | rfl | (simp; done) | (simp [*]; done)) : p_ := h_
def cenotaphref07_Right.j0 : Nat → Bool → Int → ByteArray → Int → Int → Bool → Int → Int → ByteArray → Bool → Option (Bool)
 | 0, _, _, _, _, _, _, _, _, _, _ => none
 | k + 1, x41, x545000, x545001, x545002, x545003, x545004, x545005, x545006, x545007, x545008 => if x41 = true then (some false) else ((cenotaphref05_Whole.f x545005 x545006).bind fun t546 => (if t546 = true then (if (x545007.size : Int) > 16 then (some false) else (if x545004 = true then (if (!(x545005 == 0) || (!(x545006 == 0))) = true then (some false) else (if x545008 = true then (some false) else (some ((x545007.size : Int) == 0)))) else (if x545008 = true then (some true) else (some ((x545007.size : Int) == 0))))) else (some false)))
def cenotaphref07_Right.f (k : Nat) (a0_0 : Int) (a0_1 : ByteArray) (a0_2 : Int) (a0_3 : Int) (a0_4 : Bool) (a0_5 : Int) (a0_6 : Int) (a0_7 : ByteArray) (a0_8 : Bool) : Option (Bool) := if a0_0 < 0 then (cenotaphref07_Right.j0 k true a0_0 a0_1 a0_2 a0_3 a0_4 a0_5 a0_6 a0_7 a0_8) else (if a0_0 > 31 then (cenotaphref07_Right.j0 k true a0_0 a0_1 a0_2 a0_3 a0_4 a0_5 a0_6 a0_7 a0_8) else ((cenotaphref01_Right.f k a0_1).bind fun t545 => (if t545 = true then (if a0_2 < 1 then (cenotaphref07_Right.j0 k true a0_0 a0_1 a0_2 a0_3 a0_4 a0_5 a0_6 a0_7 a0_8) else (if a0_2 > 1048576 then (cenotaphref07_Right.j0 k true a0_0 a0_1 a0_2 a0_3 a0_4 a0_5 a0_6 a0_7 a0_8) else (if a0_3 < 1 then (cenotaphref07_Right.j0 k true a0_0 a0_1 a0_2 a0_3 a0_4 a0_5 a0_6 a0_7 a0_8) else (cenotaphref07_Right.j0 k (decide (a0_3 > 1048576)) a0_0 a0_1 a0_2 a0_3 a0_4 a0_5 a0_6 a0_7 a0_8)))) else (cenotaphref07_Right.j0 k true a0_0 a0_1 a0_2 a0_3 a0_4 a0_5 a0_6 a0_7 a0_8))))
theorem cenotaphref07_Right.mono_l : ∀ k, (∀ y0 y1 y2 y3 y4 y5 y6 y7 y8 y9, LeO (cenotaphref07_Right.j0 k y0 y1 y2 y3 y4 y5 y6 y7 y8 y9) (cenotaphref07_Right.j0 (k + 1) y0 y1 y2 y3 y4 y5 y6 y7 y8 y9))
 | 0 => fun _ _ _ _ _ _ _ _ _ _ r h => by simp [cenotaphref07_Right.j0] at h
 | k + 1 => by
  have ih0 := cenotaphref07_Right.mono_l k
  ·intro y0 y1 y2 y3 y4 y5 y6 y7 y8 y9
   unfold cenotaphref07_Right.j0
   repeat' first
   | (with_reducible exact ih0 _ _ _ _ _ _ _ _ _ _)
   | (with_reducible exact cenotaphref01_Right.mono _ _)
   | (with_reducible exact LeO.refl _)
   | (with_reducible exact LeO.none _)
   | (with_reducible refine LeO.ite ?_ ?_)
   | (with_reducible refine LeO.bind ?_ (fun _ => ?_))
   | exact ih0 _ _ _ _ _ _ _ _ _ _
   | exact cenotaphref01_Right.mono _ _
   | exact LeO.none _
   | refine LeO.ite ?_ ?_
   | refine LeO.bind ?_ (fun _ => ?_)
theorem cenotaphref07_Right.mono : ∀ a0 a1 a2 a3 a4 a5 a6 a7 a8 k, LeO (cenotaphref07_Right.f k a0 a1 a2 a3 a4 a5 a6 a7 a8) (cenotaphref07_Right.f (k + 1) a0 a1 a2 a3 a4 a5 a6 a7 a8) := by
 intro a0 a1 a2 a3 a4 a5 a6 a7 a8 k
 have ih0 := cenotaphref07_Right.mono_l k
 unfold cenotaphref07_Right.f
 repeat' first
   | (with_reducible exact ih0 _ _ _ _ _ _ _ _ _ _)
   | (with_reducible exact cenotaphref01_Right.mono _ _)
   | (with_reducible exact LeO.refl _)
   | (with_reducible exact LeO.none _)
   | (with_reducible refine LeO.ite ?_ ?_)
   | (with_reducible refine LeO.bind ?_ (fun _ => ?_))
   | exact ih0 _ _ _ _ _ _ _ _ _ _
   | exact cenotaphref01_Right.mono _ _
   | exact LeO.none _
   | refine LeO.ite ?_ ?_
   | refine LeO.bind ?_ (fun _ => ?_)
set_option maxHeartbeats 8000000 in
set_option maxRecDepth 100000 in
theorem cenotaphref07_Right.calls (k : Nat) (a0_0 : Int) (a0_1 : ByteArray) (a0_2 : Int) (a0_3 : Int) (a0_4 : Bool) (a0_5 : Int) (a0_6 : Int) (a0_7 : ByteArray) (a0_8 : Bool) (r : Bool) (w : World) (h : cenotaphref07_Right.f k a0_0 a0_1 a0_2 a0_3 a0_4 a0_5 a0_6 a0_7 a0_8 = some r) :
  Calls Try.prog 47 #[.agg #[.int .i64 a0_0, .string a0_1, .int .i64 a0_2, .int .i64 a0_3, .bool a0_4, .int .i64 a0_5, .int .i64 a0_6, .string a0_7, .bool a0_8]] w fun e w' => e = .returned (.bool r) ∧ Below w.heap.size w w' := by
 have hu28 := Try.underlying28
 have hu26 := Try.underlying26
 have HB := Aside0.mk (Below.refl w.heap.size w)
 have H := h
 unfold cenotaphref07_Right.f at H
 clear h
 have HC2 := Aside0.mk H
 clear H
 go_enter Try.func47, Try.ntmps47
 go_upto_region 1 with (first | ((with_reducible refine gate_dst (N := 1) rfl ?_); (try (refine gate_guard (by rfl) ?_; dsimp only)); refine box_event ?hg (N := 1) ?hd (cs := #[.int .i64 a0_0, .string a0_1, .int .i64 a0_2, .int .i64 a0_3, .bool a0_4, .int .i64 a0_5, .int .i64 a0_6, .string a0_7, .bool a0_8]) (t := 28) ?hr ?_; (case hd => rfl); (case hg => rfl); (case hr => first | (go_simp; done) | (go_simp; rfl)); intro gb544 hg w3 hbox hb; have BK544 := Aside0.mk (hbox); have GW544 := Aside0.mk (((by rw [hg]; exact (below_size zq47_2)) : w.heap.size ≤ gb544)); have GE544 := Aside0.mk (((by rw [hg]; exact (below_size zq47_2)) : w.heap.size ≤ gb544)); replace HB := Aside0.mk (below_step zq47_2 hb); clear hb hbox hg))
 (try simp only [Act.put, List.setIfInBounds_toArray, List.set_cons_zero, List.set_cons_succ])
 go_cut [41] (fun v41 wc => ∃ (kq : Nat) (x41_1 : Bool), v41 = .bool x41_1 ∧ Aside0 (cenotaphref07_Right.j0 kq x41_1 a0_0 a0_1 a0_2 a0_3 a0_4 a0_5 a0_6 a0_7 a0_8 = some r) ∧ Aside0 (kq ≤ k) ∧ Aside0 (wc.heap[gb544]? = some (.cells #[.int .i64 a0_0, .string a0_1, .int .i64 a0_2, .int .i64 a0_3, .bool a0_4, .int .i64 a0_5, .int .i64 a0_6, .string a0_7, .bool a0_8] 28 (0, 0))) ∧ Aside0 (Below w.heap.size w wc))
 case first =>
  have H := HC2.out
  clear HC2
  by_cases c4 : a0_0 < 0
  ·rw [if_pos c4] at H
   have c4b0 : decide (a0_0 < 0) = true := decide_eq_true c4
   clear c4
   (first | rw [c4b0] | (simp only [i64_w, i32_w]; rw [c4b0]) | skip)
   have H' := Aside0.mk H
   clear H
   have hcz5_0 : w3.cell? ⟨gb544, 0, none⟩ = some (.int .i64 a0_0) := (blk_cell BK544.out 0).trans rfl
   have hcz5_1 : w3.cell? ⟨gb544, 1, none⟩ = some (.string a0_1) := (blk_cell BK544.out 1).trans rfl
   have hcz5_2 : w3.cell? ⟨gb544, 2, none⟩ = some (.int .i64 a0_2) := (blk_cell BK544.out 2).trans rfl
   have hcz5_3 : w3.cell? ⟨gb544, 3, none⟩ = some (.int .i64 a0_3) := (blk_cell BK544.out 3).trans rfl
   have hcz5_4 : w3.cell? ⟨gb544, 4, none⟩ = some (.bool a0_4) := (blk_cell BK544.out 4).trans rfl
   have hcz5_5 : w3.cell? ⟨gb544, 5, none⟩ = some (.int .i64 a0_5) := (blk_cell BK544.out 5).trans rfl
   have hcz5_6 : w3.cell? ⟨gb544, 6, none⟩ = some (.int .i64 a0_6) := (blk_cell BK544.out 6).trans rfl
   have hcz5_7 : w3.cell? ⟨gb544, 7, none⟩ = some (.string a0_7) := (blk_cell BK544.out 7).trans rfl
   have hcz5_8 : w3.cell? ⟨gb544, 8, none⟩ = some (.bool a0_8) := (blk_cell BK544.out 8).trans rfl
   have hfz5_0 := blk_frozen BK544.out 0
   have hfz5_1 := blk_frozen BK544.out 1
   have hfz5_2 := blk_frozen BK544.out 2
   have hfz5_3 := blk_frozen BK544.out 3
   have hfz5_4 := blk_frozen BK544.out 4
   have hfz5_5 := blk_frozen BK544.out 5
   have hfz5_6 := blk_frozen BK544.out 6
   have hfz5_7 := blk_frozen BK544.out 7
   have hfz5_8 := blk_frozen BK544.out 8
   go_wp2
   go_meet
   case rel => exact ⟨_, (true), zq47_4, H', ⟨by first | omega | exact Nat.le_refl _⟩, ⟨by (with_reducible repeat (first | refine blk_drewN ?_ _ | refine blk_drew ?_ | refine blk_alloc ?_ _)); exact BK544.out⟩, ⟨by repeat (first | (with_reducible first | exact HB.out | apply below_alloc | apply pw_below_drewN | apply below_drew1 | refine below_set ?_ GE544.out) | exact HB.out)⟩⟩
  ·rw [if_neg c4] at H
   have c4b0 : decide (a0_0 < 0) = false := decide_eq_false c4
   clear c4
   (first | rw [c4b0] | (simp only [i64_w, i32_w]; rw [c4b0]) | skip)
   by_cases c6 : a0_0 > 31
   ·rw [if_pos c6] at H
    have c6b0 : decide (31 < a0_0) = true := decide_eq_true c6
    clear c6
    have H' := Aside0.mk H
    clear H
    have hcz7_0 : w3.cell? ⟨gb544, 0, none⟩ = some (.int .i64 a0_0) := (blk_cell BK544.out 0).trans rfl
    have hcz7_1 : w3.cell? ⟨gb544, 1, none⟩ = some (.string a0_1) := (blk_cell BK544.out 1).trans rfl
    have hcz7_2 : w3.cell? ⟨gb544, 2, none⟩ = some (.int .i64 a0_2) := (blk_cell BK544.out 2).trans rfl
    have hcz7_3 : w3.cell? ⟨gb544, 3, none⟩ = some (.int .i64 a0_3) := (blk_cell BK544.out 3).trans rfl
    have hcz7_4 : w3.cell? ⟨gb544, 4, none⟩ = some (.bool a0_4) := (blk_cell BK544.out 4).trans rfl
    have hcz7_5 : w3.cell? ⟨gb544, 5, none⟩ = some (.int .i64 a0_5) := (blk_cell BK544.out 5).trans rfl
    have hcz7_6 : w3.cell? ⟨gb544, 6, none⟩ = some (.int .i64 a0_6) := (blk_cell BK544.out 6).trans rfl
    have hcz7_7 : w3.cell? ⟨gb544, 7, none⟩ = some (.string a0_7) := (blk_cell BK544.out 7).trans rfl
    have hcz7_8 : w3.cell? ⟨gb544, 8, none⟩ = some (.bool a0_8) := (blk_cell BK544.out 8).trans rfl
    have hfz7_0 := blk_frozen BK544.out 0
    have hfz7_1 := blk_frozen BK544.out 1
    have hfz7_2 := blk_frozen BK544.out 2
    have hfz7_3 := blk_frozen BK544.out 3
    have hfz7_4 := blk_frozen BK544.out 4
    have hfz7_5 := blk_frozen BK544.out 5
    have hfz7_6 := blk_frozen BK544.out 6
    have hfz7_7 := blk_frozen BK544.out 7
    have hfz7_8 := blk_frozen BK544.out 8
    go_wp2
    go_meet
    case rel => exact ⟨_, (true), zq47_4, H', ⟨by first | omega | exact Nat.le_refl _⟩, ⟨by (with_reducible repeat (first | refine blk_drewN ?_ _ | refine blk_drew ?_ | refine blk_alloc ?_ _)); exact BK544.out⟩, ⟨by repeat (first | (with_reducible first | exact HB.out | apply below_alloc | apply pw_below_drewN | apply below_drew1 | refine below_set ?_ GE544.out) | exact HB.out)⟩⟩
   ·rw [if_neg c6] at H
    have c6b0 : decide (31 < a0_0) = false := decide_eq_false c6
    clear c6
    replace H := Option.bind_eq_some_iff.mp H
    obtain ⟨t545, A80, H⟩ := H
    have A8 := Aside0.mk A80
    clear A80
    by_cases c9 : t545 = true
    ·subst c9
     have H1 : (if a0_2 < 1 then (cenotaphref07_Right.j0 k true a0_0 a0_1 a0_2 a0_3 a0_4 a0_5 a0_6 a0_7 a0_8) else (if a0_2 > 1048576 then (cenotaphref07_Right.j0 k true a0_0 a0_1 a0_2 a0_3 a0_4 a0_5 a0_6 a0_7 a0_8) else (if a0_3 < 1 then (cenotaphref07_Right.j0 k true a0_0 a0_1 a0_2 a0_3 a0_4 a0_5 a0_6 a0_7 a0_8) else (cenotaphref07_Right.j0 k (decide (a0_3 > 1048576)) a0_0 a0_1 a0_2 a0_3 a0_4 a0_5 a0_6 a0_7 a0_8)))) = some r := by rw [if_pos rfl] at H; exact H
     clear H
     have H := H1
     clear H1
     by_cases c10 : a0_2 < 1
     ·rw [if_pos c10] at H
      have c10b0 : decide (a0_2 < 1) = true := decide_eq_true c10
      clear c10
      have H' := Aside0.mk H
      clear H
      have hcz11_0 : w3.cell? ⟨gb544, 0, none⟩ = some (.int .i64 a0_0) := (blk_cell BK544.out 0).trans rfl
      have hcz11_1 : w3.cell? ⟨gb544, 1, none⟩ = some (.string a0_1) := (blk_cell BK544.out 1).trans rfl
      have hcz11_2 : w3.cell? ⟨gb544, 2, none⟩ = some (.int .i64 a0_2) := (blk_cell BK544.out 2).trans rfl
      have hcz11_3 : w3.cell? ⟨gb544, 3, none⟩ = some (.int .i64 a0_3) := (blk_cell BK544.out 3).trans rfl
      have hcz11_4 : w3.cell? ⟨gb544, 4, none⟩ = some (.bool a0_4) := (blk_cell BK544.out 4).trans rfl
      have hcz11_5 : w3.cell? ⟨gb544, 5, none⟩ = some (.int .i64 a0_5) := (blk_cell BK544.out 5).trans rfl
      have hcz11_6 : w3.cell? ⟨gb544, 6, none⟩ = some (.int .i64 a0_6) := (blk_cell BK544.out 6).trans rfl
      have hcz11_7 : w3.cell? ⟨gb544, 7, none⟩ = some (.string a0_7) := (blk_cell BK544.out 7).trans rfl
      have hcz11_8 : w3.cell? ⟨gb544, 8, none⟩ = some (.bool a0_8) := (blk_cell BK544.out 8).trans rfl
      have hfz11_0 := blk_frozen BK544.out 0
      have hfz11_1 := blk_frozen BK544.out 1
      have hfz11_2 := blk_frozen BK544.out 2
      have hfz11_3 := blk_frozen BK544.out 3
      have hfz11_4 := blk_frozen BK544.out 4
      have hfz11_5 := blk_frozen BK544.out 5
      have hfz11_6 := blk_frozen BK544.out 6
      have hfz11_7 := blk_frozen BK544.out 7
      have hfz11_8 := blk_frozen BK544.out 8
      go_wp2_with (first | (go_at_call 66; (with_reducible refine (cenotaphref01_Right.calls k a0_1 true _ A8.out).mono ?_); rintro e w' ⟨rfl, ⟨nd, rfl⟩⟩))
      go_meet
      case rel => exact ⟨_, (true), zq47_4, H', ⟨by first | omega | exact Nat.le_refl _⟩, ⟨by (with_reducible repeat (first | refine blk_drewN ?_ _ | refine blk_drew ?_ | refine blk_alloc ?_ _)); exact BK544.out⟩, ⟨by repeat (first | (with_reducible first | exact HB.out | apply below_alloc | apply pw_below_drewN | apply below_drew1 | refine below_set ?_ GE544.out) | exact HB.out)⟩⟩
     ·rw [if_neg c10] at H
      have c10b0 : decide (a0_2 < 1) = false := decide_eq_false c10
      clear c10
      by_cases c12 : a0_2 > 1048576
      ·rw [if_pos c12] at H
       have c12b0 : decide (1048576 < a0_2) = true := decide_eq_true c12
       clear c12
       have H' := Aside0.mk H
       clear H
       have hcz13_0 : w3.cell? ⟨gb544, 0, none⟩ = some (.int .i64 a0_0) := (blk_cell BK544.out 0).trans rfl
       have hcz13_1 : w3.cell? ⟨gb544, 1, none⟩ = some (.string a0_1) := (blk_cell BK544.out 1).trans rfl
       have hcz13_2 : w3.cell? ⟨gb544, 2, none⟩ = some (.int .i64 a0_2) := (blk_cell BK544.out 2).trans rfl
       have hcz13_3 : w3.cell? ⟨gb544, 3, none⟩ = some (.int .i64 a0_3) := (blk_cell BK544.out 3).trans rfl
       have hcz13_4 : w3.cell? ⟨gb544, 4, none⟩ = some (.bool a0_4) := (blk_cell BK544.out 4).trans rfl
       have hcz13_5 : w3.cell? ⟨gb544, 5, none⟩ = some (.int .i64 a0_5) := (blk_cell BK544.out 5).trans rfl
       have hcz13_6 : w3.cell? ⟨gb544, 6, none⟩ = some (.int .i64 a0_6) := (blk_cell BK544.out 6).trans rfl
       have hcz13_7 : w3.cell? ⟨gb544, 7, none⟩ = some (.string a0_7) := (blk_cell BK544.out 7).trans rfl
       have hcz13_8 : w3.cell? ⟨gb544, 8, none⟩ = some (.bool a0_8) := (blk_cell BK544.out 8).trans rfl
       have hfz13_0 := blk_frozen BK544.out 0
       have hfz13_1 := blk_frozen BK544.out 1
       have hfz13_2 := blk_frozen BK544.out 2
       have hfz13_3 := blk_frozen BK544.out 3
       have hfz13_4 := blk_frozen BK544.out 4
       have hfz13_5 := blk_frozen BK544.out 5
       have hfz13_6 := blk_frozen BK544.out 6
       have hfz13_7 := blk_frozen BK544.out 7
       have hfz13_8 := blk_frozen BK544.out 8
       go_wp2_with (first | (go_at_call 66; (with_reducible refine (cenotaphref01_Right.calls k a0_1 true _ A8.out).mono ?_); rintro e w' ⟨rfl, ⟨nd, rfl⟩⟩))
       go_meet
       case rel => exact ⟨_, (true), zq47_4, H', ⟨by first | omega | exact Nat.le_refl _⟩, ⟨by (with_reducible repeat (first | refine blk_drewN ?_ _ | refine blk_drew ?_ | refine blk_alloc ?_ _)); exact BK544.out⟩, ⟨by repeat (first | (with_reducible first | exact HB.out | apply below_alloc | apply pw_below_drewN | apply below_drew1 | refine below_set ?_ GE544.out) | exact HB.out)⟩⟩
      ·rw [if_neg c12] at H
       have c12b0 : decide (1048576 < a0_2) = false := decide_eq_false c12
       clear c12
       by_cases c14 : a0_3 < 1
       ·rw [if_pos c14] at H
        have c14b0 : decide (a0_3 < 1) = true := decide_eq_true c14
        clear c14
        have H' := Aside0.mk H
        clear H
        have hcz15_0 : w3.cell? ⟨gb544, 0, none⟩ = some (.int .i64 a0_0) := (blk_cell BK544.out 0).trans rfl
        have hcz15_1 : w3.cell? ⟨gb544, 1, none⟩ = some (.string a0_1) := (blk_cell BK544.out 1).trans rfl
        have hcz15_2 : w3.cell? ⟨gb544, 2, none⟩ = some (.int .i64 a0_2) := (blk_cell BK544.out 2).trans rfl
        have hcz15_3 : w3.cell? ⟨gb544, 3, none⟩ = some (.int .i64 a0_3) := (blk_cell BK544.out 3).trans rfl
        have hcz15_4 : w3.cell? ⟨gb544, 4, none⟩ = some (.bool a0_4) := (blk_cell BK544.out 4).trans rfl
        have hcz15_5 : w3.cell? ⟨gb544, 5, none⟩ = some (.int .i64 a0_5) := (blk_cell BK544.out 5).trans rfl
        have hcz15_6 : w3.cell? ⟨gb544, 6, none⟩ = some (.int .i64 a0_6) := (blk_cell BK544.out 6).trans rfl
        have hcz15_7 : w3.cell? ⟨gb544, 7, none⟩ = some (.string a0_7) := (blk_cell BK544.out 7).trans rfl
        have hcz15_8 : w3.cell? ⟨gb544, 8, none⟩ = some (.bool a0_8) := (blk_cell BK544.out 8).trans rfl
        have hfz15_0 := blk_frozen BK544.out 0
        have hfz15_1 := blk_frozen BK544.out 1
        have hfz15_2 := blk_frozen BK544.out 2
        have hfz15_3 := blk_frozen BK544.out 3
        have hfz15_4 := blk_frozen BK544.out 4
        have hfz15_5 := blk_frozen BK544.out 5
        have hfz15_6 := blk_frozen BK544.out 6
        have hfz15_7 := blk_frozen BK544.out 7
        have hfz15_8 := blk_frozen BK544.out 8
        go_wp2_with (first | (go_at_call 66; (with_reducible refine (cenotaphref01_Right.calls k a0_1 true _ A8.out).mono ?_); rintro e w' ⟨rfl, ⟨nd, rfl⟩⟩))
        go_meet
        case rel => exact ⟨_, (true), zq47_4, H', ⟨by first | omega | exact Nat.le_refl _⟩, ⟨by (with_reducible repeat (first | refine blk_drewN ?_ _ | refine blk_drew ?_ | refine blk_alloc ?_ _)); exact BK544.out⟩, ⟨by repeat (first | (with_reducible first | exact HB.out | apply below_alloc | apply pw_below_drewN | apply below_drew1 | refine below_set ?_ GE544.out) | exact HB.out)⟩⟩
       ·rw [if_neg c14] at H
        have c14b0 : decide (a0_3 < 1) = false := decide_eq_false c14
        clear c14
        have H' := Aside0.mk H
        clear H
        have hcz16_0 : w3.cell? ⟨gb544, 0, none⟩ = some (.int .i64 a0_0) := (blk_cell BK544.out 0).trans rfl
        have hcz16_1 : w3.cell? ⟨gb544, 1, none⟩ = some (.string a0_1) := (blk_cell BK544.out 1).trans rfl
        have hcz16_2 : w3.cell? ⟨gb544, 2, none⟩ = some (.int .i64 a0_2) := (blk_cell BK544.out 2).trans rfl
        have hcz16_3 : w3.cell? ⟨gb544, 3, none⟩ = some (.int .i64 a0_3) := (blk_cell BK544.out 3).trans rfl
        have hcz16_4 : w3.cell? ⟨gb544, 4, none⟩ = some (.bool a0_4) := (blk_cell BK544.out 4).trans rfl
        have hcz16_5 : w3.cell? ⟨gb544, 5, none⟩ = some (.int .i64 a0_5) := (blk_cell BK544.out 5).trans rfl
        have hcz16_6 : w3.cell? ⟨gb544, 6, none⟩ = some (.int .i64 a0_6) := (blk_cell BK544.out 6).trans rfl
        have hcz16_7 : w3.cell? ⟨gb544, 7, none⟩ = some (.string a0_7) := (blk_cell BK544.out 7).trans rfl
        have hcz16_8 : w3.cell? ⟨gb544, 8, none⟩ = some (.bool a0_8) := (blk_cell BK544.out 8).trans rfl
        have hfz16_0 := blk_frozen BK544.out 0
        have hfz16_1 := blk_frozen BK544.out 1
        have hfz16_2 := blk_frozen BK544.out 2
        have hfz16_3 := blk_frozen BK544.out 3
        have hfz16_4 := blk_frozen BK544.out 4
        have hfz16_5 := blk_frozen BK544.out 5
        have hfz16_6 := blk_frozen BK544.out 6
        have hfz16_7 := blk_frozen BK544.out 7
        have hfz16_8 := blk_frozen BK544.out 8
        go_wp2_with (first | (go_at_call 66; (with_reducible refine (cenotaphref01_Right.calls k a0_1 true _ A8.out).mono ?_); rintro e w' ⟨rfl, ⟨nd, rfl⟩⟩))
        go_meet
        case rel => exact ⟨_, (decide (a0_3 > 1048576)), zq47_4, H', ⟨by first | omega | exact Nat.le_refl _⟩, ⟨by (with_reducible repeat (first | refine blk_drewN ?_ _ | refine blk_drew ?_ | refine blk_alloc ?_ _)); exact BK544.out⟩, ⟨by repeat (first | (with_reducible first | exact HB.out | apply below_alloc | apply pw_below_drewN | apply below_drew1 | refine below_set ?_ GE544.out) | exact HB.out)⟩⟩
    ·replace c9 := Bool.eq_false_iff.mpr c9
     subst c9
     have H1 : (cenotaphref07_Right.j0 k true a0_0 a0_1 a0_2 a0_3 a0_4 a0_5 a0_6 a0_7 a0_8) = some r := by rw [if_neg (show ¬ (false = true) by decide)] at H; exact H
     clear H
     have H := H1
     clear H1
     have H' := Aside0.mk H
     clear H
     have hcz17_0 : w3.cell? ⟨gb544, 0, none⟩ = some (.int .i64 a0_0) := (blk_cell BK544.out 0).trans rfl
     have hcz17_1 : w3.cell? ⟨gb544, 1, none⟩ = some (.string a0_1) := (blk_cell BK544.out 1).trans rfl
     have hcz17_2 : w3.cell? ⟨gb544, 2, none⟩ = some (.int .i64 a0_2) := (blk_cell BK544.out 2).trans rfl
     have hcz17_3 : w3.cell? ⟨gb544, 3, none⟩ = some (.int .i64 a0_3) := (blk_cell BK544.out 3).trans rfl
     have hcz17_4 : w3.cell? ⟨gb544, 4, none⟩ = some (.bool a0_4) := (blk_cell BK544.out 4).trans rfl
     have hcz17_5 : w3.cell? ⟨gb544, 5, none⟩ = some (.int .i64 a0_5) := (blk_cell BK544.out 5).trans rfl
     have hcz17_6 : w3.cell? ⟨gb544, 6, none⟩ = some (.int .i64 a0_6) := (blk_cell BK544.out 6).trans rfl
     have hcz17_7 : w3.cell? ⟨gb544, 7, none⟩ = some (.string a0_7) := (blk_cell BK544.out 7).trans rfl
     have hcz17_8 : w3.cell? ⟨gb544, 8, none⟩ = some (.bool a0_8) := (blk_cell BK544.out 8).trans rfl
     have hfz17_0 := blk_frozen BK544.out 0
     have hfz17_1 := blk_frozen BK544.out 1
     have hfz17_2 := blk_frozen BK544.out 2
     have hfz17_3 := blk_frozen BK544.out 3
     have hfz17_4 := blk_frozen BK544.out 4
     have hfz17_5 := blk_frozen BK544.out 5
     have hfz17_6 := blk_frozen BK544.out 6
     have hfz17_7 := blk_frozen BK544.out 7
     have hfz17_8 := blk_frozen BK544.out 8
     go_wp2_with (first | (go_at_call 66; (with_reducible refine (cenotaphref01_Right.calls k a0_1 false _ A8.out).mono ?_); rintro e w' ⟨rfl, ⟨nd, rfl⟩⟩))
     go_meet
     case rel => exact ⟨_, (true), zq47_4, H', ⟨by first | omega | exact Nat.le_refl _⟩, ⟨by (with_reducible repeat (first | refine blk_drewN ?_ _ | refine blk_drew ?_ | refine blk_alloc ?_ _)); exact BK544.out⟩, ⟨by repeat (first | (with_reducible first | exact HB.out | apply below_alloc | apply pw_below_drewN | apply below_drew1 | refine below_set ?_ GE544.out) | exact HB.out)⟩⟩
 case rest =>
  clear HC2
  try clear c1
  try clear p2
  try clear c4
  try clear c4b0
  try clear c6
  try clear c6b0
  try clear c9
  try clear c10
  try clear c10b0
  try clear c12
  try clear c12b0
  try clear c14
  try clear c14b0
  try clear hcz11_0
  try clear hcz11_1
  try clear hcz11_2
  try clear hcz11_3
  try clear hcz11_4
  try clear hcz11_5
  try clear hcz11_6
  try clear hcz11_7
  try clear hcz11_8
  try clear hcz13_0
  try clear hcz13_1
  try clear hcz13_2
  try clear hcz13_3
  try clear hcz13_4
  try clear hcz13_5
  try clear hcz13_6
  try clear hcz13_7
  try clear hcz13_8
  try clear hcz15_0
  try clear hcz15_1
  try clear hcz15_2
  try clear hcz15_3
  try clear hcz15_4
  try clear hcz15_5
  try clear hcz15_6
  try clear hcz15_7
  try clear hcz15_8
  try clear hcz16_0
  try clear hcz16_1
  try clear hcz16_2
  try clear hcz16_3
  try clear hcz16_4
  try clear hcz16_5
  try clear hcz16_6
  try clear hcz16_7
  try clear hcz16_8
  try clear hcz17_0
  try clear hcz17_1
  try clear hcz17_2
  try clear hcz17_3
  try clear hcz17_4
  try clear hcz17_5
  try clear hcz17_6
  try clear hcz17_7
  try clear hcz17_8
  try clear hcz5_0
  try clear hcz5_1
  try clear hcz5_2
  try clear hcz5_3
  try clear hcz5_4
  try clear hcz5_5
  try clear hcz5_6
  try clear hcz5_7
  try clear hcz5_8
  try clear hcz7_0
  try clear hcz7_1
  try clear hcz7_2
  try clear hcz7_3
  try clear hcz7_4
  try clear hcz7_5
  try clear hcz7_6
  try clear hcz7_7
  try clear hcz7_8
  try clear hfz11_0
  try clear hfz11_1
  try clear hfz11_2
  try clear hfz11_3
  try clear hfz11_4
  try clear hfz11_5
  try clear hfz11_6
  try clear hfz11_7
  try clear hfz11_8
  try clear hfz13_0
  try clear hfz13_1
  try clear hfz13_2
  try clear hfz13_3
  try clear hfz13_4
  try clear hfz13_5
  try clear hfz13_6
  try clear hfz13_7
  try clear hfz13_8
  try clear hfz15_0
  try clear hfz15_1
  try clear hfz15_2
  try clear hfz15_3
  try clear hfz15_4
  try clear hfz15_5
  try clear hfz15_6
  try clear hfz15_7
  try clear hfz15_8
  try clear hfz16_0
  try clear hfz16_1
  try clear hfz16_2
  try clear hfz16_3
  try clear hfz16_4
  try clear hfz16_5
  try clear hfz16_6
  try clear hfz16_7
  try clear hfz16_8
  try clear hfz17_0
  try clear hfz17_1
  try clear hfz17_2
  try clear hfz17_3
  try clear hfz17_4
  try clear hfz17_5
  try clear hfz17_6
  try clear hfz17_7
  try clear hfz17_8
  try clear hfz5_0
  try clear hfz5_1
  try clear hfz5_2
  try clear hfz5_3
  try clear hfz5_4
  try clear hfz5_5
  try clear hfz5_6
  try clear hfz5_7
  try clear hfz5_8
  try clear hfz7_0
  try clear hfz7_1
  try clear hfz7_2
  try clear hfz7_3
  try clear hfz7_4
  try clear hfz7_5
  try clear hfz7_6
  try clear hfz7_7
  try clear hfz7_8
  obtain ⟨kq, x41_1, rfl, HA, HJ1, BK544, HB⟩ := hcut
  cases kq with
  | zero => exact absurd HA.out (by simp [cenotaphref07_Right.j0])
  | succ kj1 =>
   have H := HA.out
   clear HA
   simp only [cenotaphref07_Right.j0] at H
   by_cases c18 : x41_1 = true
   ·subst c18
    have H1 : (some false) = some r := by rw [if_pos rfl] at H; exact H
    clear H
    have H := H1
    clear H1
    obtain rfl := Option.some.inj H
    go_wp2
    go_ret
    exact ⟨by first | rfl | (simp [errW_none, errW_some] <;> rfl) | (simp [*, errW_none, errW_some] <;> rfl), by repeat (first | (with_reducible first | exact HB.out | apply below_alloc | apply pw_below_drewN | apply below_drew1 | refine below_set ?_ GE544.out) | exact HB.out)⟩
   ·replace c18 := Bool.eq_false_iff.mpr c18
    subst c18
    have H1 : ((cenotaphref05_Whole.f a0_5 a0_6).bind fun t546 => (if t546 = true then (if (a0_7.size : Int) > 16 then (some false) else (if a0_4 = true then (if (!(a0_5 == 0) || (!(a0_6 == 0))) = true then (some false) else (if a0_8 = true then (some false) else (some ((a0_7.size : Int) == 0)))) else (if a0_8 = true then (some true) else (some ((a0_7.size : Int) == 0))))) else (some false))) = some r := by rw [if_neg (show ¬ (false = true) by decide)] at H; exact H
    clear H
    have H := H1
    clear H1
    replace H := Option.bind_eq_some_iff.mp H
    obtain ⟨t546, A190, H⟩ := H
    have A19 := Aside0.mk A190
    clear A190
    by_cases c20 : t546 = true
    ·subst c20
     have H1 : (if (a0_7.size : Int) > 16 then (some false) else (if a0_4 = true then (if (!(a0_5 == 0) || (!(a0_6 == 0))) = true then (some false) else (if a0_8 = true then (some false) else (some ((a0_7.size : Int) == 0)))) else (if a0_8 = true then (some true) else (some ((a0_7.size : Int) == 0))))) = some r := by rw [if_pos rfl] at H; exact H
     clear H
     have H := H1
     clear H1
     by_cases c21 : (a0_7.size : Int) > 16
     ·rw [if_pos c21] at H
      have c21b0 : decide (16 < (a0_7.size : Int)) = true := decide_eq_true c21
      have c21b1 : decide (16 < a0_7.size) = true := decide_eq_true (by omega)
      clear c21
      obtain rfl := Option.some.inj H
      have hcz22_0 : wc.cell? ⟨gb544, 0, none⟩ = some (.int .i64 a0_0) := (blk_cell BK544.out 0).trans rfl
      have hcz22_1 : wc.cell? ⟨gb544, 1, none⟩ = some (.string a0_1) := (blk_cell BK544.out 1).trans rfl
      have hcz22_2 : wc.cell? ⟨gb544, 2, none⟩ = some (.int .i64 a0_2) := (blk_cell BK544.out 2).trans rfl
      have hcz22_3 : wc.cell? ⟨gb544, 3, none⟩ = some (.int .i64 a0_3) := (blk_cell BK544.out 3).trans rfl
      have hcz22_4 : wc.cell? ⟨gb544, 4, none⟩ = some (.bool a0_4) := (blk_cell BK544.out 4).trans rfl
      have hcz22_5 : wc.cell? ⟨gb544, 5, none⟩ = some (.int .i64 a0_5) := (blk_cell BK544.out 5).trans rfl
      have hcz22_6 : wc.cell? ⟨gb544, 6, none⟩ = some (.int .i64 a0_6) := (blk_cell BK544.out 6).trans rfl
      have hcz22_7 : wc.cell? ⟨gb544, 7, none⟩ = some (.string a0_7) := (blk_cell BK544.out 7).trans rfl
      have hcz22_8 : wc.cell? ⟨gb544, 8, none⟩ = some (.bool a0_8) := (blk_cell BK544.out 8).trans rfl
      have hfz22_0 := blk_frozen BK544.out 0
      have hfz22_1 := blk_frozen BK544.out 1
      have hfz22_2 := blk_frozen BK544.out 2
      have hfz22_3 := blk_frozen BK544.out 3
      have hfz22_4 := blk_frozen BK544.out 4
      have hfz22_5 := blk_frozen BK544.out 5
      have hfz22_6 := blk_frozen BK544.out 6
      have hfz22_7 := blk_frozen BK544.out 7
      have hfz22_8 := blk_frozen BK544.out 8
      go_wp2_with (first | ((with_reducible refine gate_callee (f := 67) rfl ?_); refine goesL_ (some 44) rfl rfl Try.func67 (by kernel_rfl) rfl #[.agg #[.int .i64 a0_5, .int .i64 a0_6]] rfl zq47_1 ?_; (with_reducible refine (cenotaphref05_Whole.calls a0_5 a0_6 true _ A19.out).mono ?_); rintro e w23 ⟨rfl, hb⟩; refine ⟨_, rfl, ?_⟩; replace BK544 := Aside0.mk (blk_below (g := gb544) (o := .cells #[.int .i64 a0_0, .string a0_1, .int .i64 a0_2, .int .i64 a0_3, .bool a0_4, .int .i64 a0_5, .int .i64 a0_6, .string a0_7, .bool a0_8] 28 (0, 0)) zq47_3 hb); replace HB := Aside0.mk (below_step zq47_0 hb); (try clear hb); (try clear hb2); (try clear hk); (try clear hi); have hcz24_0 : w23.cell? ⟨gb544, 0, none⟩ = some (.int .i64 a0_0) := (blk_cell BK544.out 0).trans rfl; have hcz24_1 : w23.cell? ⟨gb544, 1, none⟩ = some (.string a0_1) := (blk_cell BK544.out 1).trans rfl; have hcz24_2 : w23.cell? ⟨gb544, 2, none⟩ = some (.int .i64 a0_2) := (blk_cell BK544.out 2).trans rfl; have hcz24_3 : w23.cell? ⟨gb544, 3, none⟩ = some (.int .i64 a0_3) := (blk_cell BK544.out 3).trans rfl; have hcz24_4 : w23.cell? ⟨gb544, 4, none⟩ = some (.bool a0_4) := (blk_cell BK544.out 4).trans rfl; have hcz24_5 : w23.cell? ⟨gb544, 5, none⟩ = some (.int .i64 a0_5) := (blk_cell BK544.out 5).trans rfl; have hcz24_6 : w23.cell? ⟨gb544, 6, none⟩ = some (.int .i64 a0_6) := (blk_cell BK544.out 6).trans rfl; have hcz24_7 : w23.cell? ⟨gb544, 7, none⟩ = some (.string a0_7) := (blk_cell BK544.out 7).trans rfl; have hcz24_8 : w23.cell? ⟨gb544, 8, none⟩ = some (.bool a0_8) := (blk_cell BK544.out 8).trans rfl; have hfz24_0 := blk_frozen BK544.out 0; have hfz24_1 := blk_frozen BK544.out 1; have hfz24_2 := blk_frozen BK544.out 2; have hfz24_3 := blk_frozen BK544.out 3; have hfz24_4 := blk_frozen BK544.out 4; have hfz24_5 := blk_frozen BK544.out 5; have hfz24_6 := blk_frozen BK544.out 6; have hfz24_7 := blk_frozen BK544.out 7; have hfz24_8 := blk_frozen BK544.out 8))
      go_ret
      exact ⟨by first | rfl | (simp [errW_none, errW_some] <;> rfl) | (simp [*, errW_none, errW_some] <;> rfl), by repeat (first | (with_reducible first | exact HB.out | apply below_alloc | apply pw_below_drewN | apply below_drew1 | refine below_set ?_ GE544.out) | exact HB.out)⟩
     ·rw [if_neg c21] at H
      have c21b0 : decide (16 < (a0_7.size : Int)) = false := decide_eq_false c21
      have c21b1 : decide (16 < a0_7.size) = false := decide_eq_false (by omega)
      clear c21
      by_cases c25 : a0_4 = true
      ·subst c25
       have H1 : (if (!(a0_5 == 0) || (!(a0_6 == 0))) = true then (some false) else (if a0_8 = true then (some false) else (some ((a0_7.size : Int) == 0)))) = some r := by rw [if_pos rfl] at H; exact H
       clear H
       have H := H1
       clear H1
       by_cases c26 : (!(a0_5 == 0) || (!(a0_6 == 0))) = true
       ·rw [if_pos c26] at H
        have c26b0 : (!(a0_5 == 0) || (!(a0_6 == 0))) = true := c26
        clear c26
        obtain rfl := Option.some.inj H
        have hcz27_0 : wc.cell? ⟨gb544, 0, none⟩ = some (.int .i64 a0_0) := (blk_cell BK544.out 0).trans rfl
        have hcz27_1 : wc.cell? ⟨gb544, 1, none⟩ = some (.string a0_1) := (blk_cell BK544.out 1).trans rfl
        have hcz27_2 : wc.cell? ⟨gb544, 2, none⟩ = some (.int .i64 a0_2) := (blk_cell BK544.out 2).trans rfl
        have hcz27_3 : wc.cell? ⟨gb544, 3, none⟩ = some (.int .i64 a0_3) := (blk_cell BK544.out 3).trans rfl
        have hcz27_4 : wc.cell? ⟨gb544, 4, none⟩ = some (.bool true) := (blk_cell BK544.out 4).trans rfl
        have hcz27_5 : wc.cell? ⟨gb544, 5, none⟩ = some (.int .i64 a0_5) := (blk_cell BK544.out 5).trans rfl
        have hcz27_6 : wc.cell? ⟨gb544, 6, none⟩ = some (.int .i64 a0_6) := (blk_cell BK544.out 6).trans rfl
        have hcz27_7 : wc.cell? ⟨gb544, 7, none⟩ = some (.string a0_7) := (blk_cell BK544.out 7).trans rfl
        have hcz27_8 : wc.cell? ⟨gb544, 8, none⟩ = some (.bool a0_8) := (blk_cell BK544.out 8).trans rfl
        have hfz27_0 := blk_frozen BK544.out 0
        have hfz27_1 := blk_frozen BK544.out 1
        have hfz27_2 := blk_frozen BK544.out 2
        have hfz27_3 := blk_frozen BK544.out 3
        have hfz27_4 := blk_frozen BK544.out 4
        have hfz27_5 := blk_frozen BK544.out 5
        have hfz27_6 := blk_frozen BK544.out 6
        have hfz27_7 := blk_frozen BK544.out 7
        have hfz27_8 := blk_frozen BK544.out 8
        go_wp2_with (first | ((with_reducible refine gate_callee (f := 67) rfl ?_); refine goesL_ (some 44) rfl rfl Try.func67 (by kernel_rfl) rfl #[.agg #[.int .i64 a0_5, .int .i64 a0_6]] rfl zq47_1 ?_; (with_reducible refine (cenotaphref05_Whole.calls a0_5 a0_6 true _ A19.out).mono ?_); rintro e w28 ⟨rfl, hb⟩; refine ⟨_, rfl, ?_⟩; replace BK544 := Aside0.mk (blk_below (g := gb544) (o := .cells #[.int .i64 a0_0, .string a0_1, .int .i64 a0_2, .int .i64 a0_3, .bool true, .int .i64 a0_5, .int .i64 a0_6, .string a0_7, .bool a0_8] 28 (0, 0)) zq47_3 hb); replace HB := Aside0.mk (below_step zq47_0 hb); (try clear hb); (try clear hb2); (try clear hk); (try clear hi); have hcz29_0 : w28.cell? ⟨gb544, 0, none⟩ = some (.int .i64 a0_0) := (blk_cell BK544.out 0).trans rfl; have hcz29_1 : w28.cell? ⟨gb544, 1, none⟩ = some (.string a0_1) := (blk_cell BK544.out 1).trans rfl; have hcz29_2 : w28.cell? ⟨gb544, 2, none⟩ = some (.int .i64 a0_2) := (blk_cell BK544.out 2).trans rfl; have hcz29_3 : w28.cell? ⟨gb544, 3, none⟩ = some (.int .i64 a0_3) := (blk_cell BK544.out 3).trans rfl; have hcz29_4 : w28.cell? ⟨gb544, 4, none⟩ = some (.bool true) := (blk_cell BK544.out 4).trans rfl; have hcz29_5 : w28.cell? ⟨gb544, 5, none⟩ = some (.int .i64 a0_5) := (blk_cell BK544.out 5).trans rfl; have hcz29_6 : w28.cell? ⟨gb544, 6, none⟩ = some (.int .i64 a0_6) := (blk_cell BK544.out 6).trans rfl; have hcz29_7 : w28.cell? ⟨gb544, 7, none⟩ = some (.string a0_7) := (blk_cell BK544.out 7).trans rfl; have hcz29_8 : w28.cell? ⟨gb544, 8, none⟩ = some (.bool a0_8) := (blk_cell BK544.out 8).trans rfl; have hfz29_0 := blk_frozen BK544.out 0; have hfz29_1 := blk_frozen BK544.out 1; have hfz29_2 := blk_frozen BK544.out 2; have hfz29_3 := blk_frozen BK544.out 3; have hfz29_4 := blk_frozen BK544.out 4; have hfz29_5 := blk_frozen BK544.out 5; have hfz29_6 := blk_frozen BK544.out 6; have hfz29_7 := blk_frozen BK544.out 7; have hfz29_8 := blk_frozen BK544.out 8))
        go_ret
        exact ⟨by first | rfl | (simp [errW_none, errW_some] <;> rfl) | (simp [*, errW_none, errW_some] <;> rfl), by repeat (first | (with_reducible first | exact HB.out | apply below_alloc | apply pw_below_drewN | apply below_drew1 | refine below_set ?_ GE544.out) | exact HB.out)⟩
       ·rw [if_neg c26] at H
        have c26b0 : (!(a0_5 == 0) || (!(a0_6 == 0))) = false := by simpa using c26
        clear c26
        by_cases c30 : a0_8 = true
        ·subst c30
         have H1 : (some false) = some r := by rw [if_pos rfl] at H; exact H
         clear H
         have H := H1
         clear H1
         obtain rfl := Option.some.inj H
         have hcz31_0 : wc.cell? ⟨gb544, 0, none⟩ = some (.int .i64 a0_0) := (blk_cell BK544.out 0).trans rfl
         have hcz31_1 : wc.cell? ⟨gb544, 1, none⟩ = some (.string a0_1) := (blk_cell BK544.out 1).trans rfl
         have hcz31_2 : wc.cell? ⟨gb544, 2, none⟩ = some (.int .i64 a0_2) := (blk_cell BK544.out 2).trans rfl
         have hcz31_3 : wc.cell? ⟨gb544, 3, none⟩ = some (.int .i64 a0_3) := (blk_cell BK544.out 3).trans rfl
         have hcz31_4 : wc.cell? ⟨gb544, 4, none⟩ = some (.bool true) := (blk_cell BK544.out 4).trans rfl
         have hcz31_5 : wc.cell? ⟨gb544, 5, none⟩ = some (.int .i64 a0_5) := (blk_cell BK544.out 5).trans rfl
         have hcz31_6 : wc.cell? ⟨gb544, 6, none⟩ = some (.int .i64 a0_6) := (blk_cell BK544.out 6).trans rfl
         have hcz31_7 : wc.cell? ⟨gb544, 7, none⟩ = some (.string a0_7) := (blk_cell BK544.out 7).trans rfl
         have hcz31_8 : wc.cell? ⟨gb544, 8, none⟩ = some (.bool true) := (blk_cell BK544.out 8).trans rfl
         have hfz31_0 := blk_frozen BK544.out 0
         have hfz31_1 := blk_frozen BK544.out 1
         have hfz31_2 := blk_frozen BK544.out 2
         have hfz31_3 := blk_frozen BK544.out 3
         have hfz31_4 := blk_frozen BK544.out 4
         have hfz31_5 := blk_frozen BK544.out 5
         have hfz31_6 := blk_frozen BK544.out 6
         have hfz31_7 := blk_frozen BK544.out 7
         have hfz31_8 := blk_frozen BK544.out 8
         go_wp2_with (first | ((with_reducible refine gate_callee (f := 67) rfl ?_); refine goesL_ (some 44) rfl rfl Try.func67 (by kernel_rfl) rfl #[.agg #[.int .i64 a0_5, .int .i64 a0_6]] rfl zq47_1 ?_; (with_reducible refine (cenotaphref05_Whole.calls a0_5 a0_6 true _ A19.out).mono ?_); rintro e w32 ⟨rfl, hb⟩; refine ⟨_, rfl, ?_⟩; replace BK544 := Aside0.mk (blk_below (g := gb544) (o := .cells #[.int .i64 a0_0, .string a0_1, .int .i64 a0_2, .int .i64 a0_3, .bool true, .int .i64 a0_5, .int .i64 a0_6, .string a0_7, .bool true] 28 (0, 0)) zq47_3 hb); replace HB := Aside0.mk (below_step zq47_0 hb); (try clear hb); (try clear hb2); (try clear hk); (try clear hi); have hcz33_0 : w32.cell? ⟨gb544, 0, none⟩ = some (.int .i64 a0_0) := (blk_cell BK544.out 0).trans rfl; have hcz33_1 : w32.cell? ⟨gb544, 1, none⟩ = some (.string a0_1) := (blk_cell BK544.out 1).trans rfl; have hcz33_2 : w32.cell? ⟨gb544, 2, none⟩ = some (.int .i64 a0_2) := (blk_cell BK544.out 2).trans rfl; have hcz33_3 : w32.cell? ⟨gb544, 3, none⟩ = some (.int .i64 a0_3) := (blk_cell BK544.out 3).trans rfl; have hcz33_4 : w32.cell? ⟨gb544, 4, none⟩ = some (.bool true) := (blk_cell BK544.out 4).trans rfl; have hcz33_5 : w32.cell? ⟨gb544, 5, none⟩ = some (.int .i64 a0_5) := (blk_cell BK544.out 5).trans rfl; have hcz33_6 : w32.cell? ⟨gb544, 6, none⟩ = some (.int .i64 a0_6) := (blk_cell BK544.out 6).trans rfl; have hcz33_7 : w32.cell? ⟨gb544, 7, none⟩ = some (.string a0_7) := (blk_cell BK544.out 7).trans rfl; have hcz33_8 : w32.cell? ⟨gb544, 8, none⟩ = some (.bool true) := (blk_cell BK544.out 8).trans rfl; have hfz33_0 := blk_frozen BK544.out 0; have hfz33_1 := blk_frozen BK544.out 1; have hfz33_2 := blk_frozen BK544.out 2; have hfz33_3 := blk_frozen BK544.out 3; have hfz33_4 := blk_frozen BK544.out 4; have hfz33_5 := blk_frozen BK544.out 5; have hfz33_6 := blk_frozen BK544.out 6; have hfz33_7 := blk_frozen BK544.out 7; have hfz33_8 := blk_frozen BK544.out 8))
         go_ret
         exact ⟨by first | rfl | (simp [errW_none, errW_some] <;> rfl) | (simp [*, errW_none, errW_some] <;> rfl), by repeat (first | (with_reducible first | exact HB.out | apply below_alloc | apply pw_below_drewN | apply below_drew1 | refine below_set ?_ GE544.out) | exact HB.out)⟩
        ·replace c30 := Bool.eq_false_iff.mpr c30
         subst c30
         have H1 : (some ((a0_7.size : Int) == 0)) = some r := by rw [if_neg (show ¬ (false = true) by decide)] at H; exact H
         clear H
         have H := H1
         clear H1
         obtain rfl := Option.some.inj H
         have hcz34_0 : wc.cell? ⟨gb544, 0, none⟩ = some (.int .i64 a0_0) := (blk_cell BK544.out 0).trans rfl
         have hcz34_1 : wc.cell? ⟨gb544, 1, none⟩ = some (.string a0_1) := (blk_cell BK544.out 1).trans rfl
         have hcz34_2 : wc.cell? ⟨gb544, 2, none⟩ = some (.int .i64 a0_2) := (blk_cell BK544.out 2).trans rfl
         have hcz34_3 : wc.cell? ⟨gb544, 3, none⟩ = some (.int .i64 a0_3) := (blk_cell BK544.out 3).trans rfl
         have hcz34_4 : wc.cell? ⟨gb544, 4, none⟩ = some (.bool true) := (blk_cell BK544.out 4).trans rfl
         have hcz34_5 : wc.cell? ⟨gb544, 5, none⟩ = some (.int .i64 a0_5) := (blk_cell BK544.out 5).trans rfl
         have hcz34_6 : wc.cell? ⟨gb544, 6, none⟩ = some (.int .i64 a0_6) := (blk_cell BK544.out 6).trans rfl
         have hcz34_7 : wc.cell? ⟨gb544, 7, none⟩ = some (.string a0_7) := (blk_cell BK544.out 7).trans rfl
         have hcz34_8 : wc.cell? ⟨gb544, 8, none⟩ = some (.bool false) := (blk_cell BK544.out 8).trans rfl
         have hfz34_0 := blk_frozen BK544.out 0
         have hfz34_1 := blk_frozen BK544.out 1
         have hfz34_2 := blk_frozen BK544.out 2
         have hfz34_3 := blk_frozen BK544.out 3
         have hfz34_4 := blk_frozen BK544.out 4
         have hfz34_5 := blk_frozen BK544.out 5
         have hfz34_6 := blk_frozen BK544.out 6
         have hfz34_7 := blk_frozen BK544.out 7
         have hfz34_8 := blk_frozen BK544.out 8
         go_wp2_with (first | ((with_reducible refine gate_callee (f := 67) rfl ?_); refine goesL_ (some 44) rfl rfl Try.func67 (by kernel_rfl) rfl #[.agg #[.int .i64 a0_5, .int .i64 a0_6]] rfl zq47_1 ?_; (with_reducible refine (cenotaphref05_Whole.calls a0_5 a0_6 true _ A19.out).mono ?_); rintro e w35 ⟨rfl, hb⟩; refine ⟨_, rfl, ?_⟩; replace BK544 := Aside0.mk (blk_below (g := gb544) (o := .cells #[.int .i64 a0_0, .string a0_1, .int .i64 a0_2, .int .i64 a0_3, .bool true, .int .i64 a0_5, .int .i64 a0_6, .string a0_7, .bool false] 28 (0, 0)) zq47_3 hb); replace HB := Aside0.mk (below_step zq47_0 hb); (try clear hb); (try clear hb2); (try clear hk); (try clear hi); have hcz36_0 : w35.cell? ⟨gb544, 0, none⟩ = some (.int .i64 a0_0) := (blk_cell BK544.out 0).trans rfl; have hcz36_1 : w35.cell? ⟨gb544, 1, none⟩ = some (.string a0_1) := (blk_cell BK544.out 1).trans rfl; have hcz36_2 : w35.cell? ⟨gb544, 2, none⟩ = some (.int .i64 a0_2) := (blk_cell BK544.out 2).trans rfl; have hcz36_3 : w35.cell? ⟨gb544, 3, none⟩ = some (.int .i64 a0_3) := (blk_cell BK544.out 3).trans rfl; have hcz36_4 : w35.cell? ⟨gb544, 4, none⟩ = some (.bool true) := (blk_cell BK544.out 4).trans rfl; have hcz36_5 : w35.cell? ⟨gb544, 5, none⟩ = some (.int .i64 a0_5) := (blk_cell BK544.out 5).trans rfl; have hcz36_6 : w35.cell? ⟨gb544, 6, none⟩ = some (.int .i64 a0_6) := (blk_cell BK544.out 6).trans rfl; have hcz36_7 : w35.cell? ⟨gb544, 7, none⟩ = some (.string a0_7) := (blk_cell BK544.out 7).trans rfl; have hcz36_8 : w35.cell? ⟨gb544, 8, none⟩ = some (.bool false) := (blk_cell BK544.out 8).trans rfl; have hfz36_0 := blk_frozen BK544.out 0; have hfz36_1 := blk_frozen BK544.out 1; have hfz36_2 := blk_frozen BK544.out 2; have hfz36_3 := blk_frozen BK544.out 3; have hfz36_4 := blk_frozen BK544.out 4; have hfz36_5 := blk_frozen BK544.out 5; have hfz36_6 := blk_frozen BK544.out 6; have hfz36_7 := blk_frozen BK544.out 7; have hfz36_8 := blk_frozen BK544.out 8))
         go_ret
         exact ⟨by first | rfl | (simp [errW_none, errW_some] <;> rfl) | (simp [*, errW_none, errW_some] <;> rfl), by repeat (first | (with_reducible first | exact HB.out | apply below_alloc | apply pw_below_drewN | apply below_drew1 | refine below_set ?_ GE544.out) | exact HB.out)⟩
      ·replace c25 := Bool.eq_false_iff.mpr c25
       subst c25
       have H1 : (if a0_8 = true then (some true) else (some ((a0_7.size : Int) == 0))) = some r := by rw [if_neg (show ¬ (false = true) by decide)] at H; exact H
       clear H
       have H := H1
       clear H1
       by_cases c37 : a0_8 = true
       ·subst c37
        have H1 : (some true) = some r := by rw [if_pos rfl] at H; exact H
        clear H
        have H := H1
        clear H1
        obtain rfl := Option.some.inj H
        have hcz38_0 : wc.cell? ⟨gb544, 0, none⟩ = some (.int .i64 a0_0) := (blk_cell BK544.out 0).trans rfl
        have hcz38_1 : wc.cell? ⟨gb544, 1, none⟩ = some (.string a0_1) := (blk_cell BK544.out 1).trans rfl
        have hcz38_2 : wc.cell? ⟨gb544, 2, none⟩ = some (.int .i64 a0_2) := (blk_cell BK544.out 2).trans rfl
        have hcz38_3 : wc.cell? ⟨gb544, 3, none⟩ = some (.int .i64 a0_3) := (blk_cell BK544.out 3).trans rfl
        have hcz38_4 : wc.cell? ⟨gb544, 4, none⟩ = some (.bool false) := (blk_cell BK544.out 4).trans rfl
        have hcz38_5 : wc.cell? ⟨gb544, 5, none⟩ = some (.int .i64 a0_5) := (blk_cell BK544.out 5).trans rfl
        have hcz38_6 : wc.cell? ⟨gb544, 6, none⟩ = some (.int .i64 a0_6) := (blk_cell BK544.out 6).trans rfl
        have hcz38_7 : wc.cell? ⟨gb544, 7, none⟩ = some (.string a0_7) := (blk_cell BK544.out 7).trans rfl
        have hcz38_8 : wc.cell? ⟨gb544, 8, none⟩ = some (.bool true) := (blk_cell BK544.out 8).trans rfl
        have hfz38_0 := blk_frozen BK544.out 0
        have hfz38_1 := blk_frozen BK544.out 1
        have hfz38_2 := blk_frozen BK544.out 2
        have hfz38_3 := blk_frozen BK544.out 3
        have hfz38_4 := blk_frozen BK544.out 4
        have hfz38_5 := blk_frozen BK544.out 5
        have hfz38_6 := blk_frozen BK544.out 6
        have hfz38_7 := blk_frozen BK544.out 7
        have hfz38_8 := blk_frozen BK544.out 8
        go_wp2_with (first | ((with_reducible refine gate_callee (f := 67) rfl ?_); refine goesL_ (some 44) rfl rfl Try.func67 (by kernel_rfl) rfl #[.agg #[.int .i64 a0_5, .int .i64 a0_6]] rfl zq47_1 ?_; (with_reducible refine (cenotaphref05_Whole.calls a0_5 a0_6 true _ A19.out).mono ?_); rintro e w39 ⟨rfl, hb⟩; refine ⟨_, rfl, ?_⟩; replace BK544 := Aside0.mk (blk_below (g := gb544) (o := .cells #[.int .i64 a0_0, .string a0_1, .int .i64 a0_2, .int .i64 a0_3, .bool false, .int .i64 a0_5, .int .i64 a0_6, .string a0_7, .bool true] 28 (0, 0)) zq47_3 hb); replace HB := Aside0.mk (below_step zq47_0 hb); (try clear hb); (try clear hb2); (try clear hk); (try clear hi); have hcz40_0 : w39.cell? ⟨gb544, 0, none⟩ = some (.int .i64 a0_0) := (blk_cell BK544.out 0).trans rfl; have hcz40_1 : w39.cell? ⟨gb544, 1, none⟩ = some (.string a0_1) := (blk_cell BK544.out 1).trans rfl; have hcz40_2 : w39.cell? ⟨gb544, 2, none⟩ = some (.int .i64 a0_2) := (blk_cell BK544.out 2).trans rfl; have hcz40_3 : w39.cell? ⟨gb544, 3, none⟩ = some (.int .i64 a0_3) := (blk_cell BK544.out 3).trans rfl; have hcz40_4 : w39.cell? ⟨gb544, 4, none⟩ = some (.bool false) := (blk_cell BK544.out 4).trans rfl; have hcz40_5 : w39.cell? ⟨gb544, 5, none⟩ = some (.int .i64 a0_5) := (blk_cell BK544.out 5).trans rfl; have hcz40_6 : w39.cell? ⟨gb544, 6, none⟩ = some (.int .i64 a0_6) := (blk_cell BK544.out 6).trans rfl; have hcz40_7 : w39.cell? ⟨gb544, 7, none⟩ = some (.string a0_7) := (blk_cell BK544.out 7).trans rfl; have hcz40_8 : w39.cell? ⟨gb544, 8, none⟩ = some (.bool true) := (blk_cell BK544.out 8).trans rfl; have hfz40_0 := blk_frozen BK544.out 0; have hfz40_1 := blk_frozen BK544.out 1; have hfz40_2 := blk_frozen BK544.out 2; have hfz40_3 := blk_frozen BK544.out 3; have hfz40_4 := blk_frozen BK544.out 4; have hfz40_5 := blk_frozen BK544.out 5; have hfz40_6 := blk_frozen BK544.out 6; have hfz40_7 := blk_frozen BK544.out 7; have hfz40_8 := blk_frozen BK544.out 8))
        go_ret
        exact ⟨by first | rfl | (simp [errW_none, errW_some] <;> rfl) | (simp [*, errW_none, errW_some] <;> rfl), by repeat (first | (with_reducible first | exact HB.out | apply below_alloc | apply pw_below_drewN | apply below_drew1 | refine below_set ?_ GE544.out) | exact HB.out)⟩
       ·replace c37 := Bool.eq_false_iff.mpr c37
        subst c37
        have H1 : (some ((a0_7.size : Int) == 0)) = some r := by rw [if_neg (show ¬ (false = true) by decide)] at H; exact H
        clear H
        have H := H1
        clear H1
        obtain rfl := Option.some.inj H
        have hcz41_0 : wc.cell? ⟨gb544, 0, none⟩ = some (.int .i64 a0_0) := (blk_cell BK544.out 0).trans rfl
        have hcz41_1 : wc.cell? ⟨gb544, 1, none⟩ = some (.string a0_1) := (blk_cell BK544.out 1).trans rfl
        have hcz41_2 : wc.cell? ⟨gb544, 2, none⟩ = some (.int .i64 a0_2) := (blk_cell BK544.out 2).trans rfl
        have hcz41_3 : wc.cell? ⟨gb544, 3, none⟩ = some (.int .i64 a0_3) := (blk_cell BK544.out 3).trans rfl
        have hcz41_4 : wc.cell? ⟨gb544, 4, none⟩ = some (.bool false) := (blk_cell BK544.out 4).trans rfl
        have hcz41_5 : wc.cell? ⟨gb544, 5, none⟩ = some (.int .i64 a0_5) := (blk_cell BK544.out 5).trans rfl
        have hcz41_6 : wc.cell? ⟨gb544, 6, none⟩ = some (.int .i64 a0_6) := (blk_cell BK544.out 6).trans rfl
        have hcz41_7 : wc.cell? ⟨gb544, 7, none⟩ = some (.string a0_7) := (blk_cell BK544.out 7).trans rfl
        have hcz41_8 : wc.cell? ⟨gb544, 8, none⟩ = some (.bool false) := (blk_cell BK544.out 8).trans rfl
        have hfz41_0 := blk_frozen BK544.out 0
        have hfz41_1 := blk_frozen BK544.out 1
        have hfz41_2 := blk_frozen BK544.out 2
        have hfz41_3 := blk_frozen BK544.out 3
        have hfz41_4 := blk_frozen BK544.out 4
        have hfz41_5 := blk_frozen BK544.out 5
        have hfz41_6 := blk_frozen BK544.out 6
        have hfz41_7 := blk_frozen BK544.out 7
        have hfz41_8 := blk_frozen BK544.out 8
        go_wp2_with (first | ((with_reducible refine gate_callee (f := 67) rfl ?_); refine goesL_ (some 44) rfl rfl Try.func67 (by kernel_rfl) rfl #[.agg #[.int .i64 a0_5, .int .i64 a0_6]] rfl zq47_1 ?_; (with_reducible refine (cenotaphref05_Whole.calls a0_5 a0_6 true _ A19.out).mono ?_); rintro e w42 ⟨rfl, hb⟩; refine ⟨_, rfl, ?_⟩; replace BK544 := Aside0.mk (blk_below (g := gb544) (o := .cells #[.int .i64 a0_0, .string a0_1, .int .i64 a0_2, .int .i64 a0_3, .bool false, .int .i64 a0_5, .int .i64 a0_6, .string a0_7, .bool false] 28 (0, 0)) zq47_3 hb); replace HB := Aside0.mk (below_step zq47_0 hb); (try clear hb); (try clear hb2); (try clear hk); (try clear hi); have hcz43_0 : w42.cell? ⟨gb544, 0, none⟩ = some (.int .i64 a0_0) := (blk_cell BK544.out 0).trans rfl; have hcz43_1 : w42.cell? ⟨gb544, 1, none⟩ = some (.string a0_1) := (blk_cell BK544.out 1).trans rfl; have hcz43_2 : w42.cell? ⟨gb544, 2, none⟩ = some (.int .i64 a0_2) := (blk_cell BK544.out 2).trans rfl; have hcz43_3 : w42.cell? ⟨gb544, 3, none⟩ = some (.int .i64 a0_3) := (blk_cell BK544.out 3).trans rfl; have hcz43_4 : w42.cell? ⟨gb544, 4, none⟩ = some (.bool false) := (blk_cell BK544.out 4).trans rfl; have hcz43_5 : w42.cell? ⟨gb544, 5, none⟩ = some (.int .i64 a0_5) := (blk_cell BK544.out 5).trans rfl; have hcz43_6 : w42.cell? ⟨gb544, 6, none⟩ = some (.int .i64 a0_6) := (blk_cell BK544.out 6).trans rfl; have hcz43_7 : w42.cell? ⟨gb544, 7, none⟩ = some (.string a0_7) := (blk_cell BK544.out 7).trans rfl; have hcz43_8 : w42.cell? ⟨gb544, 8, none⟩ = some (.bool false) := (blk_cell BK544.out 8).trans rfl; have hfz43_0 := blk_frozen BK544.out 0; have hfz43_1 := blk_frozen BK544.out 1; have hfz43_2 := blk_frozen BK544.out 2; have hfz43_3 := blk_frozen BK544.out 3; have hfz43_4 := blk_frozen BK544.out 4; have hfz43_5 := blk_frozen BK544.out 5; have hfz43_6 := blk_frozen BK544.out 6; have hfz43_7 := blk_frozen BK544.out 7; have hfz43_8 := blk_frozen BK544.out 8))
        go_ret
        exact ⟨by first | rfl | (simp [errW_none, errW_some] <;> rfl) | (simp [*, errW_none, errW_some] <;> rfl), by repeat (first | (with_reducible first | exact HB.out | apply below_alloc | apply pw_below_drewN | apply below_drew1 | refine below_set ?_ GE544.out) | exact HB.out)⟩
    ·replace c20 := Bool.eq_false_iff.mpr c20
     subst c20
     have H1 : (some false) = some r := by rw [if_neg (show ¬ (false = true) by decide)] at H; exact H
     clear H
     have H := H1
     clear H1
     obtain rfl := Option.some.inj H
     have hcz44_0 : wc.cell? ⟨gb544, 0, none⟩ = some (.int .i64 a0_0) := (blk_cell BK544.out 0).trans rfl
     have hcz44_1 : wc.cell? ⟨gb544, 1, none⟩ = some (.string a0_1) := (blk_cell BK544.out 1).trans rfl
     have hcz44_2 : wc.cell? ⟨gb544, 2, none⟩ = some (.int .i64 a0_2) := (blk_cell BK544.out 2).trans rfl
     have hcz44_3 : wc.cell? ⟨gb544, 3, none⟩ = some (.int .i64 a0_3) := (blk_cell BK544.out 3).trans rfl
     have hcz44_4 : wc.cell? ⟨gb544, 4, none⟩ = some (.bool a0_4) := (blk_cell BK544.out 4).trans rfl
     have hcz44_5 : wc.cell? ⟨gb544, 5, none⟩ = some (.int .i64 a0_5) := (blk_cell BK544.out 5).trans rfl
     have hcz44_6 : wc.cell? ⟨gb544, 6, none⟩ = some (.int .i64 a0_6) := (blk_cell BK544.out 6).trans rfl
     have hcz44_7 : wc.cell? ⟨gb544, 7, none⟩ = some (.string a0_7) := (blk_cell BK544.out 7).trans rfl
     have hcz44_8 : wc.cell? ⟨gb544, 8, none⟩ = some (.bool a0_8) := (blk_cell BK544.out 8).trans rfl
     have hfz44_0 := blk_frozen BK544.out 0
     have hfz44_1 := blk_frozen BK544.out 1
     have hfz44_2 := blk_frozen BK544.out 2
     have hfz44_3 := blk_frozen BK544.out 3
     have hfz44_4 := blk_frozen BK544.out 4
     have hfz44_5 := blk_frozen BK544.out 5
     have hfz44_6 := blk_frozen BK544.out 6
     have hfz44_7 := blk_frozen BK544.out 7
     have hfz44_8 := blk_frozen BK544.out 8
     go_wp2_with (first | ((with_reducible refine gate_callee (f := 67) rfl ?_); refine goesL_ (some 44) rfl rfl Try.func67 (by kernel_rfl) rfl #[.agg #[.int .i64 a0_5, .int .i64 a0_6]] rfl zq47_1 ?_; (with_reducible refine (cenotaphref05_Whole.calls a0_5 a0_6 false _ A19.out).mono ?_); rintro e w45 ⟨rfl, hb⟩; refine ⟨_, rfl, ?_⟩; replace BK544 := Aside0.mk (blk_below (g := gb544) (o := .cells #[.int .i64 a0_0, .string a0_1, .int .i64 a0_2, .int .i64 a0_3, .bool a0_4, .int .i64 a0_5, .int .i64 a0_6, .string a0_7, .bool a0_8] 28 (0, 0)) zq47_3 hb); replace HB := Aside0.mk (below_step zq47_0 hb); (try clear hb); (try clear hb2); (try clear hk); (try clear hi)))
     go_ret
     exact ⟨by first | rfl | (simp [errW_none, errW_some] <;> rfl) | (simp [*, errW_none, errW_some] <;> rfl), by repeat (first | (with_reducible first | exact HB.out | apply below_alloc | apply pw_below_drewN | apply below_drew1 | refine below_set ?_ GE544.out) | exact HB.out)⟩

/-! ### cenotaphref08_Right: function 25 -/
theorem zq25_0 {p_ : Prop} (h_ : p_ := by (try simp only [List.map_toArray, List.map_cons, List.map_nil]); first | done | rfl | (simp only [List.length_drop, List.length_take]; rfl)) : p_ := h_
theorem zq25_1 {p_ : Prop} (h_ : p_ := by repeat (first | (with_reducible first | exact HB.out | apply below_alloc | apply pw_below_drewN | apply below_drew1) | exact HB.out)) : p_ := h_
theorem zq25_2 {p_ : Prop} (h_ : p_ := by first | (with_reducible assumption) | assumption) : p_ := h_
theorem zq25_3 {p_ : Prop} (h_ : p_ := by first | rfl | (simp; done) | (simp [*]; done)) : p_ := h_
def cenotaphref08_Right.l0 : Nat → List (S28) → Int → Option (Bool)
 | 0, _, _ => none
 | k + 1, x0, x3 => if x3 < (x0.length : Int) then (if 0 ≤ x3 then ((cenotaphref07_Right.f k ((rd_T28 x0 x3).f0) ((rd_T28 x0 x3).f1.f0) ((rd_T28 x0 x3).f1.f1) ((rd_T28 x0 x3).f1.f2) ((rd_T28 x0 x3).f2) ((rd_T28 x0 x3).f3.f0) ((rd_T28 x0 x3).f3.f1) ((rd_T28 x0 x3).f4) ((rd_T28 x0 x3).f5)).bind fun t548 => (if t548 = true then (if x3 > 0 then (if 0 ≤ (wrap64 (x3 - 1)) then (if (wrap64 (x3 - 1)) < (x0.length : Int) then (if ((rd_T28 x0 (wrap64 (x3 - 1))).f0) ≥ ((rd_T28 x0 x3).f0) then (some false) else (cenotaphref08_Right.l0 k x0 (wrap64 (x3 + 1)))) else (none)) else (none)) else (cenotaphref08_Right.l0 k x0 (wrap64 (x3 + 1)))) else (some false))) else (none)) else (some true)
def cenotaphref08_Right.f (k : Nat) (l0 : List (S28)) : Option (Bool) := cenotaphref08_Right.l0 k l0 0
theorem cenotaphref08_Right.mono_l : ∀ k, (∀ y0 y1, LeO (cenotaphref08_Right.l0 k y0 y1) (cenotaphref08_Right.l0 (k + 1) y0 y1))
 | 0 => fun _ _ r h => by simp [cenotaphref08_Right.l0] at h
 | k + 1 => by
  have ih0 := cenotaphref08_Right.mono_l k
  ·intro y0 y1
   unfold cenotaphref08_Right.l0
   repeat' first
   | (with_reducible exact ih0 _ _)
   | (with_reducible exact cenotaphref07_Right.mono _ _ _ _ _ _ _ _ _ _)
   | (with_reducible exact LeO.refl _)
   | (with_reducible exact LeO.none _)
   | (with_reducible refine LeO.ite ?_ ?_)
   | (with_reducible refine LeO.bind ?_ (fun _ => ?_))
   | exact ih0 _ _
   | exact cenotaphref07_Right.mono _ _ _ _ _ _ _ _ _ _
   | exact LeO.none _
   | refine LeO.ite ?_ ?_
   | refine LeO.bind ?_ (fun _ => ?_)
theorem cenotaphref08_Right.mono : ∀ a0 k, LeO (cenotaphref08_Right.f k a0) (cenotaphref08_Right.f (k + 1) a0) := by
 intro a0 k
 have ih0 := cenotaphref08_Right.mono_l k
 unfold cenotaphref08_Right.f
 repeat' first
   | (with_reducible exact ih0 _ _)
   | (with_reducible exact cenotaphref07_Right.mono _ _ _ _ _ _ _ _ _ _)
   | (with_reducible exact LeO.refl _)
   | (with_reducible exact LeO.none _)
   | (with_reducible refine LeO.ite ?_ ?_)
   | (with_reducible refine LeO.bind ?_ (fun _ => ?_))
   | exact ih0 _ _
   | exact cenotaphref07_Right.mono _ _ _ _ _ _ _ _ _ _
   | exact LeO.none _
   | refine LeO.ite ?_ ?_
   | refine LeO.bind ?_ (fun _ => ?_)
def cenotaphref08_Right.T4 : Bool × List (List Nat × List Nat) := (true, [([], []), ([], []), ([0, 1], [0, 1]), ([2], [2]), ([3], [3]), ([4], [4]), ([5, 4], [5]), ([6], [6]), ([7, 6], [6, 7]), ([8, 6, 6], [6, 8]), ([9], [9]), ([9], [9]), ([11, 9], [9, 11]), ([10, 12, 9], [9, 10, 12]), ([13, 9], [9, 13]), ([14, 9], [9, 14]), ([9], [9]), ([9], [9]), ([16, 17, 9], [9, 16, 17]), ([18, 9], [9, 18]), ([19, 9], [9, 19]), ([15, 20, 9], [9, 15, 20]), ([9, 21, 6], [6, 9, 21]), ([6, 22], [6, 22])])
def cenotaphref08_Right.B4 : List Nat := [0, 0, 3, 7, 15, 31, 63, 127, 255, 511, 1023, 1023, 3071, 8191, 16383, 32767, 1023, 1023, 197631, 459775, 984063, 2097151, 4194303, 8388607]
theorem cenotaphref08_Right.tab4 : rtab .any (opsOf Try.f25 4) = cenotaphref08_Right.T4 := by kernel_rfl
theorem cenotaphref08_Right.bits4 : waitsOk cenotaphref08_Right.T4.2 cenotaphref08_Right.B4 = true := by kernel_rfl
set_option maxHeartbeats 8000000 in
set_option maxRecDepth 100000 in
theorem cenotaphref08_Right.calls (k : Nat) (A0 : Option Addr) (c0 : Nat) (l0 : List (S28)) (r : Bool) (w : World) (hr0 : Kd.C k28 w A0 l0.length l0) (hc0 : l0.length ≤ c0) (h : cenotaphref08_Right.f k l0 = some r) :
  Calls Try.prog 25 #[.slice A0 l0.length c0] w fun e w' => e = .returned (.bool r) ∧ Below w.heap.size w w' := by
 have hu28 := Try.underlying28
 have HR0 := Aside0.mk hr0
 have HC0 := Aside0.mk hc0
 clear hr0 hc0
 have HB := Aside0.mk (Below.refl w.heap.size w)
 have H : (cenotaphref08_Right.l0 k l0 0) = some r := h
 clear h
 have H' := Aside0.mk H
 clear H
 go_enter Try.func25, Try.ntmps25
 go_wp2
 go_loopg [3] k (fun kq v3 w' => ∃ (x3_1 : Int), v3 = .int .i64 x3_1 ∧ Aside0 (cenotaphref08_Right.l0 kq l0 x3_1 = some r) ∧ Aside0 (kq ≤ k) ∧ Aside0 (Below w.heap.size w w'))
 case atStart => exact ⟨(0), zq25_3, H', ⟨Nat.le_refl _⟩, ⟨by repeat (first | (with_reducible first | exact HB.out | apply below_alloc | apply pw_below_drewN | apply below_drew1) | exact HB.out)⟩⟩
 case round =>
  clear H'
  obtain ⟨x3_1, rfl, HA, HK1, HB⟩ := hrel
  cases gk with
  | zero => exact absurd HA.out (by simp [cenotaphref08_Right.l0])
  | succ k1 =>
   have H := HA.out
   clear HA
   simp only [cenotaphref08_Right.l0] at H
   by_cases c2 : x3_1 < (l0.length : Int)
   ·rw [if_pos c2] at H
    have c2b0 : decide (x3_1 < (l0.length : Int)) = true := decide_eq_true c2
    clear c2
    by_cases c3 : 0 ≤ x3_1
    ·rw [if_pos c3] at H
     have c3b0 : decide (0 ≤ x3_1) = true := decide_eq_true c3
     clear c3
     replace H := Option.bind_eq_some_iff.mp H
     obtain ⟨t548, A40, H⟩ := H
     have A4 := Aside0.mk A40
     clear A40
     by_cases c5 : t548 = true
     ·subst c5
      have H1 : (if x3_1 > 0 then (if 0 ≤ (wrap64 (x3_1 - 1)) then (if (wrap64 (x3_1 - 1)) < (l0.length : Int) then (if ((rd_T28 l0 (wrap64 (x3_1 - 1))).f0) ≥ ((rd_T28 l0 x3_1).f0) then (some false) else (cenotaphref08_Right.l0 k1 l0 (wrap64 (x3_1 + 1)))) else (none)) else (none)) else (cenotaphref08_Right.l0 k1 l0 (wrap64 (x3_1 + 1)))) = some r := by rw [if_pos rfl] at H; exact H
      clear H
      have H := H1
      clear H1
      by_cases c6 : x3_1 > 0
      ·rw [if_pos c6] at H
       have c6b0 : decide (0 < x3_1) = true := decide_eq_true c6
       clear c6
       obtain ⟨ji7, hji7⟩ : ∃ j_ : Int, (wrap64 (x3_1 - 1)) = j_ := ⟨_, rfl⟩
       replace H : (if 0 ≤ (ji7) then (if (ji7) < (l0.length : Int) then (if ((rd_T28 l0 (ji7)).f0) ≥ ((rd_T28 l0 x3_1).f0) then (some false) else (cenotaphref08_Right.l0 k1 l0 (wrap64 (x3_1 + 1)))) else (none)) else (none)) = some r := by first | (rw [hji7] at H; exact H) | (simp only [hji7] at H ⊢; exact H)
       (try rw [hji7] at A4)
       have hji7w : (IntKind.i64.wrap (x3_1 - 1)) = ji7 := (i64_w _).trans hji7
       by_cases c8 : 0 ≤ (ji7)
       ·rw [if_pos c8] at H
        have c8b0 : decide (0 ≤ (ji7)) = true := decide_eq_true c8
        clear c8
        by_cases c9 : (ji7) < (l0.length : Int)
        ·rw [if_pos c9] at H
         have c9b0 : decide ((ji7) < (l0.length : Int)) = true := decide_eq_true c9
         clear c9
         by_cases c10 : ((rd_T28 l0 (ji7)).f0) ≥ ((rd_T28 l0 x3_1).f0)
         ·rw [if_pos c10] at H
          have c10b0 : decide (((rd_T28 l0 x3_1).f0) ≤ ((rd_T28 l0 (ji7)).f0)) = true := decide_eq_true c10
          clear c10
          obtain rfl := Option.some.inj H
          try go_wp2
          replace HB := Aside0.mk (below_drew1 HB.out)
          have p547 : 0 ≤ (x3_1 : Int) := of_decide_eq_true zq25_2
          have q547 : x3_1 < (l0.length : Int) := of_decide_eq_true zq25_2
          obtain ⟨ad547, e547, hx547_0, hx547_1, hx547_2, hx547_3, hx547_4, hx547_5, hx547_6, hx547_7, hx547_8⟩ := at_T28 HR0.out x3_1 p547 q547
          have hw547_8 := hx547_8
          have hw547_7 := hx547_7
          have hw547_6 := hx547_6
          have hw547_5 := hx547_5
          have hw547_4 := hx547_4
          have hw547_3 := hx547_3
          have hw547_2 := hx547_2
          have hw547_1 := hx547_1
          have hw547_0 := hx547_0
          cases e547
          replace hx547_0 := (HB.out.cell (World.block_lt_of_cell? w _ hx547_0)).trans hx547_0
          replace hx547_1 := (HB.out.cell (World.block_lt_of_cell? w _ hx547_1)).trans hx547_1
          replace hx547_2 := (HB.out.cell (World.block_lt_of_cell? w _ hx547_2)).trans hx547_2
          replace hx547_3 := (HB.out.cell (World.block_lt_of_cell? w _ hx547_3)).trans hx547_3
          replace hx547_4 := (HB.out.cell (World.block_lt_of_cell? w _ hx547_4)).trans hx547_4
          replace hx547_5 := (HB.out.cell (World.block_lt_of_cell? w _ hx547_5)).trans hx547_5
          replace hx547_6 := (HB.out.cell (World.block_lt_of_cell? w _ hx547_6)).trans hx547_6
          replace hx547_7 := (HB.out.cell (World.block_lt_of_cell? w _ hx547_7)).trans hx547_7
          replace hx547_8 := (HB.out.cell (World.block_lt_of_cell? w _ hx547_8)).trans hx547_8
          replace p547 := eq_true p547
          replace q547 := eq_true q547
          have p549 : 0 ≤ ((ji7) : Int) := of_decide_eq_true zq25_2
          have q549 : (ji7) < (l0.length : Int) := of_decide_eq_true zq25_2
          obtain ⟨ad549, e549, hx549_0, hx549_1, hx549_2, hx549_3, hx549_4, hx549_5, hx549_6, hx549_7, hx549_8⟩ := at_T28 HR0.out (ji7) p549 q549
          have hw549_8 := hx549_8
          have hw549_7 := hx549_7
          have hw549_6 := hx549_6
          have hw549_5 := hx549_5
          have hw549_4 := hx549_4
          have hw549_3 := hx549_3
          have hw549_2 := hx549_2
          have hw549_1 := hx549_1
          have hw549_0 := hx549_0
          obtain rfl : ad547 = ad549 := (by injection e549)
          replace hx549_0 := (HB.out.cell (World.block_lt_of_cell? w _ hx549_0)).trans hx549_0
          replace hx549_1 := (HB.out.cell (World.block_lt_of_cell? w _ hx549_1)).trans hx549_1
          replace hx549_2 := (HB.out.cell (World.block_lt_of_cell? w _ hx549_2)).trans hx549_2
          replace hx549_3 := (HB.out.cell (World.block_lt_of_cell? w _ hx549_3)).trans hx549_3
          replace hx549_4 := (HB.out.cell (World.block_lt_of_cell? w _ hx549_4)).trans hx549_4
          replace hx549_5 := (HB.out.cell (World.block_lt_of_cell? w _ hx549_5)).trans hx549_5
          replace hx549_6 := (HB.out.cell (World.block_lt_of_cell? w _ hx549_6)).trans hx549_6
          replace hx549_7 := (HB.out.cell (World.block_lt_of_cell? w _ hx549_7)).trans hx549_7
          replace hx549_8 := (HB.out.cell (World.block_lt_of_cell? w _ hx549_8)).trans hx549_8
          replace p549 := eq_true p549
          replace q549 := eq_true q549
          have p550 : 0 ≤ (x3_1 : Int) := of_decide_eq_true zq25_2
          have q550 : x3_1 < (l0.length : Int) := of_decide_eq_true zq25_2
          obtain ⟨ad550, e550, hx550_0, hx550_1, hx550_2, hx550_3, hx550_4, hx550_5, hx550_6, hx550_7, hx550_8⟩ := at_T28 HR0.out x3_1 p550 q550
          have hw550_8 := hx550_8
          have hw550_7 := hx550_7
          have hw550_6 := hx550_6
          have hw550_5 := hx550_5
          have hw550_4 := hx550_4
          have hw550_3 := hx550_3
          have hw550_2 := hx550_2
          have hw550_1 := hx550_1
          have hw550_0 := hx550_0
          obtain rfl : ad547 = ad550 := (by injection e550)
          replace hx550_0 := (HB.out.cell (World.block_lt_of_cell? w _ hx550_0)).trans hx550_0
          replace hx550_1 := (HB.out.cell (World.block_lt_of_cell? w _ hx550_1)).trans hx550_1
          replace hx550_2 := (HB.out.cell (World.block_lt_of_cell? w _ hx550_2)).trans hx550_2
          replace hx550_3 := (HB.out.cell (World.block_lt_of_cell? w _ hx550_3)).trans hx550_3
          replace hx550_4 := (HB.out.cell (World.block_lt_of_cell? w _ hx550_4)).trans hx550_4
          replace hx550_5 := (HB.out.cell (World.block_lt_of_cell? w _ hx550_5)).trans hx550_5
          replace hx550_6 := (HB.out.cell (World.block_lt_of_cell? w _ hx550_6)).trans hx550_6
          replace hx550_7 := (HB.out.cell (World.block_lt_of_cell? w _ hx550_7)).trans hx550_7
          replace hx550_8 := (HB.out.cell (World.block_lt_of_cell? w _ hx550_8)).trans hx550_8
          replace p550 := eq_true p550
          replace q550 := eq_true q550
          refine start_ (n := 24) (S := fun w' => w'.cell? (ad547.add ((x3_1).toNat * 9)) = some (.int .i64 ((rd_T28 l0 x3_1).f0)) ∧ w'.cell? ⟨(ad547.add ((x3_1).toNat * 9)).block, (ad547.add ((x3_1).toNat * 9)).off + 1, none⟩ = some (.string ((rd_T28 l0 x3_1).f1.f0)) ∧ w'.cell? ⟨(ad547.add ((x3_1).toNat * 9)).block, (ad547.add ((x3_1).toNat * 9)).off + 2, none⟩ = some (.int .i64 ((rd_T28 l0 x3_1).f1.f1)) ∧ w'.cell? ⟨(ad547.add ((x3_1).toNat * 9)).block, (ad547.add ((x3_1).toNat * 9)).off + 3, none⟩ = some (.int .i64 ((rd_T28 l0 x3_1).f1.f2)) ∧ w'.cell? ⟨(ad547.add ((x3_1).toNat * 9)).block, (ad547.add ((x3_1).toNat * 9)).off + 4, none⟩ = some (.bool ((rd_T28 l0 x3_1).f2)) ∧ w'.cell? ⟨(ad547.add ((x3_1).toNat * 9)).block, (ad547.add ((x3_1).toNat * 9)).off + 5, none⟩ = some (.int .i64 ((rd_T28 l0 x3_1).f3.f0)) ∧ w'.cell? ⟨(ad547.add ((x3_1).toNat * 9)).block, (ad547.add ((x3_1).toNat * 9)).off + 6, none⟩ = some (.int .i64 ((rd_T28 l0 x3_1).f3.f1)) ∧ w'.cell? ⟨(ad547.add ((x3_1).toNat * 9)).block, (ad547.add ((x3_1).toNat * 9)).off + 7, none⟩ = some (.string ((rd_T28 l0 x3_1).f4)) ∧ w'.cell? ⟨(ad547.add ((x3_1).toNat * 9)).block, (ad547.add ((x3_1).toNat * 9)).off + 8, none⟩ = some (.bool ((rd_T28 l0 x3_1).f5)) ∧ w'.cell? (ad547.add (((ji7)).toNat * 9)) = some (.int .i64 ((rd_T28 l0 (ji7)).f0)) ∧ w'.cell? ⟨(ad547.add (((ji7)).toNat * 9)).block, (ad547.add (((ji7)).toNat * 9)).off + 1, none⟩ = some (.string ((rd_T28 l0 (ji7)).f1.f0)) ∧ w'.cell? ⟨(ad547.add (((ji7)).toNat * 9)).block, (ad547.add (((ji7)).toNat * 9)).off + 2, none⟩ = some (.int .i64 ((rd_T28 l0 (ji7)).f1.f1)) ∧ w'.cell? ⟨(ad547.add (((ji7)).toNat * 9)).block, (ad547.add (((ji7)).toNat * 9)).off + 3, none⟩ = some (.int .i64 ((rd_T28 l0 (ji7)).f1.f2)) ∧ w'.cell? ⟨(ad547.add (((ji7)).toNat * 9)).block, (ad547.add (((ji7)).toNat * 9)).off + 4, none⟩ = some (.bool ((rd_T28 l0 (ji7)).f2)) ∧ w'.cell? ⟨(ad547.add (((ji7)).toNat * 9)).block, (ad547.add (((ji7)).toNat * 9)).off + 5, none⟩ = some (.int .i64 ((rd_T28 l0 (ji7)).f3.f0)) ∧ w'.cell? ⟨(ad547.add (((ji7)).toNat * 9)).block, (ad547.add (((ji7)).toNat * 9)).off + 6, none⟩ = some (.int .i64 ((rd_T28 l0 (ji7)).f3.f1)) ∧ w'.cell? ⟨(ad547.add (((ji7)).toNat * 9)).block, (ad547.add (((ji7)).toNat * 9)).off + 7, none⟩ = some (.string ((rd_T28 l0 (ji7)).f4)) ∧ w'.cell? ⟨(ad547.add (((ji7)).toNat * 9)).block, (ad547.add (((ji7)).toNat * 9)).off + 8, none⟩ = some (.bool ((rd_T28 l0 (ji7)).f5)) ∧ w'.cell? (ad547.add ((x3_1).toNat * 9)) = some (.int .i64 ((rd_T28 l0 x3_1).f0)) ∧ w'.cell? ⟨(ad547.add ((x3_1).toNat * 9)).block, (ad547.add ((x3_1).toNat * 9)).off + 1, none⟩ = some (.string ((rd_T28 l0 x3_1).f1.f0)) ∧ w'.cell? ⟨(ad547.add ((x3_1).toNat * 9)).block, (ad547.add ((x3_1).toNat * 9)).off + 2, none⟩ = some (.int .i64 ((rd_T28 l0 x3_1).f1.f1)) ∧ w'.cell? ⟨(ad547.add ((x3_1).toNat * 9)).block, (ad547.add ((x3_1).toNat * 9)).off + 3, none⟩ = some (.int .i64 ((rd_T28 l0 x3_1).f1.f2)) ∧ w'.cell? ⟨(ad547.add ((x3_1).toNat * 9)).block, (ad547.add ((x3_1).toNat * 9)).off + 4, none⟩ = some (.bool ((rd_T28 l0 x3_1).f2)) ∧ w'.cell? ⟨(ad547.add ((x3_1).toNat * 9)).block, (ad547.add ((x3_1).toNat * 9)).off + 5, none⟩ = some (.int .i64 ((rd_T28 l0 x3_1).f3.f0)) ∧ w'.cell? ⟨(ad547.add ((x3_1).toNat * 9)).block, (ad547.add ((x3_1).toNat * 9)).off + 6, none⟩ = some (.int .i64 ((rd_T28 l0 x3_1).f3.f1)) ∧ w'.cell? ⟨(ad547.add ((x3_1).toNat * 9)).block, (ad547.add ((x3_1).toNat * 9)).off + 7, none⟩ = some (.string ((rd_T28 l0 x3_1).f4)) ∧ w'.cell? ⟨(ad547.add ((x3_1).toNat * 9)).block, (ad547.add ((x3_1).toNat * 9)).off + 8, none⟩ = some (.bool ((rd_T28 l0 x3_1).f5))) (ds := []) #[false, false, false, false, false, false, false, false, false, false, false, false, false, false, false, false, false, false, false, false, false, false, false, false] (by kernel_rfl) rfl rfl ⟨((HB.out.cell (World.block_lt_of_cell? w _ hw547_0)).trans hw547_0), ((HB.out.cell (World.block_lt_of_cell? w _ hw547_1)).trans hw547_1), ((HB.out.cell (World.block_lt_of_cell? w _ hw547_2)).trans hw547_2), ((HB.out.cell (World.block_lt_of_cell? w _ hw547_3)).trans hw547_3), ((HB.out.cell (World.block_lt_of_cell? w _ hw547_4)).trans hw547_4), ((HB.out.cell (World.block_lt_of_cell? w _ hw547_5)).trans hw547_5), ((HB.out.cell (World.block_lt_of_cell? w _ hw547_6)).trans hw547_6), ((HB.out.cell (World.block_lt_of_cell? w _ hw547_7)).trans hw547_7), ((HB.out.cell (World.block_lt_of_cell? w _ hw547_8)).trans hw547_8), ((HB.out.cell (World.block_lt_of_cell? w _ hw549_0)).trans hw549_0), ((HB.out.cell (World.block_lt_of_cell? w _ hw549_1)).trans hw549_1), ((HB.out.cell (World.block_lt_of_cell? w _ hw549_2)).trans hw549_2), ((HB.out.cell (World.block_lt_of_cell? w _ hw549_3)).trans hw549_3), ((HB.out.cell (World.block_lt_of_cell? w _ hw549_4)).trans hw549_4), ((HB.out.cell (World.block_lt_of_cell? w _ hw549_5)).trans hw549_5), ((HB.out.cell (World.block_lt_of_cell? w _ hw549_6)).trans hw549_6), ((HB.out.cell (World.block_lt_of_cell? w _ hw549_7)).trans hw549_7), ((HB.out.cell (World.block_lt_of_cell? w _ hw549_8)).trans hw549_8), ((HB.out.cell (World.block_lt_of_cell? w _ hw550_0)).trans hw550_0), ((HB.out.cell (World.block_lt_of_cell? w _ hw550_1)).trans hw550_1), ((HB.out.cell (World.block_lt_of_cell? w _ hw550_2)).trans hw550_2), ((HB.out.cell (World.block_lt_of_cell? w _ hw550_3)).trans hw550_3), ((HB.out.cell (World.block_lt_of_cell? w _ hw550_4)).trans hw550_4), ((HB.out.cell (World.block_lt_of_cell? w _ hw550_5)).trans hw550_5), ((HB.out.cell (World.block_lt_of_cell? w _ hw550_6)).trans hw550_6), ((HB.out.cell (World.block_lt_of_cell? w _ hw550_7)).trans hw550_7), ((HB.out.cell (World.block_lt_of_cell? w _ hw550_8)).trans hw550_8)⟩ (fun hHeld => ?_); refine with_tabW cenotaphref08_Right.tab4 cenotaphref08_Right.bits4 (fun HT_ HW_ => ?_)
          generalize wr.drew = w11 at HB hx547_0 hx547_1 hx547_2 hx547_3 hx547_4 hx547_5 hx547_6 hx547_7 hx547_8 hx549_0 hx549_1 hx549_2 hx549_3 hx549_4 hx549_5 hx549_6 hx549_7 hx549_8 hx550_0 hx550_1 hx550_2 hx550_3 hx550_4 hx550_5 hx550_6 hx550_7 hx550_8 hHeld ⊢
          refine p_ 0 10 (mk_ 24 0x1) ?_
          refine p_ 1 11 (mk_ 24 0x3) ?_
          refine p_ 2 12 (mk_ 24 0x7) ?_
          refine t_ 3 13 (mk_ 24 0xf) hHeld ?_
          refine one_ (i := 4) (N := some 14) #[true, true, true, true, true, false, false, false, false, false, false, false, false, false, false, false, false, false, false, false, false, false, false, false] rfl rfl (one_of HT_.out (by kernel_rfl)) (by decide) (fun K hK => ?_)
          refine goes_ Try.func47 (by kernel_rfl) rfl #[.agg #[.int .i64 ((rd_T28 l0 x3_1).f0), .string ((rd_T28 l0 x3_1).f1.f0), .int .i64 ((rd_T28 l0 x3_1).f1.f1), .int .i64 ((rd_T28 l0 x3_1).f1.f2), .bool ((rd_T28 l0 x3_1).f2), .int .i64 ((rd_T28 l0 x3_1).f3.f0), .int .i64 ((rd_T28 l0 x3_1).f3.f1), .string ((rd_T28 l0 x3_1).f4), .bool ((rd_T28 l0 x3_1).f5)]] (by rfl) rfl rfl zq25_0 ?_
          with_reducible refine (cenotaphref07_Right.calls k1 ((rd_T28 l0 x3_1).f0) ((rd_T28 l0 x3_1).f1.f0) ((rd_T28 l0 x3_1).f1.f1) ((rd_T28 l0 x3_1).f1.f2) ((rd_T28 l0 x3_1).f2) ((rd_T28 l0 x3_1).f3.f0) ((rd_T28 l0 x3_1).f3.f1) ((rd_T28 l0 x3_1).f4) ((rd_T28 l0 x3_1).f5) true _ A4.out).mono ?_
          rintro e w12 ⟨rfl, hb⟩
          refine ⟨_, rfl, ?_⟩
          replace HB := Aside0.mk (below_step zq25_1 hb)
          (try clear hb)
          (try clear hb2)
          (try clear hk)
          (try clear hi)
          refine hK.out _ _ ⟨((HB.out.cell (World.block_lt_of_cell? w _ hw547_0)).trans hw547_0), ((HB.out.cell (World.block_lt_of_cell? w _ hw547_1)).trans hw547_1), ((HB.out.cell (World.block_lt_of_cell? w _ hw547_2)).trans hw547_2), ((HB.out.cell (World.block_lt_of_cell? w _ hw547_3)).trans hw547_3), ((HB.out.cell (World.block_lt_of_cell? w _ hw547_4)).trans hw547_4), ((HB.out.cell (World.block_lt_of_cell? w _ hw547_5)).trans hw547_5), ((HB.out.cell (World.block_lt_of_cell? w _ hw547_6)).trans hw547_6), ((HB.out.cell (World.block_lt_of_cell? w _ hw547_7)).trans hw547_7), ((HB.out.cell (World.block_lt_of_cell? w _ hw547_8)).trans hw547_8), ((HB.out.cell (World.block_lt_of_cell? w _ hw549_0)).trans hw549_0), ((HB.out.cell (World.block_lt_of_cell? w _ hw549_1)).trans hw549_1), ((HB.out.cell (World.block_lt_of_cell? w _ hw549_2)).trans hw549_2), ((HB.out.cell (World.block_lt_of_cell? w _ hw549_3)).trans hw549_3), ((HB.out.cell (World.block_lt_of_cell? w _ hw549_4)).trans hw549_4), ((HB.out.cell (World.block_lt_of_cell? w _ hw549_5)).trans hw549_5), ((HB.out.cell (World.block_lt_of_cell? w _ hw549_6)).trans hw549_6), ((HB.out.cell (World.block_lt_of_cell? w _ hw549_7)).trans hw549_7), ((HB.out.cell (World.block_lt_of_cell? w _ hw549_8)).trans hw549_8), ((HB.out.cell (World.block_lt_of_cell? w _ hw550_0)).trans hw550_0), ((HB.out.cell (World.block_lt_of_cell? w _ hw550_1)).trans hw550_1), ((HB.out.cell (World.block_lt_of_cell? w _ hw550_2)).trans hw550_2), ((HB.out.cell (World.block_lt_of_cell? w _ hw550_3)).trans hw550_3), ((HB.out.cell (World.block_lt_of_cell? w _ hw550_4)).trans hw550_4), ((HB.out.cell (World.block_lt_of_cell? w _ hw550_5)).trans hw550_5), ((HB.out.cell (World.block_lt_of_cell? w _ hw550_6)).trans hw550_6), ((HB.out.cell (World.block_lt_of_cell? w _ hw550_7)).trans hw550_7), ((HB.out.cell (World.block_lt_of_cell? w _ hw550_8)).trans hw550_8)⟩ (fun hHeld => ?_)
          clear hK K
          refine norm_ (a' := ?_) ?_ ?_
          rotate_left
          ·show Act.put _ (some 14) _ = _
           simp only [Act.put, List.setIfInBounds_toArray, List.set_cons_zero, List.set_cons_succ, i64_w, i32_w]
           rfl
          refine p_ 5 15 (mk_ 24 0x3f) ?_
          refine p_ 6 16 (mk_ 24 0x7f) ?_
          refine p_ 7 17 (mk_ 24 0xff) ?_
          refine p_ 8 18 (mk_ 24 0x1ff) ?_
          refine p_ 9 19 (mk_ 24 0x3ff) ?_
          refine p_ 10 20 (mk_ 24 0x7ff) ?_
          refine p_ 11 21 (mk_ 24 0xfff) ?_
          refine p_ 12 22 (mk_ 24 0x1fff) ?_
          refine p_ 13 23 (mk_ 24 0x3fff) ?_
          refine p_ 14 24 (mk_ 24 0x7fff) ?_
          refine p_ 16 26 (mk_ 24 0x17fff) ?_
          refine p_ 17 27 (mk_ 24 0x37fff) ?_
          refine p_ 18 28 (mk_ 24 0x77fff) ?_
          refine p_ 19 29 (mk_ 24 0xf7fff) ?_
          refine t_ 15 25 (mk_ 24 0xfffff) hHeld ?_
          refine t_ 20 30 (mk_ 24 0x1fffff) hHeld ?_
          refine p_ 21 31 (mk_ 24 0x3fffff) ?_
          refine p_ 22 32 (mk_ 24 0x7fffff) ?_
          refine p_ 23 33 (mk_ 24 0xffffff) ?_
          refine done_ (done_of HT_.out (by kernel_rfl)) ?_
          try go_wp2
          go_ret
          exact ⟨by first | rfl | (simp [errW_none, errW_some] <;> rfl) | (simp only [← hji7]; first | rfl | (simp [errW_none, errW_some] <;> rfl)) | (simp [*, errW_none, errW_some] <;> rfl), by repeat (first | (with_reducible first | exact HB.out | apply below_alloc | apply pw_below_drewN | apply below_drew1) | exact HB.out)⟩
         ·rw [if_neg c10] at H
          have c10b0 : decide (((rd_T28 l0 x3_1).f0) ≤ ((rd_T28 l0 (ji7)).f0)) = false := decide_eq_false c10
          clear c10
          have H' := Aside0.mk H
          clear H
          try go_wp2
          replace HB := Aside0.mk (below_drew1 HB.out)
          have p547 : 0 ≤ (x3_1 : Int) := of_decide_eq_true zq25_2
          have q547 : x3_1 < (l0.length : Int) := of_decide_eq_true zq25_2
          obtain ⟨ad547, e547, hx547_0, hx547_1, hx547_2, hx547_3, hx547_4, hx547_5, hx547_6, hx547_7, hx547_8⟩ := at_T28 HR0.out x3_1 p547 q547
          have hw547_8 := hx547_8
          have hw547_7 := hx547_7
          have hw547_6 := hx547_6
          have hw547_5 := hx547_5
          have hw547_4 := hx547_4
          have hw547_3 := hx547_3
          have hw547_2 := hx547_2
          have hw547_1 := hx547_1
          have hw547_0 := hx547_0
          cases e547
          replace hx547_0 := (HB.out.cell (World.block_lt_of_cell? w _ hx547_0)).trans hx547_0
          replace hx547_1 := (HB.out.cell (World.block_lt_of_cell? w _ hx547_1)).trans hx547_1
          replace hx547_2 := (HB.out.cell (World.block_lt_of_cell? w _ hx547_2)).trans hx547_2
          replace hx547_3 := (HB.out.cell (World.block_lt_of_cell? w _ hx547_3)).trans hx547_3
          replace hx547_4 := (HB.out.cell (World.block_lt_of_cell? w _ hx547_4)).trans hx547_4
          replace hx547_5 := (HB.out.cell (World.block_lt_of_cell? w _ hx547_5)).trans hx547_5
          replace hx547_6 := (HB.out.cell (World.block_lt_of_cell? w _ hx547_6)).trans hx547_6
          replace hx547_7 := (HB.out.cell (World.block_lt_of_cell? w _ hx547_7)).trans hx547_7
          replace hx547_8 := (HB.out.cell (World.block_lt_of_cell? w _ hx547_8)).trans hx547_8
          replace p547 := eq_true p547
          replace q547 := eq_true q547
          have p549 : 0 ≤ ((ji7) : Int) := of_decide_eq_true zq25_2
          have q549 : (ji7) < (l0.length : Int) := of_decide_eq_true zq25_2
          obtain ⟨ad549, e549, hx549_0, hx549_1, hx549_2, hx549_3, hx549_4, hx549_5, hx549_6, hx549_7, hx549_8⟩ := at_T28 HR0.out (ji7) p549 q549
          have hw549_8 := hx549_8
          have hw549_7 := hx549_7
          have hw549_6 := hx549_6
          have hw549_5 := hx549_5
          have hw549_4 := hx549_4
          have hw549_3 := hx549_3
          have hw549_2 := hx549_2
          have hw549_1 := hx549_1
          have hw549_0 := hx549_0
          obtain rfl : ad547 = ad549 := (by injection e549)
          replace hx549_0 := (HB.out.cell (World.block_lt_of_cell? w _ hx549_0)).trans hx549_0
          replace hx549_1 := (HB.out.cell (World.block_lt_of_cell? w _ hx549_1)).trans hx549_1
          replace hx549_2 := (HB.out.cell (World.block_lt_of_cell? w _ hx549_2)).trans hx549_2
          replace hx549_3 := (HB.out.cell (World.block_lt_of_cell? w _ hx549_3)).trans hx549_3
          replace hx549_4 := (HB.out.cell (World.block_lt_of_cell? w _ hx549_4)).trans hx549_4
          replace hx549_5 := (HB.out.cell (World.block_lt_of_cell? w _ hx549_5)).trans hx549_5
          replace hx549_6 := (HB.out.cell (World.block_lt_of_cell? w _ hx549_6)).trans hx549_6
          replace hx549_7 := (HB.out.cell (World.block_lt_of_cell? w _ hx549_7)).trans hx549_7
          replace hx549_8 := (HB.out.cell (World.block_lt_of_cell? w _ hx549_8)).trans hx549_8
          replace p549 := eq_true p549
          replace q549 := eq_true q549
          have p550 : 0 ≤ (x3_1 : Int) := of_decide_eq_true zq25_2
          have q550 : x3_1 < (l0.length : Int) := of_decide_eq_true zq25_2
          obtain ⟨ad550, e550, hx550_0, hx550_1, hx550_2, hx550_3, hx550_4, hx550_5, hx550_6, hx550_7, hx550_8⟩ := at_T28 HR0.out x3_1 p550 q550
          have hw550_8 := hx550_8
          have hw550_7 := hx550_7
          have hw550_6 := hx550_6
          have hw550_5 := hx550_5
          have hw550_4 := hx550_4
          have hw550_3 := hx550_3
          have hw550_2 := hx550_2
          have hw550_1 := hx550_1
          have hw550_0 := hx550_0
          obtain rfl : ad547 = ad550 := (by injection e550)
          replace hx550_0 := (HB.out.cell (World.block_lt_of_cell? w _ hx550_0)).trans hx550_0
          replace hx550_1 := (HB.out.cell (World.block_lt_of_cell? w _ hx550_1)).trans hx550_1
          replace hx550_2 := (HB.out.cell (World.block_lt_of_cell? w _ hx550_2)).trans hx550_2
          replace hx550_3 := (HB.out.cell (World.block_lt_of_cell? w _ hx550_3)).trans hx550_3
          replace hx550_4 := (HB.out.cell (World.block_lt_of_cell? w _ hx550_4)).trans hx550_4
          replace hx550_5 := (HB.out.cell (World.block_lt_of_cell? w _ hx550_5)).trans hx550_5
          replace hx550_6 := (HB.out.cell (World.block_lt_of_cell? w _ hx550_6)).trans hx550_6
          replace hx550_7 := (HB.out.cell (World.block_lt_of_cell? w _ hx550_7)).trans hx550_7
          replace hx550_8 := (HB.out.cell (World.block_lt_of_cell? w _ hx550_8)).trans hx550_8
          replace p550 := eq_true p550
          replace q550 := eq_true q550
          refine start_ (n := 24) (S := fun w' => w'.cell? (ad547.add ((x3_1).toNat * 9)) = some (.int .i64 ((rd_T28 l0 x3_1).f0)) ∧ w'.cell? ⟨(ad547.add ((x3_1).toNat * 9)).block, (ad547.add ((x3_1).toNat * 9)).off + 1, none⟩ = some (.string ((rd_T28 l0 x3_1).f1.f0)) ∧ w'.cell? ⟨(ad547.add ((x3_1).toNat * 9)).block, (ad547.add ((x3_1).toNat * 9)).off + 2, none⟩ = some (.int .i64 ((rd_T28 l0 x3_1).f1.f1)) ∧ w'.cell? ⟨(ad547.add ((x3_1).toNat * 9)).block, (ad547.add ((x3_1).toNat * 9)).off + 3, none⟩ = some (.int .i64 ((rd_T28 l0 x3_1).f1.f2)) ∧ w'.cell? ⟨(ad547.add ((x3_1).toNat * 9)).block, (ad547.add ((x3_1).toNat * 9)).off + 4, none⟩ = some (.bool ((rd_T28 l0 x3_1).f2)) ∧ w'.cell? ⟨(ad547.add ((x3_1).toNat * 9)).block, (ad547.add ((x3_1).toNat * 9)).off + 5, none⟩ = some (.int .i64 ((rd_T28 l0 x3_1).f3.f0)) ∧ w'.cell? ⟨(ad547.add ((x3_1).toNat * 9)).block, (ad547.add ((x3_1).toNat * 9)).off + 6, none⟩ = some (.int .i64 ((rd_T28 l0 x3_1).f3.f1)) ∧ w'.cell? ⟨(ad547.add ((x3_1).toNat * 9)).block, (ad547.add ((x3_1).toNat * 9)).off + 7, none⟩ = some (.string ((rd_T28 l0 x3_1).f4)) ∧ w'.cell? ⟨(ad547.add ((x3_1).toNat * 9)).block, (ad547.add ((x3_1).toNat * 9)).off + 8, none⟩ = some (.bool ((rd_T28 l0 x3_1).f5)) ∧ w'.cell? (ad547.add (((ji7)).toNat * 9)) = some (.int .i64 ((rd_T28 l0 (ji7)).f0)) ∧ w'.cell? ⟨(ad547.add (((ji7)).toNat * 9)).block, (ad547.add (((ji7)).toNat * 9)).off + 1, none⟩ = some (.string ((rd_T28 l0 (ji7)).f1.f0)) ∧ w'.cell? ⟨(ad547.add (((ji7)).toNat * 9)).block, (ad547.add (((ji7)).toNat * 9)).off + 2, none⟩ = some (.int .i64 ((rd_T28 l0 (ji7)).f1.f1)) ∧ w'.cell? ⟨(ad547.add (((ji7)).toNat * 9)).block, (ad547.add (((ji7)).toNat * 9)).off + 3, none⟩ = some (.int .i64 ((rd_T28 l0 (ji7)).f1.f2)) ∧ w'.cell? ⟨(ad547.add (((ji7)).toNat * 9)).block, (ad547.add (((ji7)).toNat * 9)).off + 4, none⟩ = some (.bool ((rd_T28 l0 (ji7)).f2)) ∧ w'.cell? ⟨(ad547.add (((ji7)).toNat * 9)).block, (ad547.add (((ji7)).toNat * 9)).off + 5, none⟩ = some (.int .i64 ((rd_T28 l0 (ji7)).f3.f0)) ∧ w'.cell? ⟨(ad547.add (((ji7)).toNat * 9)).block, (ad547.add (((ji7)).toNat * 9)).off + 6, none⟩ = some (.int .i64 ((rd_T28 l0 (ji7)).f3.f1)) ∧ w'.cell? ⟨(ad547.add (((ji7)).toNat * 9)).block, (ad547.add (((ji7)).toNat * 9)).off + 7, none⟩ = some (.string ((rd_T28 l0 (ji7)).f4)) ∧ w'.cell? ⟨(ad547.add (((ji7)).toNat * 9)).block, (ad547.add (((ji7)).toNat * 9)).off + 8, none⟩ = some (.bool ((rd_T28 l0 (ji7)).f5)) ∧ w'.cell? (ad547.add ((x3_1).toNat * 9)) = some (.int .i64 ((rd_T28 l0 x3_1).f0)) ∧ w'.cell? ⟨(ad547.add ((x3_1).toNat * 9)).block, (ad547.add ((x3_1).toNat * 9)).off + 1, none⟩ = some (.string ((rd_T28 l0 x3_1).f1.f0)) ∧ w'.cell? ⟨(ad547.add ((x3_1).toNat * 9)).block, (ad547.add ((x3_1).toNat * 9)).off + 2, none⟩ = some (.int .i64 ((rd_T28 l0 x3_1).f1.f1)) ∧ w'.cell? ⟨(ad547.add ((x3_1).toNat * 9)).block, (ad547.add ((x3_1).toNat * 9)).off + 3, none⟩ = some (.int .i64 ((rd_T28 l0 x3_1).f1.f2)) ∧ w'.cell? ⟨(ad547.add ((x3_1).toNat * 9)).block, (ad547.add ((x3_1).toNat * 9)).off + 4, none⟩ = some (.bool ((rd_T28 l0 x3_1).f2)) ∧ w'.cell? ⟨(ad547.add ((x3_1).toNat * 9)).block, (ad547.add ((x3_1).toNat * 9)).off + 5, none⟩ = some (.int .i64 ((rd_T28 l0 x3_1).f3.f0)) ∧ w'.cell? ⟨(ad547.add ((x3_1).toNat * 9)).block, (ad547.add ((x3_1).toNat * 9)).off + 6, none⟩ = some (.int .i64 ((rd_T28 l0 x3_1).f3.f1)) ∧ w'.cell? ⟨(ad547.add ((x3_1).toNat * 9)).block, (ad547.add ((x3_1).toNat * 9)).off + 7, none⟩ = some (.string ((rd_T28 l0 x3_1).f4)) ∧ w'.cell? ⟨(ad547.add ((x3_1).toNat * 9)).block, (ad547.add ((x3_1).toNat * 9)).off + 8, none⟩ = some (.bool ((rd_T28 l0 x3_1).f5))) (ds := []) #[false, false, false, false, false, false, false, false, false, false, false, false, false, false, false, false, false, false, false, false, false, false, false, false] (by kernel_rfl) rfl rfl ⟨((HB.out.cell (World.block_lt_of_cell? w _ hw547_0)).trans hw547_0), ((HB.out.cell (World.block_lt_of_cell? w _ hw547_1)).trans hw547_1), ((HB.out.cell (World.block_lt_of_cell? w _ hw547_2)).trans hw547_2), ((HB.out.cell (World.block_lt_of_cell? w _ hw547_3)).trans hw547_3), ((HB.out.cell (World.block_lt_of_cell? w _ hw547_4)).trans hw547_4), ((HB.out.cell (World.block_lt_of_cell? w _ hw547_5)).trans hw547_5), ((HB.out.cell (World.block_lt_of_cell? w _ hw547_6)).trans hw547_6), ((HB.out.cell (World.block_lt_of_cell? w _ hw547_7)).trans hw547_7), ((HB.out.cell (World.block_lt_of_cell? w _ hw547_8)).trans hw547_8), ((HB.out.cell (World.block_lt_of_cell? w _ hw549_0)).trans hw549_0), ((HB.out.cell (World.block_lt_of_cell? w _ hw549_1)).trans hw549_1), ((HB.out.cell (World.block_lt_of_cell? w _ hw549_2)).trans hw549_2), ((HB.out.cell (World.block_lt_of_cell? w _ hw549_3)).trans hw549_3), ((HB.out.cell (World.block_lt_of_cell? w _ hw549_4)).trans hw549_4), ((HB.out.cell (World.block_lt_of_cell? w _ hw549_5)).trans hw549_5), ((HB.out.cell (World.block_lt_of_cell? w _ hw549_6)).trans hw549_6), ((HB.out.cell (World.block_lt_of_cell? w _ hw549_7)).trans hw549_7), ((HB.out.cell (World.block_lt_of_cell? w _ hw549_8)).trans hw549_8), ((HB.out.cell (World.block_lt_of_cell? w _ hw550_0)).trans hw550_0), ((HB.out.cell (World.block_lt_of_cell? w _ hw550_1)).trans hw550_1), ((HB.out.cell (World.block_lt_of_cell? w _ hw550_2)).trans hw550_2), ((HB.out.cell (World.block_lt_of_cell? w _ hw550_3)).trans hw550_3), ((HB.out.cell (World.block_lt_of_cell? w _ hw550_4)).trans hw550_4), ((HB.out.cell (World.block_lt_of_cell? w _ hw550_5)).trans hw550_5), ((HB.out.cell (World.block_lt_of_cell? w _ hw550_6)).trans hw550_6), ((HB.out.cell (World.block_lt_of_cell? w _ hw550_7)).trans hw550_7), ((HB.out.cell (World.block_lt_of_cell? w _ hw550_8)).trans hw550_8)⟩ (fun hHeld => ?_); refine with_tabW cenotaphref08_Right.tab4 cenotaphref08_Right.bits4 (fun HT_ HW_ => ?_)
          generalize wr.drew = w13 at HB hx547_0 hx547_1 hx547_2 hx547_3 hx547_4 hx547_5 hx547_6 hx547_7 hx547_8 hx549_0 hx549_1 hx549_2 hx549_3 hx549_4 hx549_5 hx549_6 hx549_7 hx549_8 hx550_0 hx550_1 hx550_2 hx550_3 hx550_4 hx550_5 hx550_6 hx550_7 hx550_8 hHeld ⊢
          refine p_ 0 10 (mk_ 24 0x1) ?_
          refine p_ 1 11 (mk_ 24 0x3) ?_
          refine p_ 2 12 (mk_ 24 0x7) ?_
          refine t_ 3 13 (mk_ 24 0xf) hHeld ?_
          refine one_ (i := 4) (N := some 14) #[true, true, true, true, true, false, false, false, false, false, false, false, false, false, false, false, false, false, false, false, false, false, false, false] rfl rfl (one_of HT_.out (by kernel_rfl)) (by decide) (fun K hK => ?_)
          refine goes_ Try.func47 (by kernel_rfl) rfl #[.agg #[.int .i64 ((rd_T28 l0 x3_1).f0), .string ((rd_T28 l0 x3_1).f1.f0), .int .i64 ((rd_T28 l0 x3_1).f1.f1), .int .i64 ((rd_T28 l0 x3_1).f1.f2), .bool ((rd_T28 l0 x3_1).f2), .int .i64 ((rd_T28 l0 x3_1).f3.f0), .int .i64 ((rd_T28 l0 x3_1).f3.f1), .string ((rd_T28 l0 x3_1).f4), .bool ((rd_T28 l0 x3_1).f5)]] (by rfl) rfl rfl zq25_0 ?_
          with_reducible refine (cenotaphref07_Right.calls k1 ((rd_T28 l0 x3_1).f0) ((rd_T28 l0 x3_1).f1.f0) ((rd_T28 l0 x3_1).f1.f1) ((rd_T28 l0 x3_1).f1.f2) ((rd_T28 l0 x3_1).f2) ((rd_T28 l0 x3_1).f3.f0) ((rd_T28 l0 x3_1).f3.f1) ((rd_T28 l0 x3_1).f4) ((rd_T28 l0 x3_1).f5) true _ A4.out).mono ?_
          rintro e w14 ⟨rfl, hb⟩
          refine ⟨_, rfl, ?_⟩
          replace HB := Aside0.mk (below_step zq25_1 hb)
          (try clear hb)
          (try clear hb2)
          (try clear hk)
          (try clear hi)
          refine hK.out _ _ ⟨((HB.out.cell (World.block_lt_of_cell? w _ hw547_0)).trans hw547_0), ((HB.out.cell (World.block_lt_of_cell? w _ hw547_1)).trans hw547_1), ((HB.out.cell (World.block_lt_of_cell? w _ hw547_2)).trans hw547_2), ((HB.out.cell (World.block_lt_of_cell? w _ hw547_3)).trans hw547_3), ((HB.out.cell (World.block_lt_of_cell? w _ hw547_4)).trans hw547_4), ((HB.out.cell (World.block_lt_of_cell? w _ hw547_5)).trans hw547_5), ((HB.out.cell (World.block_lt_of_cell? w _ hw547_6)).trans hw547_6), ((HB.out.cell (World.block_lt_of_cell? w _ hw547_7)).trans hw547_7), ((HB.out.cell (World.block_lt_of_cell? w _ hw547_8)).trans hw547_8), ((HB.out.cell (World.block_lt_of_cell? w _ hw549_0)).trans hw549_0), ((HB.out.cell (World.block_lt_of_cell? w _ hw549_1)).trans hw549_1), ((HB.out.cell (World.block_lt_of_cell? w _ hw549_2)).trans hw549_2), ((HB.out.cell (World.block_lt_of_cell? w _ hw549_3)).trans hw549_3), ((HB.out.cell (World.block_lt_of_cell? w _ hw549_4)).trans hw549_4), ((HB.out.cell (World.block_lt_of_cell? w _ hw549_5)).trans hw549_5), ((HB.out.cell (World.block_lt_of_cell? w _ hw549_6)).trans hw549_6), ((HB.out.cell (World.block_lt_of_cell? w _ hw549_7)).trans hw549_7), ((HB.out.cell (World.block_lt_of_cell? w _ hw549_8)).trans hw549_8), ((HB.out.cell (World.block_lt_of_cell? w _ hw550_0)).trans hw550_0), ((HB.out.cell (World.block_lt_of_cell? w _ hw550_1)).trans hw550_1), ((HB.out.cell (World.block_lt_of_cell? w _ hw550_2)).trans hw550_2), ((HB.out.cell (World.block_lt_of_cell? w _ hw550_3)).trans hw550_3), ((HB.out.cell (World.block_lt_of_cell? w _ hw550_4)).trans hw550_4), ((HB.out.cell (World.block_lt_of_cell? w _ hw550_5)).trans hw550_5), ((HB.out.cell (World.block_lt_of_cell? w _ hw550_6)).trans hw550_6), ((HB.out.cell (World.block_lt_of_cell? w _ hw550_7)).trans hw550_7), ((HB.out.cell (World.block_lt_of_cell? w _ hw550_8)).trans hw550_8)⟩ (fun hHeld => ?_)
          clear hK K
          refine norm_ (a' := ?_) ?_ ?_
          rotate_left
          ·show Act.put _ (some 14) _ = _
           simp only [Act.put, List.setIfInBounds_toArray, List.set_cons_zero, List.set_cons_succ, i64_w, i32_w]
           rfl
          refine p_ 5 15 (mk_ 24 0x3f) ?_
          refine p_ 6 16 (mk_ 24 0x7f) ?_
          refine p_ 7 17 (mk_ 24 0xff) ?_
          refine p_ 8 18 (mk_ 24 0x1ff) ?_
          refine p_ 9 19 (mk_ 24 0x3ff) ?_
          refine p_ 10 20 (mk_ 24 0x7ff) ?_
          refine p_ 11 21 (mk_ 24 0xfff) ?_
          refine p_ 12 22 (mk_ 24 0x1fff) ?_
          refine p_ 13 23 (mk_ 24 0x3fff) ?_
          refine p_ 14 24 (mk_ 24 0x7fff) ?_
          refine p_ 16 26 (mk_ 24 0x17fff) ?_
          refine p_ 17 27 (mk_ 24 0x37fff) ?_
          refine p_ 18 28 (mk_ 24 0x77fff) ?_
          refine p_ 19 29 (mk_ 24 0xf7fff) ?_
          refine t_ 15 25 (mk_ 24 0xfffff) hHeld ?_
          refine t_ 20 30 (mk_ 24 0x1fffff) hHeld ?_
          refine p_ 21 31 (mk_ 24 0x3fffff) ?_
          refine p_ 22 32 (mk_ 24 0x7fffff) ?_
          refine p_ 23 33 (mk_ 24 0xffffff) ?_
          refine done_ (done_of HT_.out (by kernel_rfl)) ?_
          try go_wp2
          go_roundg k1
          case measure => have := HK1.out; omega
          case rel => exact ⟨(wrap64 (x3_1 + 1)), zq25_3, H', ⟨by have := HK1.out; omega⟩, ⟨by repeat (first | (with_reducible first | exact HB.out | apply below_alloc | apply pw_below_drewN | apply below_drew1) | exact HB.out)⟩⟩
        ·rw [if_neg c9] at H
         exact absurd H (by simp)
       ·rw [if_neg c8] at H
        exact absurd H (by simp)
      ·rw [if_neg c6] at H
       have c6b0 : decide (0 < x3_1) = false := decide_eq_false c6
       clear c6
       have H' := Aside0.mk H
       clear H
       try go_wp2
       replace HB := Aside0.mk (below_drew1 HB.out)
       have p547 : 0 ≤ (x3_1 : Int) := of_decide_eq_true zq25_2
       have q547 : x3_1 < (l0.length : Int) := of_decide_eq_true zq25_2
       obtain ⟨ad547, e547, hx547_0, hx547_1, hx547_2, hx547_3, hx547_4, hx547_5, hx547_6, hx547_7, hx547_8⟩ := at_T28 HR0.out x3_1 p547 q547
       have hw547_8 := hx547_8
       have hw547_7 := hx547_7
       have hw547_6 := hx547_6
       have hw547_5 := hx547_5
       have hw547_4 := hx547_4
       have hw547_3 := hx547_3
       have hw547_2 := hx547_2
       have hw547_1 := hx547_1
       have hw547_0 := hx547_0
       cases e547
       replace hx547_0 := (HB.out.cell (World.block_lt_of_cell? w _ hx547_0)).trans hx547_0
       replace hx547_1 := (HB.out.cell (World.block_lt_of_cell? w _ hx547_1)).trans hx547_1
       replace hx547_2 := (HB.out.cell (World.block_lt_of_cell? w _ hx547_2)).trans hx547_2
       replace hx547_3 := (HB.out.cell (World.block_lt_of_cell? w _ hx547_3)).trans hx547_3
       replace hx547_4 := (HB.out.cell (World.block_lt_of_cell? w _ hx547_4)).trans hx547_4
       replace hx547_5 := (HB.out.cell (World.block_lt_of_cell? w _ hx547_5)).trans hx547_5
       replace hx547_6 := (HB.out.cell (World.block_lt_of_cell? w _ hx547_6)).trans hx547_6
       replace hx547_7 := (HB.out.cell (World.block_lt_of_cell? w _ hx547_7)).trans hx547_7
       replace hx547_8 := (HB.out.cell (World.block_lt_of_cell? w _ hx547_8)).trans hx547_8
       replace p547 := eq_true p547
       replace q547 := eq_true q547
       refine start_ (n := 24) (S := fun w' => w'.cell? (ad547.add ((x3_1).toNat * 9)) = some (.int .i64 ((rd_T28 l0 x3_1).f0)) ∧ w'.cell? ⟨(ad547.add ((x3_1).toNat * 9)).block, (ad547.add ((x3_1).toNat * 9)).off + 1, none⟩ = some (.string ((rd_T28 l0 x3_1).f1.f0)) ∧ w'.cell? ⟨(ad547.add ((x3_1).toNat * 9)).block, (ad547.add ((x3_1).toNat * 9)).off + 2, none⟩ = some (.int .i64 ((rd_T28 l0 x3_1).f1.f1)) ∧ w'.cell? ⟨(ad547.add ((x3_1).toNat * 9)).block, (ad547.add ((x3_1).toNat * 9)).off + 3, none⟩ = some (.int .i64 ((rd_T28 l0 x3_1).f1.f2)) ∧ w'.cell? ⟨(ad547.add ((x3_1).toNat * 9)).block, (ad547.add ((x3_1).toNat * 9)).off + 4, none⟩ = some (.bool ((rd_T28 l0 x3_1).f2)) ∧ w'.cell? ⟨(ad547.add ((x3_1).toNat * 9)).block, (ad547.add ((x3_1).toNat * 9)).off + 5, none⟩ = some (.int .i64 ((rd_T28 l0 x3_1).f3.f0)) ∧ w'.cell? ⟨(ad547.add ((x3_1).toNat * 9)).block, (ad547.add ((x3_1).toNat * 9)).off + 6, none⟩ = some (.int .i64 ((rd_T28 l0 x3_1).f3.f1)) ∧ w'.cell? ⟨(ad547.add ((x3_1).toNat * 9)).block, (ad547.add ((x3_1).toNat * 9)).off + 7, none⟩ = some (.string ((rd_T28 l0 x3_1).f4)) ∧ w'.cell? ⟨(ad547.add ((x3_1).toNat * 9)).block, (ad547.add ((x3_1).toNat * 9)).off + 8, none⟩ = some (.bool ((rd_T28 l0 x3_1).f5))) (ds := []) #[false, false, false, false, false, false, false, false, false, false, false, false, false, false, false, false, false, false, false, false, false, false, false, false] (by kernel_rfl) rfl rfl ⟨((HB.out.cell (World.block_lt_of_cell? w _ hw547_0)).trans hw547_0), ((HB.out.cell (World.block_lt_of_cell? w _ hw547_1)).trans hw547_1), ((HB.out.cell (World.block_lt_of_cell? w _ hw547_2)).trans hw547_2), ((HB.out.cell (World.block_lt_of_cell? w _ hw547_3)).trans hw547_3), ((HB.out.cell (World.block_lt_of_cell? w _ hw547_4)).trans hw547_4), ((HB.out.cell (World.block_lt_of_cell? w _ hw547_5)).trans hw547_5), ((HB.out.cell (World.block_lt_of_cell? w _ hw547_6)).trans hw547_6), ((HB.out.cell (World.block_lt_of_cell? w _ hw547_7)).trans hw547_7), ((HB.out.cell (World.block_lt_of_cell? w _ hw547_8)).trans hw547_8)⟩ (fun hHeld => ?_); refine with_tabW cenotaphref08_Right.tab4 cenotaphref08_Right.bits4 (fun HT_ HW_ => ?_)
       generalize wr.drew = w15 at HB hx547_0 hx547_1 hx547_2 hx547_3 hx547_4 hx547_5 hx547_6 hx547_7 hx547_8 hHeld ⊢
       refine p_ 0 10 (mk_ 24 0x1) ?_
       refine p_ 1 11 (mk_ 24 0x3) ?_
       refine p_ 2 12 (mk_ 24 0x7) ?_
       refine t_ 3 13 (mk_ 24 0xf) hHeld ?_
       refine one_ (i := 4) (N := some 14) #[true, true, true, true, true, false, false, false, false, false, false, false, false, false, false, false, false, false, false, false, false, false, false, false] rfl rfl (one_of HT_.out (by kernel_rfl)) (by decide) (fun K hK => ?_)
       refine goes_ Try.func47 (by kernel_rfl) rfl #[.agg #[.int .i64 ((rd_T28 l0 x3_1).f0), .string ((rd_T28 l0 x3_1).f1.f0), .int .i64 ((rd_T28 l0 x3_1).f1.f1), .int .i64 ((rd_T28 l0 x3_1).f1.f2), .bool ((rd_T28 l0 x3_1).f2), .int .i64 ((rd_T28 l0 x3_1).f3.f0), .int .i64 ((rd_T28 l0 x3_1).f3.f1), .string ((rd_T28 l0 x3_1).f4), .bool ((rd_T28 l0 x3_1).f5)]] (by rfl) rfl rfl zq25_0 ?_
       with_reducible refine (cenotaphref07_Right.calls k1 ((rd_T28 l0 x3_1).f0) ((rd_T28 l0 x3_1).f1.f0) ((rd_T28 l0 x3_1).f1.f1) ((rd_T28 l0 x3_1).f1.f2) ((rd_T28 l0 x3_1).f2) ((rd_T28 l0 x3_1).f3.f0) ((rd_T28 l0 x3_1).f3.f1) ((rd_T28 l0 x3_1).f4) ((rd_T28 l0 x3_1).f5) true _ A4.out).mono ?_
       rintro e w16 ⟨rfl, hb⟩
       refine ⟨_, rfl, ?_⟩
       replace HB := Aside0.mk (below_step zq25_1 hb)
       (try clear hb)
       (try clear hb2)
       (try clear hk)
       (try clear hi)
       refine hK.out _ _ ⟨((HB.out.cell (World.block_lt_of_cell? w _ hw547_0)).trans hw547_0), ((HB.out.cell (World.block_lt_of_cell? w _ hw547_1)).trans hw547_1), ((HB.out.cell (World.block_lt_of_cell? w _ hw547_2)).trans hw547_2), ((HB.out.cell (World.block_lt_of_cell? w _ hw547_3)).trans hw547_3), ((HB.out.cell (World.block_lt_of_cell? w _ hw547_4)).trans hw547_4), ((HB.out.cell (World.block_lt_of_cell? w _ hw547_5)).trans hw547_5), ((HB.out.cell (World.block_lt_of_cell? w _ hw547_6)).trans hw547_6), ((HB.out.cell (World.block_lt_of_cell? w _ hw547_7)).trans hw547_7), ((HB.out.cell (World.block_lt_of_cell? w _ hw547_8)).trans hw547_8)⟩ (fun hHeld => ?_)
       clear hK K
       refine norm_ (a' := ?_) ?_ ?_
       rotate_left
       ·show Act.put _ (some 14) _ = _
        simp only [Act.put, List.setIfInBounds_toArray, List.set_cons_zero, List.set_cons_succ, i64_w, i32_w]
        rfl
       refine p_ 5 15 (mk_ 24 0x3f) ?_
       refine p_ 6 16 (mk_ 24 0x7f) ?_
       refine p_ 7 17 (mk_ 24 0xff) ?_
       refine p_ 8 18 (mk_ 24 0x1ff) ?_
       refine p_ 9 19 (mk_ 24 0x3ff) ?_
       refine u_ 10 20 (mk_ 24 0x7ff) ?_
       refine u_ 11 21 (mk_ 24 0xfff) ?_
       refine u_ 12 22 (mk_ 24 0x1fff) ?_
       refine u_ 13 23 (mk_ 24 0x3fff) ?_
       refine u_ 14 24 (mk_ 24 0x7fff) ?_
       refine u_ 15 25 (mk_ 24 0xffff) ?_
       refine u_ 16 26 (mk_ 24 0x1ffff) ?_
       refine u_ 17 27 (mk_ 24 0x3ffff) ?_
       refine u_ 18 28 (mk_ 24 0x7ffff) ?_
       refine u_ 19 29 (mk_ 24 0xfffff) ?_
       refine u_ 20 30 (mk_ 24 0x1fffff) ?_
       refine u_ 21 31 (mk_ 24 0x3fffff) ?_
       refine p_ 22 32 (mk_ 24 0x7fffff) ?_
       refine p_ 23 33 (mk_ 24 0xffffff) ?_
       refine done_ (done_of HT_.out (by kernel_rfl)) ?_
       try go_wp2
       go_roundg k1
       case measure => have := HK1.out; omega
       case rel => exact ⟨(wrap64 (x3_1 + 1)), zq25_3, H', ⟨by have := HK1.out; omega⟩, ⟨by repeat (first | (with_reducible first | exact HB.out | apply below_alloc | apply pw_below_drewN | apply below_drew1) | exact HB.out)⟩⟩
     ·replace c5 := Bool.eq_false_iff.mpr c5
      subst c5
      have H1 : (some false) = some r := by rw [if_neg (show ¬ (false = true) by decide)] at H; exact H
      clear H
      have H := H1
      clear H1
      obtain rfl := Option.some.inj H
      try go_wp2
      replace HB := Aside0.mk (below_drew1 HB.out)
      have p547 : 0 ≤ (x3_1 : Int) := of_decide_eq_true zq25_2
      have q547 : x3_1 < (l0.length : Int) := of_decide_eq_true zq25_2
      obtain ⟨ad547, e547, hx547_0, hx547_1, hx547_2, hx547_3, hx547_4, hx547_5, hx547_6, hx547_7, hx547_8⟩ := at_T28 HR0.out x3_1 p547 q547
      have hw547_8 := hx547_8
      have hw547_7 := hx547_7
      have hw547_6 := hx547_6
      have hw547_5 := hx547_5
      have hw547_4 := hx547_4
      have hw547_3 := hx547_3
      have hw547_2 := hx547_2
      have hw547_1 := hx547_1
      have hw547_0 := hx547_0
      cases e547
      replace hx547_0 := (HB.out.cell (World.block_lt_of_cell? w _ hx547_0)).trans hx547_0
      replace hx547_1 := (HB.out.cell (World.block_lt_of_cell? w _ hx547_1)).trans hx547_1
      replace hx547_2 := (HB.out.cell (World.block_lt_of_cell? w _ hx547_2)).trans hx547_2
      replace hx547_3 := (HB.out.cell (World.block_lt_of_cell? w _ hx547_3)).trans hx547_3
      replace hx547_4 := (HB.out.cell (World.block_lt_of_cell? w _ hx547_4)).trans hx547_4
      replace hx547_5 := (HB.out.cell (World.block_lt_of_cell? w _ hx547_5)).trans hx547_5
      replace hx547_6 := (HB.out.cell (World.block_lt_of_cell? w _ hx547_6)).trans hx547_6
      replace hx547_7 := (HB.out.cell (World.block_lt_of_cell? w _ hx547_7)).trans hx547_7
      replace hx547_8 := (HB.out.cell (World.block_lt_of_cell? w _ hx547_8)).trans hx547_8
      replace p547 := eq_true p547
      replace q547 := eq_true q547
      refine start_ (n := 24) (S := fun w' => w'.cell? (ad547.add ((x3_1).toNat * 9)) = some (.int .i64 ((rd_T28 l0 x3_1).f0)) ∧ w'.cell? ⟨(ad547.add ((x3_1).toNat * 9)).block, (ad547.add ((x3_1).toNat * 9)).off + 1, none⟩ = some (.string ((rd_T28 l0 x3_1).f1.f0)) ∧ w'.cell? ⟨(ad547.add ((x3_1).toNat * 9)).block, (ad547.add ((x3_1).toNat * 9)).off + 2, none⟩ = some (.int .i64 ((rd_T28 l0 x3_1).f1.f1)) ∧ w'.cell? ⟨(ad547.add ((x3_1).toNat * 9)).block, (ad547.add ((x3_1).toNat * 9)).off + 3, none⟩ = some (.int .i64 ((rd_T28 l0 x3_1).f1.f2)) ∧ w'.cell? ⟨(ad547.add ((x3_1).toNat * 9)).block, (ad547.add ((x3_1).toNat * 9)).off + 4, none⟩ = some (.bool ((rd_T28 l0 x3_1).f2)) ∧ w'.cell? ⟨(ad547.add ((x3_1).toNat * 9)).block, (ad547.add ((x3_1).toNat * 9)).off + 5, none⟩ = some (.int .i64 ((rd_T28 l0 x3_1).f3.f0)) ∧ w'.cell? ⟨(ad547.add ((x3_1).toNat * 9)).block, (ad547.add ((x3_1).toNat * 9)).off + 6, none⟩ = some (.int .i64 ((rd_T28 l0 x3_1).f3.f1)) ∧ w'.cell? ⟨(ad547.add ((x3_1).toNat * 9)).block, (ad547.add ((x3_1).toNat * 9)).off + 7, none⟩ = some (.string ((rd_T28 l0 x3_1).f4)) ∧ w'.cell? ⟨(ad547.add ((x3_1).toNat * 9)).block, (ad547.add ((x3_1).toNat * 9)).off + 8, none⟩ = some (.bool ((rd_T28 l0 x3_1).f5))) (ds := []) #[false, false, false, false, false, false, false, false, false, false, false, false, false, false, false, false, false, false, false, false, false, false, false, false] (by kernel_rfl) rfl rfl ⟨((HB.out.cell (World.block_lt_of_cell? w _ hw547_0)).trans hw547_0), ((HB.out.cell (World.block_lt_of_cell? w _ hw547_1)).trans hw547_1), ((HB.out.cell (World.block_lt_of_cell? w _ hw547_2)).trans hw547_2), ((HB.out.cell (World.block_lt_of_cell? w _ hw547_3)).trans hw547_3), ((HB.out.cell (World.block_lt_of_cell? w _ hw547_4)).trans hw547_4), ((HB.out.cell (World.block_lt_of_cell? w _ hw547_5)).trans hw547_5), ((HB.out.cell (World.block_lt_of_cell? w _ hw547_6)).trans hw547_6), ((HB.out.cell (World.block_lt_of_cell? w _ hw547_7)).trans hw547_7), ((HB.out.cell (World.block_lt_of_cell? w _ hw547_8)).trans hw547_8)⟩ (fun hHeld => ?_); refine with_tabW cenotaphref08_Right.tab4 cenotaphref08_Right.bits4 (fun HT_ HW_ => ?_)
      generalize wr.drew = w17 at HB hx547_0 hx547_1 hx547_2 hx547_3 hx547_4 hx547_5 hx547_6 hx547_7 hx547_8 hHeld ⊢
      refine p_ 0 10 (mk_ 24 0x1) ?_
      refine p_ 1 11 (mk_ 24 0x3) ?_
      refine p_ 2 12 (mk_ 24 0x7) ?_
      refine t_ 3 13 (mk_ 24 0xf) hHeld ?_
      refine one_ (i := 4) (N := some 14) #[true, true, true, true, true, false, false, false, false, false, false, false, false, false, false, false, false, false, false, false, false, false, false, false] rfl rfl (one_of HT_.out (by kernel_rfl)) (by decide) (fun K hK => ?_)
      refine goes_ Try.func47 (by kernel_rfl) rfl #[.agg #[.int .i64 ((rd_T28 l0 x3_1).f0), .string ((rd_T28 l0 x3_1).f1.f0), .int .i64 ((rd_T28 l0 x3_1).f1.f1), .int .i64 ((rd_T28 l0 x3_1).f1.f2), .bool ((rd_T28 l0 x3_1).f2), .int .i64 ((rd_T28 l0 x3_1).f3.f0), .int .i64 ((rd_T28 l0 x3_1).f3.f1), .string ((rd_T28 l0 x3_1).f4), .bool ((rd_T28 l0 x3_1).f5)]] (by rfl) rfl rfl zq25_0 ?_
      with_reducible refine (cenotaphref07_Right.calls k1 ((rd_T28 l0 x3_1).f0) ((rd_T28 l0 x3_1).f1.f0) ((rd_T28 l0 x3_1).f1.f1) ((rd_T28 l0 x3_1).f1.f2) ((rd_T28 l0 x3_1).f2) ((rd_T28 l0 x3_1).f3.f0) ((rd_T28 l0 x3_1).f3.f1) ((rd_T28 l0 x3_1).f4) ((rd_T28 l0 x3_1).f5) false _ A4.out).mono ?_
      rintro e w18 ⟨rfl, hb⟩
      refine ⟨_, rfl, ?_⟩
      replace HB := Aside0.mk (below_step zq25_1 hb)
      (try clear hb)
      (try clear hb2)
      (try clear hk)
      (try clear hi)
      refine hK.out _ _ ⟨((HB.out.cell (World.block_lt_of_cell? w _ hw547_0)).trans hw547_0), ((HB.out.cell (World.block_lt_of_cell? w _ hw547_1)).trans hw547_1), ((HB.out.cell (World.block_lt_of_cell? w _ hw547_2)).trans hw547_2), ((HB.out.cell (World.block_lt_of_cell? w _ hw547_3)).trans hw547_3), ((HB.out.cell (World.block_lt_of_cell? w _ hw547_4)).trans hw547_4), ((HB.out.cell (World.block_lt_of_cell? w _ hw547_5)).trans hw547_5), ((HB.out.cell (World.block_lt_of_cell? w _ hw547_6)).trans hw547_6), ((HB.out.cell (World.block_lt_of_cell? w _ hw547_7)).trans hw547_7), ((HB.out.cell (World.block_lt_of_cell? w _ hw547_8)).trans hw547_8)⟩ (fun hHeld => ?_)
      clear hK K
      refine norm_ (a' := ?_) ?_ ?_
      rotate_left
      ·show Act.put _ (some 14) _ = _
       simp only [Act.put, List.setIfInBounds_toArray, List.set_cons_zero, List.set_cons_succ, i64_w, i32_w]
       rfl
      refine p_ 5 15 (mk_ 24 0x3f) ?_
      refine p_ 6 16 (mk_ 24 0x7f) ?_
      refine u_ 7 17 (mk_ 24 0xff) ?_
      refine u_ 8 18 (mk_ 24 0x1ff) ?_
      refine u_ 9 19 (mk_ 24 0x3ff) ?_
      refine u_ 10 20 (mk_ 24 0x7ff) ?_
      refine u_ 11 21 (mk_ 24 0xfff) ?_
      refine u_ 12 22 (mk_ 24 0x1fff) ?_
      refine u_ 13 23 (mk_ 24 0x3fff) ?_
      refine u_ 14 24 (mk_ 24 0x7fff) ?_
      refine u_ 15 25 (mk_ 24 0xffff) ?_
      refine u_ 16 26 (mk_ 24 0x1ffff) ?_
      refine u_ 17 27 (mk_ 24 0x3ffff) ?_
      refine u_ 18 28 (mk_ 24 0x7ffff) ?_
      refine u_ 19 29 (mk_ 24 0xfffff) ?_
      refine u_ 20 30 (mk_ 24 0x1fffff) ?_
      refine u_ 21 31 (mk_ 24 0x3fffff) ?_
      refine u_ 22 32 (mk_ 24 0x7fffff) ?_
      refine p_ 23 33 (mk_ 24 0xffffff) ?_
      refine done_ (done_of HT_.out (by kernel_rfl)) ?_
      try go_wp2
      go_ret
      exact ⟨by first | rfl | (simp [errW_none, errW_some] <;> rfl) | (simp [*, errW_none, errW_some] <;> rfl), by repeat (first | (with_reducible first | exact HB.out | apply below_alloc | apply pw_below_drewN | apply below_drew1) | exact HB.out)⟩
    ·rw [if_neg c3] at H
     exact absurd H (by simp)
   ·rw [if_neg c2] at H
    have c2b0 : decide (x3_1 < (l0.length : Int)) = false := decide_eq_false c2
    clear c2
    obtain rfl := Option.some.inj H
    go_wp2
    go_ret
    exact ⟨by first | rfl | (simp [errW_none, errW_some] <;> rfl) | (simp [*, errW_none, errW_some] <;> rfl), by repeat (first | (with_reducible first | exact HB.out | apply below_alloc | apply pw_below_drewN | apply below_drew1) | exact HB.out)⟩

/-! ### item_Item_48: function 48 -/
def item_Item_48.l0 : Nat → List (S41) → List (S41) → Int → Int → Option (Bool)
  | 0, _, _, _, _ => none
  | k + 1, x0, x1, x12, x13 => if x13 < x12 then (if 0 ≤ x13 then (if x13 < (x0.length : Int) then (if x13 < (x1.length : Int) then (if (!(((rd_T41 x0 x13).f0) == ((rd_T41 x1 x13).f0)) || ((!((((rd_T41 x0 x13).f1.f0).toList) == (((rd_T41 x1 x13).f1.f0).toList)) || (!(((rd_T41 x0 x13).f1.f1) == ((rd_T41 x1 x13).f1.f1)) || (!(((rd_T41 x0 x13).f1.f2) == ((rd_T41 x1 x13).f1.f2))))) || (!(((rd_T41 x0 x13).f2) == ((rd_T41 x1 x13).f2)) || (!(cxq ((rd_T41 x0 x13).f3).re ((rd_T41 x0 x13).f3).im ((rd_T41 x1 x13).f3).re ((rd_T41 x1 x13).f3).im) || (!((((rd_T41 x0 x13).f4).toList) == (((rd_T41 x1 x13).f4).toList)) || (!(((rd_T41 x0 x13).f5) == ((rd_T41 x1 x13).f5)))))))) = true then (some false) else (item_Item_48.l0 k x0 x1 x12 (wrap64 (x13 + 1)))) else (none)) else (none)) else (none)) else (some true)
def item_Item_48.f (k : Nat) (l0 : List (S41)) (l1 : List (S41)) : Option (Bool) := if (l0.length : Int) = (l1.length : Int) then (item_Item_48.l0 k l0 l1 (l0.length : Int) 0) else (some false)
theorem item_Item_48.mono_l : ∀ k, (∀ y0 y1 y2 y3, LeO (item_Item_48.l0 k y0 y1 y2 y3) (item_Item_48.l0 (k + 1) y0 y1 y2 y3))
  | 0 => fun _ _ _ _ r h => by simp [item_Item_48.l0] at h
  | k + 1 => by
    have ih0 := item_Item_48.mono_l k
    · intro y0 y1 y2 y3
      unfold item_Item_48.l0
      repeat' first
      | (with_reducible exact ih0 _ _ _ _)
      | (with_reducible exact LeO.refl _)
      | (with_reducible exact LeO.none _)
      | (with_reducible refine LeO.ite ?_ ?_)
      | (with_reducible refine LeO.bind ?_ (fun _ => ?_))
      | exact ih0 _ _ _ _
      | exact LeO.none _
      | refine LeO.ite ?_ ?_
      | refine LeO.bind ?_ (fun _ => ?_)
theorem item_Item_48.mono : ∀ a0 a1 k, LeO (item_Item_48.f k a0 a1) (item_Item_48.f (k + 1) a0 a1) := by
  intro a0 a1 k
  have ih0 := item_Item_48.mono_l k
  unfold item_Item_48.f
  repeat' first
      | (with_reducible exact ih0 _ _ _ _)
      | (with_reducible exact LeO.refl _)
      | (with_reducible exact LeO.none _)
      | (with_reducible refine LeO.ite ?_ ?_)
      | (with_reducible refine LeO.bind ?_ (fun _ => ?_))
      | exact ih0 _ _ _ _
      | exact LeO.none _
      | refine LeO.ite ?_ ?_
      | refine LeO.bind ?_ (fun _ => ?_)
set_option maxHeartbeats 8000000 in
set_option maxRecDepth 100000 in
theorem item_Item_48.calls (k : Nat) (A0 : Option Addr) (c0 : Nat) (l0 : List (S41)) (A1 : Option Addr) (c1 : Nat) (l1 : List (S41)) (r : Bool) (w : World) (hr0 : Kd.C k41 w A0 l0.length l0) (hc0 : l0.length ≤ c0) (hr1 : Kd.C k41 w A1 l1.length l1) (hc1 : l1.length ≤ c1) (h : item_Item_48.f k l0 l1 = some r) :
    Calls Try.prog 48 #[.slice A0 l0.length c0, .slice A1 l1.length c1] w fun e w' => e = .returned (.bool r) ∧ Drawn0 w w' := by
  have hu41 := Try.underlying41
  have HR0 := Aside0.mk hr0
  have HC0 := Aside0.mk hc0
  clear hr0 hc0
  have HR1 := Aside0.mk hr1
  have HC1 := Aside0.mk hc1
  clear hr1 hc1
  have H : (if (l0.length : Int) = (l1.length : Int) then (item_Item_48.l0 k l0 l1 (l0.length : Int) 0) else (some false)) = some r := h
  clear h
  by_cases c3 : (l0.length : Int) = (l1.length : Int)
  · rw [if_pos c3] at H
    have c3b0 : ((l0.length : Int) == (l1.length : Int)) = true := beq_iff_eq.mpr c3
    have c3b1 : ((l0.length : Int) != (l1.length : Int)) = false := bne_eq_false_iff_eq.mpr c3
    have c3b2 : (l0.length == l1.length) = true := by first | simpa using c3 | (simp at c3 ⊢; omega)
    clear c3
    have H' := Aside0.mk H
    clear H
    go_enter Try.func48, Try.ntmps48
    go_wp2
    repeat (go_quiet (fail); try go_wp2)
    go_loopg [13] k (fun kq v13 w' => ∃ (x13_1 : Int), v13 = .int .i64 x13_1 ∧ Aside0 (item_Item_48.l0 kq l0 l1 (l0.length : Int) x13_1 = some r) ∧ Aside0 (kq ≤ k) ∧ Drawn0 w w')
    case atStart => exact ⟨(0), (by first | rfl | (simp; done) | (simp [*]; done)), H', ⟨Nat.le_refl _⟩, by repeat (first | exact Drawn0.refl _ | apply Drawn0.step)⟩
    case round =>
      clear H'
      try clear c1
      try clear p2
      try clear c3
      try clear c3b0
      try clear c3b1
      try clear c3b2
      obtain ⟨x13_1, rfl, HA, HK1, ⟨m1, rfl⟩⟩ := hrel
      cases gk with
      | zero => exact absurd HA.out (by simp [item_Item_48.l0])
      | succ k1 =>
        have H := HA.out
        clear HA
        simp only [item_Item_48.l0] at H
        by_cases c4 : x13_1 < (l0.length : Int)
        · rw [if_pos c4] at H
          have c4b0 : decide (x13_1 < (l0.length : Int)) = true := decide_eq_true c4
          clear c4
          by_cases c5 : 0 ≤ x13_1
          · rw [if_pos c5] at H
            have c5b0 : decide (0 ≤ x13_1) = true := decide_eq_true c5
            clear c5
            by_cases c6 : x13_1 < (l0.length : Int)
            · rw [if_pos c6] at H
              have c6b0 : decide (x13_1 < (l0.length : Int)) = true := decide_eq_true c6
              clear c6
              by_cases c7 : x13_1 < (l1.length : Int)
              · rw [if_pos c7] at H
                have c7b0 : decide (x13_1 < (l1.length : Int)) = true := decide_eq_true c7
                clear c7
                by_cases c8 : (!(((rd_T41 l0 x13_1).f0) == ((rd_T41 l1 x13_1).f0)) || ((!((((rd_T41 l0 x13_1).f1.f0).toList) == (((rd_T41 l1 x13_1).f1.f0).toList)) || (!(((rd_T41 l0 x13_1).f1.f1) == ((rd_T41 l1 x13_1).f1.f1)) || (!(((rd_T41 l0 x13_1).f1.f2) == ((rd_T41 l1 x13_1).f1.f2))))) || (!(((rd_T41 l0 x13_1).f2) == ((rd_T41 l1 x13_1).f2)) || (!(cxq ((rd_T41 l0 x13_1).f3).re ((rd_T41 l0 x13_1).f3).im ((rd_T41 l1 x13_1).f3).re ((rd_T41 l1 x13_1).f3).im) || (!((((rd_T41 l0 x13_1).f4).toList) == (((rd_T41 l1 x13_1).f4).toList)) || (!(((rd_T41 l0 x13_1).f5) == ((rd_T41 l1 x13_1).f5)))))))) = true
                · rw [if_pos c8] at H
                  have c8b0 : (!(((rd_T41 l0 x13_1).f0) == ((rd_T41 l1 x13_1).f0)) || ((!((((rd_T41 l0 x13_1).f1.f0).toList) == (((rd_T41 l1 x13_1).f1.f0).toList)) || (!(((rd_T41 l0 x13_1).f1.f1) == ((rd_T41 l1 x13_1).f1.f1)) || (!(((rd_T41 l0 x13_1).f1.f2) == ((rd_T41 l1 x13_1).f1.f2))))) || (!(((rd_T41 l0 x13_1).f2) == ((rd_T41 l1 x13_1).f2)) || (!(cxq ((rd_T41 l0 x13_1).f3).re ((rd_T41 l0 x13_1).f3).im ((rd_T41 l1 x13_1).f3).re ((rd_T41 l1 x13_1).f3).im) || (!((((rd_T41 l0 x13_1).f4).toList) == (((rd_T41 l1 x13_1).f4).toList)) || (!(((rd_T41 l0 x13_1).f5) == ((rd_T41 l1 x13_1).f5)))))))) = true := c8
                  clear c8
                  obtain rfl := Option.some.inj H
                  have p551 : 0 ≤ (x13_1 : Int) := of_decide_eq_true (by first | (with_reducible assumption) | assumption)
                  have q551 : x13_1 < (l0.length : Int) := of_decide_eq_true (by first | (with_reducible assumption) | assumption)
                  obtain ⟨ad551, e551, hx551_0, hx551_1, hx551_2, hx551_3, hx551_4, hx551_5, hx551_6, hx551_7⟩ := at_T41 HR0.out x13_1 p551 q551
                  cases e551
                  replace p551 := eq_true p551
                  replace q551 := eq_true q551
                  have p552 : 0 ≤ (x13_1 : Int) := of_decide_eq_true (by first | (with_reducible assumption) | assumption)
                  have q552 : x13_1 < (l1.length : Int) := of_decide_eq_true (by first | (with_reducible assumption) | assumption)
                  obtain ⟨ad552, e552, hx552_0, hx552_1, hx552_2, hx552_3, hx552_4, hx552_5, hx552_6, hx552_7⟩ := at_T41 HR1.out x13_1 p552 q552
                  cases e552
                  replace p552 := eq_true p552
                  replace q552 := eq_true q552
                  go_wp2
                  repeat (go_quiet (fail); try go_wp2)
                  go_ret
                  exact ⟨by first | rfl | (simp; done) | (simp [*]; done), by repeat (first | exact Drawn0.refl _ | apply Drawn0.step)⟩
                · rw [if_neg c8] at H
                  have c8b0 : (!(((rd_T41 l0 x13_1).f0) == ((rd_T41 l1 x13_1).f0)) || ((!((((rd_T41 l0 x13_1).f1.f0).toList) == (((rd_T41 l1 x13_1).f1.f0).toList)) || (!(((rd_T41 l0 x13_1).f1.f1) == ((rd_T41 l1 x13_1).f1.f1)) || (!(((rd_T41 l0 x13_1).f1.f2) == ((rd_T41 l1 x13_1).f1.f2))))) || (!(((rd_T41 l0 x13_1).f2) == ((rd_T41 l1 x13_1).f2)) || (!(cxq ((rd_T41 l0 x13_1).f3).re ((rd_T41 l0 x13_1).f3).im ((rd_T41 l1 x13_1).f3).re ((rd_T41 l1 x13_1).f3).im) || (!((((rd_T41 l0 x13_1).f4).toList) == (((rd_T41 l1 x13_1).f4).toList)) || (!(((rd_T41 l0 x13_1).f5) == ((rd_T41 l1 x13_1).f5)))))))) = false := by simpa using c8
                  clear c8
                  have H' := Aside0.mk H
                  clear H
                  have p551 : 0 ≤ (x13_1 : Int) := of_decide_eq_true (by first | (with_reducible assumption) | assumption)
                  have q551 : x13_1 < (l0.length : Int) := of_decide_eq_true (by first | (with_reducible assumption) | assumption)
                  obtain ⟨ad551, e551, hx551_0, hx551_1, hx551_2, hx551_3, hx551_4, hx551_5, hx551_6, hx551_7⟩ := at_T41 HR0.out x13_1 p551 q551
                  cases e551
                  replace p551 := eq_true p551
                  replace q551 := eq_true q551
                  have p552 : 0 ≤ (x13_1 : Int) := of_decide_eq_true (by first | (with_reducible assumption) | assumption)
                  have q552 : x13_1 < (l1.length : Int) := of_decide_eq_true (by first | (with_reducible assumption) | assumption)
                  obtain ⟨ad552, e552, hx552_0, hx552_1, hx552_2, hx552_3, hx552_4, hx552_5, hx552_6, hx552_7⟩ := at_T41 HR1.out x13_1 p552 q552
                  cases e552
                  replace p552 := eq_true p552
                  replace q552 := eq_true q552
                  go_wp2
                  repeat (go_quiet (fail); try go_wp2)
                  go_roundg k1
                  case measure => have := HK1.out; omega
                  case rel => exact ⟨(wrap64 (x13_1 + 1)), (by first | rfl | (simp; done) | (simp [*]; done)), H', ⟨by have := HK1.out; omega⟩, by repeat (first | exact Drawn0.refl _ | apply Drawn0.step)⟩
              · rw [if_neg c7] at H
                exact absurd H (by simp)
            · rw [if_neg c6] at H
              exact absurd H (by simp)
          · rw [if_neg c5] at H
            exact absurd H (by simp)
        · rw [if_neg c4] at H
          have c4b0 : decide (x13_1 < (l0.length : Int)) = false := decide_eq_false c4
          clear c4
          obtain rfl := Option.some.inj H
          go_wp2
          repeat (go_quiet (fail); try go_wp2)
          go_ret
          exact ⟨by first | rfl | (simp; done) | (simp [*]; done), by repeat (first | exact Drawn0.refl _ | apply Drawn0.step)⟩
  · rw [if_neg c3] at H
    have c3b0 : ((l0.length : Int) == (l1.length : Int)) = false := beq_eq_false_iff_ne.mpr c3
    have c3b1 : ((l0.length : Int) != (l1.length : Int)) = true := bne_iff_ne.mpr c3
    have c3b2 : (l0.length == l1.length) = false := by first | simpa using c3 | (simp at c3 ⊢; omega)
    obtain rfl := Option.some.inj H
    go_enter Try.func48, Try.ntmps48
    go_wp2
    repeat (go_quiet (fail); try go_wp2)
    go_ret
    exact ⟨by first | rfl | (simp; done) | (simp [*]; done), by repeat (first | exact Drawn0.refl _ | apply Drawn0.step)⟩

/-! ### store_Same: function 26 -/
def store_Same.f (k : Nat) (l0 : List (S41)) (l1 : List (S41)) : Option (Bool) := (item_Item_48.f k l0 l1).bind fun t553 => (some t553)
theorem store_Same.mono : ∀ a0 a1 k, LeO (store_Same.f k a0 a1) (store_Same.f (k + 1) a0 a1) := by
  intro a0 a1 k
  unfold store_Same.f
  repeat' first
      | (with_reducible exact item_Item_48.mono _ _ _)
      | (with_reducible exact LeO.refl _)
      | (with_reducible exact LeO.none _)
      | (with_reducible refine LeO.ite ?_ ?_)
      | (with_reducible refine LeO.bind ?_ (fun _ => ?_))
      | exact item_Item_48.mono _ _ _
      | exact LeO.none _
      | refine LeO.ite ?_ ?_
      | refine LeO.bind ?_ (fun _ => ?_)
set_option maxHeartbeats 8000000 in
set_option maxRecDepth 100000 in
theorem store_Same.calls (k : Nat) (A0 : Option Addr) (c0 : Nat) (l0 : List (S41)) (A1 : Option Addr) (c1 : Nat) (l1 : List (S41)) (r : Bool) (w : World) (hr0 : Kd.C k41 w A0 l0.length l0) (hc0 : l0.length ≤ c0) (hr1 : Kd.C k41 w A1 l1.length l1) (hc1 : l1.length ≤ c1) (h : store_Same.f k l0 l1 = some r) :
    Calls Try.prog 26 #[.slice A0 l0.length c0, .slice A1 l1.length c1] w fun e w' => e = .returned (.bool r) ∧ Drawn0 w w' := by
  have HR0 := Aside0.mk hr0
  have HC0 := Aside0.mk hc0
  clear hr0 hc0
  have HR1 := Aside0.mk hr1
  have HC1 := Aside0.mk hc1
  clear hr1 hc1
  have H : ((item_Item_48.f k l0 l1).bind fun t553 => (some t553)) = some r := h
  clear h
  replace H := Option.bind_eq_some_iff.mp H
  obtain ⟨t553, A30, H⟩ := H
  have A3 := Aside0.mk A30
  clear A30
  obtain rfl := Option.some.inj H
  go_enter Try.func26, Try.ntmps26
  go_wp2_with (first | ((with_reducible refine gate_callee (f := 48) rfl ?_); refine goesL_ (some 7) rfl rfl Try.func48 (by kernel_rfl) rfl #[.slice A0 l0.length c0, .slice A1 l1.length c1] rfl (by (try simp only [List.map_toArray, List.map_cons, List.map_nil]); first | done | rfl | (simp only [List.length_drop, List.length_take]; rfl)) ?_; (with_reducible refine (item_Item_48.calls k _ _ l0 _ _ l1 t553 _ ?side1 ?side2 ?side3 ?side4 A3.out).mono ?_); (case side1 => repeat (first | exact HR0.out | (with_reducible refine Kd.C_alloc ?_ _) | (with_reducible refine Kd.C_drewN ?_ _) | (with_reducible refine Kd.C_drew ?_))); (case side2 => exact HC0.out); (case side3 => repeat (first | exact HR1.out | (with_reducible refine Kd.C_alloc ?_ _) | (with_reducible refine Kd.C_drewN ?_ _) | (with_reducible refine Kd.C_drew ?_))); (case side4 => exact HC1.out); rintro e w' ⟨rfl, ⟨nd, rfl⟩⟩; refine ⟨_, rfl, ?_⟩))
  go_ret
  exact ⟨by first | rfl | (simp; done) | (simp [*]; done), by repeat (first | exact Drawn0.refl _ | apply Drawn0.step)⟩

end Go.Proofs.Ytgdkgobplinelaa.P
