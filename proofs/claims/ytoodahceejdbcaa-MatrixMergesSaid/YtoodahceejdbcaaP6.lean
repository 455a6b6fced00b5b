-- Written by a program of this session (wip/pp.py over the kit's printer, with our own texts put in).
import Derived.Test.YtoodahceejdbcaaP0
import Derived.Test.YtoodahceejdbcaaP5
namespace Go.Proofs.Ytoodahceejdbcaa.P
open Go.RowKit Go.Proofs.YtoodahceejdbcaaW.PrintWords Go.Proofs.YtoodahceejdbcaaW.PrintLast Go.Proofs.YtoodahceejdbcaaW.PrintMore
attribute [local go_sem] max2_int min2_int max_two min_two max_three min_three max_four min_four   -- for this text's walks alone
set_option linter.unusedVariables false
set_option linter.unusedSimpArgs false

/-! ### cenotaphref01_Fix: function 41 -/
def cenotaphref01_Fix.l0 : Nat → ByteArray → ByteArray → Int → Option (ByteArray)
  | 0, _, _, _ => none
  | k + 1, x0, x3, x4 => if x4 < (x0.size : Int) then (if x4 < 5 then (if 0 ≤ x4 then (if 0 ≤ (Int.tmod (bt x0 x4) 9) then (if (Int.tmod (bt x0 x4) 9) ≤ (((Int.tmod (bt x0 x4) 9) + 1) % 256) then (if (((Int.tmod (bt x0 x4) 9) + 1) % 256) ≤ 9 then (if x3.size + ((⟨#[49, 50, 51, 52, 53, 54, 55, 56, 57]⟩ : ByteArray).extract ((Int.tmod (bt x0 x4) 9) : Int).toNat ((((Int.tmod (bt x0 x4) 9) + 1) % 256) : Int).toNat).size ≤ 9223372036854775807 then (cenotaphref01_Fix.l0 k x0 (x3 ++ ((⟨#[49, 50, 51, 52, 53, 54, 55, 56, 57]⟩ : ByteArray).extract ((Int.tmod (bt x0 x4) 9) : Int).toNat ((((Int.tmod (bt x0 x4) 9) + 1) % 256) : Int).toNat)) (wrap64 (x4 + 1))) else (none)) else (none)) else (none)) else (none)) else (none)) else (some x3)) else (some x3)
def cenotaphref01_Fix.f (k : Nat) (a0 : ByteArray) : Option (ByteArray) := cenotaphref01_Fix.l0 k a0 (⟨#[48]⟩ : ByteArray) 0
theorem cenotaphref01_Fix.mono_l : ∀ k, (∀ y0 y1 y2, LeO (cenotaphref01_Fix.l0 k y0 y1 y2) (cenotaphref01_Fix.l0 (k + 1) y0 y1 y2))
  | 0 => fun _ _ _ r h => by simp [cenotaphref01_Fix.l0] at h
  | k + 1 => by
    have ih0 := cenotaphref01_Fix.mono_l k
    · intro y0 y1 y2
      unfold cenotaphref01_Fix.l0
      repeat' first
      | (with_reducible exact ih0 _ _ _)
      | (with_reducible exact LeO.refl _)
      | (with_reducible exact LeO.none _)
      | (with_reducible refine LeO.ite ?_ ?_)
      | (with_reducible refine LeO.bind ?_ (fun _ => ?_))
      | exact ih0 _ _ _
      | exact LeO.none _
      | refine LeO.ite ?_ ?_
      | refine LeO.bind ?_ (fun _ => ?_)
theorem cenotaphref01_Fix.mono : ∀ a0 k, LeO (cenotaphref01_Fix.f k a0) (cenotaphref01_Fix.f (k + 1) a0) := by
  intro a0 k
  have ih0 := cenotaphref01_Fix.mono_l k
  unfold cenotaphref01_Fix.f
  repeat' first
      | (with_reducible exact ih0 _ _ _)
      | (with_reducible exact LeO.refl _)
      | (with_reducible exact LeO.none _)
      | (with_reducible refine LeO.ite ?_ ?_)
      | (with_reducible refine LeO.bind ?_ (fun _ => ?_))
      | exact ih0 _ _ _
      | exact LeO.none _
      | refine LeO.ite ?_ ?_
      | refine LeO.bind ?_ (fun _ => ?_)
set_option maxHeartbeats 8000000 in
set_option maxRecDepth 100000 in
theorem cenotaphref01_Fix.calls (k : Nat) (a0 : ByteArray) (r : ByteArray) (w : World) (h : cenotaphref01_Fix.f k a0 = some r) :
    Calls Try.prog 41 #[.string a0] w fun e w' => e = .returned (.string r) ∧ Drawn0 w w' := by
  have H : (cenotaphref01_Fix.l0 k a0 (⟨#[48]⟩ : ByteArray) 0) = some r := h
  clear h
  have H' := Aside0.mk H
  clear H
  go_enter Try.func41, Try.ntmps41
  go_wp2
  repeat (go_quiet (fail); try go_wp2)
  go_loopg [3, 4] k (fun kq v3 v4 w' => ∃ (x3_1 : ByteArray) (x4_1 : Int), v3 = .string x3_1 ∧ v4 = .int .i64 x4_1 ∧ Aside0 (cenotaphref01_Fix.l0 kq a0 x3_1 x4_1 = some r) ∧ Aside0 (kq ≤ k) ∧ Drawn0 w w')
  case atStart => exact ⟨((⟨#[48]⟩ : ByteArray)), (0), (by first | rfl | (simp; done) | (simp [*]; done)), (by first | rfl | (simp; done) | (simp [*]; done)), H', ⟨Nat.le_refl _⟩, by repeat (first | exact Drawn0.refl _ | apply Drawn0.step)⟩
  case round =>
    clear H'
    obtain ⟨x3_1, x4_1, rfl, rfl, HA, HK1, ⟨m1, rfl⟩⟩ := hrel
    cases gk with
    | zero => exact absurd HA.out (by simp [cenotaphref01_Fix.l0])
    | succ k1 =>
      have H := HA.out
      clear HA
      simp only [cenotaphref01_Fix.l0] at H
      by_cases c2 : x4_1 < (a0.size : Int)
      · rw [if_pos c2] at H
        have c2b0 : decide (x4_1 < (a0.size : Int)) = true := decide_eq_true c2
        clear c2
        by_cases c3 : x4_1 < 5
        · rw [if_pos c3] at H
          have c3b0 : decide (x4_1 < 5) = true := decide_eq_true c3
          clear c3
          by_cases c4 : 0 ≤ x4_1
          · rw [if_pos c4] at H
            have c4b0 : decide (0 ≤ x4_1) = true := decide_eq_true c4
            clear c4
            obtain ⟨ji7, hji7⟩ : ∃ j_ : Int, (Int.tmod (bt a0 x4_1) 9) = j_ := ⟨_, rfl⟩
            replace H : (if 0 ≤ (ji7) then (if (ji7) ≤ (((ji7) + 1) % 256) then (if (((ji7) + 1) % 256) ≤ 9 then (if x3_1.size + ((⟨#[49, 50, 51, 52, 53, 54, 55, 56, 57]⟩ : ByteArray).extract ((ji7) : Int).toNat ((((ji7) + 1) % 256) : Int).toNat).size ≤ 9223372036854775807 then (cenotaphref01_Fix.l0 k1 a0 (x3_1 ++ ((⟨#[49, 50, 51, 52, 53, 54, 55, 56, 57]⟩ : ByteArray).extract ((ji7) : Int).toNat ((((ji7) + 1) % 256) : Int).toNat)) (wrap64 (x4_1 + 1))) else (none)) else (none)) else (none)) else (none)) = some r := by first | (rw [hji7] at H; exact H) | (simp only [hji7] at H ⊢; exact H)
            by_cases c8 : 0 ≤ (ji7)
            · rw [if_pos c8] at H
              have c8b0 := eq_true c8
              have c8b1 : decide (0 ≤ (ji7)) = true := decide_eq_true c8
              clear c8
              by_cases c9 : (ji7) ≤ (((ji7) + 1) % 256)
              · rw [if_pos c9] at H
                have c9b0 := eq_true c9
                have c9b1 : decide ((ji7) ≤ (((ji7) + 1) % 256)) = true := decide_eq_true c9
                by_cases c10 : (((ji7) + 1) % 256) ≤ 9
                · rw [if_pos c10] at H
                  have c10b0 := eq_true c10
                  have c10b1 : decide ((((ji7) + 1) % 256) ≤ 9) = true := decide_eq_true c10
                  by_cases c11 : x3_1.size + ((⟨#[49, 50, 51, 52, 53, 54, 55, 56, 57]⟩ : ByteArray).extract ((ji7) : Int).toNat ((((ji7) + 1) % 256) : Int).toNat).size ≤ 9223372036854775807
                  · rw [if_pos c11] at H
                    have c11b0 := eq_true c11
                    have c11b1 : decide (x3_1.size + ((⟨#[49, 50, 51, 52, 53, 54, 55, 56, 57]⟩ : ByteArray).extract ((ji7) : Int).toNat ((((ji7) + 1) % 256) : Int).toNat).size ≤ 9223372036854775807) = true := decide_eq_true c11
                    try have c11b2 : (9223372036854775807 < x3_1.size + ((⟨#[49, 50, 51, 52, 53, 54, 55, 56, 57]⟩ : ByteArray).extract ((ji7) : Int).toNat ((((ji7) + 1) % 256) : Int).toNat).size) = False := eq_false (Nat.not_lt.2 c11)
                    have H' := Aside0.mk H
                    clear H
                    have p5 : 0 ≤ (x4_1 : Int) := of_decide_eq_true (by first | (with_reducible assumption) | assumption)
                    have q5 : x4_1 < (a0.size : Int) := of_decide_eq_true (by first | (with_reducible assumption) | assumption)
                    have hx5 := bt_at a0 x4_1
                    replace p5 := eq_true p5
                    replace q5 := eq_true q5
                    have p6 : 0 ≤ (x4_1 : Int) := of_decide_eq_true (by first | (with_reducible assumption) | assumption)
                    have q6 : x4_1 < (a0.size : Int) := of_decide_eq_true (by first | (with_reducible assumption) | assumption)
                    have hx6 := bt_at a0 x4_1
                    replace p6 := eq_true p6
                    replace q6 := eq_true q6
                    go_wp2
                    repeat (go_quiet (fail); try go_wp2)
                    go_roundg k1
                    case measure => have := HK1.out; omega
                    case rel => exact ⟨(x3_1 ++ ((⟨#[49, 50, 51, 52, 53, 54, 55, 56, 57]⟩ : ByteArray).extract ((ji7) : Int).toNat ((((ji7) + 1) % 256) : Int).toNat)), (wrap64 (x4_1 + 1)), (by first | rfl | (simp; done) | (simp only [← hji7] <;> (first | rfl | simp)) | (simp [*]; done)), (by first | rfl | (simp; done) | (simp [*]; done)), H', ⟨by have := HK1.out; omega⟩, by repeat (first | exact Drawn0.refl _ | apply Drawn0.step)⟩
                  · rw [if_neg c11] at H
                    exact absurd H (by simp)
                · rw [if_neg c10] at H
                  exact absurd H (by simp)
              · rw [if_neg c9] at H
                exact absurd H (by simp)
            · rw [if_neg c8] at H
              exact absurd H (by simp)
          · rw [if_neg c4] at H
            exact absurd H (by simp)
        · rw [if_neg c3] at H
          have c3b0 : decide (x4_1 < 5) = false := decide_eq_false c3
          clear c3
          obtain rfl := Option.some.inj H
          go_wp2
          repeat (go_quiet (fail); try go_wp2)
          go_ret
          exact ⟨by first | rfl | (simp; done) | (simp [*]; done), by repeat (first | exact Drawn0.refl _ | apply Drawn0.step)⟩
      · rw [if_neg c2] at H
        have c2b0 : decide (x4_1 < (a0.size : Int)) = false := decide_eq_false c2
        clear c2
        obtain rfl := Option.some.inj H
        go_wp2
        repeat (go_quiet (fail); try go_wp2)
        go_ret
        exact ⟨by first | rfl | (simp; done) | (simp [*]; done), by repeat (first | exact Drawn0.refl _ | apply Drawn0.step)⟩

/-! ### cenotaphref03_Drop: function 69 -/
def cenotaphref03_Drop.l0 : Nat → List (S76) → ByteArray → List (S76) → Int → Option ((List (S76)))
  | 0, _, _, _, _ => none
  | k + 1, x0, x1, x5, x6 => if x6 < (x0.length : Int) then (if 0 ≤ x6 then (if ((rd_T76 x0 x6).f0).toList = x1.toList then (cenotaphref03_Drop.l0 k x0 x1 x5 (wrap64 (x6 + 1))) else (if x5.length < 5864062014805 then (cenotaphref03_Drop.l0 k x0 x1 (x5 ++ [(⟨(rd_T76 x0 x6).f0, (rd_T76 x0 x6).f1⟩ : S76)]) (wrap64 (x6 + 1))) else (none))) else (none)) else (some x5)
def cenotaphref03_Drop.f (k : Nat) (l0 : List (S76)) (a1 : ByteArray) : Option ((List (S76))) := cenotaphref03_Drop.l0 k l0 a1 ([] : List (S76)) 0
theorem cenotaphref03_Drop.mono_l : ∀ k, (∀ y0 y1 y2 y3, LeO (cenotaphref03_Drop.l0 k y0 y1 y2 y3) (cenotaphref03_Drop.l0 (k + 1) y0 y1 y2 y3))
  | 0 => fun _ _ _ _ r h => by simp [cenotaphref03_Drop.l0] at h
  | k + 1 => by
    have ih0 := cenotaphref03_Drop.mono_l k
    · intro y0 y1 y2 y3
      unfold cenotaphref03_Drop.l0
      repeat' first
      | (with_reducible exact ih0 _ _ _ _)
      | (with_reducible exact LeO.refl _)
      | (with_reducible exact LeO.none _)
      | (with_reducible refine LeO.ite ?_ ?_)
      | (with_reducible refine LeO.bind ?_ (fun _ => ?_))
      | exact ih0 _ _ _ _
      | exact LeO.none _
      | refine LeO.ite ?_ ?_
      | refine LeO.bind ?_ (fun _ => ?_)
theorem cenotaphref03_Drop.mono : ∀ a0 a1 k, LeO (cenotaphref03_Drop.f k a0 a1) (cenotaphref03_Drop.f (k + 1) a0 a1) := by
  intro a0 a1 k
  have ih0 := cenotaphref03_Drop.mono_l k
  unfold cenotaphref03_Drop.f
  repeat' first
      | (with_reducible exact ih0 _ _ _ _)
      | (with_reducible exact LeO.refl _)
      | (with_reducible exact LeO.none _)
      | (with_reducible refine LeO.ite ?_ ?_)
      | (with_reducible refine LeO.bind ?_ (fun _ => ?_))
      | exact ih0 _ _ _ _
      | exact LeO.none _
      | refine LeO.ite ?_ ?_
      | refine LeO.bind ?_ (fun _ => ?_)
set_option maxHeartbeats 8000000 in
set_option maxRecDepth 100000 in
theorem cenotaphref03_Drop.calls (k : Nat) (A0 : Option Addr) (c0 : Nat) (l0 : List (S76)) (a1 : ByteArray) (r : List (S76)) (w : World) (hr0 : Kd.C k76 w A0 l0.length l0) (hc0 : l0.length ≤ c0) (h : cenotaphref03_Drop.f k l0 a1 = some r) :
    Calls Try.prog 69 #[.slice A0 l0.length c0, .string a1] w fun e w' => ∃ v0_ : Value, e = .returned (v0_) ∧ Kd.R k76 76 w' w.heap.size (fun _ => True) v0_ r ∧ Below w.heap.size w w' := by
  have hu76 := Try.underlying76
  have HR0 := Aside0.mk hr0
  have HC0 := Aside0.mk hc0
  clear hr0 hc0
  have HB := Aside0.mk (Below.refl w.heap.size w)
  have H : (cenotaphref03_Drop.l0 k l0 a1 ([] : List (S76)) 0) = some r := h
  clear h
  have H' := Aside0.mk H
  clear H
  go_enter Try.func69, Try.ntmps69
  go_wp2
  go_loopg [5, 6] k (fun kq v5 v6 w' => ∃ (x5_1 : List (S76)) (x6_1 : Int), v6 = .int .i64 x6_1 ∧ Aside0 (cenotaphref03_Drop.l0 kq l0 a1 x5_1 x6_1 = some r) ∧ Aside0 (kq ≤ k) ∧ Aside0 (Kd.R k76 76 w' w.heap.size (fun _ => True) v5 x5_1) ∧ Aside0 (Below w.heap.size w w'))
  case atStart => exact ⟨(([] : List (S76))), (0), (by first | rfl | (simp; done) | (simp [*]; done)), H', ⟨Nat.le_refl _⟩, ⟨by first | exact Kd.R_nil _ _ _ _ _ | exact Kd.N_nil _ _ _ _ _ | exact Kd.V_nil _ _ _ _ _ | exact Kd.Q_nil _ _ _ _ _ | exact Kd.S_nil _ _ _ _ _⟩, ⟨by repeat (first | (with_reducible first | exact HB.out | apply below_alloc | apply pw_below_drewN | apply below_drew1) | exact HB.out)⟩⟩
  case round =>
    clear H'
    try clear p2
    obtain ⟨x5_1, x6_1, rfl, HA, HK1, HO_5, HB⟩ := hrel
    cases gk with
    | zero => exact absurd HA.out (by simp [cenotaphref03_Drop.l0])
    | succ k1 =>
      have H := HA.out
      clear HA
      simp only [cenotaphref03_Drop.l0] at H
      by_cases c3 : x6_1 < (l0.length : Int)
      · rw [if_pos c3] at H
        have c3b0 : decide (x6_1 < (l0.length : Int)) = true := decide_eq_true c3
        clear c3
        by_cases c4 : 0 ≤ x6_1
        · rw [if_pos c4] at H
          have c4b0 : decide (0 ≤ x6_1) = true := decide_eq_true c4
          clear c4
          by_cases c5 : ((rd_T76 l0 x6_1).f0).toList = a1.toList
          · rw [if_pos c5] at H
            have c5b0 : (((rd_T76 l0 x6_1).f0).toList == a1.toList) = true := beq_iff_eq.mpr c5
            have c5b1 : (((rd_T76 l0 x6_1).f0).toList != a1.toList) = false := bne_eq_false_iff_eq.mpr c5
            clear c5
            have H' := Aside0.mk H
            clear H
            have p208 : 0 ≤ (x6_1 : Int) := of_decide_eq_true (by first | (with_reducible assumption) | assumption)
            have q208 : x6_1 < (l0.length : Int) := of_decide_eq_true (by first | (with_reducible assumption) | assumption)
            obtain ⟨ad208, e208, hx208_0, hx208_1⟩ := at_T76 HR0.out x6_1 p208 q208
            cases e208
            replace hx208_0 := (HB.out.cell (World.block_lt_of_cell? w _ hx208_0)).trans hx208_0
            replace hx208_1 := (HB.out.cell (World.block_lt_of_cell? w _ hx208_1)).trans hx208_1
            replace p208 := eq_true p208
            replace q208 := eq_true q208
            go_wp2
            go_roundg k1
            case measure => have := HK1.out; omega
            case rel => exact ⟨(x5_1), (wrap64 (x6_1 + 1)), (by first | rfl | (simp; done) | (simp [*]; done)), H', ⟨by have := HK1.out; omega⟩, ⟨by (with_reducible repeat (first | apply Kd.R_alloc | apply Kd.R_drewN | apply Kd.R_drew)); exact HO_5.out⟩, ⟨by repeat (first | (with_reducible first | exact HB.out | apply below_alloc | apply pw_below_drewN | apply below_drew1) | exact HB.out)⟩⟩
          · rw [if_neg c5] at H
            have c5b0 : (((rd_T76 l0 x6_1).f0).toList == a1.toList) = false := beq_eq_false_iff_ne.mpr c5
            have c5b1 : (((rd_T76 l0 x6_1).f0).toList != a1.toList) = true := bne_iff_ne.mpr c5
            by_cases c6 : x5_1.length < 5864062014805
            · rw [if_pos c6] at H
              have LMc6 := Aside0.mk c6
              clear c6
              obtain ⟨y210, hy210⟩ : ∃ y_ : List (S76), y_ = (x5_1 ++ [(⟨(rd_T76 l0 x6_1).f0, (rd_T76 l0 x6_1).f1⟩ : S76)]) := ⟨_, rfl⟩
              replace H : (cenotaphref03_Drop.l0 k1 l0 a1 y210 (wrap64 (x6_1 + 1))) = some r := by first | (rw [hy210]; with_reducible exact H) | (have H2_ := (Option.bind_some _ _).symm.trans H; rw [hy210]; with_reducible exact H2_) | (have H2_ := (Option.bind_some _ _).symm.trans H; with_reducible exact H2_) | with_reducible exact H | (rw [hy210]; exact H) | exact H
              have Ny210 := Aside0.mk hy210
              clear hy210
              have H' := Aside0.mk H
              clear H
              have p208 : 0 ≤ (x6_1 : Int) := of_decide_eq_true (by first | (with_reducible assumption) | assumption)
              have q208 : x6_1 < (l0.length : Int) := of_decide_eq_true (by first | (with_reducible assumption) | assumption)
              obtain ⟨ad208, e208, hx208_0, hx208_1⟩ := at_T76 HR0.out x6_1 p208 q208
              cases e208
              replace hx208_0 := (HB.out.cell (World.block_lt_of_cell? w _ hx208_0)).trans hx208_0
              replace hx208_1 := (HB.out.cell (World.block_lt_of_cell? w _ hx208_1)).trans hx208_1
              replace p208 := eq_true p208
              replace q208 := eq_true q208
              have p209 : 0 ≤ (x6_1 : Int) := of_decide_eq_true (by first | (with_reducible assumption) | assumption)
              have q209 : x6_1 < (l0.length : Int) := of_decide_eq_true (by first | (with_reducible assumption) | assumption)
              obtain ⟨ad209, e209, hx209_0, hx209_1⟩ := at_T76 HR0.out x6_1 p209 q209
              obtain rfl : ad208 = ad209 := (by injection e209)
              replace hx209_0 := (HB.out.cell (World.block_lt_of_cell? w _ hx209_0)).trans hx209_0
              replace hx209_1 := (HB.out.cell (World.block_lt_of_cell? w _ hx209_1)).trans hx209_1
              replace p209 := eq_true p209
              replace q209 := eq_true q209
              go_wp2_with (first | ((with_reducible refine gate_builtin (b := .append) (xs := #[.tmp 20, .tmp 25]) rfl ?_); at_builtin; refine Kd.R_append k76 (w0 := w) w.heap.size rfl (.tmp 20) (.tmp 25) 23 76 (.agg #[(.string ⟨#[]⟩), (.int .i64 0)]) 24 rfl Try.underlying23 info76 rfl (by decide) (by omega) u5 x5_1 (⟨(rd_T76 l0 x6_1).f0, (rd_T76 l0 x6_1).f1⟩ : S76) [.string ((rd_T76 l0 x6_1).f0), .int .i64 ((rd_T76 l0 x6_1).f1)] (fun _ => True) (fun _ => False) rfl rfl ?aP (fun _ hk => hk.elim) ?aF ?aO ?aB ?aS ?aL ?_; (case aP => exact k76_mkM _ _ _ (⟨(rd_T76 l0 x6_1).f0, (rd_T76 l0 x6_1).f1⟩ : S76)); (case aB => exact (by repeat (first | (with_reducible first | exact HB.out | apply below_alloc | apply pw_below_drewN | apply below_drew1) | exact HB.out))); (case aF => exact (fun _ _ => trivial)); (case aO => exact (by (with_reducible repeat (first | apply Kd.R_alloc | apply Kd.R_drewN | apply Kd.R_drew)); exact HO_5.out)); (case aS => exact (below_size (by repeat (first | (with_reducible first | exact HB.out | apply below_alloc | apply pw_below_drewN | apply below_drew1) | exact HB.out)))); (case aL => have := LMc6.out; omega); intro v211 w7 ho hb hg hat; rw [← Ny210.out] at ho; replace HB := Aside0.mk (hb); have HO212 := Aside0.mk (ho); clear HO_5; clear ho hb hg hat))
              go_roundg k1
              case measure => have := HK1.out; omega
              case rel => exact ⟨(y210), (wrap64 (x6_1 + 1)), (by first | rfl | (simp; done) | (simp [*]; done)), H', ⟨by have := HK1.out; omega⟩, ⟨by (with_reducible repeat (first | apply Kd.R_alloc | apply Kd.R_drewN | apply Kd.R_drew)); exact HO212.out⟩, ⟨by repeat (first | (with_reducible first | exact HB.out | apply below_alloc | apply pw_below_drewN | apply below_drew1) | exact HB.out)⟩⟩
            · rw [if_neg c6] at H
              exact absurd H (by simp)
        · rw [if_neg c4] at H
          exact absurd H (by simp)
      · rw [if_neg c3] at H
        have c3b0 : decide (x6_1 < (l0.length : Int)) = false := decide_eq_false c3
        clear c3
        obtain rfl := Option.some.inj H
        go_wp2
        go_ret
        exact ⟨_, by first | rfl | (simp [errW_none, errW_some] <;> rfl) | (simp [*, errW_none, errW_some] <;> rfl), by (with_reducible repeat (first | apply Kd.R_alloc | apply Kd.R_drewN | apply Kd.R_drew)); exact HO_5.out, by repeat (first | (with_reducible first | exact HB.out | apply below_alloc | apply pw_below_drewN | apply below_drew1) | exact HB.out)⟩

/-! ### cenotaphref03_put: function 56 -/
theorem zq56_0 {p_ : Prop} (h_ : p_ := by repeat (first | (with_reducible first | exact HB.out | apply below_alloc | apply pw_below_drewN | apply below_drew1) | exact HB.out)) : p_ := h_
theorem zq56_1 {p_ : Prop} (h_ : p_ := by first | (with_reducible assumption) | assumption) : p_ := h_
def cenotaphref03_put.l0 : Nat → List (S76) → Int → Option ((List (S76)))
 | 0, _, _ => none
 | k + 1, x7, x8 => if x8 > 0 then (if 0 ≤ (wrap64 (x8 - 1)) then (if (wrap64 (x8 - 1)) < (x7.length : Int) then (if 0 ≤ x8 then (if x8 < (x7.length : Int) then ((cenotaphref01_Compare.f k ((rd_T76 x7 (wrap64 (x8 - 1))).f0) ((rd_T76 x7 x8).f0)).bind fun t221 => (if t221 > 0 then (cenotaphref03_put.l0 k ((x7.set ((wrap64 (x8 - 1)) : Int).toNat (⟨(rd_T76 x7 x8).f0, (rd_T76 x7 x8).f1⟩ : S76)).set (x8 : Int).toNat (⟨(rd_T76 x7 (wrap64 (x8 - 1))).f0, (rd_T76 x7 (wrap64 (x8 - 1))).f1⟩ : S76)) (wrap64 (x8 - 1))) else (some x7))) else (none)) else (none)) else (none)) else (none)) else (some x7)
def cenotaphref03_put.f (k : Nat) (l0 : List (S76)) (a1 : ByteArray) (a2 : Int) : Option ((List (S76))) := (cenotaphref03_Drop.f k l0 a1).bind fun t213 => (if a2 < 1 then (some t213) else (if t213.length < 5864062014805 then ((some (t213 ++ [(⟨a1, a2⟩ : S76)] : List (S76))).bind fun y216 => (cenotaphref03_put.l0 k y216 (wrap64 ((y216.length : Int) - 1)))) else (none)))
theorem cenotaphref03_put.mono_l : ∀ k, (∀ y0 y1, LeO (cenotaphref03_put.l0 k y0 y1) (cenotaphref03_put.l0 (k + 1) y0 y1))
 | 0 => fun _ _ r h => by simp [cenotaphref03_put.l0] at h
 | k + 1 => by
  have ih0 := cenotaphref03_put.mono_l k
  ·intro y0 y1
   unfold cenotaphref03_put.l0
   repeat' first
   | (with_reducible exact ih0 _ _)
   | (with_reducible exact cenotaphref01_Compare.mono _ _ _)
   | (with_reducible exact cenotaphref03_Drop.mono _ _ _)
   | (with_reducible exact LeO.refl _)
   | (with_reducible exact LeO.none _)
   | (with_reducible refine LeO.ite ?_ ?_)
   | (with_reducible refine LeO.bind ?_ (fun _ => ?_))
   | exact ih0 _ _
   | exact cenotaphref01_Compare.mono _ _ _
   | exact cenotaphref03_Drop.mono _ _ _
   | exact LeO.none _
   | refine LeO.ite ?_ ?_
   | refine LeO.bind ?_ (fun _ => ?_)
theorem cenotaphref03_put.mono : ∀ a0 a1 a2 k, LeO (cenotaphref03_put.f k a0 a1 a2) (cenotaphref03_put.f (k + 1) a0 a1 a2) := by
 intro a0 a1 a2 k
 have ih0 := cenotaphref03_put.mono_l k
 unfold cenotaphref03_put.f
 repeat' first
   | (with_reducible exact ih0 _ _)
   | (with_reducible exact cenotaphref01_Compare.mono _ _ _)
   | (with_reducible exact cenotaphref03_Drop.mono _ _ _)
   | (with_reducible exact LeO.refl _)
   | (with_reducible exact LeO.none _)
   | (with_reducible refine LeO.ite ?_ ?_)
   | (with_reducible refine LeO.bind ?_ (fun _ => ?_))
   | exact ih0 _ _
   | exact cenotaphref01_Compare.mono _ _ _
   | exact cenotaphref03_Drop.mono _ _ _
   | exact LeO.none _
   | refine LeO.ite ?_ ?_
   | refine LeO.bind ?_ (fun _ => ?_)
def cenotaphref03_put.T6 : Bool × List (List Nat × List Nat) := (true, [([], []), ([0], [0]), ([1], [1]), ([2], [2]), ([2], [2]), ([4, 2], [2, 4]), ([3, 5, 2], [2, 3, 5]), ([6, 2], [2, 6]), ([7, 2], [2, 7]), ([2], [2]), ([2], [2]), ([9, 10, 2], [2, 9, 10]), ([11, 2], [2, 11]), ([12, 2], [2, 12]), ([8, 13, 2, 2], [2, 8, 13]), ([14, 2], [2, 14]), ([2, 15], [2, 15])])
def cenotaphref03_put.B6 : List Nat := [0, 1, 3, 7, 7, 23, 63, 127, 255, 7, 7, 1543, 3591, 7687, 16383, 32767, 65535]
theorem cenotaphref03_put.tab6 : rtab .any (opsOf Try.f56 6) = cenotaphref03_put.T6 := by kernel_rfl
theorem cenotaphref03_put.bits6 : waitsOk cenotaphref03_put.T6.2 cenotaphref03_put.B6 = true := by kernel_rfl
def cenotaphref03_put.T8 : Bool × List (List Nat × List Nat) := (true, [([], []), ([], []), ([1], [1]), ([], []), ([], []), ([], []), ([], []), ([5, 6], [5, 6]), ([7], [7]), ([], []), ([], []), ([10], [10]), ([9, 11], [9, 11]), ([12], [12]), ([0, 2, 0, 1, 2, 5, 6, 7, 8, 13], [0, 2]), ([14, 8, 0, 1, 2, 5, 6, 7, 8, 13], [8, 14]), ([3, 4, 0, 1, 2, 3, 4, 5, 6, 7, 8, 9, 10, 11, 12, 13, 14, 15], [3, 4]), ([16, 13, 15, 0, 1, 2, 3, 4, 5, 6, 7, 8, 9, 10, 11, 12, 13, 14, 15], [13, 16])])
def cenotaphref03_put.B8 : List Nat := [0, 0, 2, 0, 0, 0, 0, 96, 224, 0, 0, 1024, 3584, 7680, 16359, 32743, 65535, 131071]
theorem cenotaphref03_put.tab8 : rtab .any (opsOf Try.f56 8) = cenotaphref03_put.T8 := by kernel_rfl
theorem cenotaphref03_put.bits8 : waitsOk cenotaphref03_put.T8.2 cenotaphref03_put.B8 = true := by kernel_rfl
set_option maxHeartbeats 8000000 in
set_option maxRecDepth 100000 in
theorem cenotaphref03_put.calls (k : Nat) (A0 : Option Addr) (c0 : Nat) (l0 : List (S76)) (a1 : ByteArray) (a2 : Int) (r : List (S76)) (w : World) (hr0 : Kd.C k76 w A0 l0.length l0) (hc0 : l0.length ≤ c0) (h : cenotaphref03_put.f k l0 a1 a2 = some r) :
  Calls Try.prog 56 #[.slice A0 l0.length c0, .string a1, .int .i64 a2] w fun e w' => ∃ v0_ : Value, e = .returned (v0_) ∧ Kd.R k76 76 w' w.heap.size (fun _ => True) v0_ r ∧ Below w.heap.size w w' := by
 have hu76 := Try.underlying76
 have HR0 := Aside0.mk hr0
 have HC0 := Aside0.mk hc0
 clear hr0 hc0
 have HB := Aside0.mk (Below.refl w.heap.size w)
 have H := h
 unfold cenotaphref03_put.f at H
 clear h
 replace H := Option.bind_eq_some_iff.mp H
 obtain ⟨t213, A40, H⟩ := H
 have A4 := Aside0.mk A40
 clear A40
 by_cases c5 : a2 < 1
 ·rw [if_pos c5] at H
  have c5b0 : decide (a2 < 1) = true := decide_eq_true c5
  clear c5
  obtain rfl := Option.some.inj H
  go_enter Try.func56, Try.ntmps56
  go_wp2_with (first | ((with_reducible refine gate_callee (f := 69) rfl ?_); refine goesL_ (some 11) rfl rfl Try.func69 (by kernel_rfl) rfl #[.slice A0 l0.length c0, .string a1] rfl (by (try simp only [List.map_toArray, List.map_cons, List.map_nil]); first | done | rfl | (simp only [List.length_drop, List.length_take]; rfl)) ?_; (with_reducible refine (cenotaphref03_Drop.calls k _ _ l0 a1 t213 _ ?side1 ?side2 A4.out).mono ?_); (case side1 => repeat (first | exact HR0.out | (with_reducible refine Kd.C_alloc ?_ _) | (with_reducible refine Kd.C_drewN ?_ _) | (with_reducible refine Kd.C_drew ?_))); (case side2 => exact HC0.out); rintro e w6 ⟨v214, rfl, ho0, hb⟩; refine ⟨_, rfl, ?_⟩; have HO215 := Aside0.mk (Kd.R_lower ho0 (below_size zq56_0)); replace HB := Aside0.mk (below_step zq56_0 hb); (try clear hb); (try clear hb2); (try clear hk); (try clear hi); (try clear ho0)))
  go_ret
  exact ⟨_, by first | rfl | (simp [errW_none, errW_some] <;> rfl) | (simp [*, errW_none, errW_some] <;> rfl), by (with_reducible repeat (first | apply Kd.R_alloc | apply Kd.R_drewN | apply Kd.R_drew)); exact HO215.out, by repeat (first | (with_reducible first | exact HB.out | apply below_alloc | apply pw_below_drewN | apply below_drew1) | exact HB.out)⟩
 ·rw [if_neg c5] at H
  have c5b0 : decide (a2 < 1) = false := decide_eq_false c5
  clear c5
  by_cases c7 : t213.length < 5864062014805
  ·rw [if_pos c7] at H
   have LMc7 := Aside0.mk c7
   clear c7
   obtain ⟨y216, hy216⟩ : ∃ y_ : List (S76), y_ = (t213 ++ [(⟨a1, a2⟩ : S76)]) := ⟨_, rfl⟩
   replace H : (cenotaphref03_put.l0 k y216 (wrap64 ((y216.length : Int) - 1))) = some r := by first | (rw [hy216]; with_reducible exact H) | (have H2_ := (Option.bind_some _ _).symm.trans H; rw [hy216]; with_reducible exact H2_) | (have H2_ := (Option.bind_some _ _).symm.trans H; with_reducible exact H2_) | with_reducible exact H | (rw [hy216]; exact H) | exact H
   have Ny216 := Aside0.mk hy216
   clear hy216
   have H' := Aside0.mk H
   clear H
   go_enter Try.func56, Try.ntmps56
   go_wp2_with (first | ((with_reducible refine gate_callee (f := 69) rfl ?_); refine goesL_ (some 11) rfl rfl Try.func69 (by kernel_rfl) rfl #[.slice A0 l0.length c0, .string a1] rfl (by (try simp only [List.map_toArray, List.map_cons, List.map_nil]); first | done | rfl | (simp only [List.length_drop, List.length_take]; rfl)) ?_; (with_reducible refine (cenotaphref03_Drop.calls k _ _ l0 a1 t213 _ ?side1 ?side2 A4.out).mono ?_); (case side1 => repeat (first | exact HR0.out | (with_reducible refine Kd.C_alloc ?_ _) | (with_reducible refine Kd.C_drewN ?_ _) | (with_reducible refine Kd.C_drew ?_))); (case side2 => exact HC0.out); rintro e w8 ⟨v214, rfl, ho0, hb⟩; refine ⟨_, rfl, ?_⟩; have HO215 := Aside0.mk (Kd.R_lower ho0 (below_size zq56_0)); replace HB := Aside0.mk (below_step zq56_0 hb); (try clear hb); (try clear hb2); (try clear hk); (try clear hi); (try clear ho0)) | ((with_reducible refine gate_builtin (b := .append) (xs := #[.tmp 15, .tmp 19]) rfl ?_); at_builtin; refine Kd.R_append k76 (w0 := w) w.heap.size rfl (.tmp 15) (.tmp 19) 23 76 (.agg #[(.string ⟨#[]⟩), (.int .i64 0)]) 24 rfl Try.underlying23 info76 rfl (by decide) (by omega) v214 t213 (⟨a1, a2⟩ : S76) [.string a1, .int .i64 a2] (fun _ => True) (fun _ => False) rfl rfl ?aP (fun _ hk => hk.elim) ?aF ?aO ?aB ?aS ?aL ?_; (case aP => exact k76_mkM _ _ _ (⟨a1, a2⟩ : S76)); (case aB => exact zq56_0); (case aF => exact (fun _ _ => trivial)); (case aO => exact (by (with_reducible repeat (first | apply Kd.R_alloc | apply Kd.R_drewN | apply Kd.R_drew)); exact HO215.out)); (case aS => exact (below_size zq56_0)); (case aL => have := LMc7.out; omega); intro v217 w9 ho hb hg hat; rw [← Ny216.out] at ho; replace HB := Aside0.mk (hb); have HO218 := Aside0.mk (ho); clear HO215; clear ho hb hg hat; obtain ⟨Ao10, co10, eo10⟩ := Kd.R_slice HO218.out; subst eo10))
   go_loopg [8] k (fun kq v8 w' => ∃ (x7_1 : List (S76)) (x8_1 : Int), v8 = .int .i64 x8_1 ∧ Aside0 (cenotaphref03_put.l0 kq x7_1 x8_1 = some r) ∧ Aside0 (kq ≤ k) ∧ Aside0 (Kd.R k76 76 w' w.heap.size (fun _ => True) (.slice Ao10 y216.length co10) x7_1) ∧ Aside0 (Below w.heap.size w w'))
   case atStart => exact ⟨(y216), (wrap64 ((y216.length : Int) - 1)), (by first | rfl | (simp; done) | (simp [*]; done)), H', ⟨Nat.le_refl _⟩, ⟨by (with_reducible repeat (first | apply Kd.R_alloc | apply Kd.R_drewN | apply Kd.R_drew)); exact HO218.out⟩, ⟨by repeat (first | (with_reducible first | exact HB.out | apply below_alloc | apply pw_below_drewN | apply below_drew1) | exact HB.out)⟩⟩
   case round =>
    clear H'
    try clear p2
    try clear c5
    try clear c5b0
    try clear c6
    try clear p6
    try clear c7
    obtain ⟨x7_1, x8_1, rfl, HA, HK1, HO_7, HB⟩ := hrel
    have hl7_1 := (Kd.R_reads' HO_7.out).1
    rw [hl7_1] at HO_7
    (try simp only [hl7_1])
    cases gk with
    | zero => exact absurd HA.out (by simp [cenotaphref03_put.l0])
    | succ k1 =>
     have H := HA.out
     clear HA
     simp only [cenotaphref03_put.l0] at H
     by_cases c11 : x8_1 > 0
     ·rw [if_pos c11] at H
      have c11b0 : decide (0 < x8_1) = true := decide_eq_true c11
      clear c11
      obtain ⟨ji12, hji12⟩ : ∃ j_ : Int, (wrap64 (x8_1 - 1)) = j_ := ⟨_, rfl⟩
      replace H : (if 0 ≤ (ji12) then (if (ji12) < (x7_1.length : Int) then (if 0 ≤ x8_1 then (if x8_1 < (x7_1.length : Int) then ((cenotaphref01_Compare.f k1 ((rd_T76 x7_1 (ji12)).f0) ((rd_T76 x7_1 x8_1).f0)).bind fun t221 => (if t221 > 0 then (cenotaphref03_put.l0 k1 ((x7_1.set ((ji12) : Int).toNat (⟨(rd_T76 x7_1 x8_1).f0, (rd_T76 x7_1 x8_1).f1⟩ : S76)).set (x8_1 : Int).toNat (⟨(rd_T76 x7_1 (ji12)).f0, (rd_T76 x7_1 (ji12)).f1⟩ : S76)) ji12) else (some x7_1))) else (none)) else (none)) else (none)) else (none)) = some r := by first | (rw [hji12] at H; exact H) | (simp only [hji12] at H ⊢; exact H)
      have hji12w : (IntKind.i64.wrap (x8_1 - 1)) = ji12 := (i64_w _).trans hji12
      by_cases c13 : 0 ≤ (ji12)
      ·rw [if_pos c13] at H
       have c13b0 : decide (0 ≤ (ji12)) = true := decide_eq_true c13
       clear c13
       by_cases c14 : (ji12) < (x7_1.length : Int)
       ·rw [if_pos c14] at H
        have c14b0 : decide ((ji12) < (x7_1.length : Int)) = true := decide_eq_true c14
        clear c14
        by_cases c15 : 0 ≤ x8_1
        ·rw [if_pos c15] at H
         have c15b0 : decide (0 ≤ x8_1) = true := decide_eq_true c15
         clear c15
         by_cases c16 : x8_1 < (x7_1.length : Int)
         ·rw [if_pos c16] at H
          have c16b0 : decide (x8_1 < (x7_1.length : Int)) = true := decide_eq_true c16
          clear c16
          replace H := Option.bind_eq_some_iff.mp H
          obtain ⟨t221, A170, H⟩ := H
          have A17 := Aside0.mk A170
          clear A170
          by_cases c18 : t221 > 0
          ·rw [if_pos c18] at H
           have c18b0 : decide (0 < t221) = true := decide_eq_true c18
           clear c18
           obtain ⟨y224, hy224⟩ : ∃ y_ : List (S76), y_ = (x7_1.set ((ji12) : Int).toNat (⟨(rd_T76 x7_1 x8_1).f0, (rd_T76 x7_1 x8_1).f1⟩ : S76)) := ⟨_, rfl⟩
           replace H : (cenotaphref03_put.l0 k1 (y224.set (x8_1 : Int).toNat (⟨(rd_T76 x7_1 (ji12)).f0, (rd_T76 x7_1 (ji12)).f1⟩ : S76)) ji12) = some r := by first | (rw [hy224]; with_reducible exact H) | (have H2_ := (Option.bind_some _ _).symm.trans H; rw [hy224]; with_reducible exact H2_) | (have H2_ := (Option.bind_some _ _).symm.trans H; with_reducible exact H2_) | with_reducible exact H | (rw [hy224]; exact H) | exact H
           have Ny224 := Aside0.mk hy224
           clear hy224
           obtain ⟨y225, hy225⟩ : ∃ y_ : List (S76), y_ = (y224.set (x8_1 : Int).toNat (⟨(rd_T76 x7_1 (ji12)).f0, (rd_T76 x7_1 (ji12)).f1⟩ : S76)) := ⟨_, rfl⟩
           replace H : (cenotaphref03_put.l0 k1 y225 ji12) = some r := by first | (rw [hy225]; with_reducible exact H) | (have H2_ := (Option.bind_some _ _).symm.trans H; rw [hy225]; with_reducible exact H2_) | (have H2_ := (Option.bind_some _ _).symm.trans H; with_reducible exact H2_) | with_reducible exact H | (rw [hy225]; exact H) | exact H
           have Ny225 := Aside0.mk hy225
           clear hy225
           have H' := Aside0.mk H
           clear H
           try go_wp2
           replace HO_7 := Aside0.mk (Kd.R_drew HO_7.out)
           replace HB := Aside0.mk (below_drew1 HB.out)
           have p219 : 0 ≤ ((ji12) : Int) := of_decide_eq_true zq56_1
           have q219 : (ji12) < (x7_1.length : Int) := of_decide_eq_true zq56_1
           obtain ⟨ad219, e219, hx219_0, hx219_1⟩ := at_T76 (Kd.R_reads' HO_7.out).2.2 (ji12) p219 q219
           cases e219
           replace p219 := eq_true p219
           replace q219 := eq_true q219
           have p220 : 0 ≤ (x8_1 : Int) := of_decide_eq_true zq56_1
           have q220 : x8_1 < (x7_1.length : Int) := of_decide_eq_true zq56_1
           obtain ⟨ad220, e220, hx220_0, hx220_1⟩ := at_T76 (Kd.R_reads' HO_7.out).2.2 x8_1 p220 q220
           obtain rfl : ad219 = ad220 := (by injection e220)
           replace p220 := eq_true p220
           replace q220 := eq_true q220
           refine start_ (n := 17) (S := fun w' => w'.cell? (ad219.add (((ji12)).toNat * 2)) = some (.string ((rd_T76 x7_1 (ji12)).f0)) ∧ w'.cell? ⟨(ad219.add (((ji12)).toNat * 2)).block, (ad219.add (((ji12)).toNat * 2)).off + 1, none⟩ = some (.int .i64 ((rd_T76 x7_1 (ji12)).f1)) ∧ w'.cell? (ad219.add ((x8_1).toNat * 2)) = some (.string ((rd_T76 x7_1 x8_1).f0)) ∧ w'.cell? ⟨(ad219.add ((x8_1).toNat * 2)).block, (ad219.add ((x8_1).toNat * 2)).off + 1, none⟩ = some (.int .i64 ((rd_T76 x7_1 x8_1).f1))) (ds := []) #[false, false, false, false, false, false, false, false, false, false, false, false, false, false, false, false, false] (by kernel_rfl) rfl rfl ⟨hx219_0, hx219_1, hx220_0, hx220_1⟩ (fun hHeld => ?_); refine with_tabW cenotaphref03_put.tab6 cenotaphref03_put.bits6 (fun HT_ HW_ => ?_)
           generalize wr.drew = w21 at HO_7 HB hx219_0 hx219_1 hx220_0 hx220_1 hHeld ⊢
           refine p_ 0 24 (mk_ 17 0x1) ?_
           refine p_ 1 25 (mk_ 17 0x3) ?_
           refine p_ 2 26 (mk_ 17 0x7) ?_
           refine p_ 3 27 (mk_ 17 0xf) ?_
           refine p_ 4 28 (mk_ 17 0x1f) ?_
           refine p_ 5 29 (mk_ 17 0x3f) ?_
           refine p_ 6 30 (mk_ 17 0x7f) ?_
           refine p_ 7 31 (mk_ 17 0xff) ?_
           refine p_ 9 33 (mk_ 17 0x2ff) ?_
           refine p_ 10 34 (mk_ 17 0x6ff) ?_
           refine p_ 11 35 (mk_ 17 0xeff) ?_
           refine p_ 12 36 (mk_ 17 0x1eff) ?_
           refine t_ 8 32 (mk_ 17 0x1fff) hHeld ?_
           refine t_ 13 37 (mk_ 17 0x3fff) hHeld ?_
           refine one_ (i := 14) (N := some 38) #[true, true, true, true, true, true, true, true, true, true, true, true, true, true, true, false, false] rfl rfl (one_of HT_.out (by kernel_rfl)) (by decide) (fun K hK => ?_)
           refine goes_ Try.func40 (by kernel_rfl) rfl #[.string ((rd_T76 x7_1 (ji12)).f0), .string ((rd_T76 x7_1 x8_1).f0)] (by rfl) rfl rfl (by (try simp only [List.map_toArray, List.map_cons, List.map_nil]); first | done | (simp only [hji12]; rfl) | rfl | (simp only [List.length_drop, List.length_take]; rfl)) ?_
           with_reducible refine (cenotaphref01_Compare.calls k1 ((rd_T76 x7_1 (ji12)).f0) ((rd_T76 x7_1 x8_1).f0) t221 _ A17.out).mono ?_
           rintro e w' ⟨rfl, ⟨nd, rfl⟩⟩
           refine ⟨_, rfl, ?_⟩
           refine hK.out _ _ ⟨hHeld.1, hHeld.2.1, hHeld.2.2.1, hHeld.2.2.2⟩ (fun hHeld => ?_)
           clear hK K
           refine norm_ (a' := ?_) ?_ ?_
           rotate_left
           ·show Act.put _ (some 38) _ = _
            simp only [Act.put, List.setIfInBounds_toArray, List.set_cons_zero, List.set_cons_succ, i64_w, i32_w]
            rfl
           refine p_ 15 39 (mk_ 17 0xffff) ?_
           refine p_ 16 40 (mk_ 17 0x1ffff) ?_
           refine done_ (done_of HT_.out (by kernel_rfl)) ?_
           try go_wp2
           (try (rw [drewN_self w21]; generalize hq_ : World.drewN w21 _ = w21; have n0_ : Aside0 (Kd.R k76 76 w21 w.heap.size (fun _ => True) (.slice (some ad219) x7_1.length co10) x7_1) := ⟨by rw [← hq_]; exact (by (with_reducible repeat (first | apply Kd.R_alloc | apply Kd.R_drewN | apply Kd.R_drew)); exact HO_7.out)⟩; have n1_ : Aside0 (Below w.heap.size w w21) := ⟨by rw [← hq_]; exact zq56_0⟩; clear HO_7 HB hq_; have HO_7 := n0_; have HB := n1_; clear n0_ n1_))
           replace HO_7 := Aside0.mk (Kd.R_drew HO_7.out)
           replace HB := Aside0.mk (below_drew1 HB.out)
           have p222 : 0 ≤ (x8_1 : Int) := of_decide_eq_true zq56_1
           have q222 : x8_1 < (x7_1.length : Int) := of_decide_eq_true zq56_1
           obtain ⟨ad222, e222, hx222_0, hx222_1⟩ := at_T76 (Kd.R_reads' HO_7.out).2.2 x8_1 p222 q222
           obtain rfl : ad219 = ad222 := (by injection e222)
           replace p222 := eq_true p222
           replace q222 := eq_true q222
           have p223 : 0 ≤ ((ji12) : Int) := of_decide_eq_true zq56_1
           have q223 : (ji12) < (x7_1.length : Int) := of_decide_eq_true zq56_1
           obtain ⟨ad223, e223, hx223_0, hx223_1⟩ := at_T76 (Kd.R_reads' HO_7.out).2.2 (ji12) p223 q223
           obtain rfl : ad219 = ad223 := (by injection e223)
           replace p223 := eq_true p223
           replace q223 := eq_true q223
           have p19 : 0 ≤ ((ji12) : Int) := of_decide_eq_true zq56_1
           have q19 : ((ji12) : Int) < ((x7_1.length : Int) : Int) := of_decide_eq_true zq56_1
           obtain ⟨go19, co19, eo19, gb19, gl19, cl19, HG19⟩ := Kd.R_form HO_7.out (by omega)
           (first | cases eo19 | (injection eo19 with ea_ en_ ec_; (first | subst ea_ | (injection ea_ with ea_; subst ea_)); subst ec_; clear en_))
           have GB19 := Aside0.mk gb19
           have GG19 := Aside0.mk HG19
           clear gb19 gl19 HG19
           (first | simp only [add_plain] at hx219_0 | skip)
           (first | simp only [add_plain] at hx219_1 | skip)
           (first | simp only [add_plain] at hx220_0 | skip)
           (first | simp only [add_plain] at hx220_1 | skip)
           (first | simp only [add_plain] at hx222_0 | skip)
           (first | simp only [add_plain] at hx222_1 | skip)
           (first | simp only [add_plain] at hx223_0 | skip)
           (first | simp only [add_plain] at hx223_1 | skip)
           obtain ⟨ce19, hcl19, hM19, hcc19, hfr19⟩ := Kd.R_elem HO_7.out z76 ((ji12) : Int) p19 q19
           obtain rfl := k76_openM hM19
           have hx19_0 : World.cell? _ ⟨go19, ((ji12) : Int).toNat * 2, none⟩ = some (.string ((rd_T76 x7_1 (ji12)).f0)) := hcc19 0 _ rfl
           have hx19_1 : World.cell? _ ⟨go19, ((ji12) : Int).toNat * 2 + 1, none⟩ = some (.int .i64 ((rd_T76 x7_1 (ji12)).f1)) := hcc19 1 _ rfl
           have hf19_0 : World.frozen? _ ⟨go19, ((ji12) : Int).toNat * 2, none⟩ = false := hfr19 0
           have hf19_1 : World.frozen? _ ⟨go19, ((ji12) : Int).toNat * 2 + 1, none⟩ = false := hfr19 1
           clear hcl19 hcc19 hfr19 hM19
           replace p19 := eq_true p19
           replace q19 := eq_true q19
           obtain ⟨ce23, hcl23, hM23, hcc23, hfr23⟩ := Kd.R_elem HO_7.out z76 ((ji12) : Int) (of_decide_eq_true zq56_1) (by have h_ : ((ji12) : Int) < ((x7_1.length : Int) : Int) := of_decide_eq_true zq56_1; first | exact h_ | (have e_ := (Kd.R_reads' HO_7.out).1; omega) | simpa using h_)
           obtain rfl := k76_openM hM23
           have HP23 := (Kd.R_seg HO_7.out ((ji12) : Int) (of_decide_eq_true zq56_1) (by have h_ : ((ji12) : Int) < ((x7_1.length : Int) : Int) := of_decide_eq_true zq56_1; first | exact h_ | (have e_ := (Kd.R_reads' HO_7.out).1; omega) | simpa using h_) (seg := [.string ((rd_T76 x7_1 x8_1).f0), .int .i64 ((rd_T76 x7_1 x8_1).f1)]) (j := 0) hcl23 hcc23 (show 2 ≤ 2 from by decide) (x' := (⟨(rd_T76 x7_1 x8_1).f0, (rd_T76 x7_1 x8_1).f1⟩ : S76)) (k76_mkM _ _ _ (⟨(rd_T76 x7_1 x8_1).f0, (rd_T76 x7_1 x8_1).f1⟩ : S76) ) (fun _ hk => hk)).1
           rw [← Ny224.out] at HP23
           have HQ23 := Aside0.mk HP23
           clear hcl23 hcc23 hfr23 hM23 HP23
           have p20 : 0 ≤ (x8_1 : Int) := of_decide_eq_true zq56_1
           have q20 : (x8_1 : Int) < ((x7_1.length : Int) : Int) := of_decide_eq_true zq56_1
           obtain ⟨ce20, hcl20, hM20, hcc20, hfr20⟩ := Kd.R_elem HQ23.out z76 (x8_1 : Int) p20 q20
           obtain rfl := k76_openM hM20
           have hx20_0 : World.cell? _ ⟨go19, (x8_1 : Int).toNat * 2, none⟩ = some (.string ((rd_T76 y224 x8_1).f0)) := hcc20 0 _ rfl
           have hx20_1 : World.cell? _ ⟨go19, (x8_1 : Int).toNat * 2 + 1, none⟩ = some (.int .i64 ((rd_T76 y224 x8_1).f1)) := hcc20 1 _ rfl
           have hf20_0 : World.frozen? _ ⟨go19, (x8_1 : Int).toNat * 2, none⟩ = false := hfr20 0
           have hf20_1 : World.frozen? _ ⟨go19, (x8_1 : Int).toNat * 2 + 1, none⟩ = false := hfr20 1
           clear hcl20 hcc20 hfr20 hM20
           replace p20 := eq_true p20
           replace q20 := eq_true q20
           obtain ⟨ce24, hcl24, hM24, hcc24, hfr24⟩ := Kd.R_elem HQ23.out z76 (x8_1 : Int) (of_decide_eq_true zq56_1) (by have h_ : (x8_1 : Int) < ((x7_1.length : Int) : Int) := of_decide_eq_true zq56_1; first | exact h_ | (have e_ := (Kd.R_reads' HO_7.out).1; omega) | simpa using h_)
           obtain rfl := k76_openM hM24
           have HP24 := (Kd.R_seg HQ23.out (x8_1 : Int) (of_decide_eq_true zq56_1) (by have h_ : (x8_1 : Int) < ((x7_1.length : Int) : Int) := of_decide_eq_true zq56_1; first | exact h_ | (have e_ := (Kd.R_reads' HO_7.out).1; omega) | simpa using h_) (seg := [.string ((rd_T76 x7_1 (ji12)).f0), .int .i64 ((rd_T76 x7_1 (ji12)).f1)]) (j := 0) hcl24 hcc24 (show 2 ≤ 2 from by decide) (x' := (⟨(rd_T76 x7_1 (ji12)).f0, (rd_T76 x7_1 (ji12)).f1⟩ : S76)) (k76_mkM _ _ _ (⟨(rd_T76 x7_1 (ji12)).f0, (rd_T76 x7_1 (ji12)).f1⟩ : S76) ) (fun _ hk => hk)).1
           rw [← Ny225.out] at HP24
           have HQ24 := Aside0.mk HP24
           clear hcl24 hcc24 hfr24 hM24 HP24
           have hnA_ : (ji12).toNat ≠ (x8_1).toNat := by have h1_ := of_eq_true p19; have h2_ := of_eq_true p20; first | omega | (have hj0_ := hji12; unfold wrap64 at hj0_; omega)
           have hnB_ := hnA_.symm
           (try simp only [World.frozen?_setCells, World.frozen?_setCell] at hf19_0)
           (try simp only [World.frozen?_setCells, World.frozen?_setCell] at hf19_1)
           (try simp only [World.frozen?_setCells, World.frozen?_setCell] at hf20_0)
           (try simp only [World.frozen?_setCells, World.frozen?_setCell] at hf20_1)
           refine start_ (n := 18) (S := fun w' => w'.cell? ⟨go19, ((x8_1).toNat * 2), none⟩ = some (.string ((rd_T76 x7_1 x8_1).f0)) ∧ w'.cell? ⟨go19, ((x8_1).toNat * 2) + 1, none⟩ = some (.int .i64 ((rd_T76 x7_1 x8_1).f1)) ∧ w'.cell? ⟨go19, (((ji12)).toNat * 2), none⟩ = some (.string ((rd_T76 x7_1 (ji12)).f0)) ∧ w'.cell? ⟨go19, (((ji12)).toNat * 2) + 1, none⟩ = some (.int .i64 ((rd_T76 x7_1 (ji12)).f1))) (ds := [15, 17]) #[false, false, false, false, false, false, false, false, false, false, false, false, false, false, false, false, false, false] (by kernel_rfl) rfl rfl ⟨hx222_0, hx222_1, hx223_0, hx223_1⟩ (fun hHeld => ?_); refine with_tabW cenotaphref03_put.tab8 cenotaphref03_put.bits8 (fun HT_ HW_ => ?_)
           generalize w21.drew = w22 at HO_7 HB GG19 HQ23 HQ24 hf19_0 hf19_1 hf20_0 hf20_1 hx19_0 hx19_1 hx20_0 hx20_1 hx219_0 hx219_1 hx220_0 hx220_1 hx222_0 hx222_1 hx223_0 hx223_1 hHeld ⊢
           refine p_ 0 43 (mk_ 18 0x1) ?_
           refine p_ 1 44 (mk_ 18 0x3) ?_
           refine p_ 2 45 (mk_ 18 0x7) ?_
           refine p_ 3 46 (mk_ 18 0xf) ?_
           refine p_ 4 47 (mk_ 18 0x1f) ?_
           refine p_ 5 48 (mk_ 18 0x3f) ?_
           refine p_ 6 49 (mk_ 18 0x7f) ?_
           refine p_ 7 50 (mk_ 18 0xff) ?_
           refine p_ 9 52 (mk_ 18 0x2ff) ?_
           refine p_ 10 53 (mk_ 18 0x6ff) ?_
           refine p_ 11 54 (mk_ 18 0xeff) ?_
           refine p_ 12 55 (mk_ 18 0x1eff) ?_
           refine t_ 8 51 (mk_ 18 0x1fff) hHeld ?_
           refine t_ 13 56 (mk_ 18 0x3fff) hHeld ?_
           refine p_ 14 57 (mk_ 18 0x7fff) ?_
           refine last_ (i := 15) (N := none) #[true, true, true, true, true, true, true, true, true, true, true, true, true, true, true, true, false, false] rfl rfl (one_of HT_.out (by kernel_rfl)) (by decide) (fun K hK => ?_)
           refine skip_ (w1 := ?_) (by rfl) rfl ?_ ?_
           rotate_left
           ·go_simp
            rfl
           refine hK.out _ _ ?_
           clear hK K
           refine p_ 16 58 (mk_ 18 0x1ffff) ?_
           refine last_ (i := 17) (N := none) #[true, true, true, true, true, true, true, true, true, true, true, true, true, true, true, true, true, true] rfl rfl (one_of HT_.out (by kernel_rfl)) (by decide) (fun K hK => ?_)
           refine skip_ (w1 := ?_) (by rfl) rfl ?_ ?_
           rotate_left
           ·go_simp
            rfl
           refine hK.out _ _ ?_
           clear hK K
           refine done_ (done_of HT_.out (by kernel_rfl)) ?_
           try go_wp2
           (try simp only [← hl7_1])
           go_roundg k1
           case measure => have := HK1.out; omega
           case rel => exact ⟨(y225), (ji12), (by first | rfl | (simp; done) | (simp only [← hji12] <;> (first | rfl | simp)) | (simp [*]; done)), H', ⟨by have := HK1.out; omega⟩, ⟨by (try simp only [hl7_1]); (with_reducible repeat (first | apply Kd.R_alloc | apply Kd.R_drewN | apply Kd.R_drew)); exact HQ24.out⟩, ⟨by repeat (first | (with_reducible first | exact HB.out | apply below_alloc | apply pw_below_drewN | apply below_drew1 | refine below_set ?_ GB19.out | refine below_set ?_ GB19.out | refine below_set ?_ GB19.out | refine below_set ?_ GB19.out) | exact HB.out)⟩⟩
          ·rw [if_neg c18] at H
           have c18b0 : decide (0 < t221) = false := decide_eq_false c18
           clear c18
           obtain rfl := Option.some.inj H
           try go_wp2
           replace HO_7 := Aside0.mk (Kd.R_drew HO_7.out)
           replace HB := Aside0.mk (below_drew1 HB.out)
           have p219 : 0 ≤ ((ji12) : Int) := of_decide_eq_true zq56_1
           have q219 : (ji12) < (x7_1.length : Int) := of_decide_eq_true zq56_1
           obtain ⟨ad219, e219, hx219_0, hx219_1⟩ := at_T76 (Kd.R_reads' HO_7.out).2.2 (ji12) p219 q219
           cases e219
           replace p219 := eq_true p219
           replace q219 := eq_true q219
           have p220 : 0 ≤ (x8_1 : Int) := of_decide_eq_true zq56_1
           have q220 : x8_1 < (x7_1.length : Int) := of_decide_eq_true zq56_1
           obtain ⟨ad220, e220, hx220_0, hx220_1⟩ := at_T76 (Kd.R_reads' HO_7.out).2.2 x8_1 p220 q220
           obtain rfl : ad219 = ad220 := (by injection e220)
           replace p220 := eq_true p220
           replace q220 := eq_true q220
           refine start_ (n := 17) (S := fun w' => w'.cell? (ad219.add (((ji12)).toNat * 2)) = some (.string ((rd_T76 x7_1 (ji12)).f0)) ∧ w'.cell? ⟨(ad219.add (((ji12)).toNat * 2)).block, (ad219.add (((ji12)).toNat * 2)).off + 1, none⟩ = some (.int .i64 ((rd_T76 x7_1 (ji12)).f1)) ∧ w'.cell? (ad219.add ((x8_1).toNat * 2)) = some (.string ((rd_T76 x7_1 x8_1).f0)) ∧ w'.cell? ⟨(ad219.add ((x8_1).toNat * 2)).block, (ad219.add ((x8_1).toNat * 2)).off + 1, none⟩ = some (.int .i64 ((rd_T76 x7_1 x8_1).f1))) (ds := []) #[false, false, false, false, false, false, false, false, false, false, false, false, false, false, false, false, false] (by kernel_rfl) rfl rfl ⟨hx219_0, hx219_1, hx220_0, hx220_1⟩ (fun hHeld => ?_); refine with_tabW cenotaphref03_put.tab6 cenotaphref03_put.bits6 (fun HT_ HW_ => ?_)
           generalize wr.drew = w25 at HO_7 HB hx219_0 hx219_1 hx220_0 hx220_1 hHeld ⊢
           refine p_ 0 24 (mk_ 17 0x1) ?_
           refine p_ 1 25 (mk_ 17 0x3) ?_
           refine p_ 2 26 (mk_ 17 0x7) ?_
           refine p_ 3 27 (mk_ 17 0xf) ?_
           refine p_ 4 28 (mk_ 17 0x1f) ?_
           refine p_ 5 29 (mk_ 17 0x3f) ?_
           refine p_ 6 30 (mk_ 17 0x7f) ?_
           refine p_ 7 31 (mk_ 17 0xff) ?_
           refine p_ 9 33 (mk_ 17 0x2ff) ?_
           refine p_ 10 34 (mk_ 17 0x6ff) ?_
           refine p_ 11 35 (mk_ 17 0xeff) ?_
           refine p_ 12 36 (mk_ 17 0x1eff) ?_
           refine t_ 8 32 (mk_ 17 0x1fff) hHeld ?_
           refine t_ 13 37 (mk_ 17 0x3fff) hHeld ?_
           refine one_ (i := 14) (N := some 38) #[true, true, true, true, true, true, true, true, true, true, true, true, true, true, true, false, false] rfl rfl (one_of HT_.out (by kernel_rfl)) (by decide) (fun K hK => ?_)
           refine goes_ Try.func40 (by kernel_rfl) rfl #[.string ((rd_T76 x7_1 (ji12)).f0), .string ((rd_T76 x7_1 x8_1).f0)] (by rfl) rfl rfl (by (try simp only [List.map_toArray, List.map_cons, List.map_nil]); first | done | (simp only [hji12]; rfl) | rfl | (simp only [List.length_drop, List.length_take]; rfl)) ?_
           with_reducible refine (cenotaphref01_Compare.calls k1 ((rd_T76 x7_1 (ji12)).f0) ((rd_T76 x7_1 x8_1).f0) t221 _ A17.out).mono ?_
           rintro e w' ⟨rfl, ⟨nd, rfl⟩⟩
           refine ⟨_, rfl, ?_⟩
           refine hK.out _ _ ⟨hHeld.1, hHeld.2.1, hHeld.2.2.1, hHeld.2.2.2⟩ (fun hHeld => ?_)
           clear hK K
           refine norm_ (a' := ?_) ?_ ?_
           rotate_left
           ·show Act.put _ (some 38) _ = _
            simp only [Act.put, List.setIfInBounds_toArray, List.set_cons_zero, List.set_cons_succ, i64_w, i32_w]
            rfl
           refine p_ 15 39 (mk_ 17 0xffff) ?_
           refine p_ 16 40 (mk_ 17 0x1ffff) ?_
           refine done_ (done_of HT_.out (by kernel_rfl)) ?_
           try go_wp2
           go_ret
           exact ⟨_, by first | rfl | (simp [errW_none, errW_some] <;> rfl) | (simp only [← hji12]; first | rfl | (simp [errW_none, errW_some] <;> rfl)) | (simp [*, errW_none, errW_some] <;> rfl), by (with_reducible repeat (first | apply Kd.R_alloc | apply Kd.R_drewN | apply Kd.R_drew)); exact HO_7.out, by repeat (first | (with_reducible first | exact HB.out | apply below_alloc | apply pw_below_drewN | apply below_drew1) | exact HB.out)⟩
         ·rw [if_neg c16] at H
          exact absurd H (by simp)
        ·rw [if_neg c15] at H
         exact absurd H (by simp)
       ·rw [if_neg c14] at H
        exact absurd H (by simp)
      ·rw [if_neg c13] at H
       exact absurd H (by simp)
     ·rw [if_neg c11] at H
      have c11b0 : decide (0 < x8_1) = false := decide_eq_false c11
      clear c11
      obtain rfl := Option.some.inj H
      try go_wp2
      replace HO_7 := Aside0.mk (Kd.R_drew HO_7.out)
      replace HB := Aside0.mk (below_drew1 HB.out)
      refine start_ (n := 17) (S := fun w' => True) (ds := []) #[false, false, false, false, false, false, false, false, false, false, false, false, false, false, false, false, false] (by kernel_rfl) rfl rfl trivial (fun hHeld => ?_); refine with_tabW cenotaphref03_put.tab6 cenotaphref03_put.bits6 (fun HT_ HW_ => ?_)
      generalize wr.drew = w26 at HO_7 HB hHeld ⊢
      refine p_ 0 24 (mk_ 17 0x1) ?_
      refine p_ 1 25 (mk_ 17 0x3) ?_
      refine p_ 2 26 (mk_ 17 0x7) ?_
      refine u_ 3 27 (mk_ 17 0xf) ?_
      refine u_ 4 28 (mk_ 17 0x1f) ?_
      refine u_ 5 29 (mk_ 17 0x3f) ?_
      refine u_ 6 30 (mk_ 17 0x7f) ?_
      refine u_ 7 31 (mk_ 17 0xff) ?_
      refine u_ 8 32 (mk_ 17 0x1ff) ?_
      refine u_ 9 33 (mk_ 17 0x3ff) ?_
      refine u_ 10 34 (mk_ 17 0x7ff) ?_
      refine u_ 11 35 (mk_ 17 0xfff) ?_
      refine u_ 12 36 (mk_ 17 0x1fff) ?_
      refine u_ 13 37 (mk_ 17 0x3fff) ?_
      refine u_ 14 38 (mk_ 17 0x7fff) ?_
      refine u_ 15 39 (mk_ 17 0xffff) ?_
      refine p_ 16 40 (mk_ 17 0x1ffff) ?_
      refine done_ (done_of HT_.out (by kernel_rfl)) ?_
      try go_wp2
      go_ret
      exact ⟨_, by first | rfl | (simp [errW_none, errW_some] <;> rfl) | (simp [*, errW_none, errW_some] <;> rfl), by (with_reducible repeat (first | apply Kd.R_alloc | apply Kd.R_drewN | apply Kd.R_drew)); exact HO_7.out, by repeat (first | (with_reducible first | exact HB.out | apply below_alloc | apply pw_below_drewN | apply below_drew1) | exact HB.out)⟩
  ·rw [if_neg c7] at H
   exact absurd H (by simp)

/-! ### cenotaphref03_Fix: function 26 -/
theorem zq26_0 {p_ : Prop} (h_ : p_ := by first | (with_reducible assumption) | assumption) : p_ := h_
theorem zq26_1 {p_ : Prop} (h_ : p_ := by first | rfl | (simp; done) | (simp [*]; done)) : p_ := h_
mutual
def cenotaphref03_Fix.l0 : Nat → List (S76) → List (S76) → Int → Option ((List (S76)))
 | 0, _, _, _ => none
 | k + 1, x0, x3, x4 => if x4 < (x0.length : Int) then (cenotaphref03_Fix.j1 k x0 x3 x4 (decide (x4 < 12))) else (cenotaphref03_Fix.j1 k x0 x3 x4 false)
def cenotaphref03_Fix.j1 : Nat → List (S76) → List (S76) → Int → Bool → Option ((List (S76)))
 | 0, _, _, _, _ => none
 | k + 1, x0, x3, x4, x12 => if x12 = true then (if 0 ≤ x4 then (if x4 < (x0.length : Int) then ((cenotaphref01_Fix.f k ((rd_T76 x0 x4).f0)).bind fun t227 => ((cenotaphref03_put.f k x3 t227 (wrap64 (1 + (wrap64 (Int.tmod (IntKind.u64.wrap ((rd_T76 x0 x4).f1)) 1000))))).bind fun t229 => (cenotaphref03_Fix.l0 k x0 t229 (wrap64 (x4 + 1))))) else (none)) else (none)) else (some x3)
end
def cenotaphref03_Fix.f (k : Nat) (l0 : List (S76)) : Option ((List (S76))) := cenotaphref03_Fix.l0 k l0 ([] : List (S76)) 0
theorem cenotaphref03_Fix.mono_l : ∀ k, (∀ y0 y1 y2, LeO (cenotaphref03_Fix.l0 k y0 y1 y2) (cenotaphref03_Fix.l0 (k + 1) y0 y1 y2)) ∧ (∀ y0 y1 y2 y3, LeO (cenotaphref03_Fix.j1 k y0 y1 y2 y3) (cenotaphref03_Fix.j1 (k + 1) y0 y1 y2 y3))
 | 0 => ⟨fun _ _ _ r h => by simp [cenotaphref03_Fix.l0] at h, fun _ _ _ _ r h => by simp [cenotaphref03_Fix.j1] at h⟩
 | k + 1 => by
  obtain ⟨ih0, ih1⟩ := cenotaphref03_Fix.mono_l k
  refine ⟨?_, ?_⟩
  ·intro y0 y1 y2
   unfold cenotaphref03_Fix.l0
   repeat' first
   | (with_reducible exact ih0 _ _ _)
   | (with_reducible exact ih1 _ _ _ _)
   | (with_reducible exact cenotaphref01_Fix.mono _ _)
   | (with_reducible exact cenotaphref03_put.mono _ _ _ _)
   | (with_reducible exact LeO.refl _)
   | (with_reducible exact LeO.none _)
   | (with_reducible refine LeO.ite ?_ ?_)
   | (with_reducible refine LeO.bind ?_ (fun _ => ?_))
   | exact ih0 _ _ _
   | exact ih1 _ _ _ _
   | exact cenotaphref01_Fix.mono _ _
   | exact cenotaphref03_put.mono _ _ _ _
   | exact LeO.none _
   | refine LeO.ite ?_ ?_
   | refine LeO.bind ?_ (fun _ => ?_)
  ·intro y0 y1 y2 y3
   unfold cenotaphref03_Fix.j1
   repeat' first
   | (with_reducible exact ih0 _ _ _)
   | (with_reducible exact ih1 _ _ _ _)
   | (with_reducible exact cenotaphref01_Fix.mono _ _)
   | (with_reducible exact cenotaphref03_put.mono _ _ _ _)
   | (with_reducible exact LeO.refl _)
   | (with_reducible exact LeO.none _)
   | (with_reducible refine LeO.ite ?_ ?_)
   | (with_reducible refine LeO.bind ?_ (fun _ => ?_))
   | exact ih0 _ _ _
   | exact ih1 _ _ _ _
   | exact cenotaphref01_Fix.mono _ _
   | exact cenotaphref03_put.mono _ _ _ _
   | exact LeO.none _
   | refine LeO.ite ?_ ?_
   | refine LeO.bind ?_ (fun _ => ?_)
theorem cenotaphref03_Fix.mono : ∀ a0 k, LeO (cenotaphref03_Fix.f k a0) (cenotaphref03_Fix.f (k + 1) a0) := by
 intro a0 k
 obtain ⟨ih0, ih1⟩ := cenotaphref03_Fix.mono_l k
 unfold cenotaphref03_Fix.f
 repeat' first
   | (with_reducible exact ih0 _ _ _)
   | (with_reducible exact ih1 _ _ _ _)
   | (with_reducible exact cenotaphref01_Fix.mono _ _)
   | (with_reducible exact cenotaphref03_put.mono _ _ _ _)
   | (with_reducible exact LeO.refl _)
   | (with_reducible exact LeO.none _)
   | (with_reducible refine LeO.ite ?_ ?_)
   | (with_reducible refine LeO.bind ?_ (fun _ => ?_))
   | exact ih0 _ _ _
   | exact ih1 _ _ _ _
   | exact cenotaphref01_Fix.mono _ _
   | exact cenotaphref03_put.mono _ _ _ _
   | exact LeO.none _
   | refine LeO.ite ?_ ?_
   | refine LeO.bind ?_ (fun _ => ?_)
def cenotaphref03_Fix.T5 : Bool × List (List Nat × List Nat) := (true, [([], []), ([], []), ([], []), ([1, 2], [1, 2]), ([3], [3]), ([4], [4]), ([5], [5]), ([], []), ([], []), ([7, 8], [7, 8]), ([9], [9]), ([10], [10]), ([11], [11]), ([12], [12]), ([13], [13]), ([14], [14]), ([0, 6, 15, 6], [0, 6, 15]), ([16, 16, 0, 1, 2, 3, 4, 5, 6, 7, 8, 9, 10, 11, 12, 13, 14, 15, 16], [0, 16])])
def cenotaphref03_Fix.B5 : List Nat := [0, 0, 0, 6, 14, 30, 62, 0, 0, 384, 896, 1920, 3968, 8064, 16256, 32640, 65535, 131071]
theorem cenotaphref03_Fix.tab5 : rtab .any (opsOf Try.f26 5) = cenotaphref03_Fix.T5 := by kernel_rfl
theorem cenotaphref03_Fix.bits5 : waitsOk cenotaphref03_Fix.T5.2 cenotaphref03_Fix.B5 = true := by kernel_rfl
set_option maxHeartbeats 8000000 in
set_option maxRecDepth 100000 in
theorem cenotaphref03_Fix.calls (k : Nat) (A0 : Option Addr) (c0 : Nat) (l0 : List (S76)) (r : List (S76)) (w : World) (hr0 : Kd.C k76 w A0 l0.length l0) (hc0 : l0.length ≤ c0) (h : cenotaphref03_Fix.f k l0 = some r) :
  Calls Try.prog 26 #[.slice A0 l0.length c0] w fun e w' => ∃ v0_ : Value, e = .returned (v0_) ∧ Kd.R k76 76 w' w.heap.size (fun _ => True) v0_ r ∧ Below w.heap.size w w' := by
 have HR0 := Aside0.mk hr0
 have HC0 := Aside0.mk hc0
 clear hr0 hc0
 have HB := Aside0.mk (Below.refl w.heap.size w)
 have H : (cenotaphref03_Fix.l0 k l0 ([] : List (S76)) 0) = some r := h
 clear h
 have H' := Aside0.mk H
 clear H
 go_enter Try.func26, Try.ntmps26
 go_wp2
 go_loopg [3, 4] k (fun kq v3 v4 w' => ∃ (x3_1 : List (S76)) (x4_1 : Int), v4 = .int .i64 x4_1 ∧ Aside0 (cenotaphref03_Fix.l0 kq l0 x3_1 x4_1 = some r) ∧ Aside0 (kq ≤ k) ∧ Aside0 (Kd.R k76 76 w' w.heap.size (fun _ => True) v3 x3_1) ∧ Aside0 (Below w.heap.size w w'))
 case atStart => exact ⟨(([] : List (S76))), (0), zq26_1, H', ⟨Nat.le_refl _⟩, ⟨by first | exact Kd.R_nil _ _ _ _ _ | exact Kd.N_nil _ _ _ _ _ | exact Kd.V_nil _ _ _ _ _ | exact Kd.Q_nil _ _ _ _ _ | exact Kd.S_nil _ _ _ _ _⟩, ⟨by repeat (first | (with_reducible first | exact HB.out | apply below_alloc | apply pw_below_drewN | apply below_drew1) | exact HB.out)⟩⟩
 case round =>
  clear H'
  obtain ⟨x3_1, x4_1, rfl, HA, HK1, HO_3, HB⟩ := hrel
  cases gk with
  | zero => exact absurd HA.out (by simp [cenotaphref03_Fix.l0])
  | succ k1 =>
   have H := HA.out
   clear HA
   simp only [cenotaphref03_Fix.l0] at H
   have HC2 := Aside0.mk H
   clear H
   go_upto_region 3 with (fail)
   go_cut [12] (fun v12 wc => ∃ (kq : Nat) (x12_1 : Bool), v12 = .bool x12_1 ∧ Aside0 (cenotaphref03_Fix.j1 kq l0 x3_1 x4_1 x12_1 = some r) ∧ Aside0 (kq ≤ k1) ∧ Aside0 (Kd.R k76 76 wc w.heap.size (fun _ => True) u3 x3_1) ∧ Aside0 (Below w.heap.size w wc))
   case first =>
    have H := HC2.out
    clear HC2
    by_cases c3 : x4_1 < (l0.length : Int)
    ·rw [if_pos c3] at H
     have c3b0 : decide (x4_1 < (l0.length : Int)) = true := decide_eq_true c3
     clear c3
     (first | rw [c3b0] | (simp only [i64_w, i32_w]; rw [c3b0]) | skip)
     have H' := Aside0.mk H
     clear H
     go_wp2
     go_meet
     case rel => exact ⟨_, (decide (x4_1 < 12)), zq26_1, H', ⟨by have := HK1.out; first | omega | exact Nat.le_refl _⟩, ⟨by (with_reducible repeat (first | apply Kd.R_alloc | apply Kd.R_drewN | apply Kd.R_drew)); exact HO_3.out⟩, ⟨by repeat (first | (with_reducible first | exact HB.out | apply below_alloc | apply pw_below_drewN | apply below_drew1) | exact HB.out)⟩⟩
    ·rw [if_neg c3] at H
     have c3b0 : decide (x4_1 < (l0.length : Int)) = false := decide_eq_false c3
     clear c3
     (first | rw [c3b0] | (simp only [i64_w, i32_w]; rw [c3b0]) | skip)
     have H' := Aside0.mk H
     clear H
     go_wp2
     go_meet
     case rel => exact ⟨_, (false), zq26_1, H', ⟨by have := HK1.out; first | omega | exact Nat.le_refl _⟩, ⟨by (with_reducible repeat (first | apply Kd.R_alloc | apply Kd.R_drewN | apply Kd.R_drew)); exact HO_3.out⟩, ⟨by repeat (first | (with_reducible first | exact HB.out | apply below_alloc | apply pw_below_drewN | apply below_drew1) | exact HB.out)⟩⟩
   case rest =>
    clear HC2
    try clear c2
    try clear p2
    try clear c3
    try clear c3b0
    obtain ⟨kq, x12_1, rfl, HA, HJ1, HO_3, HB⟩ := hcut
    cases kq with
    | zero => exact absurd HA.out (by simp [cenotaphref03_Fix.j1])
    | succ kj1 =>
     have H := HA.out
     clear HA
     simp only [cenotaphref03_Fix.j1] at H
     by_cases c4 : x12_1 = true
     ·subst c4
      have H1 : (if 0 ≤ x4_1 then (if x4_1 < (l0.length : Int) then ((cenotaphref01_Fix.f kj1 ((rd_T76 l0 x4_1).f0)).bind fun t227 => ((cenotaphref03_put.f kj1 x3_1 t227 (wrap64 (1 + (wrap64 (Int.tmod (IntKind.u64.wrap ((rd_T76 l0 x4_1).f1)) 1000))))).bind fun t229 => (cenotaphref03_Fix.l0 kj1 l0 t229 (wrap64 (x4_1 + 1))))) else (none)) else (none)) = some r := by rw [if_pos rfl] at H; exact H
      clear H
      have H := H1
      clear H1
      by_cases c5 : 0 ≤ x4_1
      ·rw [if_pos c5] at H
       have c5b0 : decide (0 ≤ x4_1) = true := decide_eq_true c5
       clear c5
       by_cases c6 : x4_1 < (l0.length : Int)
       ·rw [if_pos c6] at H
        have c6b0 : decide (x4_1 < (l0.length : Int)) = true := decide_eq_true c6
        clear c6
        replace H := Option.bind_eq_some_iff.mp H
        obtain ⟨t227, A70, H⟩ := H
        have A7 := Aside0.mk A70
        clear A70
        replace H := Option.bind_eq_some_iff.mp H
        obtain ⟨t229, A80, H⟩ := H
        have A8 := Aside0.mk A80
        clear A80
        have H' := Aside0.mk H
        clear H
        try go_wp2
        replace HO_3 := Aside0.mk (Kd.R_drew HO_3.out)
        replace HB := Aside0.mk (below_drew1 HB.out)
        have p226 : 0 ≤ (x4_1 : Int) := of_decide_eq_true zq26_0
        have q226 : x4_1 < (l0.length : Int) := of_decide_eq_true zq26_0
        obtain ⟨ad226, e226, hx226_0, hx226_1⟩ := at_T76 HR0.out x4_1 p226 q226
        have hw226_1 := hx226_1
        have hw226_0 := hx226_0
        cases e226
        replace hx226_0 := (HB.out.cell (World.block_lt_of_cell? w _ hx226_0)).trans hx226_0
        replace hx226_1 := (HB.out.cell (World.block_lt_of_cell? w _ hx226_1)).trans hx226_1
        replace p226 := eq_true p226
        replace q226 := eq_true q226
        have p228 : 0 ≤ (x4_1 : Int) := of_decide_eq_true zq26_0
        have q228 : x4_1 < (l0.length : Int) := of_decide_eq_true zq26_0
        obtain ⟨ad228, e228, hx228_0, hx228_1⟩ := at_T76 HR0.out x4_1 p228 q228
        have hw228_1 := hx228_1
        have hw228_0 := hx228_0
        obtain rfl : ad226 = ad228 := (by injection e228)
        replace hx228_0 := (HB.out.cell (World.block_lt_of_cell? w _ hx228_0)).trans hx228_0
        replace hx228_1 := (HB.out.cell (World.block_lt_of_cell? w _ hx228_1)).trans hx228_1
        replace p228 := eq_true p228
        replace q228 := eq_true q228
        refine start_ (n := 18) (S := fun w' => w'.cell? (ad226.add ((x4_1).toNat * 2)) = some (.string ((rd_T76 l0 x4_1).f0)) ∧ w'.cell? ⟨(ad226.add ((x4_1).toNat * 2)).block, (ad226.add ((x4_1).toNat * 2)).off + 1, none⟩ = some (.int .i64 ((rd_T76 l0 x4_1).f1)) ∧ w'.cell? (ad226.add ((x4_1).toNat * 2)) = some (.string ((rd_T76 l0 x4_1).f0)) ∧ w'.cell? ⟨(ad226.add ((x4_1).toNat * 2)).block, (ad226.add ((x4_1).toNat * 2)).off + 1, none⟩ = some (.int .i64 ((rd_T76 l0 x4_1).f1))) (ds := []) #[false, false, false, false, false, false, false, false, false, false, false, false, false, false, false, false, false, false] (by kernel_rfl) rfl rfl ⟨((HB.out.cell (World.block_lt_of_cell? w _ hw226_0)).trans hw226_0), ((HB.out.cell (World.block_lt_of_cell? w _ hw226_1)).trans hw226_1), ((HB.out.cell (World.block_lt_of_cell? w _ hw228_0)).trans hw228_0), ((HB.out.cell (World.block_lt_of_cell? w _ hw228_1)).trans hw228_1)⟩ (fun hHeld => ?_); refine with_tabW cenotaphref03_Fix.tab5 cenotaphref03_Fix.bits5 (fun HT_ HW_ => ?_)
        generalize wc.drew = w9 at HO_3 HB hx226_0 hx226_1 hx228_0 hx228_1 hHeld ⊢
        refine p_ 0 15 (mk_ 18 0x1) ?_
        refine p_ 1 16 (mk_ 18 0x3) ?_
        refine p_ 2 17 (mk_ 18 0x7) ?_
        refine p_ 3 18 (mk_ 18 0xf) ?_
        refine p_ 4 19 (mk_ 18 0x1f) ?_
        refine p_ 7 22 (mk_ 18 0x9f) ?_
        refine p_ 8 23 (mk_ 18 0x19f) ?_
        refine p_ 9 24 (mk_ 18 0x39f) ?_
        refine p_ 10 25 (mk_ 18 0x79f) ?_
        refine t_ 5 20 (mk_ 18 0x7bf) hHeld ?_
        refine t_ 11 26 (mk_ 18 0xfbf) hHeld ?_
        refine p_ 12 27 (mk_ 18 0x1fbf) ?_
        refine p_ 13 28 (mk_ 18 0x3fbf) ?_
        refine p_ 14 29 (mk_ 18 0x7fbf) ?_
        refine p_ 15 30 (mk_ 18 0xffbf) ?_
        refine one_ (i := 6) (N := some 21) #[true, true, true, true, true, true, true, true, true, true, true, true, true, true, true, true, false, false] rfl rfl (one_of HT_.out (by kernel_rfl)) (by decide) (fun K hK => ?_)
        refine goes_ Try.func41 (by kernel_rfl) rfl #[.string ((rd_T76 l0 x4_1).f0)] (by rfl) rfl rfl (by (try simp only [List.map_toArray, List.map_cons, List.map_nil]); first | done | rfl | (simp only [List.length_drop, List.length_take]; rfl)) ?_
        with_reducible refine (cenotaphref01_Fix.calls kj1 ((rd_T76 l0 x4_1).f0) t227 _ A7.out).mono ?_
        rintro e w' ⟨rfl, ⟨nd, rfl⟩⟩
        refine ⟨_, rfl, ?_⟩
        obtain ⟨Ao10, co10, eo10⟩ := Kd.R_slice HO_3.out
        (first | subst eo10 | (injection eo10 with f1_ f2_ f3_; have f4_ := f1_.symm; have f5_ := f3_.symm; clear f1_ f2_ f3_; subst f4_; subst f5_))
        refine hK.out _ _ ⟨((HB.out.cell (World.block_lt_of_cell? w _ hw226_0)).trans hw226_0), ((HB.out.cell (World.block_lt_of_cell? w _ hw226_1)).trans hw226_1), ((HB.out.cell (World.block_lt_of_cell? w _ hw228_0)).trans hw228_0), ((HB.out.cell (World.block_lt_of_cell? w _ hw228_1)).trans hw228_1)⟩ (fun hHeld => ?_)
        clear hK K
        refine norm_ (a' := ?_) ?_ ?_
        rotate_left
        ·show Act.put _ (some 21) _ = _
         simp only [Act.put, List.setIfInBounds_toArray, List.set_cons_zero, List.set_cons_succ, i64_w, i32_w]
         rfl
        refine one_ (i := 16) (N := some 31) #[true, true, true, true, true, true, true, true, true, true, true, true, true, true, true, true, true, false] rfl rfl (one_of HT_.out (by kernel_rfl)) (by decide) (fun K hK => ?_)
        refine goes_ Try.func56 (by kernel_rfl) rfl #[.slice Ao10 x3_1.length co10, .string t227, .int .i64 (wrap64 (1 + (wrap64 (Int.tmod (IntKind.u64.wrap ((rd_T76 l0 x4_1).f1)) 1000))))] (by rfl) rfl rfl (by (try simp only [List.map_toArray, List.map_cons, List.map_nil]); first | done | rfl | (simp only [List.length_drop, List.length_take]; rfl)) ?_
        with_reducible refine (cenotaphref03_put.calls kj1 _ _ x3_1 t227 (wrap64 (1 + (wrap64 (Int.tmod (IntKind.u64.wrap ((rd_T76 l0 x4_1).f1)) 1000)))) t229 _ ?side1 ?side2 A8.out).mono ?_
        (case side1 => repeat (first | exact (Kd.R_reads' HO_3.out).2.2 | (with_reducible refine Kd.C_alloc ?_ _) | (with_reducible refine Kd.C_drewN ?_ _) | (with_reducible refine Kd.C_drew ?_)))
        (case side2 => exact (Kd.R_reads' HO_3.out).2.1)
        rintro e w11 ⟨v230, rfl, ho0, hb⟩
        refine ⟨_, rfl, ?_⟩
        have HO231 := Aside0.mk (Kd.R_lower (Kd.R_new' ho0 (Kd.R_lt (by (with_reducible repeat (first | apply Kd.R_alloc | apply Kd.R_drewN | apply Kd.R_drew)); exact HO_3.out))) (below_size (by repeat (first | (with_reducible first | exact HB.out | apply below_alloc | apply pw_below_drewN | apply below_drew1) | exact HB.out))))
        replace HO_3 := Aside0.mk (Kd.R_elder' (by (with_reducible repeat (first | apply Kd.R_alloc | apply Kd.R_drewN | apply Kd.R_drew)); exact HO_3.out) (Kd.R_base ho0) hb)
        replace HB := Aside0.mk (below_step (by repeat (first | (with_reducible first | exact HB.out | apply below_alloc | apply pw_below_drewN | apply below_drew1) | exact HB.out)) hb)
        (try clear hb)
        (try clear hb2)
        (try clear hk)
        (try clear hi)
        (try clear ho0)
        refine hK.out _ _ ⟨((HB.out.cell (World.block_lt_of_cell? w _ hw226_0)).trans hw226_0), ((HB.out.cell (World.block_lt_of_cell? w _ hw226_1)).trans hw226_1), ((HB.out.cell (World.block_lt_of_cell? w _ hw228_0)).trans hw228_0), ((HB.out.cell (World.block_lt_of_cell? w _ hw228_1)).trans hw228_1)⟩ (fun hHeld => ?_)
        clear hK K
        refine norm_ (a' := ?_) ?_ ?_
        rotate_left
        ·show Act.put _ (some 31) _ = _
         simp only [Act.put, List.setIfInBounds_toArray, List.set_cons_zero, List.set_cons_succ, i64_w, i32_w]
         rfl
        refine p_ 17 3 (mk_ 18 0x3ffff) ?_
        refine done_ (done_of HT_.out (by kernel_rfl)) ?_
        try go_wp2
        go_roundg kj1
        case measure => have := HK1.out; have := HJ1.out; omega
        case rel => exact ⟨(t229), (wrap64 (x4_1 + 1)), zq26_1, H', ⟨by have := HK1.out; have := HJ1.out; omega⟩, ⟨by (with_reducible repeat (first | apply Kd.R_alloc | apply Kd.R_drewN | apply Kd.R_drew)); exact Kd.R_mono HO231.out (fun _ hk => trivial)⟩, ⟨by repeat (first | (with_reducible first | exact HB.out | apply below_alloc | apply pw_below_drewN | apply below_drew1) | exact HB.out)⟩⟩
       ·rw [if_neg c6] at H
        exact absurd H (by simp)
      ·rw [if_neg c5] at H
       exact absurd H (by simp)
     ·replace c4 := Bool.eq_false_iff.mpr c4
      subst c4
      have H1 : (some x3_1) = some r := by rw [if_neg (show ¬ (false = true) by decide)] at H; exact H
      clear H
      have H := H1
      clear H1
      obtain rfl := Option.some.inj H
      go_wp2
      go_ret
      exact ⟨_, by first | rfl | (simp [errW_none, errW_some] <;> rfl) | (simp [*, errW_none, errW_some] <;> rfl), by (with_reducible repeat (first | apply Kd.R_alloc | apply Kd.R_drewN | apply Kd.R_drew)); exact HO_3.out, by repeat (first | (with_reducible first | exact HB.out | apply below_alloc | apply pw_below_drewN | apply below_drew1) | exact HB.out)⟩

/-! ### cenotaphref10_Drop: function 33 -/
theorem zq33_0 {p_ : Prop} (h_ : p_ := by repeat (first | (with_reducible first | exact HB.out | apply below_alloc | apply pw_below_drewN | apply below_drew1) | exact HB.out)) : p_ := h_
theorem zq33_1 {p_ : Prop} (h_ : p_ := by first | (with_reducible assumption) | assumption) : p_ := h_
theorem zq33_2 {p_ : Prop} (h_ : p_ := by first | rfl | (simp; done) | (simp [*]; done)) : p_ := h_
def cenotaphref10_Drop.l0 : Nat → List (S25) → ByteArray → List (S25) → Int → Option ((List (S25)))
 | 0, _, _, _, _ => none
 | k + 1, x0, x1, x5, x6 => if x6 < (x0.length : Int) then (if 0 ≤ x6 then (if ((rd_T25 x0 x6).f0).toList = x1.toList then (cenotaphref10_Drop.l0 k x0 x1 x5 (wrap64 (x6 + 1))) else (if x5.length < 3518437208883 then (cenotaphref10_Drop.l0 k x0 x1 (x5 ++ [(⟨(rd_T25 x0 x6).f0, (rd_T25 x0 x6).f1⟩ : S25)]) (wrap64 (x6 + 1))) else (none))) else (none)) else (some x5)
def cenotaphref10_Drop.f (k : Nat) (l0 : List (S25)) (a1 : ByteArray) : Option ((List (S25))) := cenotaphref10_Drop.l0 k l0 a1 ([] : List (S25)) 0
theorem cenotaphref10_Drop.mono_l : ∀ k, (∀ y0 y1 y2 y3, LeO (cenotaphref10_Drop.l0 k y0 y1 y2 y3) (cenotaphref10_Drop.l0 (k + 1) y0 y1 y2 y3))
 | 0 => fun _ _ _ _ r h => by simp [cenotaphref10_Drop.l0] at h
 | k + 1 => by
  have ih0 := cenotaphref10_Drop.mono_l k
  ·intro y0 y1 y2 y3
   unfold cenotaphref10_Drop.l0
   repeat' first
   | (with_reducible exact ih0 _ _ _ _)
   | (with_reducible exact LeO.refl _)
   | (with_reducible exact LeO.none _)
   | (with_reducible refine LeO.ite ?_ ?_)
   | (with_reducible refine LeO.bind ?_ (fun _ => ?_))
   | exact ih0 _ _ _ _
   | exact LeO.none _
   | refine LeO.ite ?_ ?_
   | refine LeO.bind ?_ (fun _ => ?_)
theorem cenotaphref10_Drop.mono : ∀ a0 a1 k, LeO (cenotaphref10_Drop.f k a0 a1) (cenotaphref10_Drop.f (k + 1) a0 a1) := by
 intro a0 a1 k
 have ih0 := cenotaphref10_Drop.mono_l k
 unfold cenotaphref10_Drop.f
 repeat' first
   | (with_reducible exact ih0 _ _ _ _)
   | (with_reducible exact LeO.refl _)
   | (with_reducible exact LeO.none _)
   | (with_reducible refine LeO.ite ?_ ?_)
   | (with_reducible refine LeO.bind ?_ (fun _ => ?_))
   | exact ih0 _ _ _ _
   | exact LeO.none _
   | refine LeO.ite ?_ ?_
   | refine LeO.bind ?_ (fun _ => ?_)
set_option maxHeartbeats 8000000 in
set_option maxRecDepth 100000 in
theorem cenotaphref10_Drop.calls (k : Nat) (P0_ : Nat → Prop) (A0 : Option Addr) (c0 : Nat) (l0 : List (S25)) (a1 : ByteArray) (r : List (S25)) (w : World) (hs0 : Kd.V k25 25 w w.heap.size (fun k_ => P0_ k_) (.slice A0 l0.length c0) l0) (h : cenotaphref10_Drop.f k l0 a1 = some r) :
  Calls Try.prog 33 #[.slice A0 l0.length c0, .string a1] w fun e w' => ∃ v0_ : Value, e = .returned (v0_) ∧ Kd.N k25 25 w' w.heap.size (fun k_ => (P0_ k_ ∨ w.heap.size ≤ k_)) v0_ r ∧ Below w.heap.size w w' := by
 have hu25 := Try.underlying25
 have HO0 := Aside0.mk (show Kd.V k25 25 w w.heap.size (fun k_ => (P0_ k_ ∨ w.heap.size ≤ k_)) (.slice A0 l0.length c0) l0 from Kd.V_mono hs0 (fun k_ hk => .inl hk))
 have HB := Aside0.mk (Below.refl w.heap.size w)
 have H : (cenotaphref10_Drop.l0 k l0 a1 ([] : List (S25)) 0) = some r := h
 clear h
 have H' := Aside0.mk H
 clear H
 go_enter Try.func33, Try.ntmps33
 go_wp2
 go_loopg [5, 6] k (fun kq v5 v6 w' => ∃ (x5_1 : List (S25)) (x6_1 : Int), v6 = .int .i64 x6_1 ∧ Aside0 (cenotaphref10_Drop.l0 kq l0 a1 x5_1 x6_1 = some r) ∧ Aside0 (kq ≤ k) ∧ Aside0 (Kd.V k25 25 w' w.heap.size (fun k_ => (P0_ k_ ∨ w.heap.size ≤ k_) ∧ some k_ ≠ (v5 : Value).ownBlock) (.slice A0 l0.length c0) l0) ∧ Aside0 (Kd.N k25 25 w' w.heap.size (fun k_ => (P0_ k_ ∨ w.heap.size ≤ k_)) v5 x5_1) ∧ Aside0 (Below w.heap.size w w'))
 case atStart => exact ⟨(([] : List (S25))), (0), zq33_2, H', ⟨Nat.le_refl _⟩, ⟨by (with_reducible repeat (first | apply Kd.V_alloc | apply Kd.V_drewN | apply Kd.V_drew)); exact Kd.V_mono HO0.out (fun _ hk => ⟨hk, (by simp [Value.ownBlock])⟩)⟩, ⟨by first | exact Kd.S_nil _ _ _ _ _ | exact Kd.N_nil _ _ _ _ _ | exact Kd.V_nil _ _ _ _ _ | exact Kd.Q_nil _ _ _ _ _ | exact Kd.R_nil _ _ _ _ _⟩, ⟨by repeat (first | (with_reducible first | exact HB.out | apply below_alloc | apply pw_below_drewN | apply below_drew1) | exact HB.out)⟩⟩
 case round =>
  clear H'
  try clear p2
  obtain ⟨x5_1, x6_1, rfl, HA, HK1, HO_0, HO_5, HB⟩ := hrel
  cases gk with
  | zero => exact absurd HA.out (by simp [cenotaphref10_Drop.l0])
  | succ k1 =>
   have H := HA.out
   clear HA
   simp only [cenotaphref10_Drop.l0] at H
   by_cases c3 : x6_1 < (l0.length : Int)
   ·rw [if_pos c3] at H
    have c3b0 : decide (x6_1 < (l0.length : Int)) = true := decide_eq_true c3
    clear c3
    by_cases c4 : 0 ≤ x6_1
    ·rw [if_pos c4] at H
     have c4b0 : decide (0 ≤ x6_1) = true := decide_eq_true c4
     clear c4
     by_cases c5 : ((rd_T25 l0 x6_1).f0).toList = a1.toList
     ·rw [if_pos c5] at H
      have c5b0 : (((rd_T25 l0 x6_1).f0).toList == a1.toList) = true := beq_iff_eq.mpr c5
      have c5b1 : (((rd_T25 l0 x6_1).f0).toList != a1.toList) = false := bne_eq_false_iff_eq.mpr c5
      clear c5
      have H' := Aside0.mk H
      clear H
      have p232 : 0 ≤ (x6_1 : Int) := of_decide_eq_true zq33_1
      have q232 : x6_1 < (l0.length : Int) := of_decide_eq_true zq33_1
      obtain ⟨ad232, A232_1, c232_1, e232, hx232_0, hx232_1, hl232_1, hi232_1⟩ := at_T25 (Kd.V_reads' HO_0.out).2.2 x6_1 p232 q232
      cases e232
      obtain ⟨ce232, hce232, hMe232, hcc232⟩ := Kd.V_get HO_0.out z25 x6_1 p232 (by first | exact q232 | exact of_decide_eq_true zq33_1 | (have e_ := (Kd.V_reads' HO_0.out).1; omega))
      obtain ⟨ua232_1, uc232_1, rfl, ul232_1, ge232_1⟩ := k25_openF hMe232
      have hv232_1 := hcc232 1 _ rfl
      rw [add_field _ _ 1 (by omega)] at hv232_1
      replace hv232_1 := Option.some.inj (hv232_1.symm.trans hx232_1)
      injection hv232_1 with hva_ hvn_ hvc_
      rw [hva_] at ge232_1
      rw [hvc_] at ul232_1
      have HL232_1 := Aside0.mk (show Kd.V k76 76 _ w.heap.size _ _ ((rd_T25 l0 x6_1).f1) from Kd.V_mk ul232_1 ge232_1)
      clear hva_ hvn_ hvc_ ge232_1 ul232_1
      clear hcc232 hce232
      have HR232_1 := Aside0.mk hi232_1
      have HC232_1 := Aside0.mk hl232_1
      clear hi232_1 hl232_1
      replace p232 := eq_true p232
      replace q232 := eq_true q232
      go_wp2
      go_roundg k1
      case measure => have := HK1.out; omega
      case rel => exact ⟨(x5_1), (wrap64 (x6_1 + 1)), zq33_2, H', ⟨by have := HK1.out; omega⟩, ⟨by (with_reducible repeat (first | apply Kd.V_alloc | apply Kd.V_drewN | apply Kd.V_drew)); exact HO_0.out⟩, ⟨by (with_reducible repeat (first | apply Kd.N_alloc | apply Kd.N_drewN | apply Kd.N_drew)); exact HO_5.out⟩, ⟨by repeat (first | (with_reducible first | exact HB.out | apply below_alloc | apply pw_below_drewN | apply below_drew1) | exact HB.out)⟩⟩
     ·rw [if_neg c5] at H
      have c5b0 : (((rd_T25 l0 x6_1).f0).toList == a1.toList) = false := beq_eq_false_iff_ne.mpr c5
      have c5b1 : (((rd_T25 l0 x6_1).f0).toList != a1.toList) = true := bne_iff_ne.mpr c5
      by_cases c6 : x5_1.length < 3518437208883
      ·rw [if_pos c6] at H
       have LMc6 := Aside0.mk c6
       clear c6
       obtain ⟨y234, hy234⟩ : ∃ y_ : List (S25), y_ = (x5_1 ++ [(⟨(rd_T25 l0 x6_1).f0, (rd_T25 l0 x6_1).f1⟩ : S25)]) := ⟨_, rfl⟩
       replace H : (cenotaphref10_Drop.l0 k1 l0 a1 y234 (wrap64 (x6_1 + 1))) = some r := by first | (rw [hy234]; with_reducible exact H) | (have H2_ := (Option.bind_some _ _).symm.trans H; rw [hy234]; with_reducible exact H2_) | (have H2_ := (Option.bind_some _ _).symm.trans H; with_reducible exact H2_) | with_reducible exact H | (rw [hy234]; exact H) | exact H
       have Ny234 := Aside0.mk hy234
       clear hy234
       have H' := Aside0.mk H
       clear H
       have p232 : 0 ≤ (x6_1 : Int) := of_decide_eq_true zq33_1
       have q232 : x6_1 < (l0.length : Int) := of_decide_eq_true zq33_1
       obtain ⟨ad232, A232_1, c232_1, e232, hx232_0, hx232_1, hl232_1, hi232_1⟩ := at_T25 (Kd.V_reads' HO_0.out).2.2 x6_1 p232 q232
       cases e232
       obtain ⟨ce232, hce232, hMe232, hcc232⟩ := Kd.V_get HO_0.out z25 x6_1 p232 (by first | exact q232 | exact of_decide_eq_true zq33_1 | (have e_ := (Kd.V_reads' HO_0.out).1; omega))
       obtain ⟨ua232_1, uc232_1, rfl, ul232_1, ge232_1⟩ := k25_openF hMe232
       have hv232_1 := hcc232 1 _ rfl
       rw [add_field _ _ 1 (by omega)] at hv232_1
       replace hv232_1 := Option.some.inj (hv232_1.symm.trans hx232_1)
       injection hv232_1 with hva_ hvn_ hvc_
       rw [hva_] at ge232_1
       rw [hvc_] at ul232_1
       have HL232_1 := Aside0.mk (show Kd.V k76 76 _ w.heap.size _ _ ((rd_T25 l0 x6_1).f1) from Kd.V_mk ul232_1 ge232_1)
       clear hva_ hvn_ hvc_ ge232_1 ul232_1
       clear hcc232 hce232
       have HR232_1 := Aside0.mk hi232_1
       have HC232_1 := Aside0.mk hl232_1
       clear hi232_1 hl232_1
       replace p232 := eq_true p232
       replace q232 := eq_true q232
       have p233 : 0 ≤ (x6_1 : Int) := of_decide_eq_true zq33_1
       have q233 : x6_1 < (l0.length : Int) := of_decide_eq_true zq33_1
       obtain ⟨ad233, A233_1, c233_1, e233, hx233_0, hx233_1, hl233_1, hi233_1⟩ := at_T25 (Kd.V_reads' HO_0.out).2.2 x6_1 p233 q233
       obtain rfl : ad232 = ad233 := (by injection e233)
       obtain ⟨ce233, hce233, hMe233, hcc233⟩ := Kd.V_get HO_0.out z25 x6_1 p233 (by first | exact q233 | exact of_decide_eq_true zq33_1 | (have e_ := (Kd.V_reads' HO_0.out).1; omega))
       obtain ⟨ua233_1, uc233_1, rfl, ul233_1, ge233_1⟩ := k25_openF hMe233
       have hv233_1 := hcc233 1 _ rfl
       rw [add_field _ _ 1 (by omega)] at hv233_1
       replace hv233_1 := Option.some.inj (hv233_1.symm.trans hx233_1)
       injection hv233_1 with hva_ hvn_ hvc_
       rw [hva_] at ge233_1
       rw [hvc_] at ul233_1
       have HL233_1 := Aside0.mk (show Kd.V k76 76 _ w.heap.size _ _ ((rd_T25 l0 x6_1).f1) from Kd.V_mk ul233_1 ge233_1)
       clear hva_ hvn_ hvc_ ge233_1 ul233_1
       clear hcc233 hce233
       have HR233_1 := Aside0.mk hi233_1
       have HC233_1 := Aside0.mk hl233_1
       clear hi233_1 hl233_1
       replace p233 := eq_true p233
       replace q233 := eq_true q233
       have ea_ := Option.some.inj (hx232_1.symm.trans hx233_1)
       injection ea_ with ea_ en_ ec_
       subst ea_
       subst ec_
       clear en_
       go_wp2_with (first | ((with_reducible refine gate_builtin (b := .append) (xs := #[.tmp 20, .tmp 25]) rfl ?_); at_builtin; refine Kd.N_append k25 (w0 := w) w.heap.size rfl (.tmp 20) (.tmp 25) 22 25 (.agg #[(.string ⟨#[]⟩), (.slice none 0 0)]) 40 rfl Try.underlying22 info25 rfl (by decide) (by omega) u5 x5_1 (⟨(rd_T25 l0 x6_1).f0, (rd_T25 l0 x6_1).f1⟩ : S25) [.string ((rd_T25 l0 x6_1).f0), .slice A232_1 ((rd_T25 l0 x6_1).f1).length c232_1] (fun k_ => (P0_ k_ ∨ w.heap.size ≤ k_)) (fun k_ => ((fun k_ => (P0_ k_ ∨ w.heap.size ≤ k_))) k_ ∧ some k_ ≠ (u5 : Value).ownBlock) rfl rfl ?aP (fun _ hk => hk) ?aF ?aO ?aB ?aS ?aL ?_; (case aP => exact (k25_mkF _ _ (⟨(rd_T25 l0 x6_1).f0, (rd_T25 l0 x6_1).f1⟩ : S25) (Kd.V_reads' (Kd.V_mono (ok' := (fun k_ => ((fun k_ => (P0_ k_ ∨ w.heap.size ≤ k_))) k_ ∧ some k_ ≠ (u5 : Value).ownBlock)) (HL233_1.out) (fun k_ hk => ⟨hk.1, hk.2⟩))).2.1 (Kd.V_F (Kd.V_mono (ok' := (fun k_ => ((fun k_ => (P0_ k_ ∨ w.heap.size ≤ k_))) k_ ∧ some k_ ≠ (u5 : Value).ownBlock)) (HL233_1.out) (fun k_ hk => ⟨hk.1, hk.2⟩))))); (case aB => exact zq33_0); (case aF => exact (fun k_ hk => (.inr (Nat.le_trans (below_size zq33_0) hk)))); (case aO => exact (by (with_reducible repeat (first | apply Kd.N_alloc | apply Kd.N_drewN | apply Kd.N_drew)); exact HO_5.out)); (case aS => exact (below_size zq33_0)); (case aL => have := LMc6.out; omega); intro v235 w7 ho hb hg hat; rw [← Ny234.out] at ho; replace HO_0 := Aside0.mk (Kd.V_afterv (ok := (fun k_ => (P0_ k_ ∨ w.heap.size ≤ k_))) (by (with_reducible repeat (first | apply Kd.V_alloc | apply Kd.V_drewN | apply Kd.V_drew)); exact HO_0.out) hg hat); replace HL232_1 := Aside0.mk (Kd.V_afterv (ok := (fun k_ => (P0_ k_ ∨ w.heap.size ≤ k_))) (by (with_reducible repeat (first | apply Kd.V_alloc | apply Kd.V_drewN | apply Kd.V_drew)); exact HL232_1.out) hg hat); replace HL233_1 := Aside0.mk (Kd.V_afterv (ok := (fun k_ => (P0_ k_ ∨ w.heap.size ≤ k_))) (by (with_reducible repeat (first | apply Kd.V_alloc | apply Kd.V_drewN | apply Kd.V_drew)); exact HL233_1.out) hg hat); replace HB := Aside0.mk (hb); have HO236 := Aside0.mk (ho); clear HO_5; clear ho hb hg hat))
       go_roundg k1
       case measure => have := HK1.out; omega
       case rel => exact ⟨(y234), (wrap64 (x6_1 + 1)), zq33_2, H', ⟨by have := HK1.out; omega⟩, ⟨by (with_reducible repeat (first | apply Kd.V_alloc | apply Kd.V_drewN | apply Kd.V_drew)); exact HO_0.out⟩, ⟨by (with_reducible repeat (first | apply Kd.N_alloc | apply Kd.N_drewN | apply Kd.N_drew)); exact HO236.out⟩, ⟨by repeat (first | (with_reducible first | exact HB.out | apply below_alloc | apply pw_below_drewN | apply below_drew1) | exact HB.out)⟩⟩
      ·rw [if_neg c6] at H
       exact absurd H (by simp)
    ·rw [if_neg c4] at H
     exact absurd H (by simp)
   ·rw [if_neg c3] at H
    have c3b0 : decide (x6_1 < (l0.length : Int)) = false := decide_eq_false c3
    clear c3
    obtain rfl := Option.some.inj H
    go_wp2
    go_ret
    exact ⟨_, by first | rfl | (simp [errW_none, errW_some] <;> rfl) | (simp [*, errW_none, errW_some] <;> rfl), by (with_reducible repeat (first | apply Kd.N_alloc | apply Kd.N_drewN | apply Kd.N_drew)); exact HO_5.out, by repeat (first | (with_reducible first | exact HB.out | apply below_alloc | apply pw_below_drewN | apply below_drew1) | exact HB.out)⟩

/-! ### cenotaphref10_Of: function 34 -/
def cenotaphref10_Of.l0 : Nat → List (S25) → ByteArray → Int → Option ((List (S76)))
  | 0, _, _, _ => none
  | k + 1, x0, x1, x5 => if x5 < (x0.length : Int) then (if 0 ≤ x5 then (if ((rd_T25 x0 x5).f0).toList = x1.toList then (some ((rd_T25 x0 x5).f1)) else (cenotaphref10_Of.l0 k x0 x1 (wrap64 (x5 + 1)))) else (none)) else (some ([] : List (S76)))
def cenotaphref10_Of.f (k : Nat) (l0 : List (S25)) (a1 : ByteArray) : Option ((List (S76))) := cenotaphref10_Of.l0 k l0 a1 0
theorem cenotaphref10_Of.mono_l : ∀ k, (∀ y0 y1 y2, LeO (cenotaphref10_Of.l0 k y0 y1 y2) (cenotaphref10_Of.l0 (k + 1) y0 y1 y2))
  | 0 => fun _ _ _ r h => by simp [cenotaphref10_Of.l0] at h
  | k + 1 => by
    have ih0 := cenotaphref10_Of.mono_l k
    · intro y0 y1 y2
      unfold cenotaphref10_Of.l0
      repeat' first
      | (with_reducible exact ih0 _ _ _)
      | (with_reducible exact LeO.refl _)
      | (with_reducible exact LeO.none _)
      | (with_reducible refine LeO.ite ?_ ?_)
      | (with_reducible refine LeO.bind ?_ (fun _ => ?_))
      | exact ih0 _ _ _
      | exact LeO.none _
      | refine LeO.ite ?_ ?_
      | refine LeO.bind ?_ (fun _ => ?_)
theorem cenotaphref10_Of.mono : ∀ a0 a1 k, LeO (cenotaphref10_Of.f k a0 a1) (cenotaphref10_Of.f (k + 1) a0 a1) := by
  intro a0 a1 k
  have ih0 := cenotaphref10_Of.mono_l k
  unfold cenotaphref10_Of.f
  repeat' first
      | (with_reducible exact ih0 _ _ _)
      | (with_reducible exact LeO.refl _)
      | (with_reducible exact LeO.none _)
      | (with_reducible refine LeO.ite ?_ ?_)
      | (with_reducible refine LeO.bind ?_ (fun _ => ?_))
      | exact ih0 _ _ _
      | exact LeO.none _
      | refine LeO.ite ?_ ?_
      | refine LeO.bind ?_ (fun _ => ?_)
set_option maxHeartbeats 8000000 in
set_option maxRecDepth 100000 in
theorem cenotaphref10_Of.calls (k : Nat) (P0_ : Nat → Prop) (A0 : Option Addr) (c0 : Nat) (l0 : List (S25)) (a1 : ByteArray) (r : List (S76)) (w : World) (hs0 : Kd.V k25 25 w w.heap.size (fun k_ => P0_ k_) (.slice A0 l0.length c0) l0) (h : cenotaphref10_Of.f k l0 a1 = some r) :
    Calls Try.prog 34 #[.slice A0 l0.length c0, .string a1] w fun e w' => ∃ v0_ : Value, e = .returned (v0_) ∧ Kd.V k76 76 w' w.heap.size (fun k_ => (P0_ k_ ∨ w.heap.size ≤ k_)) v0_ r ∧ Below w.heap.size w w' := by
  have HO0 := Aside0.mk (show Kd.V k25 25 w w.heap.size (fun k_ => (P0_ k_ ∨ w.heap.size ≤ k_)) (.slice A0 l0.length c0) l0 from Kd.V_mono hs0 (fun k_ hk => .inl hk))
  have HB := Aside0.mk (Below.refl w.heap.size w)
  have H : (cenotaphref10_Of.l0 k l0 a1 0) = some r := h
  clear h
  have H' := Aside0.mk H
  clear H
  go_enter Try.func34, Try.ntmps34
  go_wp2
  go_loopg [5] k (fun kq v5 w' => ∃ (x5_1 : Int), v5 = .int .i64 x5_1 ∧ Aside0 (cenotaphref10_Of.l0 kq l0 a1 x5_1 = some r) ∧ Aside0 (kq ≤ k) ∧ Aside0 (Kd.V k25 25 w' w.heap.size (fun k_ => (P0_ k_ ∨ w.heap.size ≤ k_)) (.slice A0 l0.length c0) l0) ∧ Aside0 (Below w.heap.size w w'))
  case atStart => exact ⟨(0), (by first | rfl | (simp; done) | (simp [*]; done)), H', ⟨Nat.le_refl _⟩, ⟨by (with_reducible repeat (first | apply Kd.V_alloc | apply Kd.V_drewN | apply Kd.V_drew)); exact HO0.out⟩, ⟨by repeat (first | (with_reducible first | exact HB.out | apply below_alloc | apply pw_below_drewN | apply below_drew1) | exact HB.out)⟩⟩
  case round =>
    clear H'
    try clear p2
    obtain ⟨x5_1, rfl, HA, HK1, HO_0, HB⟩ := hrel
    cases gk with
    | zero => exact absurd HA.out (by simp [cenotaphref10_Of.l0])
    | succ k1 =>
      have H := HA.out
      clear HA
      simp only [cenotaphref10_Of.l0] at H
      by_cases c3 : x5_1 < (l0.length : Int)
      · rw [if_pos c3] at H
        have c3b0 : decide (x5_1 < (l0.length : Int)) = true := decide_eq_true c3
        clear c3
        by_cases c4 : 0 ≤ x5_1
        · rw [if_pos c4] at H
          have c4b0 : decide (0 ≤ x5_1) = true := decide_eq_true c4
          clear c4
          by_cases c5 : ((rd_T25 l0 x5_1).f0).toList = a1.toList
          · rw [if_pos c5] at H
            have c5b0 : (((rd_T25 l0 x5_1).f0).toList == a1.toList) = true := beq_iff_eq.mpr c5
            have c5b1 : (((rd_T25 l0 x5_1).f0).toList != a1.toList) = false := bne_eq_false_iff_eq.mpr c5
            clear c5
            obtain rfl := Option.some.inj H
            have p237 : 0 ≤ (x5_1 : Int) := of_decide_eq_true (by first | (with_reducible assumption) | assumption)
            have q237 : x5_1 < (l0.length : Int) := of_decide_eq_true (by first | (with_reducible assumption) | assumption)
            obtain ⟨ad237, A237_1, c237_1, e237, hx237_0, hx237_1, hl237_1, hi237_1⟩ := at_T25 (Kd.V_reads' HO_0.out).2.2 x5_1 p237 q237
            cases e237
            obtain ⟨ce237, hce237, hMe237, hcc237⟩ := Kd.V_get HO_0.out z25 x5_1 p237 (by first | exact q237 | exact of_decide_eq_true (by first | (with_reducible assumption) | assumption) | (have e_ := (Kd.V_reads' HO_0.out).1; omega))
            obtain ⟨ua237_1, uc237_1, rfl, ul237_1, ge237_1⟩ := k25_openF hMe237
            have hv237_1 := hcc237 1 _ rfl
            rw [add_field _ _ 1 (by omega)] at hv237_1
            replace hv237_1 := Option.some.inj (hv237_1.symm.trans hx237_1)
            injection hv237_1 with hva_ hvn_ hvc_
            rw [hva_] at ge237_1
            rw [hvc_] at ul237_1
            have HL237_1 := Aside0.mk (show Kd.V k76 76 _ w.heap.size _ _ ((rd_T25 l0 x5_1).f1) from Kd.V_mk ul237_1 ge237_1)
            clear hva_ hvn_ hvc_ ge237_1 ul237_1
            clear hcc237 hce237
            have HR237_1 := Aside0.mk hi237_1
            have HC237_1 := Aside0.mk hl237_1
            clear hi237_1 hl237_1
            replace p237 := eq_true p237
            replace q237 := eq_true q237
            have p238 : 0 ≤ (x5_1 : Int) := of_decide_eq_true (by first | (with_reducible assumption) | assumption)
            have q238 : x5_1 < (l0.length : Int) := of_decide_eq_true (by first | (with_reducible assumption) | assumption)
            obtain ⟨ad238, A238_1, c238_1, e238, hx238_0, hx238_1, hl238_1, hi238_1⟩ := at_T25 (Kd.V_reads' HO_0.out).2.2 x5_1 p238 q238
            obtain rfl : ad237 = ad238 := (by injection e238)
            obtain ⟨ce238, hce238, hMe238, hcc238⟩ := Kd.V_get HO_0.out z25 x5_1 p238 (by first | exact q238 | exact of_decide_eq_true (by first | (with_reducible assumption) | assumption) | (have e_ := (Kd.V_reads' HO_0.out).1; omega))
            obtain ⟨ua238_1, uc238_1, rfl, ul238_1, ge238_1⟩ := k25_openF hMe238
            have hv238_1 := hcc238 1 _ rfl
            rw [add_field _ _ 1 (by omega)] at hv238_1
            replace hv238_1 := Option.some.inj (hv238_1.symm.trans hx238_1)
            injection hv238_1 with hva_ hvn_ hvc_
            rw [hva_] at ge238_1
            rw [hvc_] at ul238_1
            have HL238_1 := Aside0.mk (show Kd.V k76 76 _ w.heap.size _ _ ((rd_T25 l0 x5_1).f1) from Kd.V_mk ul238_1 ge238_1)
            clear hva_ hvn_ hvc_ ge238_1 ul238_1
            clear hcc238 hce238
            have HR238_1 := Aside0.mk hi238_1
            have HC238_1 := Aside0.mk hl238_1
            clear hi238_1 hl238_1
            replace p238 := eq_true p238
            replace q238 := eq_true q238
            have ea_ := Option.some.inj (hx237_1.symm.trans hx238_1)
            injection ea_ with ea_ en_ ec_
            subst ea_
            subst ec_
            clear en_
            go_wp2
            go_ret
            exact ⟨_, by first | rfl | (simp [errW_none, errW_some] <;> rfl) | (simp [*, errW_none, errW_some] <;> rfl), by (with_reducible repeat (first | apply Kd.V_alloc | apply Kd.V_drewN | apply Kd.V_drew)); exact HL238_1.out, by repeat (first | (with_reducible first | exact HB.out | apply below_alloc | apply pw_below_drewN | apply below_drew1) | exact HB.out)⟩
          · rw [if_neg c5] at H
            have c5b0 : (((rd_T25 l0 x5_1).f0).toList == a1.toList) = false := beq_eq_false_iff_ne.mpr c5
            have c5b1 : (((rd_T25 l0 x5_1).f0).toList != a1.toList) = true := bne_iff_ne.mpr c5
            have H' := Aside0.mk H
            clear H
            have p237 : 0 ≤ (x5_1 : Int) := of_decide_eq_true (by first | (with_reducible assumption) | assumption)
            have q237 : x5_1 < (l0.length : Int) := of_decide_eq_true (by first | (with_reducible assumption) | assumption)
            obtain ⟨ad237, A237_1, c237_1, e237, hx237_0, hx237_1, hl237_1, hi237_1⟩ := at_T25 (Kd.V_reads' HO_0.out).2.2 x5_1 p237 q237
            cases e237
            obtain ⟨ce237, hce237, hMe237, hcc237⟩ := Kd.V_get HO_0.out z25 x5_1 p237 (by first | exact q237 | exact of_decide_eq_true (by first | (with_reducible assumption) | assumption) | (have e_ := (Kd.V_reads' HO_0.out).1; omega))
            obtain ⟨ua237_1, uc237_1, rfl, ul237_1, ge237_1⟩ := k25_openF hMe237
            have hv237_1 := hcc237 1 _ rfl
            rw [add_field _ _ 1 (by omega)] at hv237_1
            replace hv237_1 := Option.some.inj (hv237_1.symm.trans hx237_1)
            injection hv237_1 with hva_ hvn_ hvc_
            rw [hva_] at ge237_1
            rw [hvc_] at ul237_1
            have HL237_1 := Aside0.mk (show Kd.V k76 76 _ w.heap.size _ _ ((rd_T25 l0 x5_1).f1) from Kd.V_mk ul237_1 ge237_1)
            clear hva_ hvn_ hvc_ ge237_1 ul237_1
            clear hcc237 hce237
            have HR237_1 := Aside0.mk hi237_1
            have HC237_1 := Aside0.mk hl237_1
            clear hi237_1 hl237_1
            replace p237 := eq_true p237
            replace q237 := eq_true q237
            go_wp2
            go_roundg k1
            case measure => have := HK1.out; omega
            case rel => exact ⟨(wrap64 (x5_1 + 1)), (by first | rfl | (simp; done) | (simp [*]; done)), H', ⟨by have := HK1.out; omega⟩, ⟨by (with_reducible repeat (first | apply Kd.V_alloc | apply Kd.V_drewN | apply Kd.V_drew)); exact HO_0.out⟩, ⟨by repeat (first | (with_reducible first | exact HB.out | apply below_alloc | apply pw_below_drewN | apply below_drew1) | exact HB.out)⟩⟩
        · rw [if_neg c4] at H
          exact absurd H (by simp)
      · rw [if_neg c3] at H
        have c3b0 : decide (x5_1 < (l0.length : Int)) = false := decide_eq_false c3
        clear c3
        obtain rfl := Option.some.inj H
        go_wp2
        go_ret
        exact ⟨_, by first | rfl | (simp [errW_none, errW_some] <;> rfl) | (simp [*, errW_none, errW_some] <;> rfl), (Kd.V_nil _ _ _ _ _), by repeat (first | (with_reducible first | exact HB.out | apply below_alloc | apply pw_below_drewN | apply below_drew1) | exact HB.out)⟩

/-! ### cenotaphref03_Of: function 63 -/
def cenotaphref03_Of.l0 : Nat → List (S76) → ByteArray → Int → Option (Int)
  | 0, _, _, _ => none
  | k + 1, x0, x1, x5 => if x5 < (x0.length : Int) then (if 0 ≤ x5 then (if ((rd_T76 x0 x5).f0).toList = x1.toList then (some ((rd_T76 x0 x5).f1)) else (cenotaphref03_Of.l0 k x0 x1 (wrap64 (x5 + 1)))) else (none)) else (some 0)
def cenotaphref03_Of.f (k : Nat) (l0 : List (S76)) (a1 : ByteArray) : Option (Int) := cenotaphref03_Of.l0 k l0 a1 0
theorem cenotaphref03_Of.mono_l : ∀ k, (∀ y0 y1 y2, LeO (cenotaphref03_Of.l0 k y0 y1 y2) (cenotaphref03_Of.l0 (k + 1) y0 y1 y2))
  | 0 => fun _ _ _ r h => by simp [cenotaphref03_Of.l0] at h
  | k + 1 => by
    have ih0 := cenotaphref03_Of.mono_l k
    · intro y0 y1 y2
      unfold cenotaphref03_Of.l0
      repeat' first
      | (with_reducible exact ih0 _ _ _)
      | (with_reducible exact LeO.refl _)
      | (with_reducible exact LeO.none _)
      | (with_reducible refine LeO.ite ?_ ?_)
      | (with_reducible refine LeO.bind ?_ (fun _ => ?_))
      | exact ih0 _ _ _
      | exact LeO.none _
      | refine LeO.ite ?_ ?_
      | refine LeO.bind ?_ (fun _ => ?_)
theorem cenotaphref03_Of.mono : ∀ a0 a1 k, LeO (cenotaphref03_Of.f k a0 a1) (cenotaphref03_Of.f (k + 1) a0 a1) := by
  intro a0 a1 k
  have ih0 := cenotaphref03_Of.mono_l k
  unfold cenotaphref03_Of.f
  repeat' first
      | (with_reducible exact ih0 _ _ _)
      | (with_reducible exact LeO.refl _)
      | (with_reducible exact LeO.none _)
      | (with_reducible refine LeO.ite ?_ ?_)
      | (with_reducible refine LeO.bind ?_ (fun _ => ?_))
      | exact ih0 _ _ _
      | exact LeO.none _
      | refine LeO.ite ?_ ?_
      | refine LeO.bind ?_ (fun _ => ?_)
set_option maxHeartbeats 8000000 in
set_option maxRecDepth 100000 in
theorem cenotaphref03_Of.calls (k : Nat) (A0 : Option Addr) (c0 : Nat) (l0 : List (S76)) (a1 : ByteArray) (r : Int) (w : World) (hr0 : Kd.C k76 w A0 l0.length l0) (hc0 : l0.length ≤ c0) (h : cenotaphref03_Of.f k l0 a1 = some r) :
    Calls Try.prog 63 #[.slice A0 l0.length c0, .string a1] w fun e w' => e = .returned (.int .i64 r) ∧ Drawn0 w w' := by
  have HR0 := Aside0.mk hr0
  have HC0 := Aside0.mk hc0
  clear hr0 hc0
  have H : (cenotaphref03_Of.l0 k l0 a1 0) = some r := h
  clear h
  have H' := Aside0.mk H
  clear H
  go_enter Try.func63, Try.ntmps63
  go_wp2
  go_loopg [5] k (fun kq v5 w' => ∃ (x5_1 : Int), v5 = .int .i64 x5_1 ∧ Aside0 (cenotaphref03_Of.l0 kq l0 a1 x5_1 = some r) ∧ Aside0 (kq ≤ k) ∧ Drawn0 w w')
  case atStart => exact ⟨(0), (by first | rfl | (simp; done) | (simp [*]; done)), H', ⟨Nat.le_refl _⟩, by repeat (first | exact Drawn0.refl _ | apply Drawn0.step)⟩
  case round =>
    clear H'
    try clear p2
    obtain ⟨x5_1, rfl, HA, HK1, ⟨m1, rfl⟩⟩ := hrel
    cases gk with
    | zero => exact absurd HA.out (by simp [cenotaphref03_Of.l0])
    | succ k1 =>
      have H := HA.out
      clear HA
      simp only [cenotaphref03_Of.l0] at H
      by_cases c3 : x5_1 < (l0.length : Int)
      · rw [if_pos c3] at H
        have c3b0 : decide (x5_1 < (l0.length : Int)) = true := decide_eq_true c3
        clear c3
        by_cases c4 : 0 ≤ x5_1
        · rw [if_pos c4] at H
          have c4b0 : decide (0 ≤ x5_1) = true := decide_eq_true c4
          clear c4
          by_cases c5 : ((rd_T76 l0 x5_1).f0).toList = a1.toList
          · rw [if_pos c5] at H
            have c5b0 : (((rd_T76 l0 x5_1).f0).toList == a1.toList) = true := beq_iff_eq.mpr c5
            have c5b1 : (((rd_T76 l0 x5_1).f0).toList != a1.toList) = false := bne_eq_false_iff_eq.mpr c5
            clear c5
            obtain rfl := Option.some.inj H
            have p239 : 0 ≤ (x5_1 : Int) := of_decide_eq_true (by first | (with_reducible assumption) | assumption)
            have q239 : x5_1 < (l0.length : Int) := of_decide_eq_true (by first | (with_reducible assumption) | assumption)
            obtain ⟨ad239, e239, hx239_0, hx239_1⟩ := at_T76 HR0.out x5_1 p239 q239
            cases e239
            replace p239 := eq_true p239
            replace q239 := eq_true q239
            have p240 : 0 ≤ (x5_1 : Int) := of_decide_eq_true (by first | (with_reducible assumption) | assumption)
            have q240 : x5_1 < (l0.length : Int) := of_decide_eq_true (by first | (with_reducible assumption) | assumption)
            obtain ⟨ad240, e240, hx240_0, hx240_1⟩ := at_T76 HR0.out x5_1 p240 q240
            obtain rfl : ad239 = ad240 := (by injection e240)
            replace p240 := eq_true p240
            replace q240 := eq_true q240
            go_wp2
            go_ret
            exact ⟨by first | rfl | (simp; done) | (simp [*]; done), by repeat (first | exact Drawn0.refl _ | apply Drawn0.step)⟩
          · rw [if_neg c5] at H
            have c5b0 : (((rd_T76 l0 x5_1).f0).toList == a1.toList) = false := beq_eq_false_iff_ne.mpr c5
            have c5b1 : (((rd_T76 l0 x5_1).f0).toList != a1.toList) = true := bne_iff_ne.mpr c5
            have H' := Aside0.mk H
            clear H
            have p239 : 0 ≤ (x5_1 : Int) := of_decide_eq_true (by first | (with_reducible assumption) | assumption)
            have q239 : x5_1 < (l0.length : Int) := of_decide_eq_true (by first | (with_reducible assumption) | assumption)
            obtain ⟨ad239, e239, hx239_0, hx239_1⟩ := at_T76 HR0.out x5_1 p239 q239
            cases e239
            replace p239 := eq_true p239
            replace q239 := eq_true q239
            go_wp2
            go_roundg k1
            case measure => have := HK1.out; omega
            case rel => exact ⟨(wrap64 (x5_1 + 1)), (by first | rfl | (simp; done) | (simp [*]; done)), H', ⟨by have := HK1.out; omega⟩, by repeat (first | exact Drawn0.refl _ | apply Drawn0.step)⟩
        · rw [if_neg c4] at H
          exact absurd H (by simp)
      · rw [if_neg c3] at H
        have c3b0 : decide (x5_1 < (l0.length : Int)) = false := decide_eq_false c3
        clear c3
        obtain rfl := Option.some.inj H
        go_wp2
        go_ret
        exact ⟨by first | rfl | (simp; done) | (simp [*]; done), by repeat (first | exact Drawn0.refl _ | apply Drawn0.step)⟩

/-! ### cenotaphref03_Join: function 58 -/
theorem zq58_0 {p_ : Prop} (h_ : p_ := by repeat (first | (with_reducible first | exact HB.out | apply below_alloc | apply pw_below_drewN | apply below_drew1) | exact HB.out)) : p_ := h_
theorem zq58_1 {p_ : Prop} (h_ : p_ := by first | (with_reducible assumption) | assumption) : p_ := h_
def cenotaphref03_Join.l0 : Nat → List (S76) → List (S76) → Int → Option ((List (S76)))
 | 0, _, _, _ => none
 | k + 1, x1, x5, x6 => if x6 < (x1.length : Int) then (if 0 ≤ x6 then ((cenotaphref03_Of.f k x5 ((rd_T76 x1 x6).f0)).bind fun t249 => ((cenotaphref03_put.f k x5 ((rd_T76 x1 x6).f0) (mx t249 ((rd_T76 x1 x6).f1))).bind fun t251 => (cenotaphref03_Join.l0 k x1 t251 (wrap64 (x6 + 1))))) else (none)) else (some x5)
def cenotaphref03_Join.f (k : Nat) (l0 : List (S76)) (l1 : List (S76)) : Option ((List (S76))) := (some (([] : List (S76)) : List (S76))).bind fun y241 => (if y241.length + l0.length < 5864062014805 then (cenotaphref03_Join.l0 k l1 (y241 ++ l0) 0) else (none))
theorem cenotaphref03_Join.mono_l : ∀ k, (∀ y0 y1 y2, LeO (cenotaphref03_Join.l0 k y0 y1 y2) (cenotaphref03_Join.l0 (k + 1) y0 y1 y2))
 | 0 => fun _ _ _ r h => by simp [cenotaphref03_Join.l0] at h
 | k + 1 => by
  have ih0 := cenotaphref03_Join.mono_l k
  ·intro y0 y1 y2
   unfold cenotaphref03_Join.l0
   repeat' first
   | (with_reducible exact ih0 _ _ _)
   | (with_reducible exact cenotaphref03_Of.mono _ _ _)
   | (with_reducible exact cenotaphref03_put.mono _ _ _ _)
   | (with_reducible exact LeO.refl _)
   | (with_reducible exact LeO.none _)
   | (with_reducible refine LeO.ite ?_ ?_)
   | (with_reducible refine LeO.bind ?_ (fun _ => ?_))
   | exact ih0 _ _ _
   | exact cenotaphref03_Of.mono _ _ _
   | exact cenotaphref03_put.mono _ _ _ _
   | exact LeO.none _
   | refine LeO.ite ?_ ?_
   | refine LeO.bind ?_ (fun _ => ?_)
theorem cenotaphref03_Join.mono : ∀ a0 a1 k, LeO (cenotaphref03_Join.f k a0 a1) (cenotaphref03_Join.f (k + 1) a0 a1) := by
 intro a0 a1 k
 have ih0 := cenotaphref03_Join.mono_l k
 unfold cenotaphref03_Join.f
 repeat' first
   | (with_reducible exact ih0 _ _ _)
   | (with_reducible exact cenotaphref03_Of.mono _ _ _)
   | (with_reducible exact cenotaphref03_put.mono _ _ _ _)
   | (with_reducible exact LeO.refl _)
   | (with_reducible exact LeO.none _)
   | (with_reducible refine LeO.ite ?_ ?_)
   | (with_reducible refine LeO.bind ?_ (fun _ => ?_))
   | exact ih0 _ _ _
   | exact cenotaphref03_Of.mono _ _ _
   | exact cenotaphref03_put.mono _ _ _ _
   | exact LeO.none _
   | refine LeO.ite ?_ ?_
   | refine LeO.bind ?_ (fun _ => ?_)
def cenotaphref03_Join.T5 : Bool × List (List Nat × List Nat) := (true, [([], []), ([], []), ([], []), ([1, 2], [1, 2]), ([3], [3]), ([4], [4]), ([], []), ([], []), ([], []), ([7, 8], [7, 8]), ([9], [9]), ([10], [10]), ([6, 11], [6, 11]), ([], []), ([], []), ([13, 14], [13, 14]), ([15], [15]), ([16], [16]), ([12, 17], [12, 17]), ([0, 5, 18, 12], [0, 5, 18]), ([19, 19, 0, 1, 2, 3, 4, 5, 6, 7, 8, 9, 10, 11, 12, 13, 14, 15, 16, 17, 18, 19], [0, 6, 19])])
def cenotaphref03_Join.B5 : List Nat := [0, 0, 0, 6, 14, 30, 0, 0, 0, 384, 896, 1920, 4032, 0, 0, 24576, 57344, 122880, 262080, 524287, 1048575]
theorem cenotaphref03_Join.tab5 : rtab .any (opsOf Try.f58 5) = cenotaphref03_Join.T5 := by kernel_rfl
theorem cenotaphref03_Join.bits5 : waitsOk cenotaphref03_Join.T5.2 cenotaphref03_Join.B5 = true := by kernel_rfl
set_option maxHeartbeats 8000000 in
set_option maxRecDepth 100000 in
theorem cenotaphref03_Join.calls (k : Nat) (A0 : Option Addr) (c0 : Nat) (l0 : List (S76)) (A1 : Option Addr) (c1 : Nat) (l1 : List (S76)) (r : List (S76)) (w : World) (hr0 : Kd.C k76 w A0 l0.length l0) (hc0 : l0.length ≤ c0) (hr1 : Kd.C k76 w A1 l1.length l1) (hc1 : l1.length ≤ c1) (h : cenotaphref03_Join.f k l0 l1 = some r) :
  Calls Try.prog 58 #[.slice A0 l0.length c0, .slice A1 l1.length c1] w fun e w' => ∃ v0_ : Value, e = .returned (v0_) ∧ Kd.R k76 76 w' w.heap.size (fun _ => True) v0_ r ∧ Below w.heap.size w w' := by
 have HR0 := Aside0.mk hr0
 have HC0 := Aside0.mk hc0
 clear hr0 hc0
 have HR1 := Aside0.mk hr1
 have HC1 := Aside0.mk hc1
 clear hr1 hc1
 have HB := Aside0.mk (Below.refl w.heap.size w)
 have H : ((some (([] : List (S76)) : List (S76))).bind fun y241 => (if y241.length + l0.length < 5864062014805 then (cenotaphref03_Join.l0 k l1 (y241 ++ l0) 0) else (none))) = some r := h
 clear h
 obtain ⟨y241, hy241⟩ : ∃ y_ : List (S76), y_ = (([] : List (S76))) := ⟨_, rfl⟩
 replace H : (if y241.length + l0.length < 5864062014805 then (cenotaphref03_Join.l0 k l1 (y241 ++ l0) 0) else (none)) = some r := by first | (rw [hy241]; with_reducible exact H) | (have H2_ := (Option.bind_some _ _).symm.trans H; rw [hy241]; with_reducible exact H2_) | (have H2_ := (Option.bind_some _ _).symm.trans H; with_reducible exact H2_) | with_reducible exact H | (rw [hy241]; exact H) | exact H
 have Ny241 := Aside0.mk hy241
 clear hy241
 by_cases c3 : y241.length + l0.length < 5864062014805
 ·rw [if_pos c3] at H
  have LMc3 := Aside0.mk c3
  clear c3
  obtain ⟨y244, hy244⟩ : ∃ y_ : List (S76), y_ = (y241 ++ l0) := ⟨_, rfl⟩
  replace H : (cenotaphref03_Join.l0 k l1 y244 0) = some r := by first | (rw [hy244]; with_reducible exact H) | (have H2_ := (Option.bind_some _ _).symm.trans H; rw [hy244]; with_reducible exact H2_) | (have H2_ := (Option.bind_some _ _).symm.trans H; with_reducible exact H2_) | with_reducible exact H | (rw [hy244]; exact H) | exact H
  have Ny244 := Aside0.mk hy244
  clear hy244
  have H' := Aside0.mk H
  clear H
  go_enter Try.func58, Try.ntmps58
  go_wp2_with (first | ((with_reducible refine gate_dst (N := 7) rfl ?_); refine Kd.R_lit k76 _ 76 ?hg (N := 7) ?hd (xs := ([] : List (S76))) (inner := []) (ok := fun _ => True) (okp := fun _ => True) ?hr ?hp (fun _ hk => hk) trivial (Below.refl _ _) (Nat.le_refl _) (by simp) ?_; (case hd => rfl); (case hg => rfl); (case hr => first | (go_simp; done) | (go_simp; rfl)); (case hp => exact (Reps.none _ _)); intro v242 w4 ho5 hb hg_ hnew_; clear hg_ hnew_; (first | rw [← Ny241.out] at ho5 | (simp only [Int.reduceToNat] at ho5; rw [← Ny241.out] at ho5)); have HO243 := Aside0.mk (Kd.R_lower ho5 (below_size zq58_0)); replace HB := Aside0.mk (below_step zq58_0 hb); clear hb ho5) | ((with_reducible refine gate_builtin (b := .append) (xs := #[.tmp 7, .tmp 8]) rfl ?_); at_builtin; refine Kd.R_append_rows k76 (w0 := w) w.heap.size rfl (.tmp 7) (.tmp 8) 23 76 (.agg #[(.string ⟨#[]⟩), (.int .i64 0)]) 24 rfl Try.underlying23 info76 rfl (by decide) (by omega) v242 y241 l0 _ _ _ (fun _ => True) (fun _ => False) rfl rfl ?aO ?aR (fun _ _ h => h) (fun _ h => h.elim) ?aF ?aB ?aS ?aL ?_; (case aR => repeat (first | exact (Kd.C_below HR0.out HB.out) | (with_reducible refine Kd.C_alloc ?_ _) | (with_reducible refine Kd.C_drewN ?_ _) | (with_reducible refine Kd.C_drew ?_))); (case aB => exact zq58_0); (case aF => exact (fun _ _ => trivial)); (case aO => exact (by (with_reducible repeat (first | apply Kd.R_alloc | apply Kd.R_drewN | apply Kd.R_drew)); exact HO243.out)); (case aS => exact (below_size zq58_0)); (case aL => have := LMc3.out; omega); intro v245 w6 ho hb hg hat; rw [← Ny244.out] at ho; replace HB := Aside0.mk (hb); have HO246 := Aside0.mk (ho); clear HO243; clear ho hb hg hat))
  go_loopg [5, 6] k (fun kq v5 v6 w' => ∃ (x5_1 : List (S76)) (x6_1 : Int), v6 = .int .i64 x6_1 ∧ Aside0 (cenotaphref03_Join.l0 kq l1 x5_1 x6_1 = some r) ∧ Aside0 (kq ≤ k) ∧ Aside0 (Kd.R k76 76 w' w.heap.size (fun _ => True) v5 x5_1) ∧ Aside0 (Below w.heap.size w w'))
  case atStart => exact ⟨(y244), (0), (by first | rfl | (simp; done) | (simp [*]; done)), H', ⟨Nat.le_refl _⟩, ⟨by (with_reducible repeat (first | apply Kd.R_alloc | apply Kd.R_drewN | apply Kd.R_drew)); exact HO246.out⟩, ⟨by repeat (first | (with_reducible first | exact HB.out | apply below_alloc | apply pw_below_drewN | apply below_drew1) | exact HB.out)⟩⟩
  case round =>
   clear H'
   try clear c1
   try clear p2
   try clear c3
   try clear c5
   obtain ⟨x5_1, x6_1, rfl, HA, HK1, HO_5, HB⟩ := hrel
   cases gk with
   | zero => exact absurd HA.out (by simp [cenotaphref03_Join.l0])
   | succ k1 =>
    have H := HA.out
    clear HA
    simp only [cenotaphref03_Join.l0] at H
    by_cases c7 : x6_1 < (l1.length : Int)
    ·rw [if_pos c7] at H
     have c7b0 : decide (x6_1 < (l1.length : Int)) = true := decide_eq_true c7
     clear c7
     by_cases c8 : 0 ≤ x6_1
     ·rw [if_pos c8] at H
      have c8b0 : decide (0 ≤ x6_1) = true := decide_eq_true c8
      clear c8
      replace H := Option.bind_eq_some_iff.mp H
      obtain ⟨t249, A90, H⟩ := H
      have A9 := Aside0.mk A90
      clear A90
      obtain ⟨ji10, hji10⟩ : ∃ j_ : Int, (mx t249 ((rd_T76 l1 x6_1).f1)) = j_ := ⟨_, rfl⟩
      replace H : ((cenotaphref03_put.f k1 x5_1 ((rd_T76 l1 x6_1).f0) (ji10)).bind fun t251 => (cenotaphref03_Join.l0 k1 l1 t251 (wrap64 (x6_1 + 1)))) = some r := by first | (rw [hji10] at H; exact H) | (simp only [hji10] at H ⊢; exact H)
      (try rw [hji10] at A9)
      have hji10_ : (if t249 < ((rd_T76 l1 x6_1).f1) then ((rd_T76 l1 x6_1).f1) else t249) = ji10 := hji10
      replace H := Option.bind_eq_some_iff.mp H
      obtain ⟨t251, A110, H⟩ := H
      have A11 := Aside0.mk A110
      clear A110
      have H' := Aside0.mk H
      clear H
      try go_wp2
      replace HO_5 := Aside0.mk (Kd.R_drew HO_5.out)
      replace HB := Aside0.mk (below_drew1 HB.out)
      have p247 : 0 ≤ (x6_1 : Int) := of_decide_eq_true zq58_1
      have q247 : x6_1 < (l1.length : Int) := of_decide_eq_true zq58_1
      obtain ⟨ad247, e247, hx247_0, hx247_1⟩ := at_T76 HR1.out x6_1 p247 q247
      have hw247_1 := hx247_1
      have hw247_0 := hx247_0
      cases e247
      replace hx247_0 := (HB.out.cell (World.block_lt_of_cell? w _ hx247_0)).trans hx247_0
      replace hx247_1 := (HB.out.cell (World.block_lt_of_cell? w _ hx247_1)).trans hx247_1
      replace p247 := eq_true p247
      replace q247 := eq_true q247
      have p248 : 0 ≤ (x6_1 : Int) := of_decide_eq_true zq58_1
      have q248 : x6_1 < (l1.length : Int) := of_decide_eq_true zq58_1
      obtain ⟨ad248, e248, hx248_0, hx248_1⟩ := at_T76 HR1.out x6_1 p248 q248
      have hw248_1 := hx248_1
      have hw248_0 := hx248_0
      obtain rfl : ad247 = ad248 := (by injection e248)
      replace hx248_0 := (HB.out.cell (World.block_lt_of_cell? w _ hx248_0)).trans hx248_0
      replace hx248_1 := (HB.out.cell (World.block_lt_of_cell? w _ hx248_1)).trans hx248_1
      replace p248 := eq_true p248
      replace q248 := eq_true q248
      have p250 : 0 ≤ (x6_1 : Int) := of_decide_eq_true zq58_1
      have q250 : x6_1 < (l1.length : Int) := of_decide_eq_true zq58_1
      obtain ⟨ad250, e250, hx250_0, hx250_1⟩ := at_T76 HR1.out x6_1 p250 q250
      have hw250_1 := hx250_1
      have hw250_0 := hx250_0
      obtain rfl : ad247 = ad250 := (by injection e250)
      replace hx250_0 := (HB.out.cell (World.block_lt_of_cell? w _ hx250_0)).trans hx250_0
      replace hx250_1 := (HB.out.cell (World.block_lt_of_cell? w _ hx250_1)).trans hx250_1
      replace p250 := eq_true p250
      replace q250 := eq_true q250
      obtain ⟨Ao13, co13, eo13⟩ := Kd.R_slice HO_5.out
      (first | subst eo13 | (injection eo13 with f1_ f2_ f3_; have f4_ := f1_.symm; have f5_ := f3_.symm; clear f1_ f2_ f3_; subst f4_; subst f5_))
      refine start_ (n := 21) (S := fun w' => w'.cell? (ad247.add ((x6_1).toNat * 2)) = some (.string ((rd_T76 l1 x6_1).f0)) ∧ w'.cell? ⟨(ad247.add ((x6_1).toNat * 2)).block, (ad247.add ((x6_1).toNat * 2)).off + 1, none⟩ = some (.int .i64 ((rd_T76 l1 x6_1).f1)) ∧ w'.cell? (ad247.add ((x6_1).toNat * 2)) = some (.string ((rd_T76 l1 x6_1).f0)) ∧ w'.cell? ⟨(ad247.add ((x6_1).toNat * 2)).block, (ad247.add ((x6_1).toNat * 2)).off + 1, none⟩ = some (.int .i64 ((rd_T76 l1 x6_1).f1)) ∧ w'.cell? (ad247.add ((x6_1).toNat * 2)) = some (.string ((rd_T76 l1 x6_1).f0)) ∧ w'.cell? ⟨(ad247.add ((x6_1).toNat * 2)).block, (ad247.add ((x6_1).toNat * 2)).off + 1, none⟩ = some (.int .i64 ((rd_T76 l1 x6_1).f1))) (ds := []) #[false, false, false, false, false, false, false, false, false, false, false, false, false, false, false, false, false, false, false, false, false] (by kernel_rfl) rfl rfl ⟨((HB.out.cell (World.block_lt_of_cell? w _ hw247_0)).trans hw247_0), ((HB.out.cell (World.block_lt_of_cell? w _ hw247_1)).trans hw247_1), ((HB.out.cell (World.block_lt_of_cell? w _ hw248_0)).trans hw248_0), ((HB.out.cell (World.block_lt_of_cell? w _ hw248_1)).trans hw248_1), ((HB.out.cell (World.block_lt_of_cell? w _ hw250_0)).trans hw250_0), ((HB.out.cell (World.block_lt_of_cell? w _ hw250_1)).trans hw250_1)⟩ (fun hHeld => ?_); refine with_tabW cenotaphref03_Join.tab5 cenotaphref03_Join.bits5 (fun HT_ HW_ => ?_)
      generalize wr.drew = w12 at HO_5 HB hx247_0 hx247_1 hx248_0 hx248_1 hx250_0 hx250_1 hHeld ⊢
      refine p_ 0 16 (mk_ 21 0x1) ?_
      refine p_ 1 17 (mk_ 21 0x3) ?_
      refine p_ 2 18 (mk_ 21 0x7) ?_
      refine p_ 3 19 (mk_ 21 0xf) ?_
      refine p_ 4 20 (mk_ 21 0x1f) ?_
      refine p_ 6 22 (mk_ 21 0x5f) ?_
      refine p_ 7 23 (mk_ 21 0xdf) ?_
      refine p_ 8 24 (mk_ 21 0x1df) ?_
      refine p_ 9 25 (mk_ 21 0x3df) ?_
      refine p_ 10 26 (mk_ 21 0x7df) ?_
      refine p_ 13 29 (mk_ 21 0x27df) ?_
      refine p_ 14 30 (mk_ 21 0x67df) ?_
      refine p_ 15 31 (mk_ 21 0xe7df) ?_
      refine p_ 16 32 (mk_ 21 0x1e7df) ?_
      refine t_ 5 21 (mk_ 21 0x1e7ff) hHeld ?_
      refine t_ 11 27 (mk_ 21 0x1efff) hHeld ?_
      refine t_ 17 33 (mk_ 21 0x3efff) hHeld ?_
      refine one_ (i := 12) (N := some 28) #[true, true, true, true, true, true, true, true, true, true, true, true, true, true, true, true, true, true, false, false, false] rfl rfl (one_of HT_.out (by kernel_rfl)) (by decide) (fun K hK => ?_)
      refine goes_ Try.func63 (by kernel_rfl) rfl #[.slice Ao13 x5_1.length co13, .string ((rd_T76 l1 x6_1).f0)] (by rfl) rfl rfl (by (try simp only [List.map_toArray, List.map_cons, List.map_nil]); first | done | rfl | (simp only [List.length_drop, List.length_take]; rfl)) ?_
      with_reducible refine (cenotaphref03_Of.calls k1 _ _ x5_1 ((rd_T76 l1 x6_1).f0) t249 _ ?side1 ?side2 A9.out).mono ?_
      (case side1 => repeat (first | exact (Kd.R_reads' HO_5.out).2.2 | (with_reducible refine Kd.C_alloc ?_ _) | (with_reducible refine Kd.C_drewN ?_ _) | (with_reducible refine Kd.C_drew ?_)))
      (case side2 => exact (Kd.R_reads' HO_5.out).2.1)
      rintro e w' ⟨rfl, ⟨nd, rfl⟩⟩
      refine ⟨_, rfl, ?_⟩
      refine hK.out _ _ ⟨((HB.out.cell (World.block_lt_of_cell? w _ hw247_0)).trans hw247_0), ((HB.out.cell (World.block_lt_of_cell? w _ hw247_1)).trans hw247_1), ((HB.out.cell (World.block_lt_of_cell? w _ hw248_0)).trans hw248_0), ((HB.out.cell (World.block_lt_of_cell? w _ hw248_1)).trans hw248_1), ((HB.out.cell (World.block_lt_of_cell? w _ hw250_0)).trans hw250_0), ((HB.out.cell (World.block_lt_of_cell? w _ hw250_1)).trans hw250_1)⟩ (fun hHeld => ?_)
      clear hK K
      refine norm_ (a' := ?_) ?_ ?_
      rotate_left
      ·show Act.put _ (some 28) _ = _
       simp only [Act.put, List.setIfInBounds_toArray, List.set_cons_zero, List.set_cons_succ, i64_w, i32_w]
       rfl
      refine p_ 18 34 (mk_ 21 0x7ffff) ?_
      refine one_ (i := 19) (N := some 35) #[true, true, true, true, true, true, true, true, true, true, true, true, true, true, true, true, true, true, true, true, false] rfl rfl (one_of HT_.out (by kernel_rfl)) (by decide) (fun K hK => ?_)
      refine goes_ Try.func56 (by kernel_rfl) rfl #[.slice Ao13 x5_1.length co13, .string ((rd_T76 l1 x6_1).f0), .int .i64 ji10] (by rfl) rfl rfl (by (try simp only [List.map_toArray, List.map_cons, List.map_nil]); first | done | (simp only [hji10]; rfl) | rfl | (simp only [List.length_drop, List.length_take]; rfl)) ?_
      with_reducible refine (cenotaphref03_put.calls k1 _ _ x5_1 ((rd_T76 l1 x6_1).f0) ji10 t251 _ ?side1 ?side2 A11.out).mono ?_
      (case side1 => repeat (first | exact (Kd.R_reads' HO_5.out).2.2 | (with_reducible refine Kd.C_alloc ?_ _) | (with_reducible refine Kd.C_drewN ?_ _) | (with_reducible refine Kd.C_drew ?_)))
      (case side2 => exact (Kd.R_reads' HO_5.out).2.1)
      rintro e w14 ⟨v252, rfl, ho0, hb⟩
      refine ⟨_, rfl, ?_⟩
      have HO253 := Aside0.mk (Kd.R_lower (Kd.R_new' ho0 (Kd.R_lt (by (with_reducible repeat (first | apply Kd.R_alloc | apply Kd.R_drewN | apply Kd.R_drew)); exact HO_5.out))) (below_size zq58_0))
      replace HO_5 := Aside0.mk (Kd.R_elder' (by (with_reducible repeat (first | apply Kd.R_alloc | apply Kd.R_drewN | apply Kd.R_drew)); exact HO_5.out) (Kd.R_base ho0) hb)
      replace HB := Aside0.mk (below_step zq58_0 hb)
      (try clear hb)
      (try clear hb2)
      (try clear hk)
      (try clear hi)
      (try clear ho0)
      refine hK.out _ _ ⟨((HB.out.cell (World.block_lt_of_cell? w _ hw247_0)).trans hw247_0), ((HB.out.cell (World.block_lt_of_cell? w _ hw247_1)).trans hw247_1), ((HB.out.cell (World.block_lt_of_cell? w _ hw248_0)).trans hw248_0), ((HB.out.cell (World.block_lt_of_cell? w _ hw248_1)).trans hw248_1), ((HB.out.cell (World.block_lt_of_cell? w _ hw250_0)).trans hw250_0), ((HB.out.cell (World.block_lt_of_cell? w _ hw250_1)).trans hw250_1)⟩ (fun hHeld => ?_)
      clear hK K
      refine norm_ (a' := ?_) ?_ ?_
      rotate_left
      ·show Act.put _ (some 35) _ = _
       simp only [Act.put, List.setIfInBounds_toArray, List.set_cons_zero, List.set_cons_succ, i64_w, i32_w]
       rfl
      refine p_ 20 5 (mk_ 21 0x1fffff) ?_
      refine done_ (done_of HT_.out (by kernel_rfl)) ?_
      try go_wp2
      go_roundg k1
      case measure => have := HK1.out; omega
      case rel => exact ⟨(t251), (wrap64 (x6_1 + 1)), (by first | rfl | (simp; done) | (simp [*]; done)), H', ⟨by have := HK1.out; omega⟩, ⟨by (with_reducible repeat (first | apply Kd.R_alloc | apply Kd.R_drewN | apply Kd.R_drew)); exact Kd.R_mono HO253.out (fun _ hk => trivial)⟩, ⟨by repeat (first | (with_reducible first | exact HB.out | apply below_alloc | apply pw_below_drewN | apply below_drew1) | exact HB.out)⟩⟩
     ·rw [if_neg c8] at H
      exact absurd H (by simp)
    ·rw [if_neg c7] at H
     have c7b0 : decide (x6_1 < (l1.length : Int)) = false := decide_eq_false c7
     clear c7
     obtain rfl := Option.some.inj H
     go_wp2
     go_ret
     exact ⟨_, by first | rfl | (simp [errW_none, errW_some] <;> rfl) | (simp [*, errW_none, errW_some] <;> rfl), by (with_reducible repeat (first | apply Kd.R_alloc | apply Kd.R_drewN | apply Kd.R_drew)); exact HO_5.out, by repeat (first | (with_reducible first | exact HB.out | apply below_alloc | apply pw_below_drewN | apply below_drew1) | exact HB.out)⟩
 ·rw [if_neg c3] at H
  exact absurd H (by simp)

end Go.Proofs.Ytoodahceejdbcaa.P
