-- Written by a program of this session (wip/pp.py over the kit's printer, with our own texts put in).
import Derived.Test.YtoodahceejdbcaaP0
import Derived.Test.YtoodahceejdbcaaP3
import Derived.Test.YtoodahceejdbcaaP4
import Derived.Test.YtoodahceejdbcaaP5
import Derived.Test.YtoodahceejdbcaaP7
import Derived.Test.YtoodahceejdbcaaP8
import Derived.Test.YtoodahceejdbcaaP9
namespace Go.Proofs.Ytoodahceejdbcaa.P
open Go.RowKit Go.Proofs.YtoodahceejdbcaaW.PrintWords Go.Proofs.YtoodahceejdbcaaW.PrintLast Go.Proofs.YtoodahceejdbcaaW.PrintMore
attribute [local go_sem] max2_int min2_int max_two min_two max_three min_three max_four min_four   -- for this text's walks alone
set_option linter.unusedVariables false
set_option linter.unusedSimpArgs false

/-! ### cenotaphref01_Has: function 42 -/
def cenotaphref01_Has.l0 : Nat → List ByteArray → ByteArray → Int → Option (Bool)
  | 0, _, _, _ => none
  | k + 1, x0, x1, x5 => if x5 < (x0.length : Int) then (if 0 ≤ x5 then (if (rdOf ByteArray.empty x0 x5).toList = x1.toList then (some true) else (cenotaphref01_Has.l0 k x0 x1 (wrap64 (x5 + 1)))) else (none)) else (some false)
def cenotaphref01_Has.f (k : Nat) (l0 : List ByteArray) (a1 : ByteArray) : Option (Bool) := cenotaphref01_Has.l0 k l0 a1 0
theorem cenotaphref01_Has.mono_l : ∀ k, (∀ y0 y1 y2, LeO (cenotaphref01_Has.l0 k y0 y1 y2) (cenotaphref01_Has.l0 (k + 1) y0 y1 y2))
  | 0 => fun _ _ _ r h => by simp [cenotaphref01_Has.l0] at h
  | k + 1 => by
    have ih0 := cenotaphref01_Has.mono_l k
    · intro y0 y1 y2
      unfold cenotaphref01_Has.l0
      repeat' first
      | (with_reducible exact ih0 _ _ _)
      | (with_reducible exact LeO.refl _)
      | (with_reducible exact LeO.none _)
      | (with_reducible refine LeO.ite ?_ ?_)
      | (with_reducible refine LeO.bind ?_ (fun _ => ?_))
      | exact ih0 _ _ _
      | exact LeO.none _
      | refine LeO.ite ?_ ?_
      | refine LeO.bind ?_ (fun _ => ?_)
theorem cenotaphref01_Has.mono : ∀ a0 a1 k, LeO (cenotaphref01_Has.f k a0 a1) (cenotaphref01_Has.f (k + 1) a0 a1) := by
  intro a0 a1 k
  have ih0 := cenotaphref01_Has.mono_l k
  unfold cenotaphref01_Has.f
  repeat' first
      | (with_reducible exact ih0 _ _ _)
      | (with_reducible exact LeO.refl _)
      | (with_reducible exact LeO.none _)
      | (with_reducible refine LeO.ite ?_ ?_)
      | (with_reducible refine LeO.bind ?_ (fun _ => ?_))
      | exact ih0 _ _ _
      | exact LeO.none _
      | refine LeO.ite ?_ ?_
      | refine LeO.bind ?_ (fun _ => ?_)
set_option maxHeartbeats 8000000 in
set_option maxRecDepth 100000 in
theorem cenotaphref01_Has.calls (k : Nat) (A0 : Option Addr) (c0 : Nat) (l0 : List ByteArray) (a1 : ByteArray) (r : Bool) (w : World) (hr0 : Kd.C Kd.string w A0 l0.length l0) (hc0 : l0.length ≤ c0) (h : cenotaphref01_Has.f k l0 a1 = some r) :
    Calls Try.prog 42 #[.slice A0 l0.length c0, .string a1] w fun e w' => e = .returned (.bool r) ∧ Drawn0 w w' := by
  have HR0 := Aside0.mk hr0
  have HC0 := Aside0.mk hc0
  clear hr0 hc0
  have H : (cenotaphref01_Has.l0 k l0 a1 0) = some r := h
  clear h
  have H' := Aside0.mk H
  clear H
  go_enter Try.func42, Try.ntmps42
  go_wp2
  go_loopg [5] k (fun kq v5 w' => ∃ (x5_1 : Int), v5 = .int .i64 x5_1 ∧ Aside0 (cenotaphref01_Has.l0 kq l0 a1 x5_1 = some r) ∧ Aside0 (kq ≤ k) ∧ Drawn0 w w')
  case atStart => exact ⟨(0), (by first | rfl | (simp; done) | (simp [*]; done)), H', ⟨Nat.le_refl _⟩, by repeat (first | exact Drawn0.refl _ | apply Drawn0.step)⟩
  case round =>
    clear H'
    try clear p2
    obtain ⟨x5_1, rfl, HA, HK1, ⟨m1, rfl⟩⟩ := hrel
    cases gk with
    | zero => exact absurd HA.out (by simp [cenotaphref01_Has.l0])
    | succ k1 =>
      have H := HA.out
      clear HA
      simp only [cenotaphref01_Has.l0] at H
      by_cases c3 : x5_1 < (l0.length : Int)
      · rw [if_pos c3] at H
        have c3b0 : decide (x5_1 < (l0.length : Int)) = true := decide_eq_true c3
        clear c3
        by_cases c4 : 0 ≤ x5_1
        · rw [if_pos c4] at H
          have c4b0 : decide (0 ≤ x5_1) = true := decide_eq_true c4
          clear c4
          by_cases c5 : (rdOf ByteArray.empty l0 x5_1).toList = a1.toList
          · rw [if_pos c5] at H
            have c5b0 : ((rdOf ByteArray.empty l0 x5_1).toList == a1.toList) = true := beq_iff_eq.mpr c5
            have c5b1 : ((rdOf ByteArray.empty l0 x5_1).toList != a1.toList) = false := bne_eq_false_iff_eq.mpr c5
            clear c5
            obtain rfl := Option.some.inj H
            have p263 : 0 ≤ (x5_1 : Int) := of_decide_eq_true (by first | (with_reducible assumption) | assumption)
            have q263 : x5_1 < (l0.length : Int) := of_decide_eq_true (by first | (with_reducible assumption) | assumption)
            obtain ⟨ad263, e263, hx263_0⟩ := Kd.at_string HR0.out x5_1 p263 q263
            cases e263
            replace p263 := eq_true p263
            replace q263 := eq_true q263
            go_wp2
            go_ret
            exact ⟨by first | rfl | (simp; done) | (simp [*]; done), by repeat (first | exact Drawn0.refl _ | apply Drawn0.step)⟩
          · rw [if_neg c5] at H
            have c5b0 : ((rdOf ByteArray.empty l0 x5_1).toList == a1.toList) = false := beq_eq_false_iff_ne.mpr c5
            have c5b1 : ((rdOf ByteArray.empty l0 x5_1).toList != a1.toList) = true := bne_iff_ne.mpr c5
            have H' := Aside0.mk H
            clear H
            have p263 : 0 ≤ (x5_1 : Int) := of_decide_eq_true (by first | (with_reducible assumption) | assumption)
            have q263 : x5_1 < (l0.length : Int) := of_decide_eq_true (by first | (with_reducible assumption) | assumption)
            obtain ⟨ad263, e263, hx263_0⟩ := Kd.at_string HR0.out x5_1 p263 q263
            cases e263
            replace p263 := eq_true p263
            replace q263 := eq_true q263
            go_wp2
            go_roundg k1
            case measure => have := HK1.out; omega
            case rel => exact ⟨(wrap64 (x5_1 + 1)), (by first | rfl | (simp; done) | (simp [*]; done)), H', ⟨by have := HK1.out; omega⟩, by repeat (first | exact Drawn0.refl _ | apply Drawn0.step)⟩
        · rw [if_neg c4] at H
          exact absurd H (by simp)
      · rw [if_neg c3] at H
        have c3b0 : decide (x5_1 < (l0.length : Int)) = false := decide_eq_false c3
        clear c3
        obtain rfl := Option.some.inj H
        go_wp2
        go_ret
        exact ⟨by first | rfl | (simp; done) | (simp [*]; done), by repeat (first | exact Drawn0.refl _ | apply Drawn0.step)⟩

/-! ### cenotaphref01_Union: function 13 -/
theorem zq13_0 {p_ : Prop} (h_ : p_ := by repeat (first | (with_reducible first | exact HB.out | apply below_alloc | apply pw_below_drewN | apply below_drew1) | exact HB.out)) : p_ := h_
theorem zq13_1 {p_ : Prop} (h_ : p_ := by first | (with_reducible assumption) | assumption) : p_ := h_
theorem zq13_2 {p_ : Prop} (h_ : p_ := by first | rfl | (simp; done) | (simp [*]; done)) : p_ := h_
mutual
def cenotaphref01_Union.l0 : Nat → List ByteArray → List ByteArray → Int → Option (List ByteArray)
 | 0, _, _, _ => none
 | k + 1, x5, x6, x7 => if x7 < (x6.length : Int) then (if 0 ≤ x7 then ((cenotaphref01_Has.f k x5 (rdOf ByteArray.empty x6 x7)).bind fun t274 => (if t274 = true then (cenotaphref01_Union.l0 k x5 x6 (wrap64 (x7 + 1))) else (if x5.length < 8796093022208 then ((some (x5 ++ [rdOf ByteArray.empty x6 x7] : List ByteArray)).bind fun y276 => (cenotaphref01_Union.l1 k y276 x6 x7 (wrap64 ((y276.length : Int) - 1)))) else (none)))) else (none)) else (some x5)
def cenotaphref01_Union.l1 : Nat → List ByteArray → List ByteArray → Int → Int → Option (List ByteArray)
 | 0, _, _, _, _ => none
 | k + 1, x5, x6, x7, x8 => if x8 > 0 then (if 0 ≤ (wrap64 (x8 - 1)) then (if (wrap64 (x8 - 1)) < (x5.length : Int) then (if 0 ≤ x8 then (if x8 < (x5.length : Int) then ((cenotaphref01_Compare.f k (rdOf ByteArray.empty x5 (wrap64 (x8 - 1))) (rdOf ByteArray.empty x5 x8)).bind fun t281 => (if t281 > 0 then (cenotaphref01_Union.l1 k ((x5.set ((wrap64 (x8 - 1)) : Int).toNat (rdOf ByteArray.empty x5 x8)).set (x8 : Int).toNat (rdOf ByteArray.empty x5 (wrap64 (x8 - 1)))) x6 x7 (wrap64 (x8 - 1))) else (cenotaphref01_Union.l0 k x5 x6 (wrap64 (x7 + 1))))) else (none)) else (none)) else (none)) else (none)) else (cenotaphref01_Union.l0 k x5 x6 (wrap64 (x7 + 1)))
end
def cenotaphref01_Union.f (k : Nat) (l0 : List ByteArray) (l1 : List ByteArray) : Option (List ByteArray) := (some (([] : List ByteArray) : List ByteArray)).bind fun y264 => (if y264.length + l0.length < 8796093022208 then ((some (y264 ++ l0 : List ByteArray)).bind fun y267 => (if y267.length + l1.length < 8796093022208 then (cenotaphref01_Union.l0 k ([] : List ByteArray) (y267 ++ l1) 0) else (none))) else (none))
theorem cenotaphref01_Union.mono_l : ∀ k, (∀ y0 y1 y2, LeO (cenotaphref01_Union.l0 k y0 y1 y2) (cenotaphref01_Union.l0 (k + 1) y0 y1 y2)) ∧ (∀ y0 y1 y2 y3, LeO (cenotaphref01_Union.l1 k y0 y1 y2 y3) (cenotaphref01_Union.l1 (k + 1) y0 y1 y2 y3))
 | 0 => ⟨fun _ _ _ r h => by simp [cenotaphref01_Union.l0] at h, fun _ _ _ _ r h => by simp [cenotaphref01_Union.l1] at h⟩
 | k + 1 => by
  obtain ⟨ih0, ih1⟩ := cenotaphref01_Union.mono_l k
  refine ⟨?_, ?_⟩
  ·intro y0 y1 y2
   unfold cenotaphref01_Union.l0
   repeat' first
   | (with_reducible exact ih0 _ _ _)
   | (with_reducible exact ih1 _ _ _ _)
   | (with_reducible exact cenotaphref01_Compare.mono _ _ _)
   | (with_reducible exact cenotaphref01_Has.mono _ _ _)
   | (with_reducible exact LeO.refl _)
   | (with_reducible exact LeO.none _)
   | (with_reducible refine LeO.ite ?_ ?_)
   | (with_reducible refine LeO.bind ?_ (fun _ => ?_))
   | exact ih0 _ _ _
   | exact ih1 _ _ _ _
   | exact cenotaphref01_Compare.mono _ _ _
   | exact cenotaphref01_Has.mono _ _ _
   | exact LeO.none _
   | refine LeO.ite ?_ ?_
   | refine LeO.bind ?_ (fun _ => ?_)
  ·intro y0 y1 y2 y3
   unfold cenotaphref01_Union.l1
   repeat' first
   | (with_reducible exact ih0 _ _ _)
   | (with_reducible exact ih1 _ _ _ _)
   | (with_reducible exact cenotaphref01_Compare.mono _ _ _)
   | (with_reducible exact cenotaphref01_Has.mono _ _ _)
   | (with_reducible exact LeO.refl _)
   | (with_reducible exact LeO.none _)
   | (with_reducible refine LeO.ite ?_ ?_)
   | (with_reducible refine LeO.bind ?_ (fun _ => ?_))
   | exact ih0 _ _ _
   | exact ih1 _ _ _ _
   | exact cenotaphref01_Compare.mono _ _ _
   | exact cenotaphref01_Has.mono _ _ _
   | exact LeO.none _
   | refine LeO.ite ?_ ?_
   | refine LeO.bind ?_ (fun _ => ?_)
theorem cenotaphref01_Union.mono : ∀ a0 a1 k, LeO (cenotaphref01_Union.f k a0 a1) (cenotaphref01_Union.f (k + 1) a0 a1) := by
 intro a0 a1 k
 obtain ⟨ih0, ih1⟩ := cenotaphref01_Union.mono_l k
 unfold cenotaphref01_Union.f
 repeat' first
   | (with_reducible exact ih0 _ _ _)
   | (with_reducible exact ih1 _ _ _ _)
   | (with_reducible exact cenotaphref01_Compare.mono _ _ _)
   | (with_reducible exact cenotaphref01_Has.mono _ _ _)
   | (with_reducible exact LeO.refl _)
   | (with_reducible exact LeO.none _)
   | (with_reducible refine LeO.ite ?_ ?_)
   | (with_reducible refine LeO.bind ?_ (fun _ => ?_))
   | exact ih0 _ _ _
   | exact ih1 _ _ _ _
   | exact cenotaphref01_Compare.mono _ _ _
   | exact cenotaphref01_Has.mono _ _ _
   | exact LeO.none _
   | refine LeO.ite ?_ ?_
   | refine LeO.bind ?_ (fun _ => ?_)
def cenotaphref01_Union.T9 : Bool × List (List Nat × List Nat) := (true, [([], []), ([0], [0]), ([1], [1]), ([2], [2]), ([2], [2]), ([4, 2], [2, 4]), ([3, 5, 2], [2, 3, 5]), ([6, 2], [2, 6]), ([2], [2]), ([2], [2]), ([8, 9, 2], [2, 8, 9]), ([10, 2], [2, 10]), ([7, 11, 2, 2], [2, 7, 11]), ([12, 2], [2, 12]), ([2, 13], [2, 13])])
def cenotaphref01_Union.B9 : List Nat := [0, 1, 3, 7, 7, 23, 63, 127, 7, 7, 775, 1799, 4095, 8191, 16383]
theorem cenotaphref01_Union.tab9 : rtab .any (opsOf Try.f13 9) = cenotaphref01_Union.T9 := by kernel_rfl
theorem cenotaphref01_Union.bits9 : waitsOk cenotaphref01_Union.T9.2 cenotaphref01_Union.B9 = true := by kernel_rfl
def cenotaphref01_Union.T11 : Bool × List (List Nat × List Nat) := (true, [([], []), ([], []), ([1], [1]), ([], []), ([], []), ([], []), ([], []), ([5, 6], [5, 6]), ([7], [7]), ([], []), ([], []), ([10], [10]), ([9, 11], [9, 11]), ([12], [12]), ([0, 2, 0, 1, 2, 5, 6, 7, 8, 13], [0, 2]), ([14, 8, 0, 1, 2, 5, 6, 7, 8, 13], [8, 14]), ([3, 4, 0, 1, 2, 3, 4, 5, 6, 7, 8, 9, 10, 11, 12, 13, 14, 15], [3, 4]), ([16, 13, 15, 0, 1, 2, 3, 4, 5, 6, 7, 8, 9, 10, 11, 12, 13, 14, 15], [13, 16])])
def cenotaphref01_Union.B11 : List Nat := [0, 0, 2, 0, 0, 0, 0, 96, 224, 0, 0, 1024, 3584, 7680, 16359, 32743, 65535, 131071]
theorem cenotaphref01_Union.tab11 : rtab .any (opsOf Try.f13 11) = cenotaphref01_Union.T11 := by kernel_rfl
theorem cenotaphref01_Union.bits11 : waitsOk cenotaphref01_Union.T11.2 cenotaphref01_Union.B11 = true := by kernel_rfl
set_option maxHeartbeats 8000000 in
set_option maxRecDepth 100000 in
theorem cenotaphref01_Union.calls (k : Nat) (A0 : Option Addr) (c0 : Nat) (l0 : List ByteArray) (A1 : Option Addr) (c1 : Nat) (l1 : List ByteArray) (r : List ByteArray) (w : World) (hr0 : Kd.C Kd.string w A0 l0.length l0) (hc0 : l0.length ≤ c0) (hr1 : Kd.C Kd.string w A1 l1.length l1) (hc1 : l1.length ≤ c1) (h : cenotaphref01_Union.f k l0 l1 = some r) :
  Calls Try.prog 13 #[.slice A0 l0.length c0, .slice A1 l1.length c1] w fun e w' => ∃ v0_ : Value, e = .returned (v0_) ∧ Kd.R Kd.string 9 w' w.heap.size (fun _ => True) v0_ r ∧ Below w.heap.size w w' := by
 have HR0 := Aside0.mk hr0
 have HC0 := Aside0.mk hc0
 clear hr0 hc0
 have HR1 := Aside0.mk hr1
 have HC1 := Aside0.mk hc1
 clear hr1 hc1
 have HB := Aside0.mk (Below.refl w.heap.size w)
 have H := h
 unfold cenotaphref01_Union.f at H
 clear h
 obtain ⟨y264, hy264⟩ : ∃ y_ : List ByteArray, y_ = (([] : List ByteArray)) := ⟨_, rfl⟩
 replace H : (if y264.length + l0.length < 8796093022208 then ((some (y264 ++ l0 : List ByteArray)).bind fun y267 => (if y267.length + l1.length < 8796093022208 then (cenotaphref01_Union.l0 k ([] : List ByteArray) (y267 ++ l1) 0) else (none))) else (none)) = some r := by first | (rw [hy264]; with_reducible exact H) | (have H2_ := (Option.bind_some _ _).symm.trans H; rw [hy264]; with_reducible exact H2_) | (have H2_ := (Option.bind_some _ _).symm.trans H; with_reducible exact H2_) | with_reducible exact H | (rw [hy264]; exact H) | exact H
 have Ny264 := Aside0.mk hy264
 clear hy264
 by_cases c3 : y264.length + l0.length < 8796093022208
 ·rw [if_pos c3] at H
  have LMc3 := Aside0.mk c3
  clear c3
  obtain ⟨y267, hy267⟩ : ∃ y_ : List ByteArray, y_ = (y264 ++ l0) := ⟨_, rfl⟩
  replace H : (if y267.length + l1.length < 8796093022208 then (cenotaphref01_Union.l0 k ([] : List ByteArray) (y267 ++ l1) 0) else (none)) = some r := by first | (rw [hy267]; with_reducible exact H) | (have H2_ := (Option.bind_some _ _).symm.trans H; rw [hy267]; with_reducible exact H2_) | (have H2_ := (Option.bind_some _ _).symm.trans H; with_reducible exact H2_) | with_reducible exact H | (rw [hy267]; exact H) | exact H
  have Ny267 := Aside0.mk hy267
  clear hy267
  by_cases c4 : y267.length + l1.length < 8796093022208
  ·rw [if_pos c4] at H
   have LMc4 := Aside0.mk c4
   clear c4
   obtain ⟨y270, hy270⟩ : ∃ y_ : List ByteArray, y_ = (y267 ++ l1) := ⟨_, rfl⟩
   replace H : (cenotaphref01_Union.l0 k ([] : List ByteArray) y270 0) = some r := by first | (rw [hy270]; with_reducible exact H) | (have H2_ := (Option.bind_some _ _).symm.trans H; rw [hy270]; with_reducible exact H2_) | (have H2_ := (Option.bind_some _ _).symm.trans H; with_reducible exact H2_) | with_reducible exact H | (rw [hy270]; exact H) | exact H
   have Ny270 := Aside0.mk hy270
   clear hy270
   have H' := Aside0.mk H
   clear H
   go_enter Try.func13, Try.ntmps13
   go_wp2_with (first | ((with_reducible refine gate_dst (N := 9) rfl ?_); refine Kd.R_lit Kd.string _ 9 ?hg (N := 9) ?hd (xs := ([] : List ByteArray)) (inner := []) (ok := fun _ => True) (okp := fun _ => True) ?hr ?hp (fun _ hk => hk) trivial (Below.refl _ _) (Nat.le_refl _) (by simp) ?_; (case hd => rfl); (case hg => rfl); (case hr => first | (go_simp; done) | (go_simp; rfl)); (case hp => exact (Reps.none _ _)); intro v265 w5 ho6 hb hg_ hnew_; clear hg_ hnew_; (first | rw [← Ny264.out] at ho6 | (simp only [Int.reduceToNat] at ho6; rw [← Ny264.out] at ho6)); have HO266 := Aside0.mk (Kd.R_lower ho6 (below_size zq13_0)); replace HB := Aside0.mk (below_step zq13_0 hb); clear hb ho6) | ((with_reducible refine gate_builtin (b := .append) (xs := #[.tmp 9, .tmp 10]) rfl ?_); at_builtin; refine Kd.R_append_rows Kd.string (w0 := w) w.heap.size rfl (.tmp 9) (.tmp 10) 32 9 (.string ⟨#[]⟩) 16 rfl Try.underlying32 info9 rfl (by decide) (by omega) v265 y264 l0 _ _ _ (fun _ => True) (fun _ => False) rfl rfl ?aO ?aR (fun _ _ h => h) (fun _ h => h.elim) ?aF ?aB ?aS ?aL ?_; (case aR => repeat (first | exact (Kd.C_below HR0.out HB.out) | (with_reducible refine Kd.C_alloc ?_ _) | (with_reducible refine Kd.C_drewN ?_ _) | (with_reducible refine Kd.C_drew ?_))); (case aB => exact zq13_0); (case aF => exact (fun _ _ => trivial)); (case aO => exact (by (with_reducible repeat (first | apply Kd.R_alloc | apply Kd.R_drewN | apply Kd.R_drew)); exact HO266.out)); (case aS => exact (below_size zq13_0)); (case aL => have := LMc3.out; omega); intro v268 w7 ho hb hg hat; rw [← Ny267.out] at ho; replace HB := Aside0.mk (hb); have HO269 := Aside0.mk (ho); clear HO266; clear ho hb hg hat) | ((with_reducible refine gate_builtin (b := .append) (xs := #[.tmp 11, .tmp 12]) rfl ?_); at_builtin; refine Kd.R_append_rows Kd.string (w0 := w) w.heap.size rfl (.tmp 11) (.tmp 12) 32 9 (.string ⟨#[]⟩) 16 rfl Try.underlying32 info9 rfl (by decide) (by omega) v268 y267 l1 _ _ _ (fun _ => True) (fun _ => False) rfl rfl ?aO ?aR (fun _ _ h => h) (fun _ h => h.elim) ?aF ?aB ?aS ?aL ?_; (case aR => repeat (first | exact (Kd.C_below HR1.out HB.out) | (with_reducible refine Kd.C_alloc ?_ _) | (with_reducible refine Kd.C_drewN ?_ _) | (with_reducible refine Kd.C_drew ?_))); (case aB => exact zq13_0); (case aF => exact (fun _ _ => trivial)); (case aO => exact (by (with_reducible repeat (first | apply Kd.R_alloc | apply Kd.R_drewN | apply Kd.R_drew)); exact HO269.out)); (case aS => exact (below_size zq13_0)); (case aL => have := LMc4.out; omega); intro v271 w8 ho hb hg hat; rw [← Ny270.out] at ho; replace HB := Aside0.mk (hb); have HO272 := Aside0.mk (ho); clear HO269; clear ho hb hg hat))
   go_loopg [5, 7] k (fun kq v5 v7 w' => ∃ (x5_1 : List ByteArray) (x6_1 : List ByteArray) (x7_1 : Int), v7 = .int .i64 x7_1 ∧ Aside0 (cenotaphref01_Union.l0 kq x5_1 x6_1 x7_1 = some r) ∧ Aside0 (kq ≤ k) ∧ Aside0 (Kd.R Kd.string 9 w' w.heap.size (fun k_ => some k_ ≠ (v271 : Value).ownBlock) v5 x5_1) ∧ Aside0 (Kd.R Kd.string 9 w' w.heap.size (fun k_ => some k_ ≠ (v5 : Value).ownBlock) v271 x6_1) ∧ Aside0 (Below w.heap.size w w'))
   case atStart => exact ⟨(([] : List ByteArray)), (y270), (0), zq13_2, H', ⟨Nat.le_refl _⟩, ⟨by first | exact Kd.R_nil _ _ _ _ _ | exact Kd.N_nil _ _ _ _ _ | exact Kd.V_nil _ _ _ _ _ | exact Kd.Q_nil _ _ _ _ _ | exact Kd.S_nil _ _ _ _ _⟩, ⟨by (with_reducible repeat (first | apply Kd.R_alloc | apply Kd.R_drewN | apply Kd.R_drew)); exact Kd.R_mono HO272.out (fun _ hk => (by simp [Value.ownBlock]))⟩, ⟨by repeat (first | (with_reducible first | exact HB.out | apply below_alloc | apply pw_below_drewN | apply below_drew1) | exact HB.out)⟩⟩
   case round =>
    clear H'
    try clear c1
    try clear p2
    try clear c3
    try clear c4
    obtain ⟨x5_1, x6_1, x7_1, rfl, HA, HK1, HO_5, HO_6, HB⟩ := hrel
    cases gk with
    | zero => exact absurd HA.out (by simp [cenotaphref01_Union.l0])
    | succ k1 =>
     have H := HA.out
     clear HA
     simp only [cenotaphref01_Union.l0] at H
     by_cases c9 : x7_1 < (x6_1.length : Int)
     ·rw [if_pos c9] at H
      have c9b0 : decide (x7_1 < (x6_1.length : Int)) = true := decide_eq_true c9
      clear c9
      by_cases c10 : 0 ≤ x7_1
      ·rw [if_pos c10] at H
       have c10b0 : decide (0 ≤ x7_1) = true := decide_eq_true c10
       clear c10
       replace H := Option.bind_eq_some_iff.mp H
       obtain ⟨t274, A110, H⟩ := H
       have A11 := Aside0.mk A110
       clear A110
       by_cases c12 : t274 = true
       ·subst c12
        have H1 : (cenotaphref01_Union.l0 k1 x5_1 x6_1 (wrap64 (x7_1 + 1))) = some r := by rw [if_pos rfl] at H; exact H
        clear H
        have H := H1
        clear H1
        have H' := Aside0.mk H
        clear H
        obtain ⟨Ao13, co13, eo13⟩ := Kd.R_slice HO_6.out
        subst eo13
        have p273 : 0 ≤ (x7_1 : Int) := of_decide_eq_true zq13_1
        have q273 : x7_1 < (x6_1.length : Int) := of_decide_eq_true zq13_1
        obtain ⟨ad273, e273, hx273_0⟩ := Kd.at_string (Kd.R_reads' HO_6.out).2.2 x7_1 p273 q273
        cases e273
        replace p273 := eq_true p273
        replace q273 := eq_true q273
        obtain ⟨Ao14, co14, eo14⟩ := Kd.R_slice HO_5.out
        subst eo14
        go_wp2_with (first | ((with_reducible refine gate_callee (f := 42) rfl ?_); refine goesL_ (some 25) rfl rfl Try.func42 (by kernel_rfl) rfl #[.slice Ao14 x5_1.length co14, .string (rdOf ByteArray.empty x6_1 x7_1)] rfl (by (try simp only [List.map_toArray, List.map_cons, List.map_nil]); first | done | rfl | (simp only [List.length_drop, List.length_take]; rfl)) ?_; (with_reducible refine (cenotaphref01_Has.calls k1 _ _ x5_1 (rdOf ByteArray.empty x6_1 x7_1) true _ ?side1 ?side2 A11.out).mono ?_); (case side1 => repeat (first | exact (Kd.R_reads' HO_5.out).2.2 | (with_reducible refine Kd.C_alloc ?_ _) | (with_reducible refine Kd.C_drewN ?_ _) | (with_reducible refine Kd.C_drew ?_))); (case side2 => exact (Kd.R_reads' HO_5.out).2.1); rintro e w' ⟨rfl, ⟨nd, rfl⟩⟩; refine ⟨_, rfl, ?_⟩))
        go_roundg k1
        case measure => have := HK1.out; omega
        case rel => exact ⟨(x5_1), (x6_1), (wrap64 (x7_1 + 1)), zq13_2, H', ⟨by have := HK1.out; omega⟩, ⟨by (with_reducible repeat (first | apply Kd.R_alloc | apply Kd.R_drewN | apply Kd.R_drew)); exact HO_5.out⟩, ⟨by (with_reducible repeat (first | apply Kd.R_alloc | apply Kd.R_drewN | apply Kd.R_drew)); exact HO_6.out⟩, ⟨by repeat (first | (with_reducible first | exact HB.out | apply below_alloc | apply pw_below_drewN | apply below_drew1) | exact HB.out)⟩⟩
       ·replace c12 := Bool.eq_false_iff.mpr c12
        subst c12
        have H1 : (if x5_1.length < 8796093022208 then ((some (x5_1 ++ [rdOf ByteArray.empty x6_1 x7_1] : List ByteArray)).bind fun y276 => (cenotaphref01_Union.l1 k1 y276 x6_1 x7_1 (wrap64 ((y276.length : Int) - 1)))) else (none)) = some r := by rw [if_neg (show ¬ (false = true) by decide)] at H; exact H
        clear H
        have H := H1
        clear H1
        by_cases c15 : x5_1.length < 8796093022208
        ·rw [if_pos c15] at H
         have LMc15 := Aside0.mk c15
         clear c15
         obtain ⟨y276, hy276⟩ : ∃ y_ : List ByteArray, y_ = (x5_1 ++ [rdOf ByteArray.empty x6_1 x7_1]) := ⟨_, rfl⟩
         replace H : (cenotaphref01_Union.l1 k1 y276 x6_1 x7_1 (wrap64 ((y276.length : Int) - 1))) = some r := by first | (rw [hy276]; with_reducible exact H) | (have H2_ := (Option.bind_some _ _).symm.trans H; rw [hy276]; with_reducible exact H2_) | (have H2_ := (Option.bind_some _ _).symm.trans H; with_reducible exact H2_) | with_reducible exact H | (rw [hy276]; exact H) | exact H
         have Ny276 := Aside0.mk hy276
         clear hy276
         have H' := Aside0.mk H
         clear H
         obtain ⟨Ao16, co16, eo16⟩ := Kd.R_slice HO_6.out
         subst eo16
         have p273 : 0 ≤ (x7_1 : Int) := of_decide_eq_true zq13_1
         have q273 : x7_1 < (x6_1.length : Int) := of_decide_eq_true zq13_1
         obtain ⟨ad273, e273, hx273_0⟩ := Kd.at_string (Kd.R_reads' HO_6.out).2.2 x7_1 p273 q273
         cases e273
         replace p273 := eq_true p273
         replace q273 := eq_true q273
         obtain ⟨Ao17, co17, eo17⟩ := Kd.R_slice HO_5.out
         subst eo17
         go_wp2_with (first | ((with_reducible refine gate_callee (f := 42) rfl ?_); refine goesL_ (some 25) rfl rfl Try.func42 (by kernel_rfl) rfl #[.slice Ao17 x5_1.length co17, .string (rdOf ByteArray.empty x6_1 x7_1)] rfl (by (try simp only [List.map_toArray, List.map_cons, List.map_nil]); first | done | rfl | (simp only [List.length_drop, List.length_take]; rfl)) ?_; (with_reducible refine (cenotaphref01_Has.calls k1 _ _ x5_1 (rdOf ByteArray.empty x6_1 x7_1) false _ ?side1 ?side2 A11.out).mono ?_); (case side1 => repeat (first | exact (Kd.R_reads' HO_5.out).2.2 | (with_reducible refine Kd.C_alloc ?_ _) | (with_reducible refine Kd.C_drewN ?_ _) | (with_reducible refine Kd.C_drew ?_))); (case side2 => exact (Kd.R_reads' HO_5.out).2.1); rintro e w' ⟨rfl, ⟨nd, rfl⟩⟩; refine ⟨_, rfl, ?_⟩; have p275 : 0 ≤ (x7_1 : Int) := of_decide_eq_true zq13_1; have q275 : x7_1 < (x6_1.length : Int) := of_decide_eq_true zq13_1; obtain ⟨ad275, e275, hx275_0⟩ := Kd.at_string (Kd.R_reads' HO_6.out).2.2 x7_1 p275 q275; obtain rfl : ad273 = ad275 := (by injection e275); replace p275 := eq_true p275; replace q275 := eq_true q275) | ((with_reducible refine gate_builtin (b := .append) (xs := #[.tmp 26, .tmp 31]) rfl ?_); at_builtin; refine Kd.R_append Kd.string (w0 := w) w.heap.size rfl (.tmp 26) (.tmp 31) 32 9 (.string ⟨#[]⟩) 16 rfl Try.underlying32 info9 rfl (by decide) (by omega) (.slice Ao17 x5_1.length co17) x5_1 (rdOf ByteArray.empty x6_1 x7_1) [.string (rdOf ByteArray.empty x6_1 x7_1)] (fun k_ => some k_ ≠ (.slice (some ad273) x6_1.length co16 : Value).ownBlock) (fun _ => False) rfl rfl ?aP (fun _ hk => hk.elim) ?aF ?aO ?aB ?aS ?aL ?_; (case aP => exact rfl); (case aB => exact zq13_0); (case aF => exact (fun k_ hk => Kd.fresh' (Kd.R_lt (by (with_reducible repeat (first | apply Kd.R_alloc | apply Kd.R_drewN | apply Kd.R_drew)); exact HO_6.out)) k_ hk)); (case aO => exact (by (with_reducible repeat (first | apply Kd.R_alloc | apply Kd.R_drewN | apply Kd.R_drew)); exact HO_5.out)); (case aS => exact (below_size zq13_0)); (case aL => have := LMc15.out; omega); intro v277 w18 ho hb hg hat; rw [← Ny276.out] at ho; replace HO_6 := Aside0.mk (Kd.R_after (ok := (fun _ => True)) (by (with_reducible repeat (first | apply Kd.R_alloc | apply Kd.R_drewN | apply Kd.R_drew)); exact Kd.R_mono HO_6.out (fun _ hk => ⟨trivial, hk⟩)) hg hat); replace HB := Aside0.mk (hb); have HO278 := Aside0.mk (ho); clear HO_5; clear ho hb hg hat; obtain ⟨Ao19, co19, eo19⟩ := Kd.R_slice HO278.out; subst eo19))
         go_loopg [8] k1 (fun kq v8 w' => ∃ (x5_2 : List ByteArray) (x8_2 : Int), v8 = .int .i64 x8_2 ∧ Aside0 (cenotaphref01_Union.l1 kq x5_2 x6_1 x7_1 x8_2 = some r) ∧ Aside0 (kq ≤ k1) ∧ Aside0 (Kd.R Kd.string 9 w' w.heap.size (fun k_ => some k_ ≠ ((.slice (some ad273) x6_1.length co16) : Value).ownBlock) (.slice Ao19 y276.length co19) x5_2) ∧ Aside0 (Kd.R Kd.string 9 w' w.heap.size (fun k_ => some k_ ≠ ((.slice Ao19 y276.length co19) : Value).ownBlock) (.slice (some ad273) x6_1.length co16) x6_1) ∧ Aside0 (Below w.heap.size w w'))
         case atStart => exact ⟨(y276), (wrap64 ((y276.length : Int) - 1)), zq13_2, H', ⟨Nat.le_refl _⟩, ⟨by (with_reducible repeat (first | apply Kd.R_alloc | apply Kd.R_drewN | apply Kd.R_drew)); exact HO278.out⟩, ⟨by (with_reducible repeat (first | apply Kd.R_alloc | apply Kd.R_drewN | apply Kd.R_drew)); exact Kd.R_mono HO_6.out (fun _ hk => hk.2)⟩, ⟨by repeat (first | (with_reducible first | exact HB.out | apply below_alloc | apply pw_below_drewN | apply below_drew1) | exact HB.out)⟩⟩
         case round =>
          clear H'
          try clear c1
          try clear p2
          try clear q2
          try clear hx2
          try clear c3
          try clear c4
          try clear p6
          try clear c9
          try clear c9b0
          try clear c10
          try clear c10b0
          try clear c12
          try clear c13
          try clear c15
          try clear hx273_0
          try clear hx275_0
          try clear p2
          try clear p273
          try clear p275
          try clear q273
          try clear q275
          obtain ⟨x5_2, x8_2, rfl, HA, HK2, HO_5, HO_6, HB⟩ := hrel
          have hl5_2 := (Kd.R_reads' HO_5.out).1
          rw [hl5_2] at HO_5
          (try simp only [hl5_2])
          (try simp only [hl5_2] at HO_6)
          cases gk with
          | zero => exact absurd HA.out (by simp [cenotaphref01_Union.l1])
          | succ k2 =>
           have H := HA.out
           clear HA
           simp only [cenotaphref01_Union.l1] at H
           by_cases c20 : x8_2 > 0
           ·rw [if_pos c20] at H
            have c20b0 : decide (0 < x8_2) = true := decide_eq_true c20
            clear c20
            obtain ⟨ji21, hji21⟩ : ∃ j_ : Int, (wrap64 (x8_2 - 1)) = j_ := ⟨_, rfl⟩
            replace H : (if 0 ≤ (ji21) then (if (ji21) < (x5_2.length : Int) then (if 0 ≤ x8_2 then (if x8_2 < (x5_2.length : Int) then ((cenotaphref01_Compare.f k2 (rdOf ByteArray.empty x5_2 (ji21)) (rdOf ByteArray.empty x5_2 x8_2)).bind fun t281 => (if t281 > 0 then (cenotaphref01_Union.l1 k2 ((x5_2.set ((ji21) : Int).toNat (rdOf ByteArray.empty x5_2 x8_2)).set (x8_2 : Int).toNat (rdOf ByteArray.empty x5_2 (ji21))) x6_1 x7_1 ji21) else (cenotaphref01_Union.l0 k2 x5_2 x6_1 (wrap64 (x7_1 + 1))))) else (none)) else (none)) else (none)) else (none)) = some r := by first | (rw [hji21] at H; exact H) | (simp only [hji21] at H ⊢; exact H)
            have hji21w : (IntKind.i64.wrap (x8_2 - 1)) = ji21 := (i64_w _).trans hji21
            by_cases c22 : 0 ≤ (ji21)
            ·rw [if_pos c22] at H
             have c22b0 : decide (0 ≤ (ji21)) = true := decide_eq_true c22
             clear c22
             by_cases c23 : (ji21) < (x5_2.length : Int)
             ·rw [if_pos c23] at H
              have c23b0 : decide ((ji21) < (x5_2.length : Int)) = true := decide_eq_true c23
              clear c23
              by_cases c24 : 0 ≤ x8_2
              ·rw [if_pos c24] at H
               have c24b0 : decide (0 ≤ x8_2) = true := decide_eq_true c24
               clear c24
               by_cases c25 : x8_2 < (x5_2.length : Int)
               ·rw [if_pos c25] at H
                have c25b0 : decide (x8_2 < (x5_2.length : Int)) = true := decide_eq_true c25
                clear c25
                replace H := Option.bind_eq_some_iff.mp H
                obtain ⟨t281, A260, H⟩ := H
                have A26 := Aside0.mk A260
                clear A260
                by_cases c27 : t281 > 0
                ·rw [if_pos c27] at H
                 have c27b0 : decide (0 < t281) = true := decide_eq_true c27
                 clear c27
                 obtain ⟨y284, hy284⟩ : ∃ y_ : List ByteArray, y_ = (x5_2.set ((ji21) : Int).toNat (rdOf ByteArray.empty x5_2 x8_2)) := ⟨_, rfl⟩
                 replace H : (cenotaphref01_Union.l1 k2 (y284.set (x8_2 : Int).toNat (rdOf ByteArray.empty x5_2 (ji21))) x6_1 x7_1 ji21) = some r := by first | (rw [hy284]; with_reducible exact H) | (have H2_ := (Option.bind_some _ _).symm.trans H; rw [hy284]; with_reducible exact H2_) | (have H2_ := (Option.bind_some _ _).symm.trans H; with_reducible exact H2_) | with_reducible exact H | (rw [hy284]; exact H) | exact H
                 have Ny284 := Aside0.mk hy284
                 clear hy284
                 obtain ⟨y285, hy285⟩ : ∃ y_ : List ByteArray, y_ = (y284.set (x8_2 : Int).toNat (rdOf ByteArray.empty x5_2 (ji21))) := ⟨_, rfl⟩
                 replace H : (cenotaphref01_Union.l1 k2 y285 x6_1 x7_1 ji21) = some r := by first | (rw [hy285]; with_reducible exact H) | (have H2_ := (Option.bind_some _ _).symm.trans H; rw [hy285]; with_reducible exact H2_) | (have H2_ := (Option.bind_some _ _).symm.trans H; with_reducible exact H2_) | with_reducible exact H | (rw [hy285]; exact H) | exact H
                 have Ny285 := Aside0.mk hy285
                 clear hy285
                 have H' := Aside0.mk H
                 clear H
                 try go_wp2
                 replace HO_5 := Aside0.mk (Kd.R_drew HO_5.out)
                 replace HO_6 := Aside0.mk (Kd.R_drew HO_6.out)
                 replace HB := Aside0.mk (below_drew1 HB.out)
                 have p279 : 0 ≤ ((ji21) : Int) := of_decide_eq_true zq13_1
                 have q279 : (ji21) < (x5_2.length : Int) := of_decide_eq_true zq13_1
                 obtain ⟨ad279, e279, hx279_0⟩ := Kd.at_string (Kd.R_reads' HO_5.out).2.2 (ji21) p279 q279
                 cases e279
                 replace p279 := eq_true p279
                 replace q279 := eq_true q279
                 have p280 : 0 ≤ (x8_2 : Int) := of_decide_eq_true zq13_1
                 have q280 : x8_2 < (x5_2.length : Int) := of_decide_eq_true zq13_1
                 obtain ⟨ad280, e280, hx280_0⟩ := Kd.at_string (Kd.R_reads' HO_5.out).2.2 x8_2 p280 q280
                 obtain rfl : ad279 = ad280 := (by injection e280)
                 replace p280 := eq_true p280
                 replace q280 := eq_true q280
                 refine start_ (n := 15) (S := fun w' => w'.cell? (ad279.add ((ji21)).toNat) = some (.string (rdOf ByteArray.empty x5_2 (ji21))) ∧ w'.cell? (ad279.add (x8_2).toNat) = some (.string (rdOf ByteArray.empty x5_2 x8_2))) (ds := []) #[false, false, false, false, false, false, false, false, false, false, false, false, false, false, false] (by kernel_rfl) rfl rfl ⟨hx279_0, hx280_0⟩ (fun hHeld => ?_); refine with_tabW cenotaphref01_Union.tab9 cenotaphref01_Union.bits9 (fun HT_ HW_ => ?_)
                 generalize wr.drew = w30 at HO_5 HO_6 HB hx279_0 hx280_0 hHeld ⊢
                 refine p_ 0 36 (mk_ 15 0x1) ?_
                 refine p_ 1 37 (mk_ 15 0x3) ?_
                 refine p_ 2 38 (mk_ 15 0x7) ?_
                 refine p_ 3 39 (mk_ 15 0xf) ?_
                 refine p_ 4 40 (mk_ 15 0x1f) ?_
                 refine p_ 5 41 (mk_ 15 0x3f) ?_
                 refine p_ 6 42 (mk_ 15 0x7f) ?_
                 refine p_ 8 44 (mk_ 15 0x17f) ?_
                 refine p_ 9 45 (mk_ 15 0x37f) ?_
                 refine p_ 10 46 (mk_ 15 0x77f) ?_
                 refine t_ 7 43 (mk_ 15 0x7ff) hHeld ?_
                 refine t_ 11 47 (mk_ 15 0xfff) hHeld ?_
                 refine one_ (i := 12) (N := some 48) #[true, true, true, true, true, true, true, true, true, true, true, true, true, false, false] rfl rfl (one_of HT_.out (by kernel_rfl)) (by decide) (fun K hK => ?_)
                 refine goes_ Try.func40 (by kernel_rfl) rfl #[.string (rdOf ByteArray.empty x5_2 (ji21)), .string (rdOf ByteArray.empty x5_2 x8_2)] (by rfl) rfl rfl (by (try simp only [List.map_toArray, List.map_cons, List.map_nil]); first | done | (simp only [hji21]; rfl) | rfl | (simp only [List.length_drop, List.length_take]; rfl)) ?_
                 with_reducible refine (cenotaphref01_Compare.calls k2 (rdOf ByteArray.empty x5_2 (ji21)) (rdOf ByteArray.empty x5_2 x8_2) t281 _ A26.out).mono ?_
                 rintro e w' ⟨rfl, ⟨nd, rfl⟩⟩
                 refine ⟨_, rfl, ?_⟩
                 refine hK.out _ _ ⟨hHeld.1, hHeld.2⟩ (fun hHeld => ?_)
                 clear hK K
                 refine norm_ (a' := ?_) ?_ ?_
                 rotate_left
                 ·show Act.put _ (some 48) _ = _
                  simp only [Act.put, List.setIfInBounds_toArray, List.set_cons_zero, List.set_cons_succ, i64_w, i32_w]
                  rfl
                 refine p_ 13 49 (mk_ 15 0x3fff) ?_
                 refine p_ 14 50 (mk_ 15 0x7fff) ?_
                 refine done_ (done_of HT_.out (by kernel_rfl)) ?_
                 try go_wp2
                 (try (rw [drewN_self w30]; generalize hq_ : World.drewN w30 _ = w30; have n0_ : Aside0 (Kd.R Kd.string 9 w30 w.heap.size (fun k_ => some k_ ≠ (.slice (some ad273) x6_1.length co16 : Value).ownBlock) (.slice (some ad279) x5_2.length co19) x5_2) := ⟨by rw [← hq_]; exact (by (with_reducible repeat (first | apply Kd.R_alloc | apply Kd.R_drewN | apply Kd.R_drew)); exact HO_5.out)⟩; have n1_ : Aside0 (Kd.R Kd.string 9 w30 w.heap.size (fun k_ => some k_ ≠ (.slice (some ad279) x5_2.length co19 : Value).ownBlock) (.slice (some ad273) x6_1.length co16) x6_1) := ⟨by rw [← hq_]; exact (by (with_reducible repeat (first | apply Kd.R_alloc | apply Kd.R_drewN | apply Kd.R_drew)); exact HO_6.out)⟩; have n2_ : Aside0 (Below w.heap.size w w30) := ⟨by rw [← hq_]; exact zq13_0⟩; clear HO_5 HO_6 HB hq_; have HO_5 := n0_; have HO_6 := n1_; have HB := n2_; clear n0_ n1_ n2_))
                 replace HO_5 := Aside0.mk (Kd.R_drew HO_5.out)
                 replace HO_6 := Aside0.mk (Kd.R_drew HO_6.out)
                 replace HB := Aside0.mk (below_drew1 HB.out)
                 have p282 : 0 ≤ (x8_2 : Int) := of_decide_eq_true zq13_1
                 have q282 : x8_2 < (x5_2.length : Int) := of_decide_eq_true zq13_1
                 obtain ⟨ad282, e282, hx282_0⟩ := Kd.at_string (Kd.R_reads' HO_5.out).2.2 x8_2 p282 q282
                 obtain rfl : ad279 = ad282 := (by injection e282)
                 replace p282 := eq_true p282
                 replace q282 := eq_true q282
                 have p283 : 0 ≤ ((ji21) : Int) := of_decide_eq_true zq13_1
                 have q283 : (ji21) < (x5_2.length : Int) := of_decide_eq_true zq13_1
                 obtain ⟨ad283, e283, hx283_0⟩ := Kd.at_string (Kd.R_reads' HO_5.out).2.2 (ji21) p283 q283
                 obtain rfl : ad279 = ad283 := (by injection e283)
                 replace p283 := eq_true p283
                 replace q283 := eq_true q283
                 have p28 : 0 ≤ ((ji21) : Int) := of_decide_eq_true zq13_1
                 have q28 : ((ji21) : Int) < ((x5_2.length : Int) : Int) := of_decide_eq_true zq13_1
                 obtain ⟨go28, co28, eo28, gb28, gl28, cl28, HG28⟩ := Kd.R_form HO_5.out (by omega)
                 (first | cases eo28 | (injection eo28 with ea_ en_ ec_; (first | subst ea_ | (injection ea_ with ea_; subst ea_)); subst ec_; clear en_))
                 have GB28 := Aside0.mk gb28
                 have GG28 := Aside0.mk HG28
                 clear gb28 gl28 HG28
                 (first | simp only [add_plain] at hx279_0 | skip)
                 (first | simp only [add_plain] at hx280_0 | skip)
                 (first | simp only [add_plain] at hx282_0 | skip)
                 (first | simp only [add_plain] at hx283_0 | skip)
                 obtain ⟨hx28_0, hf28_0⟩ := Kd.R_celln (⟨#[]⟩ : ByteArray) HO_5.out ((ji21) : Int) p28 q28
                 replace p28 := eq_true p28
                 replace q28 := eq_true q28
                 have HP32 := Kd.R_putn HO_5.out ((ji21) : Int) (rdOf ByteArray.empty x5_2 x8_2)
                 rw [← Ny284.out] at HP32
                 have HQ32 := Aside0.mk HP32
                 clear HP32
                 have p29 : 0 ≤ (x8_2 : Int) := of_decide_eq_true zq13_1
                 have q29 : (x8_2 : Int) < ((x5_2.length : Int) : Int) := of_decide_eq_true zq13_1
                 obtain ⟨hx29_0, hf29_0⟩ := Kd.R_celln (⟨#[]⟩ : ByteArray) HQ32.out (x8_2 : Int) p29 q29
                 replace p29 := eq_true p29
                 replace q29 := eq_true q29
                 have HP33 := Kd.R_putn HQ32.out (x8_2 : Int) (rdOf ByteArray.empty x5_2 (ji21))
                 rw [← Ny285.out] at HP33
                 have HQ33 := Aside0.mk HP33
                 clear HP33
                 refine start_ (n := 18) (S := fun w' => w'.cell? ⟨go28, (x8_2).toNat, none⟩ = some (.string (rdOf ByteArray.empty x5_2 x8_2)) ∧ w'.cell? ⟨go28, ((ji21)).toNat, none⟩ = some (.string (rdOf ByteArray.empty x5_2 (ji21)))) (ds := [15, 17]) #[false, false, false, false, false, false, false, false, false, false, false, false, false, false, false, false, false, false] (by kernel_rfl) rfl rfl ⟨hx282_0, hx283_0⟩ (fun hHeld => ?_); refine with_tabW cenotaphref01_Union.tab11 cenotaphref01_Union.bits11 (fun HT_ HW_ => ?_)
                 generalize w30.drew = w31 at HO_5 HO_6 HB GG28 HQ32 HQ33 hf28_0 hf29_0 hx279_0 hx280_0 hx282_0 hx283_0 hx28_0 hx29_0 hHeld ⊢
                 refine p_ 0 53 (mk_ 18 0x1) ?_
                 refine p_ 1 54 (mk_ 18 0x3) ?_
                 refine p_ 2 55 (mk_ 18 0x7) ?_
                 refine p_ 3 56 (mk_ 18 0xf) ?_
                 refine p_ 4 57 (mk_ 18 0x1f) ?_
                 refine p_ 5 58 (mk_ 18 0x3f) ?_
                 refine p_ 6 59 (mk_ 18 0x7f) ?_
                 refine p_ 7 60 (mk_ 18 0xff) ?_
                 refine p_ 9 62 (mk_ 18 0x2ff) ?_
                 refine p_ 10 63 (mk_ 18 0x6ff) ?_
                 refine p_ 11 64 (mk_ 18 0xeff) ?_
                 refine p_ 12 65 (mk_ 18 0x1eff) ?_
                 refine t_ 8 61 (mk_ 18 0x1fff) hHeld ?_
                 refine t_ 13 66 (mk_ 18 0x3fff) hHeld ?_
                 refine p_ 14 67 (mk_ 18 0x7fff) ?_
                 refine last_ (i := 15) (N := none) #[true, true, true, true, true, true, true, true, true, true, true, true, true, true, true, true, false, false] rfl rfl (one_of HT_.out (by kernel_rfl)) (by decide) (fun K hK => ?_)
                 refine skip_ (w1 := ?_) (by rfl) rfl ?_ ?_
                 rotate_left
                 ·go_simp
                  rfl
                 refine hK.out _ _ ?_
                 clear hK K
                 refine p_ 16 68 (mk_ 18 0x1ffff) ?_
                 refine last_ (i := 17) (N := none) #[true, true, true, true, true, true, true, true, true, true, true, true, true, true, true, true, true, true] rfl rfl (one_of HT_.out (by kernel_rfl)) (by decide) (fun K hK => ?_)
                 refine skip_ (w1 := ?_) (by rfl) rfl ?_ ?_
                 rotate_left
                 ·go_simp
                  rfl
                 refine hK.out _ _ ?_
                 clear hK K
                 refine done_ (done_of HT_.out (by kernel_rfl)) ?_
                 try go_wp2
                 (try simp only [← hl5_2])
                 go_roundg k2
                 case measure => have := HK1.out; have := HK2.out; omega
                 case rel => exact ⟨(y285), (ji21), (by first | rfl | (simp; done) | (simp only [← hji21] <;> (first | rfl | simp)) | (simp [*]; done)), H', ⟨by have := HK1.out; have := HK2.out; omega⟩, ⟨by (try simp only [hl5_2]); (with_reducible repeat (first | apply Kd.R_alloc | apply Kd.R_drewN | apply Kd.R_drew)); exact HQ33.out⟩, ⟨by (try simp only [hl5_2]); (with_reducible repeat (first | apply Kd.R_alloc | apply Kd.R_drewN | apply Kd.R_drew)); exact Kd.R_mono (Kd.R_far (p := ⟨go28, (x8_2 : Int).toNat, none⟩) (Kd.R_far (p := ⟨go28, ((ji21) : Int).toNat, none⟩) (Kd.R_mono HO_6.out (fun k_ hk => (⟨hk, fun e_ => hk (by rw [e_]; rfl)⟩ : _ ∧ k_ ≠ go28))) (fun _ hk => hk.2) (.string (rdOf ByteArray.empty x5_2 x8_2))) (fun _ hk => hk.2) (.string (rdOf ByteArray.empty x5_2 (ji21)))) (fun _ hk => hk.1)⟩, ⟨by repeat (first | (with_reducible first | exact HB.out | apply below_alloc | apply pw_below_drewN | apply below_drew1 | refine below_set ?_ GB28.out | refine below_set ?_ GB28.out) | exact HB.out)⟩⟩
                ·rw [if_neg c27] at H
                 have c27b0 : decide (0 < t281) = false := decide_eq_false c27
                 clear c27
                 have H' := Aside0.mk H
                 clear H
                 try go_wp2
                 replace HO_5 := Aside0.mk (Kd.R_drew HO_5.out)
                 replace HO_6 := Aside0.mk (Kd.R_drew HO_6.out)
                 replace HB := Aside0.mk (below_drew1 HB.out)
                 have p279 : 0 ≤ ((ji21) : Int) := of_decide_eq_true zq13_1
                 have q279 : (ji21) < (x5_2.length : Int) := of_decide_eq_true zq13_1
                 obtain ⟨ad279, e279, hx279_0⟩ := Kd.at_string (Kd.R_reads' HO_5.out).2.2 (ji21) p279 q279
                 cases e279
                 replace p279 := eq_true p279
                 replace q279 := eq_true q279
                 have p280 : 0 ≤ (x8_2 : Int) := of_decide_eq_true zq13_1
                 have q280 : x8_2 < (x5_2.length : Int) := of_decide_eq_true zq13_1
                 obtain ⟨ad280, e280, hx280_0⟩ := Kd.at_string (Kd.R_reads' HO_5.out).2.2 x8_2 p280 q280
                 obtain rfl : ad279 = ad280 := (by injection e280)
                 replace p280 := eq_true p280
                 replace q280 := eq_true q280
                 refine start_ (n := 15) (S := fun w' => w'.cell? (ad279.add ((ji21)).toNat) = some (.string (rdOf ByteArray.empty x5_2 (ji21))) ∧ w'.cell? (ad279.add (x8_2).toNat) = some (.string (rdOf ByteArray.empty x5_2 x8_2))) (ds := []) #[false, false, false, false, false, false, false, false, false, false, false, false, false, false, false] (by kernel_rfl) rfl rfl ⟨hx279_0, hx280_0⟩ (fun hHeld => ?_); refine with_tabW cenotaphref01_Union.tab9 cenotaphref01_Union.bits9 (fun HT_ HW_ => ?_)
                 generalize wr.drew = w34 at HO_5 HO_6 HB hx279_0 hx280_0 hHeld ⊢
                 refine p_ 0 36 (mk_ 15 0x1) ?_
                 refine p_ 1 37 (mk_ 15 0x3) ?_
                 refine p_ 2 38 (mk_ 15 0x7) ?_
                 refine p_ 3 39 (mk_ 15 0xf) ?_
                 refine p_ 4 40 (mk_ 15 0x1f) ?_
                 refine p_ 5 41 (mk_ 15 0x3f) ?_
                 refine p_ 6 42 (mk_ 15 0x7f) ?_
                 refine p_ 8 44 (mk_ 15 0x17f) ?_
                 refine p_ 9 45 (mk_ 15 0x37f) ?_
                 refine p_ 10 46 (mk_ 15 0x77f) ?_
                 refine t_ 7 43 (mk_ 15 0x7ff) hHeld ?_
                 refine t_ 11 47 (mk_ 15 0xfff) hHeld ?_
                 refine one_ (i := 12) (N := some 48) #[true, true, true, true, true, true, true, true, true, true, true, true, true, false, false] rfl rfl (one_of HT_.out (by kernel_rfl)) (by decide) (fun K hK => ?_)
                 refine goes_ Try.func40 (by kernel_rfl) rfl #[.string (rdOf ByteArray.empty x5_2 (ji21)), .string (rdOf ByteArray.empty x5_2 x8_2)] (by rfl) rfl rfl (by (try simp only [List.map_toArray, List.map_cons, List.map_nil]); first | done | (simp only [hji21]; rfl) | rfl | (simp only [List.length_drop, List.length_take]; rfl)) ?_
                 with_reducible refine (cenotaphref01_Compare.calls k2 (rdOf ByteArray.empty x5_2 (ji21)) (rdOf ByteArray.empty x5_2 x8_2) t281 _ A26.out).mono ?_
                 rintro e w' ⟨rfl, ⟨nd, rfl⟩⟩
                 refine ⟨_, rfl, ?_⟩
                 refine hK.out _ _ ⟨hHeld.1, hHeld.2⟩ (fun hHeld => ?_)
                 clear hK K
                 refine norm_ (a' := ?_) ?_ ?_
                 rotate_left
                 ·show Act.put _ (some 48) _ = _
                  simp only [Act.put, List.setIfInBounds_toArray, List.set_cons_zero, List.set_cons_succ, i64_w, i32_w]
                  rfl
                 refine p_ 13 49 (mk_ 15 0x3fff) ?_
                 refine p_ 14 50 (mk_ 15 0x7fff) ?_
                 refine done_ (done_of HT_.out (by kernel_rfl)) ?_
                 try go_wp2
                 (try simp only [← hl5_2])
                 go_roundg k2
                 case measure => have := HK1.out; have := HK2.out; omega
                 case rel => exact ⟨(x5_2), (x6_1), (wrap64 (x7_1 + 1)), zq13_2, H', ⟨by have := HK1.out; have := HK2.out; omega⟩, ⟨by (try simp only [hl5_2]); (with_reducible repeat (first | apply Kd.R_alloc | apply Kd.R_drewN | apply Kd.R_drew)); exact HO_5.out⟩, ⟨by (try simp only [hl5_2]); (with_reducible repeat (first | apply Kd.R_alloc | apply Kd.R_drewN | apply Kd.R_drew)); exact HO_6.out⟩, ⟨by repeat (first | (with_reducible first | exact HB.out | apply below_alloc | apply pw_below_drewN | apply below_drew1) | exact HB.out)⟩⟩
               ·rw [if_neg c25] at H
                exact absurd H (by simp)
              ·rw [if_neg c24] at H
               exact absurd H (by simp)
             ·rw [if_neg c23] at H
              exact absurd H (by simp)
            ·rw [if_neg c22] at H
             exact absurd H (by simp)
           ·rw [if_neg c20] at H
            have c20b0 : decide (0 < x8_2) = false := decide_eq_false c20
            clear c20
            have H' := Aside0.mk H
            clear H
            try go_wp2
            replace HO_5 := Aside0.mk (Kd.R_drew HO_5.out)
            replace HO_6 := Aside0.mk (Kd.R_drew HO_6.out)
            replace HB := Aside0.mk (below_drew1 HB.out)
            refine start_ (n := 15) (S := fun w' => True) (ds := []) #[false, false, false, false, false, false, false, false, false, false, false, false, false, false, false] (by kernel_rfl) rfl rfl trivial (fun hHeld => ?_); refine with_tabW cenotaphref01_Union.tab9 cenotaphref01_Union.bits9 (fun HT_ HW_ => ?_)
            generalize wr.drew = w35 at HO_5 HO_6 HB hHeld ⊢
            refine p_ 0 36 (mk_ 15 0x1) ?_
            refine p_ 1 37 (mk_ 15 0x3) ?_
            refine p_ 2 38 (mk_ 15 0x7) ?_
            refine u_ 3 39 (mk_ 15 0xf) ?_
            refine u_ 4 40 (mk_ 15 0x1f) ?_
            refine u_ 5 41 (mk_ 15 0x3f) ?_
            refine u_ 6 42 (mk_ 15 0x7f) ?_
            refine u_ 7 43 (mk_ 15 0xff) ?_
            refine u_ 8 44 (mk_ 15 0x1ff) ?_
            refine u_ 9 45 (mk_ 15 0x3ff) ?_
            refine u_ 10 46 (mk_ 15 0x7ff) ?_
            refine u_ 11 47 (mk_ 15 0xfff) ?_
            refine u_ 12 48 (mk_ 15 0x1fff) ?_
            refine u_ 13 49 (mk_ 15 0x3fff) ?_
            refine p_ 14 50 (mk_ 15 0x7fff) ?_
            refine done_ (done_of HT_.out (by kernel_rfl)) ?_
            try go_wp2
            (try simp only [← hl5_2])
            go_roundg k2
            case measure => have := HK1.out; have := HK2.out; omega
            case rel => exact ⟨(x5_2), (x6_1), (wrap64 (x7_1 + 1)), zq13_2, H', ⟨by have := HK1.out; have := HK2.out; omega⟩, ⟨by (try simp only [hl5_2]); (with_reducible repeat (first | apply Kd.R_alloc | apply Kd.R_drewN | apply Kd.R_drew)); exact HO_5.out⟩, ⟨by (try simp only [hl5_2]); (with_reducible repeat (first | apply Kd.R_alloc | apply Kd.R_drewN | apply Kd.R_drew)); exact HO_6.out⟩, ⟨by repeat (first | (with_reducible first | exact HB.out | apply below_alloc | apply pw_below_drewN | apply below_drew1) | exact HB.out)⟩⟩
        ·rw [if_neg c15] at H
         exact absurd H (by simp)
      ·rw [if_neg c10] at H
       exact absurd H (by simp)
     ·rw [if_neg c9] at H
      have c9b0 : decide (x7_1 < (x6_1.length : Int)) = false := decide_eq_false c9
      clear c9
      obtain rfl := Option.some.inj H
      obtain ⟨Ao36, co36, eo36⟩ := Kd.R_slice HO_6.out
      subst eo36
      go_wp2
      go_ret
      exact ⟨_, by first | rfl | (simp [errW_none, errW_some] <;> rfl) | (simp [*, errW_none, errW_some] <;> rfl), by (with_reducible repeat (first | apply Kd.R_alloc | apply Kd.R_drewN | apply Kd.R_drew)); exact Kd.R_mono HO_5.out (fun _ hk => trivial), by repeat (first | (with_reducible first | exact HB.out | apply below_alloc | apply pw_below_drewN | apply below_drew1) | exact HB.out)⟩
  ·rw [if_neg c4] at H
   exact absurd H (by simp)
 ·rw [if_neg c3] at H
  exact absurd H (by simp)

/-! ### cenotaphlaw10_MatrixStables: function 4 -/
theorem zq4x_0 {p_ : Prop} (h_ : p_ := by (try simp only [List.map_toArray, List.map_cons, List.map_nil]); first | done | rfl | (simp only [List.length_drop, List.length_take]; rfl)) : p_ := h_
theorem zq4x_1 {p_ : Prop} (h_ : p_ := by repeat (first | (with_reducible first | exact HB.out | apply below_alloc | apply pw_below_drewN | apply below_drew1) | exact HB.out)) : p_ := h_
theorem zq4x_2 {p_ : Prop} (h_ : p_ := by (with_reducible repeat (first | apply Kd.V_alloc | apply Kd.V_drewN | apply Kd.V_drew)); exact HO323.out) : p_ := h_
theorem zq4x_3 {p_ : Prop} (h_ : p_ := by (with_reducible repeat (first | apply Kd.R_alloc | apply Kd.R_drewN | apply Kd.R_drew)); exact HO327.out) : p_ := h_
theorem zq4x_4 {p_ : Prop} (h_ : p_ := by (with_reducible repeat (first | apply Kd.S_alloc | apply Kd.S_drewN | apply Kd.S_drew)); exact HO331.out) : p_ := h_
theorem zq4x_5 {p_ : Prop} (h_ : p_ := by (with_reducible repeat (first | apply Kd.R_alloc | apply Kd.R_drewN | apply Kd.R_drew)); exact HO334.out) : p_ := h_
theorem zq4x_6 {p_ : Prop} (h_ : p_ := by (with_reducible repeat (first | apply Kd.V_alloc | apply Kd.V_drewN | apply Kd.V_drew)); exact HO337.out) : p_ := h_
theorem zq4x_7 {p_ : Prop} (h_ : p_ := by (with_reducible repeat (first | apply Kd.R_alloc | apply Kd.R_drewN | apply Kd.R_drew)); exact HO340.out) : p_ := h_
theorem zq4x_8 {p_ : Prop} (h_ : p_ := by (with_reducible repeat (first | apply Kd.R_alloc | apply Kd.R_drewN | apply Kd.R_drew)); exact HO343.out) : p_ := h_
theorem zq4x_9 {p_ : Prop} (h_ : p_ := by (with_reducible repeat (first | apply Kd.V_alloc | apply Kd.V_drewN | apply Kd.V_drew)); exact HO346.out) : p_ := h_
theorem zq4x_10 {p_ : Prop} (h_ : p_ := by (with_reducible repeat (first | apply Kd.R_alloc | apply Kd.R_drewN | apply Kd.R_drew)); exact HO350.out) : p_ := h_
theorem zq4x_11 {p_ : Prop} (h_ : p_ := by (with_reducible repeat (first | apply Kd.V_alloc | apply Kd.V_drewN | apply Kd.V_drew)); exact HO_8.out) : p_ := h_
theorem zq4x_12 {p_ : Prop} (h_ : p_ := by (with_reducible repeat (first | apply Kd.V_alloc | apply Kd.V_drewN | apply Kd.V_drew)); exact HO_9.out) : p_ := h_
theorem zq4x_13 {p_ : Prop} (h_ : p_ := by (with_reducible repeat (first | apply Kd.R_alloc | apply Kd.R_drewN | apply Kd.R_drew)); exact HO_1.out) : p_ := h_
theorem zq4x_14 {p_ : Prop} (h_ : p_ := by (with_reducible repeat (first | apply Kd.S_alloc | apply Kd.S_drewN | apply Kd.S_drew)); exact HO_7.out) : p_ := h_
theorem zq4x_15 {p_ : Prop} (h_ : p_ := by first | (with_reducible assumption) | assumption) : p_ := h_
def cenotaphlaw10_MatrixStables.l0 : Nat → List ByteArray → List (S50) → List (S67) → List (S67) → Int → Option (Bool)
 | 0, _, _, _, _, _ => none
 | k + 1, x1, x7, x8, x9, x10 => if x10 < (x1.length : Int) then (if 0 ≤ x10 then ((matrix_Of.f x7 (rdOf ByteArray.empty x1 x10)).bind fun t357 => ((vec_Within.f x8 t357).bind fun t360 => (if t360 = true then (cenotaphlaw10_MatrixStables.l0 k x1 x7 x8 x9 (wrap64 (x10 + 1))) else (none)))) else (none)) else (if (x1.length : Int) = 0 then (if (x8.length : Int) = 0 then (some true) else (if (x1.length : Int) > 0 then ((vec_Within.f x9 x8).bind fun t361 => (some t361)) else (none))) else (if (x1.length : Int) > 0 then ((vec_Within.f x9 x8).bind fun t362 => (some t362)) else (none)))
def cenotaphlaw10_MatrixStables.f (k : Nat) (l0 : List (S25)) (l1 : List ByteArray) (l2 : List ByteArray) : Option (Bool) := (cenotaphref10_Fix.f k l0).bind fun t321 => (if 0 ≤ (mn (l1.length : Int) 8) then (if (mn (l1.length : Int) 8) ≤ (l1.length : Int) then ((cenotaphref01_Union.f k (l1.take ((mn (l1.length : Int) 8) : Int).toNat) ([] : List ByteArray)).bind fun t325 => (if 0 ≤ (mn (l2.length : Int) 8) then (if (mn (l2.length : Int) 8) ≤ (l2.length : Int) then ((cenotaphlaw10_To.f k t321).bind fun t329 => ((cenotaphlaw01_To.f k t325).bind fun t332 => ((matrix_Stable.f k t329 t332).bind fun t335 => ((cenotaphref01_Union.f k t325 (l2.take ((mn (l2.length : Int) 8) : Int).toNat)).bind fun t338 => ((cenotaphlaw01_To.f k t338).bind fun t341 => ((matrix_Stable.f k t329 t341).bind fun t344 => ((cenotaphlaw10_told.f k).bind fun t347 => (if t347 = true then ((cenotaphlaw03_From.f k t335).bind fun t348 => ((cenotaphref10_Stable.f k t321 t325).bind fun t351 => ((cenotaphref03_Same.f k t348 t351).bind fun t354 => (if t354 = true then ((vec_Right.f k t335).bind fun t355 => (if t355 = true then (cenotaphlaw10_MatrixStables.l0 k t325 t329 t335 t344 0) else (none))) else (none))))) else (none))))))))) else (none)) else (none))) else (none)) else (none))
theorem cenotaphlaw10_MatrixStables.mono_l : ∀ k, (∀ y0 y1 y2 y3 y4, LeO (cenotaphlaw10_MatrixStables.l0 k y0 y1 y2 y3 y4) (cenotaphlaw10_MatrixStables.l0 (k + 1) y0 y1 y2 y3 y4))
 | 0 => fun _ _ _ _ _ r h => by simp [cenotaphlaw10_MatrixStables.l0] at h
 | k + 1 => by
  have ih0 := cenotaphlaw10_MatrixStables.mono_l k
  ·intro y0 y1 y2 y3 y4
   unfold cenotaphlaw10_MatrixStables.l0
   repeat' first
   | (with_reducible exact ih0 _ _ _ _ _)
   | (with_reducible exact cenotaphlaw01_To.mono _ _)
   | (with_reducible exact cenotaphlaw03_From.mono _ _)
   | (with_reducible exact cenotaphlaw10_To.mono _ _)
   | (with_reducible exact cenotaphlaw10_told.mono _)
   | (with_reducible exact cenotaphref01_Union.mono _ _ _)
   | (with_reducible exact cenotaphref03_Same.mono _ _ _)
   | (with_reducible exact cenotaphref10_Fix.mono _ _)
   | (with_reducible exact cenotaphref10_Stable.mono _ _ _)
   | (with_reducible exact matrix_Stable.mono _ _ _)
   | (with_reducible exact vec_Right.mono _ _)
   | (with_reducible exact LeO.refl _)
   | (with_reducible exact LeO.none _)
   | (with_reducible refine LeO.ite ?_ ?_)
   | (with_reducible refine LeO.bind ?_ (fun _ => ?_))
   | exact ih0 _ _ _ _ _
   | exact cenotaphlaw01_To.mono _ _
   | exact cenotaphlaw03_From.mono _ _
   | exact cenotaphlaw10_To.mono _ _
   | exact cenotaphlaw10_told.mono _
   | exact cenotaphref01_Union.mono _ _ _
   | exact cenotaphref03_Same.mono _ _ _
   | exact cenotaphref10_Fix.mono _ _
   | exact cenotaphref10_Stable.mono _ _ _
   | exact matrix_Stable.mono _ _ _
   | exact vec_Right.mono _ _
   | exact LeO.none _
   | refine LeO.ite ?_ ?_
   | refine LeO.bind ?_ (fun _ => ?_)
theorem cenotaphlaw10_MatrixStables.mono : ∀ a0 a1 a2 k, LeO (cenotaphlaw10_MatrixStables.f k a0 a1 a2) (cenotaphlaw10_MatrixStables.f (k + 1) a0 a1 a2) := by
 intro a0 a1 a2 k
 have ih0 := cenotaphlaw10_MatrixStables.mono_l k
 unfold cenotaphlaw10_MatrixStables.f
 repeat' first
   | (with_reducible exact ih0 _ _ _ _ _)
   | (with_reducible exact cenotaphlaw01_To.mono _ _)
   | (with_reducible exact cenotaphlaw03_From.mono _ _)
   | (with_reducible exact cenotaphlaw10_To.mono _ _)
   | (with_reducible exact cenotaphlaw10_told.mono _)
   | (with_reducible exact cenotaphref01_Union.mono _ _ _)
   | (with_reducible exact cenotaphref03_Same.mono _ _ _)
   | (with_reducible exact cenotaphref10_Fix.mono _ _)
   | (with_reducible exact cenotaphref10_Stable.mono _ _ _)
   | (with_reducible exact matrix_Stable.mono _ _ _)
   | (with_reducible exact vec_Right.mono _ _)
   | (with_reducible exact LeO.refl _)
   | (with_reducible exact LeO.none _)
   | (with_reducible refine LeO.ite ?_ ?_)
   | (with_reducible refine LeO.bind ?_ (fun _ => ?_))
   | exact ih0 _ _ _ _ _
   | exact cenotaphlaw01_To.mono _ _
   | exact cenotaphlaw03_From.mono _ _
   | exact cenotaphlaw10_To.mono _ _
   | exact cenotaphlaw10_told.mono _
   | exact cenotaphref01_Union.mono _ _ _
   | exact cenotaphref03_Same.mono _ _ _
   | exact cenotaphref10_Fix.mono _ _
   | exact cenotaphref10_Stable.mono _ _ _
   | exact matrix_Stable.mono _ _ _
   | exact vec_Right.mono _ _
   | exact LeO.none _
   | refine LeO.ite ?_ ?_
   | refine LeO.bind ?_ (fun _ => ?_)
set_option maxHeartbeats 8000000 in
set_option maxRecDepth 100000 in
theorem cenotaphlaw10_MatrixStables.calls (k : Nat) (A0 : Option Addr) (c0 : Nat) (l0 : List (S25)) (A1 : Option Addr) (c1 : Nat) (l1 : List ByteArray) (A2 : Option Addr) (c2 : Nat) (l2 : List ByteArray) (r : Bool) (w : World) (hr0 : Kd.C k25 w A0 l0.length l0) (hc0 : l0.length ≤ c0) (hr1 : Kd.C Kd.string w A1 l1.length l1) (hc1 : l1.length ≤ c1) (hr2 : Kd.C Kd.string w A2 l2.length l2) (hc2 : l2.length ≤ c2) (h : cenotaphlaw10_MatrixStables.f k l0 l1 l2 = some r) :
  Calls Try.prog 4 #[.slice A0 l0.length c0, .slice A1 l1.length c1, .slice A2 l2.length c2] w fun e w' => e = .returned (.bool r) ∧ Below w.heap.size w w' := by
 have HR0 := Aside0.mk hr0
 have HC0 := Aside0.mk hc0
 clear hr0 hc0
 have HR1 := Aside0.mk hr1
 have HC1 := Aside0.mk hc1
 clear hr1 hc1
 have HR2 := Aside0.mk hr2
 have HC2 := Aside0.mk hc2
 clear hr2 hc2
 have HB := Aside0.mk (Below.refl w.heap.size w)
 have H := h
 unfold cenotaphlaw10_MatrixStables.f at H
 clear h
 replace H := Option.bind_eq_some_iff.mp H
 obtain ⟨t321, A40, H⟩ := H
 have A4 := Aside0.mk A40
 clear A40
 obtain ⟨ji5, hji5⟩ : ∃ j_ : Int, (mn (l1.length : Int) 8) = j_ := ⟨_, rfl⟩
 replace H : (if 0 ≤ (ji5) then (if (ji5) ≤ (l1.length : Int) then ((cenotaphref01_Union.f k (l1.take ((ji5) : Int).toNat) ([] : List ByteArray)).bind fun t325 => (if 0 ≤ (mn (l2.length : Int) 8) then (if (mn (l2.length : Int) 8) ≤ (l2.length : Int) then ((cenotaphlaw10_To.f k t321).bind fun t329 => ((cenotaphlaw01_To.f k t325).bind fun t332 => ((matrix_Stable.f k t329 t332).bind fun t335 => ((cenotaphref01_Union.f k t325 (l2.take ((mn (l2.length : Int) 8) : Int).toNat)).bind fun t338 => ((cenotaphlaw01_To.f k t338).bind fun t341 => ((matrix_Stable.f k t329 t341).bind fun t344 => ((cenotaphlaw10_told.f k).bind fun t347 => (if t347 = true then ((cenotaphlaw03_From.f k t335).bind fun t348 => ((cenotaphref10_Stable.f k t321 t325).bind fun t351 => ((cenotaphref03_Same.f k t348 t351).bind fun t354 => (if t354 = true then ((vec_Right.f k t335).bind fun t355 => (if t355 = true then (cenotaphlaw10_MatrixStables.l0 k t325 t329 t335 t344 0) else (none))) else (none))))) else (none))))))))) else (none)) else (none))) else (none)) else (none)) = some r := by first | (rw [hji5] at H; exact H) | (simp only [hji5] at H ⊢; exact H)
 (try rw [hji5] at A4)
 (try (have hji5h : ji5 ≤ 8 := by (rw [← hji5]; unfold mn; (repeat' split) <;> omega)))
 (try (have hji5g : ji5 ≤ 64 := by omega))
 (try (have hji5l : 0 ≤ ji5 := by (rw [← hji5]; unfold mn; (repeat' split) <;> omega)))
 (try (have hji5m : 0 ≤ ji5 := by omega))
 have hji5_ : (if 8 < (l1.length : Int) then 8 else (l1.length : Int)) = ji5 := hji5
 by_cases c6 : 0 ≤ (ji5)
 ·rw [if_pos c6] at H
  have c6b0 := eq_true c6
  have c6b1 : decide (0 ≤ (ji5)) = true := decide_eq_true c6
  clear c6
  by_cases c7 : (ji5) ≤ (l1.length : Int)
  ·rw [if_pos c7] at H
   have c7b0 := eq_true c7
   have c7b1 : decide ((ji5) ≤ (l1.length : Int)) = true := decide_eq_true c7
   clear c7
   replace H := Option.bind_eq_some_iff.mp H
   obtain ⟨t325, A80, H⟩ := H
   have A8 := Aside0.mk A80
   clear A80
   obtain ⟨ji9, hji9⟩ : ∃ j_ : Int, (mn (l2.length : Int) 8) = j_ := ⟨_, rfl⟩
   replace H : (if 0 ≤ (ji9) then (if (ji9) ≤ (l2.length : Int) then ((cenotaphlaw10_To.f k t321).bind fun t329 => ((cenotaphlaw01_To.f k t325).bind fun t332 => ((matrix_Stable.f k t329 t332).bind fun t335 => ((cenotaphref01_Union.f k t325 (l2.take ((ji9) : Int).toNat)).bind fun t338 => ((cenotaphlaw01_To.f k t338).bind fun t341 => ((matrix_Stable.f k t329 t341).bind fun t344 => ((cenotaphlaw10_told.f k).bind fun t347 => (if t347 = true then ((cenotaphlaw03_From.f k t335).bind fun t348 => ((cenotaphref10_Stable.f k t321 t325).bind fun t351 => ((cenotaphref03_Same.f k t348 t351).bind fun t354 => (if t354 = true then ((vec_Right.f k t335).bind fun t355 => (if t355 = true then (cenotaphlaw10_MatrixStables.l0 k t325 t329 t335 t344 0) else (none))) else (none))))) else (none))))))))) else (none)) else (none)) = some r := by first | (rw [hji9] at H; exact H) | (simp only [hji9] at H ⊢; exact H)
   (try rw [hji9] at A4)
   (try rw [hji9] at A8)
   (try (have hji9h : ji9 ≤ 8 := by (rw [← hji9]; unfold mn; (repeat' split) <;> omega)))
   (try (have hji9g : ji9 ≤ 64 := by omega))
   (try (have hji9l : 0 ≤ ji9 := by (rw [← hji9]; unfold mn; (repeat' split) <;> omega)))
   (try (have hji9m : 0 ≤ ji9 := by omega))
   have hji9_ : (if 8 < (l2.length : Int) then 8 else (l2.length : Int)) = ji9 := hji9
   by_cases c10 : 0 ≤ (ji9)
   ·rw [if_pos c10] at H
    have c10b0 := eq_true c10
    have c10b1 : decide (0 ≤ (ji9)) = true := decide_eq_true c10
    clear c10
    by_cases c11 : (ji9) ≤ (l2.length : Int)
    ·rw [if_pos c11] at H
     have c11b0 := eq_true c11
     have c11b1 : decide ((ji9) ≤ (l2.length : Int)) = true := decide_eq_true c11
     clear c11
     replace H := Option.bind_eq_some_iff.mp H
     obtain ⟨t329, A120, H⟩ := H
     have A12 := Aside0.mk A120
     clear A120
     replace H := Option.bind_eq_some_iff.mp H
     obtain ⟨t332, A130, H⟩ := H
     have A13 := Aside0.mk A130
     clear A130
     replace H := Option.bind_eq_some_iff.mp H
     obtain ⟨t335, A140, H⟩ := H
     have A14 := Aside0.mk A140
     clear A140
     replace H := Option.bind_eq_some_iff.mp H
     obtain ⟨t338, A150, H⟩ := H
     have A15 := Aside0.mk A150
     clear A150
     replace H := Option.bind_eq_some_iff.mp H
     obtain ⟨t341, A160, H⟩ := H
     have A16 := Aside0.mk A160
     clear A160
     replace H := Option.bind_eq_some_iff.mp H
     obtain ⟨t344, A170, H⟩ := H
     have A17 := Aside0.mk A170
     clear A170
     replace H := Option.bind_eq_some_iff.mp H
     obtain ⟨t347, A180, H⟩ := H
     have A18 := Aside0.mk A180
     clear A180
     by_cases c19 : t347 = true
     ·subst c19
      have H1 : ((cenotaphlaw03_From.f k t335).bind fun t348 => ((cenotaphref10_Stable.f k t321 t325).bind fun t351 => ((cenotaphref03_Same.f k t348 t351).bind fun t354 => (if t354 = true then ((vec_Right.f k t335).bind fun t355 => (if t355 = true then (cenotaphlaw10_MatrixStables.l0 k t325 t329 t335 t344 0) else (none))) else (none))))) = some r := by rw [if_pos rfl] at H; exact H
      clear H
      have H := H1
      clear H1
      replace H := Option.bind_eq_some_iff.mp H
      obtain ⟨t348, A200, H⟩ := H
      have A20 := Aside0.mk A200
      clear A200
      replace H := Option.bind_eq_some_iff.mp H
      obtain ⟨t351, A210, H⟩ := H
      have A21 := Aside0.mk A210
      clear A210
      replace H := Option.bind_eq_some_iff.mp H
      obtain ⟨t354, A220, H⟩ := H
      have A22 := Aside0.mk A220
      clear A220
      by_cases c23 : t354 = true
      ·subst c23
       have H1 : ((vec_Right.f k t335).bind fun t355 => (if t355 = true then (cenotaphlaw10_MatrixStables.l0 k t325 t329 t335 t344 0) else (none))) = some r := by rw [if_pos rfl] at H; exact H
       clear H
       have H := H1
       clear H1
       replace H := Option.bind_eq_some_iff.mp H
       obtain ⟨t355, A240, H⟩ := H
       have A24 := Aside0.mk A240
       clear A240
       by_cases c25 : t355 = true
       ·subst c25
        have H1 : (cenotaphlaw10_MatrixStables.l0 k t325 t329 t335 t344 0) = some r := by rw [if_pos rfl] at H; exact H
        clear H
        have H := H1
        clear H1
        have H' := Aside0.mk H
        clear H
        go_enter Try.func4, Try.ntmps4
        go_wp2_with (first | ((with_reducible refine gate_callee (f := 12) rfl ?_); refine goesL_ (some 12) rfl rfl Try.func12 (by kernel_rfl) rfl #[.slice A0 l0.length c0] rfl zq4x_0 ?_; (with_reducible refine (cenotaphref10_Fix.calls k _ _ l0 t321 _ ?side1 ?side2 A4.out).mono ?_); (case side1 => repeat (first | exact HR0.out | (with_reducible refine Kd.C_alloc ?_ _) | (with_reducible refine Kd.C_drewN ?_ _) | (with_reducible refine Kd.C_drew ?_))); (case side2 => exact HC0.out); rintro e w26 ⟨v322, rfl, ho0, hb⟩; refine ⟨_, rfl, ?_⟩; have HO323 := Aside0.mk (Kd.V_lower (Kd.V_mono (ok' := fun k_ => True) ho0 (fun k_ hk_ => trivial)) (below_size zq4x_1)); replace HB := Aside0.mk (below_step zq4x_1 hb); (try clear hb); (try clear hb2); (try clear hk); (try clear hi); (try clear ho0); obtain ⟨i027, hi027, _, hsz27, _⟩ := info_parts info9; obtain ⟨hcut27, hA27, hC27⟩ := print_take_of (P := Try.prog) Value.string (⟨#[]⟩ : ByteArray) 32 9 .i64 Try.underlying32 hi027 hsz27 A1 c1 l1 (ji5) (of_decide_eq_true zq4x_15) (of_decide_eq_true zq4x_15) HC1.out; have HR324 := Aside0.mk (Kd.C_of_reads (h1 := fun _ => rfl) (hA27 _ (Kd.reads_of_C HR1.out))); have HC324 := Aside0.mk hC27; clear hA27 hC27 hi027 hsz27; obtain ⟨x27, hx27⟩ : ∃ x_, x_ = (l1.take ((ji5) : Int).toNat) := ⟨_, rfl⟩; rw [← hx27] at hcut27 HR324 HC324; ((try rw [← hx27] at HC0) <;> (try rw [← hx27] at HC1) <;> (try rw [← hx27] at HC2) <;> (try rw [← hx27] at A4) <;> (try rw [← hx27] at A8) <;> (try rw [← hx27] at A12) <;> (try rw [← hx27] at A13) <;> (try rw [← hx27] at A14) <;> (try rw [← hx27] at A15) <;> (try rw [← hx27] at A16) <;> (try rw [← hx27] at A17) <;> (try rw [← hx27] at A18) <;> (try rw [← hx27] at A20) <;> (try rw [← hx27] at A21) <;> (try rw [← hx27] at A22) <;> (try rw [← hx27] at A24) <;> (try rw [← hx27] at H')); have KX27 := Aside0.mk hx27; clear hx27) | ((with_reducible refine gate_callee (f := 13) rfl ?_); refine goesL_ (some 18) rfl rfl Try.func13 (by kernel_rfl) rfl #[.slice A1 x27.length c1, .slice none 0 0] rfl (by (try simp only [List.map_toArray, List.map_cons, List.map_nil]); first | done | (rw [show x27.length = (ji5).toNat from (by rw [List.length_take]; have h_ : ((ji5) : Int) ≤ (l1.length : Int) := of_decide_eq_true zq4x_15; omega)] <;> rfl) | (simp only [hji5]; rfl) | rfl | (simp only [List.length_drop, List.length_take]; rfl)) ?_; (refine (cenotaphref01_Union.calls k _ _ x27 _ _ ([] : List ByteArray) t325 _ ?side1 ?side2 ?side3 ?side4 A8.out).mono ?_); (case side1 => repeat (first | exact (Kd.C_below HR324.out HB.out) | (with_reducible refine Kd.C_alloc ?_ _) | (with_reducible refine Kd.C_drewN ?_ _) | (with_reducible refine Kd.C_drew ?_))); (case side2 => exact HC324.out); (case side3 => exact Kd.C_nil _ _); (case side4 => exact Nat.le_refl _); rintro e w28 ⟨v326, rfl, ho0, hb⟩; refine ⟨_, rfl, ?_⟩; replace HO323 := Aside0.mk (Kd.V_elder' zq4x_2 (Kd.R_base ho0) hb); have HO327 := Aside0.mk (Kd.R_lower ho0 (below_size zq4x_1)); replace HB := Aside0.mk (below_step zq4x_1 hb); (try clear hb); (try clear hb2); (try clear hk); (try clear hi); (try clear ho0); obtain ⟨i029, hi029, _, hsz29, _⟩ := info_parts info9; obtain ⟨hcut29, hA29, hC29⟩ := print_take_of (P := Try.prog) Value.string (⟨#[]⟩ : ByteArray) 32 9 .i64 Try.underlying32 hi029 hsz29 A2 c2 l2 (ji9) (of_decide_eq_true zq4x_15) (of_decide_eq_true zq4x_15) HC2.out; have HR328 := Aside0.mk (Kd.C_of_reads (h1 := fun _ => rfl) (hA29 _ (Kd.reads_of_C HR2.out))); have HC328 := Aside0.mk hC29; clear hA29 hC29 hi029 hsz29; obtain ⟨x29, hx29⟩ : ∃ x_, x_ = (l2.take ((ji9) : Int).toNat) := ⟨_, rfl⟩; rw [← hx29] at hcut29 HR328 HC328; ((try rw [← hx29] at HC0) <;> (try rw [← hx29] at HC1) <;> (try rw [← hx29] at HC2) <;> (try rw [← hx29] at A4) <;> (try rw [← hx29] at A8) <;> (try rw [← hx29] at A12) <;> (try rw [← hx29] at A13) <;> (try rw [← hx29] at A14) <;> (try rw [← hx29] at A15) <;> (try rw [← hx29] at A16) <;> (try rw [← hx29] at A17) <;> (try rw [← hx29] at A18) <;> (try rw [← hx29] at A20) <;> (try rw [← hx29] at A21) <;> (try rw [← hx29] at A22) <;> (try rw [← hx29] at A24) <;> (try rw [← hx29] at H')); have KX29 := Aside0.mk hx29; clear hx29; obtain ⟨Ao30, co30, eo30⟩ := Kd.V_slice HO323.out; subst eo30) | ((with_reducible refine gate_callee (f := 10) rfl ?_); refine goesL_ (some 25) rfl rfl Try.func10 (by kernel_rfl) rfl #[.slice Ao30 t321.length co30] rfl zq4x_0 ?_; (with_reducible refine (cenotaphlaw10_To.calls k _ _ t321 t329 _ ?side1 ?side2 A12.out).mono ?_); (case side1 => repeat (first | exact (Kd.V_reads' HO323.out).2.2 | (with_reducible refine Kd.C_alloc ?_ _) | (with_reducible refine Kd.C_drewN ?_ _) | (with_reducible refine Kd.C_drew ?_))); (case side2 => exact (Kd.V_reads' HO323.out).2.1); rintro e w31 ⟨v330, rfl, ho0, hb⟩; refine ⟨_, rfl, ?_⟩; replace HO323 := Aside0.mk (Kd.V_elder' zq4x_2 (Kd.S_base ho0) hb); replace HO327 := Aside0.mk (Kd.R_below zq4x_3 hb); have HO331 := Aside0.mk (Kd.S_lower ho0 (below_size zq4x_1)); replace HB := Aside0.mk (below_step zq4x_1 hb); (try clear hb); (try clear hb2); (try clear hk); (try clear hi); (try clear ho0); obtain ⟨Ao32, co32, eo32⟩ := Kd.R_slice HO327.out; subst eo32) | ((with_reducible refine gate_callee (f := 15) rfl ?_); refine goesL_ (some 28) rfl rfl Try.func15 (by kernel_rfl) rfl #[.slice Ao32 t325.length co32] rfl zq4x_0 ?_; (with_reducible refine (cenotaphlaw01_To.calls k _ _ t325 t332 _ ?side1 ?side2 A13.out).mono ?_); (case side1 => repeat (first | exact (Kd.R_reads' HO327.out).2.2 | (with_reducible refine Kd.C_alloc ?_ _) | (with_reducible refine Kd.C_drewN ?_ _) | (with_reducible refine Kd.C_drew ?_))); (case side2 => exact (Kd.R_reads' HO327.out).2.1); rintro e w33 ⟨v333, rfl, ho0, hb⟩; refine ⟨_, rfl, ?_⟩; replace HO323 := Aside0.mk (Kd.V_elder' zq4x_2 (Kd.R_base ho0) hb); replace HO327 := Aside0.mk (Kd.R_below zq4x_3 hb); replace HO331 := Aside0.mk (Kd.S_below zq4x_4 hb); have HO334 := Aside0.mk (Kd.R_lower ho0 (below_size zq4x_1)); replace HB := Aside0.mk (below_step zq4x_1 hb); (try clear hb); (try clear hb2); (try clear hk); (try clear hi); (try clear ho0); obtain ⟨Ao34, co34, eo34⟩ := Kd.S_slice HO331.out; subst eo34; obtain ⟨Ao35, co35, eo35⟩ := Kd.R_slice HO334.out; subst eo35) | ((with_reducible refine gate_callee (f := 14) rfl ?_); refine goesL_ (some 29) rfl rfl Try.func14 (by kernel_rfl) rfl #[.slice Ao34 t329.length co34, .slice Ao35 t332.length co35] rfl zq4x_0 ?_; (with_reducible refine (matrix_Stable.calls k _ _ t329 _ _ t332 t335 _ ?side1 ?side2 ?side3 ?side4 A14.out).mono ?_); (case side1 => repeat (first | exact (Kd.S_reads' HO331.out).2.2 | (with_reducible refine Kd.C_alloc ?_ _) | (with_reducible refine Kd.C_drewN ?_ _) | (with_reducible refine Kd.C_drew ?_))); (case side2 => exact (Kd.S_reads' HO331.out).2.1); (case side3 => repeat (first | exact (Kd.R_reads' HO334.out).2.2 | (with_reducible refine Kd.C_alloc ?_ _) | (with_reducible refine Kd.C_drewN ?_ _) | (with_reducible refine Kd.C_drew ?_))); (case side4 => exact (Kd.R_reads' HO334.out).2.1); rintro e w36 ⟨v336, rfl, ho0, hb⟩; refine ⟨_, rfl, ?_⟩; replace HO323 := Aside0.mk (Kd.V_below zq4x_2 hb); have HO337 := Aside0.mk (Kd.V_lower (Kd.V_mono (ok' := fun k_ => some k_ ≠ (.slice Ao32 t325.length co32 : Value).ownBlock ∧ some k_ ≠ (.slice Ao34 t329.length co34 : Value).ownBlock ∧ some k_ ≠ (.slice Ao35 t332.length co35 : Value).ownBlock) ho0 (fun k_ hk_ => ⟨(Kd.fresh' (Kd.R_lt zq4x_3) k_ hk_), (Kd.fresh' (Kd.S_lt zq4x_4) k_ hk_), (Kd.fresh' (Kd.R_lt zq4x_5) k_ hk_)⟩)) (below_size zq4x_1)); replace HO327 := Aside0.mk (Kd.R_below zq4x_3 hb); replace HO331 := Aside0.mk (Kd.S_below zq4x_4 hb); replace HO334 := Aside0.mk (Kd.R_below zq4x_5 hb); replace HB := Aside0.mk (below_step zq4x_1 hb); (try clear hb); (try clear hb2); (try clear hk); (try clear hi); (try clear ho0)) | ((with_reducible refine gate_callee (f := 13) rfl ?_); refine goesL_ (some 33) rfl rfl Try.func13 (by kernel_rfl) rfl #[.slice Ao32 t325.length co32, .slice A2 x29.length c2] rfl (by (try simp only [List.map_toArray, List.map_cons, List.map_nil]); first | done | (rw [show x29.length = (ji9).toNat from (by rw [List.length_take]; have h_ : ((ji9) : Int) ≤ (l2.length : Int) := of_decide_eq_true zq4x_15; omega)] <;> rfl) | (simp only [hji9]; rfl) | rfl | (simp only [List.length_drop, List.length_take]; rfl)) ?_; (with_reducible refine (cenotaphref01_Union.calls k _ _ t325 _ _ x29 t338 _ ?side1 ?side2 ?side3 ?side4 A15.out).mono ?_); (case side1 => repeat (first | exact (Kd.R_reads' HO327.out).2.2 | (with_reducible refine Kd.C_alloc ?_ _) | (with_reducible refine Kd.C_drewN ?_ _) | (with_reducible refine Kd.C_drew ?_))); (case side2 => exact (Kd.R_reads' HO327.out).2.1); (case side3 => repeat (first | exact (Kd.C_below HR328.out HB.out) | (with_reducible refine Kd.C_alloc ?_ _) | (with_reducible refine Kd.C_drewN ?_ _) | (with_reducible refine Kd.C_drew ?_))); (case side4 => exact HC328.out); rintro e w37 ⟨v339, rfl, ho0, hb⟩; refine ⟨_, rfl, ?_⟩; replace HO323 := Aside0.mk (Kd.V_elder' zq4x_2 (Kd.R_base ho0) hb); replace HO331 := Aside0.mk (Kd.S_below zq4x_4 hb); replace HO334 := Aside0.mk (Kd.R_below zq4x_5 hb); replace HO337 := Aside0.mk (Kd.V_elder' zq4x_6 (Kd.R_base ho0) hb); have HO340 := Aside0.mk (Kd.R_lower (Kd.R_new' ho0 (Kd.R_lt zq4x_3)) (below_size zq4x_1)); replace HO327 := Aside0.mk (Kd.R_elder' zq4x_3 (Kd.R_base ho0) hb); replace HB := Aside0.mk (below_step zq4x_1 hb); (try clear hb); (try clear hb2); (try clear hk); (try clear hi); (try clear ho0); obtain ⟨Ao38, co38, eo38⟩ := Kd.R_slice HO340.out; subst eo38) | ((with_reducible refine gate_callee (f := 15) rfl ?_); refine goesL_ (some 34) rfl rfl Try.func15 (by kernel_rfl) rfl #[.slice Ao38 t338.length co38] rfl zq4x_0 ?_; (with_reducible refine (cenotaphlaw01_To.calls k _ _ t338 t341 _ ?side1 ?side2 A16.out).mono ?_); (case side1 => repeat (first | exact (Kd.R_reads' HO340.out).2.2 | (with_reducible refine Kd.C_alloc ?_ _) | (with_reducible refine Kd.C_drewN ?_ _) | (with_reducible refine Kd.C_drew ?_))); (case side2 => exact (Kd.R_reads' HO340.out).2.1); rintro e w39 ⟨v342, rfl, ho0, hb⟩; refine ⟨_, rfl, ?_⟩; replace HO323 := Aside0.mk (Kd.V_elder' zq4x_2 (Kd.R_base ho0) hb); replace HO327 := Aside0.mk (Kd.R_below zq4x_3 hb); replace HO331 := Aside0.mk (Kd.S_below zq4x_4 hb); replace HO337 := Aside0.mk (Kd.V_elder' zq4x_6 (Kd.R_base ho0) hb); replace HO340 := Aside0.mk (Kd.R_below zq4x_7 hb); have HO343 := Aside0.mk (Kd.R_lower (Kd.R_new' ho0 (Kd.R_lt zq4x_5)) (below_size zq4x_1)); replace HO334 := Aside0.mk (Kd.R_elder' zq4x_5 (Kd.R_base ho0) hb); replace HB := Aside0.mk (below_step zq4x_1 hb); (try clear hb); (try clear hb2); (try clear hk); (try clear hi); (try clear ho0); obtain ⟨Ao40, co40, eo40⟩ := Kd.R_slice HO343.out; subst eo40) | ((with_reducible refine gate_callee (f := 14) rfl ?_); refine goesL_ (some 35) rfl rfl Try.func14 (by kernel_rfl) rfl #[.slice Ao34 t329.length co34, .slice Ao40 t341.length co40] rfl zq4x_0 ?_; (with_reducible refine (matrix_Stable.calls k _ _ t329 _ _ t341 t344 _ ?side1 ?side2 ?side3 ?side4 A17.out).mono ?_); (case side1 => repeat (first | exact (Kd.S_reads' HO331.out).2.2 | (with_reducible refine Kd.C_alloc ?_ _) | (with_reducible refine Kd.C_drewN ?_ _) | (with_reducible refine Kd.C_drew ?_))); (case side2 => exact (Kd.S_reads' HO331.out).2.1); (case side3 => repeat (first | exact (Kd.R_reads' HO343.out).2.2 | (with_reducible refine Kd.C_alloc ?_ _) | (with_reducible refine Kd.C_drewN ?_ _) | (with_reducible refine Kd.C_drew ?_))); (case side4 => exact (Kd.R_reads' HO343.out).2.1); rintro e w41 ⟨v345, rfl, ho0, hb⟩; refine ⟨_, rfl, ?_⟩; replace HO323 := Aside0.mk (Kd.V_below zq4x_2 hb); replace HO337 := Aside0.mk (Kd.V_below zq4x_6 hb); have HO346 := Aside0.mk (Kd.V_lower (Kd.V_mono (ok' := fun k_ => some k_ ≠ (.slice Ao32 t325.length co32 : Value).ownBlock ∧ some k_ ≠ (.slice Ao34 t329.length co34 : Value).ownBlock ∧ some k_ ≠ (.slice Ao35 t332.length co35 : Value).ownBlock ∧ some k_ ≠ (.slice Ao38 t338.length co38 : Value).ownBlock ∧ some k_ ≠ (.slice Ao40 t341.length co40 : Value).ownBlock) ho0 (fun k_ hk_ => ⟨(Kd.fresh' (Kd.R_lt zq4x_3) k_ hk_), (Kd.fresh' (Kd.S_lt zq4x_4) k_ hk_), (Kd.fresh' (Kd.R_lt zq4x_5) k_ hk_), (Kd.fresh' (Kd.R_lt zq4x_7) k_ hk_), (Kd.fresh' (Kd.R_lt zq4x_8) k_ hk_)⟩)) (below_size zq4x_1)); replace HO327 := Aside0.mk (Kd.R_below zq4x_3 hb); replace HO331 := Aside0.mk (Kd.S_below zq4x_4 hb); replace HO334 := Aside0.mk (Kd.R_below zq4x_5 hb); replace HO340 := Aside0.mk (Kd.R_below zq4x_7 hb); replace HO343 := Aside0.mk (Kd.R_below zq4x_8 hb); replace HB := Aside0.mk (below_step zq4x_1 hb); (try clear hb); (try clear hb2); (try clear hk); (try clear hi); (try clear ho0)) | ((with_reducible refine gate_callee (f := 8) rfl ?_); refine goesL_ (some 36) rfl rfl Try.func8 (by kernel_rfl) rfl #[] rfl zq4x_0 ?_; (with_reducible refine (cenotaphlaw10_told.calls k  true _ A18.out).mono ?_); rintro e w42 ⟨rfl, hb⟩; refine ⟨_, rfl, ?_⟩; replace HO323 := Aside0.mk (Kd.V_below zq4x_2 hb); replace HO327 := Aside0.mk (Kd.R_below zq4x_3 hb); replace HO331 := Aside0.mk (Kd.S_below zq4x_4 hb); replace HO334 := Aside0.mk (Kd.R_below zq4x_5 hb); replace HO337 := Aside0.mk (Kd.V_below zq4x_6 hb); replace HO340 := Aside0.mk (Kd.R_below zq4x_7 hb); replace HO343 := Aside0.mk (Kd.R_below zq4x_8 hb); replace HO346 := Aside0.mk (Kd.V_below zq4x_9 hb); replace HB := Aside0.mk (below_step zq4x_1 hb); (try clear hb); (try clear hb2); (try clear hk); (try clear hi); obtain ⟨Ao43, co43, eo43⟩ := Kd.V_slice HO337.out; subst eo43) | (go_at_call 17; (with_reducible refine (cenotaphlaw03_From.calls k _ _ t335 t348 _ ?side1 ?side2 A20.out).mono ?_); (case side1 => repeat (first | exact (Kd.V_reads' HO337.out).2.2 | (with_reducible refine Kd.C_alloc ?_ _) | (with_reducible refine Kd.C_drewN ?_ _) | (with_reducible refine Kd.C_drew ?_))); (case side2 => exact (Kd.V_reads' HO337.out).2.1); rintro e w44 ⟨v349, rfl, ho0, hb⟩; replace HO323 := Aside0.mk (Kd.V_elder' zq4x_2 (Kd.R_base ho0) hb); replace HO327 := Aside0.mk (Kd.R_below zq4x_3 hb); replace HO331 := Aside0.mk (Kd.S_below zq4x_4 hb); replace HO334 := Aside0.mk (Kd.R_below zq4x_5 hb); replace HO337 := Aside0.mk (Kd.V_elder' zq4x_6 (Kd.R_base ho0) hb); replace HO340 := Aside0.mk (Kd.R_below zq4x_7 hb); replace HO343 := Aside0.mk (Kd.R_below zq4x_8 hb); replace HO346 := Aside0.mk (Kd.V_elder' zq4x_9 (Kd.R_base ho0) hb); have HO350 := Aside0.mk (Kd.R_lower ho0 (below_size zq4x_1)); replace HB := Aside0.mk (below_step zq4x_1 hb); (try clear hb); (try clear hb2); (try clear hk); (try clear hi); (try clear ho0)) | (go_at_call 18; (with_reducible refine (cenotaphref10_Stable.calls k _ _ t321 _ _ t325 t351 _ ?side1 ?side2 ?side3 ?side4 A21.out).mono ?_); (case side1 => repeat (first | exact (Kd.V_reads' HO323.out).2.2 | (with_reducible refine Kd.C_alloc ?_ _) | (with_reducible refine Kd.C_drewN ?_ _) | (with_reducible refine Kd.C_drew ?_))); (case side2 => exact (Kd.V_reads' HO323.out).2.1); (case side3 => repeat (first | exact (Kd.R_reads' HO327.out).2.2 | (with_reducible refine Kd.C_alloc ?_ _) | (with_reducible refine Kd.C_drewN ?_ _) | (with_reducible refine Kd.C_drew ?_))); (case side4 => exact (Kd.R_reads' HO327.out).2.1); rintro e w45 ⟨v352, rfl, ho0, hb⟩; replace HO323 := Aside0.mk (Kd.V_elder' zq4x_2 (Kd.R_base ho0) hb); replace HO327 := Aside0.mk (Kd.R_below zq4x_3 hb); replace HO331 := Aside0.mk (Kd.S_below zq4x_4 hb); replace HO334 := Aside0.mk (Kd.R_below zq4x_5 hb); replace HO337 := Aside0.mk (Kd.V_elder' zq4x_6 (Kd.R_base ho0) hb); replace HO340 := Aside0.mk (Kd.R_below zq4x_7 hb); replace HO343 := Aside0.mk (Kd.R_below zq4x_8 hb); replace HO346 := Aside0.mk (Kd.V_elder' zq4x_9 (Kd.R_base ho0) hb); have HO353 := Aside0.mk (Kd.R_lower (Kd.R_new' ho0 (Kd.R_lt zq4x_10)) (below_size zq4x_1)); replace HO350 := Aside0.mk (Kd.R_elder' zq4x_10 (Kd.R_base ho0) hb); replace HB := Aside0.mk (below_step zq4x_1 hb); (try clear hb); (try clear hb2); (try clear hk); (try clear hi); (try clear ho0); obtain ⟨Ao46, co46, eo46⟩ := Kd.R_slice HO350.out; subst eo46; obtain ⟨Ao47, co47, eo47⟩ := Kd.R_slice HO353.out; subst eo47) | (go_at_call 16; (with_reducible refine (cenotaphref03_Same.calls k _ _ t348 _ _ t351 true _ ?side1 ?side2 ?side3 ?side4 A22.out).mono ?_); (case side1 => repeat (first | exact (Kd.R_reads' HO350.out).2.2 | (with_reducible refine Kd.C_alloc ?_ _) | (with_reducible refine Kd.C_drewN ?_ _) | (with_reducible refine Kd.C_drew ?_))); (case side2 => exact (Kd.R_reads' HO350.out).2.1); (case side3 => repeat (first | exact (Kd.R_reads' HO353.out).2.2 | (with_reducible refine Kd.C_alloc ?_ _) | (with_reducible refine Kd.C_drewN ?_ _) | (with_reducible refine Kd.C_drew ?_))); (case side4 => exact (Kd.R_reads' HO353.out).2.1); rintro e w' ⟨rfl, ⟨nd, rfl⟩⟩) | (go_at_call 19; (with_reducible refine (vec_Right.calls k _ _ t335 true _ ?side1 ?side2 A24.out).mono ?_); (case side1 => repeat (first | exact (Kd.V_reads' HO337.out).2.2 | (with_reducible refine Kd.C_alloc ?_ _) | (with_reducible refine Kd.C_drewN ?_ _) | (with_reducible refine Kd.C_drew ?_))); (case side2 => exact (Kd.V_reads' HO337.out).2.1); rintro e w48 ⟨rfl, hb⟩; replace HO323 := Aside0.mk (Kd.V_below zq4x_2 hb); replace HO327 := Aside0.mk (Kd.R_below zq4x_3 hb); replace HO331 := Aside0.mk (Kd.S_below zq4x_4 hb); replace HO334 := Aside0.mk (Kd.R_below zq4x_5 hb); replace HO337 := Aside0.mk (Kd.V_below zq4x_6 hb); replace HO340 := Aside0.mk (Kd.R_below zq4x_7 hb); replace HO343 := Aside0.mk (Kd.R_below zq4x_8 hb); replace HO346 := Aside0.mk (Kd.V_below zq4x_9 hb); replace HO350 := Aside0.mk (Kd.R_below zq4x_10 hb); replace HO353 := Aside0.mk (Kd.R_below (by (with_reducible repeat (first | apply Kd.R_alloc | apply Kd.R_drewN | apply Kd.R_drew)); exact HO353.out) hb); replace HB := Aside0.mk (below_step zq4x_1 hb); (try clear hb); (try clear hb2); (try clear hk); (try clear hi)))
        go_loopg [10] k (fun kq v10 w' => ∃ (x10_1 : Int), v10 = .int .i64 x10_1 ∧ Aside0 (cenotaphlaw10_MatrixStables.l0 kq t325 t329 t335 t344 x10_1 = some r) ∧ Aside0 (kq ≤ k) ∧ Aside0 (Kd.R Kd.string 9 w' w.heap.size (fun _ => True) (.slice Ao32 t325.length co32) t325) ∧ Aside0 (Kd.S k50 50 w' w.heap.size (fun _ => True) (.slice Ao34 t329.length co34) t329) ∧ Aside0 (Kd.V k67 67 w' w.heap.size (fun k_ => some k_ ≠ ((.slice Ao32 t325.length co32) : Value).ownBlock ∧ some k_ ≠ ((.slice Ao34 t329.length co34) : Value).ownBlock) (.slice Ao43 t335.length co43) t335) ∧ Aside0 (Kd.V k67 67 w' w.heap.size (fun k_ => some k_ ≠ ((.slice Ao32 t325.length co32) : Value).ownBlock ∧ some k_ ≠ ((.slice Ao34 t329.length co34) : Value).ownBlock) v345 t344) ∧ Aside0 (Below w.heap.size w w'))
        case atStart => exact ⟨(0), (by first | rfl | (simp; done) | (simp [*]; done)), H', ⟨Nat.le_refl _⟩, ⟨by (with_reducible repeat (first | apply Kd.R_alloc | apply Kd.R_drewN | apply Kd.R_drew)); exact Kd.R_mono HO327.out (fun _ hk => trivial)⟩, ⟨by (with_reducible repeat (first | apply Kd.S_alloc | apply Kd.S_drewN | apply Kd.S_drew)); exact HO331.out⟩, ⟨by (with_reducible repeat (first | apply Kd.V_alloc | apply Kd.V_drewN | apply Kd.V_drew)); exact Kd.V_mono HO337.out (fun _ hk => ⟨hk.1.1.1.1.1, hk.1.1.1.1.2.1⟩)⟩, ⟨by (with_reducible repeat (first | apply Kd.V_alloc | apply Kd.V_drewN | apply Kd.V_drew)); exact Kd.V_mono HO346.out (fun _ hk => ⟨hk.1.1.1, hk.1.1.2.1⟩)⟩, ⟨by repeat (first | (with_reducible first | exact HB.out | apply below_alloc | apply pw_below_drewN | apply below_drew1) | exact HB.out)⟩⟩
        case round =>
         clear H'
         try clear c1
         try clear c2
         try clear p2
         try clear c4
         try clear c6
         try clear c6b0
         try clear c6b1
         try clear c7
         try clear c7b0
         try clear c7b1
         try clear c8
         try clear c10
         try clear c10b0
         try clear c10b1
         try clear c11
         try clear c11b0
         try clear c11b1
         try clear c12
         try clear c13
         try clear c14
         try clear c15
         try clear c19
         try clear c23
         try clear c25
         obtain ⟨x10_1, rfl, HA, HK1, HO_1, HO_7, HO_8, HO_9, HB⟩ := hrel
         cases gk with
         | zero => exact absurd HA.out (by simp [cenotaphlaw10_MatrixStables.l0])
         | succ k1 =>
          have H := HA.out
          clear HA
          simp only [cenotaphlaw10_MatrixStables.l0] at H
          by_cases c49 : x10_1 < (t325.length : Int)
          ·rw [if_pos c49] at H
           have c49b0 : decide (x10_1 < (t325.length : Int)) = true := decide_eq_true c49
           clear c49
           by_cases c50 : 0 ≤ x10_1
           ·rw [if_pos c50] at H
            have c50b0 : decide (0 ≤ x10_1) = true := decide_eq_true c50
            clear c50
            replace H := Option.bind_eq_some_iff.mp H
            obtain ⟨t357, A510, H⟩ := H
            have A51 := Aside0.mk A510
            clear A510
            replace H := Option.bind_eq_some_iff.mp H
            obtain ⟨t360, A520, H⟩ := H
            have A52 := Aside0.mk A520
            clear A520
            by_cases c53 : t360 = true
            ·subst c53
             have H1 : (cenotaphlaw10_MatrixStables.l0 k1 t325 t329 t335 t344 (wrap64 (x10_1 + 1))) = some r := by rw [if_pos rfl] at H; exact H
             clear H
             have H := H1
             clear H1
             have H' := Aside0.mk H
             clear H
             have p356 : 0 ≤ (x10_1 : Int) := of_decide_eq_true zq4x_15
             have q356 : x10_1 < (t325.length : Int) := of_decide_eq_true zq4x_15
             obtain ⟨ad356, e356, hx356_0⟩ := Kd.at_string (Kd.R_reads' HO_1.out).2.2 x10_1 p356 q356
             cases e356
             replace p356 := eq_true p356
             replace q356 := eq_true q356
             go_wp2_with (first | ((with_reducible refine gate_callee (f := 21) rfl ?_); refine goesL_ (some 64) rfl rfl Try.func21 (by kernel_rfl) rfl #[.slice Ao34 t329.length co34, .string (rdOf ByteArray.empty t325 x10_1)] rfl zq4x_0 ?_; (with_reducible refine (matrix_Of.calls _ _ t329 (rdOf ByteArray.empty t325 x10_1) t357 _ ?side1 ?side2 A51.out).mono ?_); (case side1 => repeat (first | exact (Kd.S_reads' HO_7.out).2.2 | (with_reducible refine Kd.C_alloc ?_ _) | (with_reducible refine Kd.C_drewN ?_ _) | (with_reducible refine Kd.C_drew ?_))); (case side2 => exact (Kd.S_reads' HO_7.out).2.1); rintro e w54 ⟨v358, rfl, ho0, hb⟩; refine ⟨_, rfl, ?_⟩; replace HO_8 := Aside0.mk (Kd.V_below zq4x_11 hb); replace HO_9 := Aside0.mk (Kd.V_below zq4x_12 hb); have HO359 := Aside0.mk (Kd.V_lower (Kd.V_mono (ok' := fun k_ => some k_ ≠ (.slice (some ad356) t325.length co32 : Value).ownBlock ∧ some k_ ≠ (.slice Ao34 t329.length co34 : Value).ownBlock) ho0 (fun k_ hk_ => ⟨(Kd.fresh' (Kd.R_lt zq4x_13) k_ hk_), (Kd.fresh' (Kd.S_lt zq4x_14) k_ hk_)⟩)) (below_size zq4x_1)); replace HO_1 := Aside0.mk (Kd.R_below zq4x_13 hb); replace HO_7 := Aside0.mk (Kd.S_below zq4x_14 hb); replace HB := Aside0.mk (below_step zq4x_1 hb); (try clear hb); (try clear hb2); (try clear hk); (try clear hi); (try clear ho0); obtain ⟨Ao55, co55, eo55⟩ := Kd.V_slice HO359.out; subst eo55) | ((with_reducible refine gate_callee (f := 20) rfl ?_); refine goesL_ (some 65) rfl rfl Try.func20 (by kernel_rfl) rfl #[.slice Ao43 t335.length co43, .slice Ao55 t357.length co55] rfl zq4x_0 ?_; (with_reducible refine (vec_Within.calls _ _ t335 _ _ t357 true _ ?side1 ?side2 ?side3 ?side4 A52.out).mono ?_); (case side1 => repeat (first | exact (Kd.V_reads' HO_8.out).2.2 | (with_reducible refine Kd.C_alloc ?_ _) | (with_reducible refine Kd.C_drewN ?_ _) | (with_reducible refine Kd.C_drew ?_))); (case side2 => exact (Kd.V_reads' HO_8.out).2.1); (case side3 => repeat (first | exact (Kd.V_reads' HO359.out).2.2 | (with_reducible refine Kd.C_alloc ?_ _) | (with_reducible refine Kd.C_drewN ?_ _) | (with_reducible refine Kd.C_drew ?_))); (case side4 => exact (Kd.V_reads' HO359.out).2.1); rintro e w56 ⟨rfl, hb⟩; refine ⟨_, rfl, ?_⟩; replace HO_1 := Aside0.mk (Kd.R_below zq4x_13 hb); replace HO_7 := Aside0.mk (Kd.S_below zq4x_14 hb); replace HO_8 := Aside0.mk (Kd.V_below zq4x_11 hb); replace HO_9 := Aside0.mk (Kd.V_below zq4x_12 hb); replace HO359 := Aside0.mk (Kd.V_below (by (with_reducible repeat (first | apply Kd.V_alloc | apply Kd.V_drewN | apply Kd.V_drew)); exact HO359.out) hb); replace HB := Aside0.mk (below_step zq4x_1 hb); (try clear hb); (try clear hb2); (try clear hk); (try clear hi)))
             go_roundg k1
             case measure => have := HK1.out; omega
             case rel => exact ⟨(wrap64 (x10_1 + 1)), (by first | rfl | (simp; done) | (simp [*]; done)), H', ⟨by have := HK1.out; omega⟩, ⟨by (with_reducible repeat (first | apply Kd.R_alloc | apply Kd.R_drewN | apply Kd.R_drew)); exact HO_1.out⟩, ⟨by (with_reducible repeat (first | apply Kd.S_alloc | apply Kd.S_drewN | apply Kd.S_drew)); exact HO_7.out⟩, ⟨by (with_reducible repeat (first | apply Kd.V_alloc | apply Kd.V_drewN | apply Kd.V_drew)); exact HO_8.out⟩, ⟨by (with_reducible repeat (first | apply Kd.V_alloc | apply Kd.V_drewN | apply Kd.V_drew)); exact HO_9.out⟩, ⟨by repeat (first | (with_reducible first | exact HB.out | apply below_alloc | apply pw_below_drewN | apply below_drew1) | exact HB.out)⟩⟩
            ·replace c53 := Bool.eq_false_iff.mpr c53
             subst c53
             have H1 : (none) = some r := by rw [if_neg (show ¬ (false = true) by decide)] at H; exact H
             clear H
             have H := H1
             clear H1
             exact absurd H (by simp)
           ·rw [if_neg c50] at H
            exact absurd H (by simp)
          ·rw [if_neg c49] at H
           have c49b0 : decide (x10_1 < (t325.length : Int)) = false := decide_eq_false c49
           clear c49
           by_cases c57 : (t325.length : Int) = 0
           ·rw [if_pos c57] at H
            have c57b0 : ((t325.length : Int) == 0) = true := beq_iff_eq.mpr c57
            have c57b1 : ((t325.length : Int) != 0) = false := bne_eq_false_iff_eq.mpr c57
            clear c57
            by_cases c58 : (t335.length : Int) = 0
            ·rw [if_pos c58] at H
             have c58b0 : ((t335.length : Int) == 0) = true := beq_iff_eq.mpr c58
             have c58b1 : ((t335.length : Int) != 0) = false := bne_eq_false_iff_eq.mpr c58
             clear c58
             obtain rfl := Option.some.inj H
             go_wp2
             go_ret
             exact ⟨by first | rfl | (simp [errW_none, errW_some] <;> rfl) | (simp only [← hji5, ← hji9]; first | rfl | (simp [errW_none, errW_some] <;> rfl)) | (simp [*, errW_none, errW_some] <;> rfl), by repeat (first | (with_reducible first | exact HB.out | apply below_alloc | apply pw_below_drewN | apply below_drew1) | exact HB.out)⟩
            ·rw [if_neg c58] at H
             have c58b0 : ((t335.length : Int) == 0) = false := beq_eq_false_iff_ne.mpr c58
             have c58b1 : ((t335.length : Int) != 0) = true := bne_iff_ne.mpr c58
             have c58b2 : ¬ (t335 = []) := fun h_ => c58 (by rw [h_]; rfl)
             by_cases c59 : (t325.length : Int) > 0
             ·rw [if_pos c59] at H
              have c59b0 : decide (0 < (t325.length : Int)) = true := decide_eq_true c59
              have c59b1 : decide (0 < t325.length) = true := decide_eq_true (by omega)
              clear c59
              replace H := Option.bind_eq_some_iff.mp H
              obtain ⟨t361, A600, H⟩ := H
              have A60 := Aside0.mk A600
              clear A600
              obtain rfl := Option.some.inj H
              obtain ⟨Ao61, co61, eo61⟩ := Kd.V_slice HO_9.out
              subst eo61
              go_wp2_with (first | (go_at_call 20; (with_reducible refine (vec_Within.calls _ _ t344 _ _ t335 t361 _ ?side1 ?side2 ?side3 ?side4 A60.out).mono ?_); (case side1 => repeat (first | exact (Kd.V_reads' HO_9.out).2.2 | (with_reducible refine Kd.C_alloc ?_ _) | (with_reducible refine Kd.C_drewN ?_ _) | (with_reducible refine Kd.C_drew ?_))); (case side2 => exact (Kd.V_reads' HO_9.out).2.1); (case side3 => repeat (first | exact (Kd.V_reads' HO_8.out).2.2 | (with_reducible refine Kd.C_alloc ?_ _) | (with_reducible refine Kd.C_drewN ?_ _) | (with_reducible refine Kd.C_drew ?_))); (case side4 => exact (Kd.V_reads' HO_8.out).2.1); rintro e w62 ⟨rfl, hb⟩; replace HO_1 := Aside0.mk (Kd.R_below zq4x_13 hb); replace HO_7 := Aside0.mk (Kd.S_below zq4x_14 hb); replace HO_8 := Aside0.mk (Kd.V_below zq4x_11 hb); replace HO_9 := Aside0.mk (Kd.V_below zq4x_12 hb); replace HB := Aside0.mk (below_step zq4x_1 hb); (try clear hb); (try clear hb2); (try clear hk); (try clear hi)))
              go_ret
              exact ⟨by first | rfl | (simp [errW_none, errW_some] <;> rfl) | (simp only [← hji5, ← hji9]; first | rfl | (simp [errW_none, errW_some] <;> rfl)) | (simp [*, errW_none, errW_some] <;> rfl), by repeat (first | (with_reducible first | exact HB.out | apply below_alloc | apply pw_below_drewN | apply below_drew1) | exact HB.out)⟩
             ·rw [if_neg c59] at H
              exact absurd H (by simp)
           ·rw [if_neg c57] at H
            have c57b0 : ((t325.length : Int) == 0) = false := beq_eq_false_iff_ne.mpr c57
            have c57b1 : ((t325.length : Int) != 0) = true := bne_iff_ne.mpr c57
            have c57b2 : ¬ (t325 = []) := fun h_ => c57 (by rw [h_]; rfl)
            by_cases c63 : (t325.length : Int) > 0
            ·rw [if_pos c63] at H
             have c63b0 : decide (0 < (t325.length : Int)) = true := decide_eq_true c63
             have c63b1 : decide (0 < t325.length) = true := decide_eq_true (by omega)
             clear c63
             replace H := Option.bind_eq_some_iff.mp H
             obtain ⟨t362, A640, H⟩ := H
             have A64 := Aside0.mk A640
             clear A640
             obtain rfl := Option.some.inj H
             obtain ⟨Ao65, co65, eo65⟩ := Kd.V_slice HO_9.out
             subst eo65
             go_wp2_with (first | (go_at_call 20; (with_reducible refine (vec_Within.calls _ _ t344 _ _ t335 t362 _ ?side1 ?side2 ?side3 ?side4 A64.out).mono ?_); (case side1 => repeat (first | exact (Kd.V_reads' HO_9.out).2.2 | (with_reducible refine Kd.C_alloc ?_ _) | (with_reducible refine Kd.C_drewN ?_ _) | (with_reducible refine Kd.C_drew ?_))); (case side2 => exact (Kd.V_reads' HO_9.out).2.1); (case side3 => repeat (first | exact (Kd.V_reads' HO_8.out).2.2 | (with_reducible refine Kd.C_alloc ?_ _) | (with_reducible refine Kd.C_drewN ?_ _) | (with_reducible refine Kd.C_drew ?_))); (case side4 => exact (Kd.V_reads' HO_8.out).2.1); rintro e w66 ⟨rfl, hb⟩; replace HO_1 := Aside0.mk (Kd.R_below zq4x_13 hb); replace HO_7 := Aside0.mk (Kd.S_below zq4x_14 hb); replace HO_8 := Aside0.mk (Kd.V_below zq4x_11 hb); replace HO_9 := Aside0.mk (Kd.V_below zq4x_12 hb); replace HB := Aside0.mk (below_step zq4x_1 hb); (try clear hb); (try clear hb2); (try clear hk); (try clear hi)))
             go_ret
             exact ⟨by first | rfl | (simp [errW_none, errW_some] <;> rfl) | (simp only [← hji5, ← hji9]; first | rfl | (simp [errW_none, errW_some] <;> rfl)) | (simp [*, errW_none, errW_some] <;> rfl), by repeat (first | (with_reducible first | exact HB.out | apply below_alloc | apply pw_below_drewN | apply below_drew1) | exact HB.out)⟩
            ·rw [if_neg c63] at H
             exact absurd H (by simp)
       ·replace c25 := Bool.eq_false_iff.mpr c25
        subst c25
        have H1 : (none) = some r := by rw [if_neg (show ¬ (false = true) by decide)] at H; exact H
        clear H
        have H := H1
        clear H1
        exact absurd H (by simp)
      ·replace c23 := Bool.eq_false_iff.mpr c23
       subst c23
       have H1 : (none) = some r := by rw [if_neg (show ¬ (false = true) by decide)] at H; exact H
       clear H
       have H := H1
       clear H1
       exact absurd H (by simp)
     ·replace c19 := Bool.eq_false_iff.mpr c19
      subst c19
      have H1 : (none) = some r := by rw [if_neg (show ¬ (false = true) by decide)] at H; exact H
      clear H
      have H := H1
      clear H1
      exact absurd H (by simp)
    ·rw [if_neg c11] at H
     exact absurd H (by simp)
   ·rw [if_neg c10] at H
    exact absurd H (by simp)
  ·rw [if_neg c7] at H
   exact absurd H (by simp)
 ·rw [if_neg c6] at H
  exact absurd H (by simp)

end Go.Proofs.Ytoodahceejdbcaa.P
