-- Written by a program of this session (wip/pp.py over the kit's printer, with our own texts put in).
import Derived.Test.YtoodahceejdbcaaP0
import Derived.Test.YtoodahceejdbcaaP3
import Derived.Test.YtoodahceejdbcaaP6
namespace Go.Proofs.Ytoodahceejdbcaa.P
open Go.RowKit Go.Proofs.YtoodahceejdbcaaW.PrintWords Go.Proofs.YtoodahceejdbcaaW.PrintLast Go.Proofs.YtoodahceejdbcaaW.PrintMore
attribute [local go_sem] max2_int min2_int max_two min_two max_three min_three max_four min_four   -- for this text's walks alone
set_option linter.unusedVariables false
set_option linter.unusedSimpArgs false

/-! ### cenotaphlaw01_To: function 15 -/
def cenotaphlaw01_To.l0 : Nat → List ByteArray → List ByteArray → Int → Option (List ByteArray)
  | 0, _, _, _ => none
  | k + 1, x0, x3, x4 => if x4 < (x0.length : Int) then (if 0 ≤ x4 then (if x3.length < 8796093022208 then (cenotaphlaw01_To.l0 k x0 (x3 ++ [rdOf ByteArray.empty x0 x4]) (wrap64 (x4 + 1))) else (none)) else (none)) else (some x3)
def cenotaphlaw01_To.f (k : Nat) (l0 : List ByteArray) : Option (List ByteArray) := cenotaphlaw01_To.l0 k l0 ([] : List ByteArray) 0
theorem cenotaphlaw01_To.mono_l : ∀ k, (∀ y0 y1 y2, LeO (cenotaphlaw01_To.l0 k y0 y1 y2) (cenotaphlaw01_To.l0 (k + 1) y0 y1 y2))
  | 0 => fun _ _ _ r h => by simp [cenotaphlaw01_To.l0] at h
  | k + 1 => by
    have ih0 := cenotaphlaw01_To.mono_l k
    · intro y0 y1 y2
      unfold cenotaphlaw01_To.l0
      repeat' first
      | (with_reducible exact ih0 _ _ _)
      | (with_reducible exact LeO.refl _)
      | (with_reducible exact LeO.none _)
      | (with_reducible refine LeO.ite ?_ ?_)
      | (with_reducible refine LeO.bind ?_ (fun _ => ?_))
      | exact ih0 _ _ _
      | exact LeO.none _
      | refine LeO.ite ?_ ?_
      | refine LeO.bind ?_ (fun _ => ?_)
theorem cenotaphlaw01_To.mono : ∀ a0 k, LeO (cenotaphlaw01_To.f k a0) (cenotaphlaw01_To.f (k + 1) a0) := by
  intro a0 k
  have ih0 := cenotaphlaw01_To.mono_l k
  unfold cenotaphlaw01_To.f
  repeat' first
      | (with_reducible exact ih0 _ _ _)
      | (with_reducible exact LeO.refl _)
      | (with_reducible exact LeO.none _)
      | (with_reducible refine LeO.ite ?_ ?_)
      | (with_reducible refine LeO.bind ?_ (fun _ => ?_))
      | exact ih0 _ _ _
      | exact LeO.none _
      | refine LeO.ite ?_ ?_
      | refine LeO.bind ?_ (fun _ => ?_)
set_option maxHeartbeats 8000000 in
set_option maxRecDepth 100000 in
theorem cenotaphlaw01_To.calls (k : Nat) (A0 : Option Addr) (c0 : Nat) (l0 : List ByteArray) (r : List ByteArray) (w : World) (hr0 : Kd.C Kd.string w A0 l0.length l0) (hc0 : l0.length ≤ c0) (h : cenotaphlaw01_To.f k l0 = some r) :
    Calls Try.prog 15 #[.slice A0 l0.length c0] w fun e w' => ∃ v0_ : Value, e = .returned (v0_) ∧ Kd.R Kd.string 46 w' w.heap.size (fun _ => True) v0_ r ∧ Below w.heap.size w w' := by
  have HR0 := Aside0.mk hr0
  have HC0 := Aside0.mk hc0
  clear hr0 hc0
  have HB := Aside0.mk (Below.refl w.heap.size w)
  have H : (cenotaphlaw01_To.l0 k l0 ([] : List ByteArray) 0) = some r := h
  clear h
  have H' := Aside0.mk H
  clear H
  go_enter Try.func15, Try.ntmps15
  go_wp2
  go_loopg [3, 4] k (fun kq v3 v4 w' => ∃ (x3_1 : List ByteArray) (x4_1 : Int), v4 = .int .i64 x4_1 ∧ Aside0 (cenotaphlaw01_To.l0 kq l0 x3_1 x4_1 = some r) ∧ Aside0 (kq ≤ k) ∧ Aside0 (Kd.R Kd.string 46 w' w.heap.size (fun _ => True) v3 x3_1) ∧ Aside0 (Below w.heap.size w w'))
  case atStart => exact ⟨(([] : List ByteArray)), (0), (by first | rfl | (simp; done) | (simp [*]; done)), H', ⟨Nat.le_refl _⟩, ⟨by first | exact Kd.R_nil _ _ _ _ _ | exact Kd.N_nil _ _ _ _ _ | exact Kd.V_nil _ _ _ _ _ | exact Kd.Q_nil _ _ _ _ _ | exact Kd.S_nil _ _ _ _ _⟩, ⟨by repeat (first | (with_reducible first | exact HB.out | apply below_alloc | apply pw_below_drewN | apply below_drew1) | exact HB.out)⟩⟩
  case round =>
    clear H'
    try clear c1
    obtain ⟨x3_1, x4_1, rfl, HA, HK1, HO_3, HB⟩ := hrel
    cases gk with
    | zero => exact absurd HA.out (by simp [cenotaphlaw01_To.l0])
    | succ k1 =>
      have H := HA.out
      clear HA
      simp only [cenotaphlaw01_To.l0] at H
      by_cases c2 : x4_1 < (l0.length : Int)
      · rw [if_pos c2] at H
        have c2b0 : decide (x4_1 < (l0.length : Int)) = true := decide_eq_true c2
        clear c2
        by_cases c3 : 0 ≤ x4_1
        · rw [if_pos c3] at H
          have c3b0 : decide (0 ≤ x4_1) = true := decide_eq_true c3
          clear c3
          by_cases c4 : x3_1.length < 8796093022208
          · rw [if_pos c4] at H
            have LMc4 := Aside0.mk c4
            clear c4
            obtain ⟨y287, hy287⟩ : ∃ y_ : List ByteArray, y_ = (x3_1 ++ [rdOf ByteArray.empty l0 x4_1]) := ⟨_, rfl⟩
            replace H : (cenotaphlaw01_To.l0 k1 l0 y287 (wrap64 (x4_1 + 1))) = some r := by first | (rw [hy287]; with_reducible exact H) | (have H2_ := (Option.bind_some _ _).symm.trans H; rw [hy287]; with_reducible exact H2_) | (have H2_ := (Option.bind_some _ _).symm.trans H; with_reducible exact H2_) | with_reducible exact H | (rw [hy287]; exact H) | exact H
            have Ny287 := Aside0.mk hy287
            clear hy287
            have H' := Aside0.mk H
            clear H
            have p286 : 0 ≤ (x4_1 : Int) := of_decide_eq_true (by first | (with_reducible assumption) | assumption)
            have q286 : x4_1 < (l0.length : Int) := of_decide_eq_true (by first | (with_reducible assumption) | assumption)
            obtain ⟨ad286, e286, hx286_0⟩ := Kd.at_string HR0.out x4_1 p286 q286
            cases e286
            replace hx286_0 := (HB.out.cell (World.block_lt_of_cell? w _ hx286_0)).trans hx286_0
            replace p286 := eq_true p286
            replace q286 := eq_true q286
            go_wp2_with (first | ((with_reducible refine gate_builtin (b := .append) (xs := #[.tmp 11, .tmp 16]) rfl ?_); at_builtin; refine Kd.R_append Kd.string (w0 := w) w.heap.size rfl (.tmp 11) (.tmp 16) 38 46 (.string ⟨#[]⟩) 16 rfl Try.underlying38 info46 rfl (by decide) (by omega) u3 x3_1 (rdOf ByteArray.empty l0 x4_1) [.string (rdOf ByteArray.empty l0 x4_1)] (fun _ => True) (fun _ => False) rfl rfl ?aP (fun _ hk => hk.elim) ?aF ?aO ?aB ?aS ?aL ?_; (case aP => exact rfl); (case aB => exact (by repeat (first | (with_reducible first | exact HB.out | apply below_alloc | apply pw_below_drewN | apply below_drew1) | exact HB.out))); (case aF => exact (fun _ _ => trivial)); (case aO => exact (by (with_reducible repeat (first | apply Kd.R_alloc | apply Kd.R_drewN | apply Kd.R_drew)); exact HO_3.out)); (case aS => exact (below_size (by repeat (first | (with_reducible first | exact HB.out | apply below_alloc | apply pw_below_drewN | apply below_drew1) | exact HB.out)))); (case aL => have := LMc4.out; omega); intro v288 w5 ho hb hg hat; rw [← Ny287.out] at ho; replace HB := Aside0.mk (hb); have HO289 := Aside0.mk (ho); clear HO_3; clear ho hb hg hat))
            go_roundg k1
            case measure => have := HK1.out; omega
            case rel => exact ⟨(y287), (wrap64 (x4_1 + 1)), (by first | rfl | (simp; done) | (simp [*]; done)), H', ⟨by have := HK1.out; omega⟩, ⟨by (with_reducible repeat (first | apply Kd.R_alloc | apply Kd.R_drewN | apply Kd.R_drew)); exact HO289.out⟩, ⟨by repeat (first | (with_reducible first | exact HB.out | apply below_alloc | apply pw_below_drewN | apply below_drew1) | exact HB.out)⟩⟩
          · rw [if_neg c4] at H
            exact absurd H (by simp)
        · rw [if_neg c3] at H
          exact absurd H (by simp)
      · rw [if_neg c2] at H
        have c2b0 : decide (x4_1 < (l0.length : Int)) = false := decide_eq_false c2
        clear c2
        obtain rfl := Option.some.inj H
        go_wp2
        go_ret
        exact ⟨_, by first | rfl | (simp [errW_none, errW_some] <;> rfl) | (simp [*, errW_none, errW_some] <;> rfl), by (with_reducible repeat (first | apply Kd.R_alloc | apply Kd.R_drewN | apply Kd.R_drew)); exact HO_3.out, by repeat (first | (with_reducible first | exact HB.out | apply below_alloc | apply pw_below_drewN | apply below_drew1) | exact HB.out)⟩

/-! ### cenotaphref03_Meet: function 44 -/
theorem zq44_0 {p_ : Prop} (h_ : p_ := by first | (with_reducible assumption) | assumption) : p_ := h_
def cenotaphref03_Meet.l0 : Nat → List (S76) → List (S76) → List (S76) → Int → Option ((List (S76)))
 | 0, _, _, _, _ => none
 | k + 1, x0, x1, x5, x6 => if x6 < (x0.length : Int) then (if 0 ≤ x6 then ((cenotaphref03_Of.f k x1 ((rd_T76 x0 x6).f0)).bind fun t300 => ((cenotaphref03_put.f k x5 ((rd_T76 x0 x6).f0) (mn ((rd_T76 x0 x6).f1) t300)).bind fun t301 => (cenotaphref03_Meet.l0 k x0 x1 t301 (wrap64 (x6 + 1))))) else (none)) else (some x5)
def cenotaphref03_Meet.f (k : Nat) (l0 : List (S76)) (l1 : List (S76)) : Option ((List (S76))) := cenotaphref03_Meet.l0 k l0 l1 ([] : List (S76)) 0
theorem cenotaphref03_Meet.mono_l : ∀ k, (∀ y0 y1 y2 y3, LeO (cenotaphref03_Meet.l0 k y0 y1 y2 y3) (cenotaphref03_Meet.l0 (k + 1) y0 y1 y2 y3))
 | 0 => fun _ _ _ _ r h => by simp [cenotaphref03_Meet.l0] at h
 | k + 1 => by
  have ih0 := cenotaphref03_Meet.mono_l k
  ·intro y0 y1 y2 y3
   unfold cenotaphref03_Meet.l0
   repeat' first
   | (with_reducible exact ih0 _ _ _ _)
   | (with_reducible exact cenotaphref03_Of.mono _ _ _)
   | (with_reducible exact cenotaphref03_put.mono _ _ _ _)
   | (with_reducible exact LeO.refl _)
   | (with_reducible exact LeO.none _)
   | (with_reducible refine LeO.ite ?_ ?_)
   | (with_reducible refine LeO.bind ?_ (fun _ => ?_))
   | exact ih0 _ _ _ _
   | exact cenotaphref03_Of.mono _ _ _
   | exact cenotaphref03_put.mono _ _ _ _
   | exact LeO.none _
   | refine LeO.ite ?_ ?_
   | refine LeO.bind ?_ (fun _ => ?_)
theorem cenotaphref03_Meet.mono : ∀ a0 a1 k, LeO (cenotaphref03_Meet.f k a0 a1) (cenotaphref03_Meet.f (k + 1) a0 a1) := by
 intro a0 a1 k
 have ih0 := cenotaphref03_Meet.mono_l k
 unfold cenotaphref03_Meet.f
 repeat' first
   | (with_reducible exact ih0 _ _ _ _)
   | (with_reducible exact cenotaphref03_Of.mono _ _ _)
   | (with_reducible exact cenotaphref03_put.mono _ _ _ _)
   | (with_reducible exact LeO.refl _)
   | (with_reducible exact LeO.none _)
   | (with_reducible refine LeO.ite ?_ ?_)
   | (with_reducible refine LeO.bind ?_ (fun _ => ?_))
   | exact ih0 _ _ _ _
   | exact cenotaphref03_Of.mono _ _ _
   | exact cenotaphref03_put.mono _ _ _ _
   | exact LeO.none _
   | refine LeO.ite ?_ ?_
   | refine LeO.bind ?_ (fun _ => ?_)
def cenotaphref03_Meet.T5 : Bool × List (List Nat × List Nat) := (true, [([], []), ([], []), ([], []), ([1, 2], [1, 2]), ([3], [3]), ([4], [4]), ([], []), ([], []), ([6, 7], [6, 7]), ([8], [8]), ([9], [9]), ([], []), ([], []), ([], []), ([12, 13], [12, 13]), ([14], [14]), ([15], [15]), ([11, 16], [11, 16]), ([10, 17], [10, 17]), ([0, 5, 18, 17], [0, 5, 18]), ([19, 19, 0, 1, 2, 3, 4, 5, 6, 7, 8, 9, 10, 11, 12, 13, 14, 15, 16, 17, 18, 19], [0, 19])])
def cenotaphref03_Meet.B5 : List Nat := [0, 0, 0, 6, 14, 30, 0, 0, 192, 448, 960, 0, 0, 0, 12288, 28672, 61440, 129024, 262080, 524287, 1048575]
theorem cenotaphref03_Meet.tab5 : rtab .any (opsOf Try.f44 5) = cenotaphref03_Meet.T5 := by kernel_rfl
theorem cenotaphref03_Meet.bits5 : waitsOk cenotaphref03_Meet.T5.2 cenotaphref03_Meet.B5 = true := by kernel_rfl
set_option maxHeartbeats 8000000 in
set_option maxRecDepth 100000 in
theorem cenotaphref03_Meet.calls (k : Nat) (A0 : Option Addr) (c0 : Nat) (l0 : List (S76)) (A1 : Option Addr) (c1 : Nat) (l1 : List (S76)) (r : List (S76)) (w : World) (hr0 : Kd.C k76 w A0 l0.length l0) (hc0 : l0.length ≤ c0) (hr1 : Kd.C k76 w A1 l1.length l1) (hc1 : l1.length ≤ c1) (h : cenotaphref03_Meet.f k l0 l1 = some r) :
  Calls Try.prog 44 #[.slice A0 l0.length c0, .slice A1 l1.length c1] w fun e w' => ∃ v0_ : Value, e = .returned (v0_) ∧ Kd.R k76 76 w' w.heap.size (fun _ => True) v0_ r ∧ Below w.heap.size w w' := by
 have HR0 := Aside0.mk hr0
 have HC0 := Aside0.mk hc0
 clear hr0 hc0
 have HR1 := Aside0.mk hr1
 have HC1 := Aside0.mk hc1
 clear hr1 hc1
 have HB := Aside0.mk (Below.refl w.heap.size w)
 have H : (cenotaphref03_Meet.l0 k l0 l1 ([] : List (S76)) 0) = some r := h
 clear h
 have H' := Aside0.mk H
 clear H
 go_enter Try.func44, Try.ntmps44
 go_wp2
 go_loopg [5, 6] k (fun kq v5 v6 w' => ∃ (x5_1 : List (S76)) (x6_1 : Int), v6 = .int .i64 x6_1 ∧ Aside0 (cenotaphref03_Meet.l0 kq l0 l1 x5_1 x6_1 = some r) ∧ Aside0 (kq ≤ k) ∧ Aside0 (Kd.R k76 76 w' w.heap.size (fun _ => True) v5 x5_1) ∧ Aside0 (Below w.heap.size w w'))
 case atStart => exact ⟨(([] : List (S76))), (0), (by first | rfl | (simp; done) | (simp [*]; done)), H', ⟨Nat.le_refl _⟩, ⟨by first | exact Kd.R_nil _ _ _ _ _ | exact Kd.N_nil _ _ _ _ _ | exact Kd.V_nil _ _ _ _ _ | exact Kd.Q_nil _ _ _ _ _ | exact Kd.S_nil _ _ _ _ _⟩, ⟨by repeat (first | (with_reducible first | exact HB.out | apply below_alloc | apply pw_below_drewN | apply below_drew1) | exact HB.out)⟩⟩
 case round =>
  clear H'
  try clear c1
  try clear p2
  obtain ⟨x5_1, x6_1, rfl, HA, HK1, HO_5, HB⟩ := hrel
  cases gk with
  | zero => exact absurd HA.out (by simp [cenotaphref03_Meet.l0])
  | succ k1 =>
   have H := HA.out
   clear HA
   simp only [cenotaphref03_Meet.l0] at H
   by_cases c3 : x6_1 < (l0.length : Int)
   ·rw [if_pos c3] at H
    have c3b0 : decide (x6_1 < (l0.length : Int)) = true := decide_eq_true c3
    clear c3
    by_cases c4 : 0 ≤ x6_1
    ·rw [if_pos c4] at H
     have c4b0 : decide (0 ≤ x6_1) = true := decide_eq_true c4
     clear c4
     replace H := Option.bind_eq_some_iff.mp H
     obtain ⟨t300, A50, H⟩ := H
     have A5 := Aside0.mk A50
     clear A50
     obtain ⟨ji6, hji6⟩ : ∃ j_ : Int, (mn ((rd_T76 l0 x6_1).f1) t300) = j_ := ⟨_, rfl⟩
     replace H : ((cenotaphref03_put.f k1 x5_1 ((rd_T76 l0 x6_1).f0) (ji6)).bind fun t301 => (cenotaphref03_Meet.l0 k1 l0 l1 t301 (wrap64 (x6_1 + 1)))) = some r := by first | (rw [hji6] at H; exact H) | (simp only [hji6] at H ⊢; exact H)
     (try rw [hji6] at A5)
     have hji6_ : (if t300 < ((rd_T76 l0 x6_1).f1) then t300 else ((rd_T76 l0 x6_1).f1)) = ji6 := hji6
     replace H := Option.bind_eq_some_iff.mp H
     obtain ⟨t301, A70, H⟩ := H
     have A7 := Aside0.mk A70
     clear A70
     have H' := Aside0.mk H
     clear H
     try go_wp2
     replace HO_5 := Aside0.mk (Kd.R_drew HO_5.out)
     replace HB := Aside0.mk (below_drew1 HB.out)
     have p297 : 0 ≤ (x6_1 : Int) := of_decide_eq_true zq44_0
     have q297 : x6_1 < (l0.length : Int) := of_decide_eq_true zq44_0
     obtain ⟨ad297, e297, hx297_0, hx297_1⟩ := at_T76 HR0.out x6_1 p297 q297
     have hw297_1 := hx297_1
     have hw297_0 := hx297_0
     cases e297
     replace hx297_0 := (HB.out.cell (World.block_lt_of_cell? w _ hx297_0)).trans hx297_0
     replace hx297_1 := (HB.out.cell (World.block_lt_of_cell? w _ hx297_1)).trans hx297_1
     replace p297 := eq_true p297
     replace q297 := eq_true q297
     have p298 : 0 ≤ (x6_1 : Int) := of_decide_eq_true zq44_0
     have q298 : x6_1 < (l0.length : Int) := of_decide_eq_true zq44_0
     obtain ⟨ad298, e298, hx298_0, hx298_1⟩ := at_T76 HR0.out x6_1 p298 q298
     have hw298_1 := hx298_1
     have hw298_0 := hx298_0
     obtain rfl : ad297 = ad298 := (by injection e298)
     replace hx298_0 := (HB.out.cell (World.block_lt_of_cell? w _ hx298_0)).trans hx298_0
     replace hx298_1 := (HB.out.cell (World.block_lt_of_cell? w _ hx298_1)).trans hx298_1
     replace p298 := eq_true p298
     replace q298 := eq_true q298
     have p299 : 0 ≤ (x6_1 : Int) := of_decide_eq_true zq44_0
     have q299 : x6_1 < (l0.length : Int) := of_decide_eq_true zq44_0
     obtain ⟨ad299, e299, hx299_0, hx299_1⟩ := at_T76 HR0.out x6_1 p299 q299
     have hw299_1 := hx299_1
     have hw299_0 := hx299_0
     obtain rfl : ad297 = ad299 := (by injection e299)
     replace hx299_0 := (HB.out.cell (World.block_lt_of_cell? w _ hx299_0)).trans hx299_0
     replace hx299_1 := (HB.out.cell (World.block_lt_of_cell? w _ hx299_1)).trans hx299_1
     replace p299 := eq_true p299
     replace q299 := eq_true q299
     refine start_ (n := 21) (S := fun w' => w'.cell? (ad297.add ((x6_1).toNat * 2)) = some (.string ((rd_T76 l0 x6_1).f0)) ∧ w'.cell? ⟨(ad297.add ((x6_1).toNat * 2)).block, (ad297.add ((x6_1).toNat * 2)).off + 1, none⟩ = some (.int .i64 ((rd_T76 l0 x6_1).f1)) ∧ w'.cell? (ad297.add ((x6_1).toNat * 2)) = some (.string ((rd_T76 l0 x6_1).f0)) ∧ w'.cell? ⟨(ad297.add ((x6_1).toNat * 2)).block, (ad297.add ((x6_1).toNat * 2)).off + 1, none⟩ = some (.int .i64 ((rd_T76 l0 x6_1).f1)) ∧ w'.cell? (ad297.add ((x6_1).toNat * 2)) = some (.string ((rd_T76 l0 x6_1).f0)) ∧ w'.cell? ⟨(ad297.add ((x6_1).toNat * 2)).block, (ad297.add ((x6_1).toNat * 2)).off + 1, none⟩ = some (.int .i64 ((rd_T76 l0 x6_1).f1))) (ds := []) #[false, false, false, false, false, false, false, false, false, false, false, false, false, false, false, false, false, false, false, false, false] (by kernel_rfl) rfl rfl ⟨((HB.out.cell (World.block_lt_of_cell? w _ hw297_0)).trans hw297_0), ((HB.out.cell (World.block_lt_of_cell? w _ hw297_1)).trans hw297_1), ((HB.out.cell (World.block_lt_of_cell? w _ hw298_0)).trans hw298_0), ((HB.out.cell (World.block_lt_of_cell? w _ hw298_1)).trans hw298_1), ((HB.out.cell (World.block_lt_of_cell? w _ hw299_0)).trans hw299_0), ((HB.out.cell (World.block_lt_of_cell? w _ hw299_1)).trans hw299_1)⟩ (fun hHeld => ?_); refine with_tabW cenotaphref03_Meet.tab5 cenotaphref03_Meet.bits5 (fun HT_ HW_ => ?_)
     generalize wr.drew = w8 at HO_5 HB hx297_0 hx297_1 hx298_0 hx298_1 hx299_0 hx299_1 hHeld ⊢
     refine p_ 0 13 (mk_ 21 0x1) ?_
     refine p_ 1 14 (mk_ 21 0x3) ?_
     refine p_ 2 15 (mk_ 21 0x7) ?_
     refine p_ 3 16 (mk_ 21 0xf) ?_
     refine p_ 4 17 (mk_ 21 0x1f) ?_
     refine p_ 6 19 (mk_ 21 0x5f) ?_
     refine p_ 7 20 (mk_ 21 0xdf) ?_
     refine p_ 8 21 (mk_ 21 0x1df) ?_
     refine p_ 9 22 (mk_ 21 0x3df) ?_
     refine p_ 11 24 (mk_ 21 0xbdf) ?_
     refine p_ 12 25 (mk_ 21 0x1bdf) ?_
     refine p_ 13 26 (mk_ 21 0x3bdf) ?_
     refine p_ 14 27 (mk_ 21 0x7bdf) ?_
     refine p_ 15 28 (mk_ 21 0xfbdf) ?_
     refine t_ 5 18 (mk_ 21 0xfbff) hHeld ?_
     refine t_ 10 23 (mk_ 21 0xffff) hHeld ?_
     refine t_ 16 29 (mk_ 21 0x1ffff) hHeld ?_
     refine one_ (i := 17) (N := some 30) #[true, true, true, true, true, true, true, true, true, true, true, true, true, true, true, true, true, true, false, false, false] rfl rfl (one_of HT_.out (by kernel_rfl)) (by decide) (fun K hK => ?_)
     refine goes_ Try.func63 (by kernel_rfl) rfl #[.slice A1 l1.length c1, .string ((rd_T76 l0 x6_1).f0)] (by rfl) rfl rfl (by (try simp only [List.map_toArray, List.map_cons, List.map_nil]); first | done | rfl | (simp only [List.length_drop, List.length_take]; rfl)) ?_
     with_reducible refine (cenotaphref03_Of.calls k1 _ _ l1 ((rd_T76 l0 x6_1).f0) t300 _ ?side1 ?side2 A5.out).mono ?_
     (case side1 => repeat (first | exact (Kd.C_below HR1.out HB.out) | (with_reducible refine Kd.C_alloc ?_ _) | (with_reducible refine Kd.C_drewN ?_ _) | (with_reducible refine Kd.C_drew ?_)))
     (case side2 => exact HC1.out)
     rintro e w' ⟨rfl, ⟨nd, rfl⟩⟩
     refine ⟨_, rfl, ?_⟩
     obtain ⟨Ao9, co9, eo9⟩ := Kd.R_slice HO_5.out
     (first | subst eo9 | (injection eo9 with f1_ f2_ f3_; have f4_ := f1_.symm; have f5_ := f3_.symm; clear f1_ f2_ f3_; subst f4_; subst f5_))
     refine hK.out _ _ ⟨((HB.out.cell (World.block_lt_of_cell? w _ hw297_0)).trans hw297_0), ((HB.out.cell (World.block_lt_of_cell? w _ hw297_1)).trans hw297_1), ((HB.out.cell (World.block_lt_of_cell? w _ hw298_0)).trans hw298_0), ((HB.out.cell (World.block_lt_of_cell? w _ hw298_1)).trans hw298_1), ((HB.out.cell (World.block_lt_of_cell? w _ hw299_0)).trans hw299_0), ((HB.out.cell (World.block_lt_of_cell? w _ hw299_1)).trans hw299_1)⟩ (fun hHeld => ?_)
     clear hK K
     refine norm_ (a' := ?_) ?_ ?_
     rotate_left
     ·show Act.put _ (some 30) _ = _
      simp only [Act.put, List.setIfInBounds_toArray, List.set_cons_zero, List.set_cons_succ, i64_w, i32_w]
      rfl
     refine p_ 18 31 (mk_ 21 0x7ffff) ?_
     refine one_ (i := 19) (N := some 32) #[true, true, true, true, true, true, true, true, true, true, true, true, true, true, true, true, true, true, true, true, false] rfl rfl (one_of HT_.out (by kernel_rfl)) (by decide) (fun K hK => ?_)
     refine goes_ Try.func56 (by kernel_rfl) rfl #[.slice Ao9 x5_1.length co9, .string ((rd_T76 l0 x6_1).f0), .int .i64 ji6] (by rfl) rfl rfl (by (try simp only [List.map_toArray, List.map_cons, List.map_nil]); first | done | (simp only [hji6]; rfl) | rfl | (simp only [List.length_drop, List.length_take]; rfl)) ?_
     with_reducible refine (cenotaphref03_put.calls k1 _ _ x5_1 ((rd_T76 l0 x6_1).f0) ji6 t301 _ ?side1 ?side2 A7.out).mono ?_
     (case side1 => repeat (first | exact (Kd.R_reads' HO_5.out).2.2 | (with_reducible refine Kd.C_alloc ?_ _) | (with_reducible refine Kd.C_drewN ?_ _) | (with_reducible refine Kd.C_drew ?_)))
     (case side2 => exact (Kd.R_reads' HO_5.out).2.1)
     rintro e w10 ⟨v302, rfl, ho0, hb⟩
     refine ⟨_, rfl, ?_⟩
     have HO303 := Aside0.mk (Kd.R_lower (Kd.R_new' ho0 (Kd.R_lt (by (with_reducible repeat (first | apply Kd.R_alloc | apply Kd.R_drewN | apply Kd.R_drew)); exact HO_5.out))) (below_size (by repeat (first | (with_reducible first | exact HB.out | apply below_alloc | apply pw_below_drewN | apply below_drew1) | exact HB.out))))
     replace HO_5 := Aside0.mk (Kd.R_elder' (by (with_reducible repeat (first | apply Kd.R_alloc | apply Kd.R_drewN | apply Kd.R_drew)); exact HO_5.out) (Kd.R_base ho0) hb)
     replace HB := Aside0.mk (below_step (by repeat (first | (with_reducible first | exact HB.out | apply below_alloc | apply pw_below_drewN | apply below_drew1) | exact HB.out)) hb)
     (try clear hb)
     (try clear hb2)
     (try clear hk)
     (try clear hi)
     (try clear ho0)
     refine hK.out _ _ ⟨((HB.out.cell (World.block_lt_of_cell? w _ hw297_0)).trans hw297_0), ((HB.out.cell (World.block_lt_of_cell? w _ hw297_1)).trans hw297_1), ((HB.out.cell (World.block_lt_of_cell? w _ hw298_0)).trans hw298_0), ((HB.out.cell (World.block_lt_of_cell? w _ hw298_1)).trans hw298_1), ((HB.out.cell (World.block_lt_of_cell? w _ hw299_0)).trans hw299_0), ((HB.out.cell (World.block_lt_of_cell? w _ hw299_1)).trans hw299_1)⟩ (fun hHeld => ?_)
     clear hK K
     refine norm_ (a' := ?_) ?_ ?_
     rotate_left
     ·show Act.put _ (some 32) _ = _
      simp only [Act.put, List.setIfInBounds_toArray, List.set_cons_zero, List.set_cons_succ, i64_w, i32_w]
      rfl
     refine p_ 20 5 (mk_ 21 0x1fffff) ?_
     refine done_ (done_of HT_.out (by kernel_rfl)) ?_
     try go_wp2
     go_roundg k1
     case measure => have := HK1.out; omega
     case rel => exact ⟨(t301), (wrap64 (x6_1 + 1)), (by first | rfl | (simp; done) | (simp [*]; done)), H', ⟨by have := HK1.out; omega⟩, ⟨by (with_reducible repeat (first | apply Kd.R_alloc | apply Kd.R_drewN | apply Kd.R_drew)); exact Kd.R_mono HO303.out (fun _ hk => trivial)⟩, ⟨by repeat (first | (with_reducible first | exact HB.out | apply below_alloc | apply pw_below_drewN | apply below_drew1) | exact HB.out)⟩⟩
    ·rw [if_neg c4] at H
     exact absurd H (by simp)
   ·rw [if_neg c3] at H
    have c3b0 : decide (x6_1 < (l0.length : Int)) = false := decide_eq_false c3
    clear c3
    obtain rfl := Option.some.inj H
    go_wp2
    go_ret
    exact ⟨_, by first | rfl | (simp [errW_none, errW_some] <;> rfl) | (simp [*, errW_none, errW_some] <;> rfl), by (with_reducible repeat (first | apply Kd.R_alloc | apply Kd.R_drewN | apply Kd.R_drew)); exact HO_5.out, by repeat (first | (with_reducible first | exact HB.out | apply below_alloc | apply pw_below_drewN | apply below_drew1) | exact HB.out)⟩

/-! ### cenotaphref10_Stable: function 18 -/
theorem zq18_0 {p_ : Prop} (h_ : p_ := by (try simp only [List.map_toArray, List.map_cons, List.map_nil]); first | done | rfl | (simp only [List.length_drop, List.length_take]; rfl)) : p_ := h_
theorem zq18_1 {p_ : Prop} (h_ : p_ := by repeat (first | (with_reducible first | exact HB.out | apply below_alloc | apply pw_below_drewN | apply below_drew1) | exact HB.out)) : p_ := h_
theorem zq18_2 {p_ : Prop} (h_ : p_ := by (with_reducible repeat (first | apply Kd.R_alloc | apply Kd.R_drewN | apply Kd.R_drew)); exact HO306.out) : p_ := h_
theorem zq18_3 {p_ : Prop} (h_ : p_ := by (with_reducible repeat (first | apply Kd.R_alloc | apply Kd.R_drewN | apply Kd.R_drew)); exact HO_5.out) : p_ := h_
theorem zq18_4 {p_ : Prop} (h_ : p_ := by first | (with_reducible assumption) | assumption) : p_ := h_
def cenotaphref10_Stable.l0 : Nat → List (S25) → List ByteArray → List (S76) → Int → Option ((List (S76)))
 | 0, _, _, _, _ => none
 | k + 1, x0, x1, x5, x6 => if x6 < (x1.length : Int) then (if 0 ≤ x6 then ((cenotaphref10_Of.f k x0 (rdOf ByteArray.empty x1 x6)).bind fun t315 => ((cenotaphref03_Meet.f k x5 t315).bind fun t318 => (cenotaphref10_Stable.l0 k x0 x1 t318 (wrap64 (x6 + 1))))) else (none)) else (some x5)
def cenotaphref10_Stable.f (k : Nat) (l0 : List (S25)) (l1 : List ByteArray) : Option ((List (S76))) := if (l1.length : Int) < 1 then (some ([] : List (S76))) else ((some (([] : List (S76)) : List (S76))).bind fun y304 => (if 0 < (l1.length : Int) then ((cenotaphref10_Of.f k l0 (rdOf ByteArray.empty l1 0)).bind fun t308 => (if y304.length + t308.length < 5864062014805 then (cenotaphref10_Stable.l0 k l0 l1 (y304 ++ t308) 1) else (none))) else (none)))
theorem cenotaphref10_Stable.mono_l : ∀ k, (∀ y0 y1 y2 y3, LeO (cenotaphref10_Stable.l0 k y0 y1 y2 y3) (cenotaphref10_Stable.l0 (k + 1) y0 y1 y2 y3))
 | 0 => fun _ _ _ _ r h => by simp [cenotaphref10_Stable.l0] at h
 | k + 1 => by
  have ih0 := cenotaphref10_Stable.mono_l k
  ·intro y0 y1 y2 y3
   unfold cenotaphref10_Stable.l0
   repeat' first
   | (with_reducible exact ih0 _ _ _ _)
   | (with_reducible exact cenotaphref03_Meet.mono _ _ _)
   | (with_reducible exact cenotaphref10_Of.mono _ _ _)
   | (with_reducible exact LeO.refl _)
   | (with_reducible exact LeO.none _)
   | (with_reducible refine LeO.ite ?_ ?_)
   | (with_reducible refine LeO.bind ?_ (fun _ => ?_))
   | exact ih0 _ _ _ _
   | exact cenotaphref03_Meet.mono _ _ _
   | exact cenotaphref10_Of.mono _ _ _
   | exact LeO.none _
   | refine LeO.ite ?_ ?_
   | refine LeO.bind ?_ (fun _ => ?_)
theorem cenotaphref10_Stable.mono : ∀ a0 a1 k, LeO (cenotaphref10_Stable.f k a0 a1) (cenotaphref10_Stable.f (k + 1) a0 a1) := by
 intro a0 a1 k
 have ih0 := cenotaphref10_Stable.mono_l k
 unfold cenotaphref10_Stable.f
 repeat' first
   | (with_reducible exact ih0 _ _ _ _)
   | (with_reducible exact cenotaphref03_Meet.mono _ _ _)
   | (with_reducible exact cenotaphref10_Of.mono _ _ _)
   | (with_reducible exact LeO.refl _)
   | (with_reducible exact LeO.none _)
   | (with_reducible refine LeO.ite ?_ ?_)
   | (with_reducible refine LeO.bind ?_ (fun _ => ?_))
   | exact ih0 _ _ _ _
   | exact cenotaphref03_Meet.mono _ _ _
   | exact cenotaphref10_Of.mono _ _ _
   | exact LeO.none _
   | refine LeO.ite ?_ ?_
   | refine LeO.bind ?_ (fun _ => ?_)
set_option maxHeartbeats 8000000 in
set_option maxRecDepth 100000 in
theorem cenotaphref10_Stable.calls (k : Nat) (A0 : Option Addr) (c0 : Nat) (l0 : List (S25)) (A1 : Option Addr) (c1 : Nat) (l1 : List ByteArray) (r : List (S76)) (w : World) (hr0 : Kd.C k25 w A0 l0.length l0) (hc0 : l0.length ≤ c0) (hr1 : Kd.C Kd.string w A1 l1.length l1) (hc1 : l1.length ≤ c1) (h : cenotaphref10_Stable.f k l0 l1 = some r) :
  Calls Try.prog 18 #[.slice A0 l0.length c0, .slice A1 l1.length c1] w fun e w' => ∃ v0_ : Value, e = .returned (v0_) ∧ Kd.R k76 76 w' w.heap.size (fun _ => True) v0_ r ∧ Below w.heap.size w w' := by
 have HR0 := Aside0.mk hr0
 have HC0 := Aside0.mk hc0
 clear hr0 hc0
 have HR1 := Aside0.mk hr1
 have HC1 := Aside0.mk hc1
 clear hr1 hc1
 have HB := Aside0.mk (Below.refl w.heap.size w)
 have H := h
 unfold cenotaphref10_Stable.f at H
 clear h
 by_cases c3 : (l1.length : Int) < 1
 ·rw [if_pos c3] at H
  have c3b0 : decide ((l1.length : Int) < 1) = true := decide_eq_true c3
  have c3b1 : decide (l1.length < 1) = true := decide_eq_true (by omega)
  clear c3
  obtain rfl := Option.some.inj H
  go_enter Try.func18, Try.ntmps18
  go_wp2
  go_ret
  exact ⟨_, by first | rfl | (simp [errW_none, errW_some] <;> rfl) | (simp [*, errW_none, errW_some] <;> rfl), by first | exact Kd.R_nil _ _ _ _ _ | exact Kd.N_nil _ _ _ _ _ | exact Kd.V_nil _ _ _ _ _ | exact Kd.Q_nil _ _ _ _ _ | exact Kd.S_nil _ _ _ _ _, by repeat (first | (with_reducible first | exact HB.out | apply below_alloc | apply pw_below_drewN | apply below_drew1) | exact HB.out)⟩
 ·rw [if_neg c3] at H
  have c3b0 : decide ((l1.length : Int) < 1) = false := decide_eq_false c3
  have c3b1 : decide (l1.length < 1) = false := decide_eq_false (by omega)
  clear c3
  obtain ⟨y304, hy304⟩ : ∃ y_ : List (S76), y_ = (([] : List (S76))) := ⟨_, rfl⟩
  replace H : (if 0 < (l1.length : Int) then ((cenotaphref10_Of.f k l0 (rdOf ByteArray.empty l1 0)).bind fun t308 => (if y304.length + t308.length < 5864062014805 then (cenotaphref10_Stable.l0 k l0 l1 (y304 ++ t308) 1) else (none))) else (none)) = some r := by first | (rw [hy304]; with_reducible exact H) | (have H2_ := (Option.bind_some _ _).symm.trans H; rw [hy304]; with_reducible exact H2_) | (have H2_ := (Option.bind_some _ _).symm.trans H; with_reducible exact H2_) | with_reducible exact H | (rw [hy304]; exact H) | exact H
  have Ny304 := Aside0.mk hy304
  clear hy304
  by_cases c4 : 0 < (l1.length : Int)
  ·rw [if_pos c4] at H
   have c4b0 : decide (0 < (l1.length : Int)) = true := decide_eq_true c4
   have c4b1 : decide (0 < l1.length) = true := decide_eq_true (by omega)
   clear c4
   replace H := Option.bind_eq_some_iff.mp H
   obtain ⟨t308, A50, H⟩ := H
   have A5 := Aside0.mk A50
   clear A50
   by_cases c6 : y304.length + t308.length < 5864062014805
   ·rw [if_pos c6] at H
    have LMc6 := Aside0.mk c6
    clear c6
    obtain ⟨y311, hy311⟩ : ∃ y_ : List (S76), y_ = (y304 ++ t308) := ⟨_, rfl⟩
    replace H : (cenotaphref10_Stable.l0 k l0 l1 y311 1) = some r := by first | (rw [hy311]; with_reducible exact H) | (have H2_ := (Option.bind_some _ _).symm.trans H; rw [hy311]; with_reducible exact H2_) | (have H2_ := (Option.bind_some _ _).symm.trans H; with_reducible exact H2_) | with_reducible exact H | (rw [hy311]; exact H) | exact H
    have Ny311 := Aside0.mk hy311
    clear hy311
    have H' := Aside0.mk H
    clear H
    go_enter Try.func18, Try.ntmps18
    go_wp2_with (first | ((with_reducible refine gate_dst (N := 10) rfl ?_); refine Kd.R_lit k76 _ 76 ?hg (N := 10) ?hd (xs := ([] : List (S76))) (inner := []) (ok := fun _ => True) (okp := fun _ => True) ?hr ?hp (fun _ hk => hk) trivial (Below.refl _ _) (Nat.le_refl _) (by simp) ?_; (case hd => rfl); (case hg => rfl); (case hr => first | (go_simp; done) | (go_simp; rfl)); (case hp => exact (Reps.none _ _)); intro v305 w7 ho8 hb hg_ hnew_; clear hg_ hnew_; (first | rw [← Ny304.out] at ho8 | (simp only [Int.reduceToNat] at ho8; rw [← Ny304.out] at ho8)); have HO306 := Aside0.mk (Kd.R_lower ho8 (below_size zq18_1)); replace HB := Aside0.mk (below_step zq18_1 hb); clear hb ho8; have p307 : 0 ≤ (0 : Int) := (by omega); have q307 : 0 < (l1.length : Int) := of_decide_eq_true zq18_4; obtain ⟨ad307, e307, hx307_0⟩ := Kd.at_string HR1.out 0 p307 q307; cases e307; have qi307 : (0 < l1.length) = True := eq_true (by omega); (try rw [show ((0 : Int)).toNat = 0 from rfl] at hx307_0); (try rw [Addr.add_zero'] at hx307_0); replace hx307_0 := (HB.out.cell (World.block_lt_of_cell? w _ hx307_0)).trans hx307_0; replace p307 := eq_true p307; replace q307 := eq_true q307) | ((with_reducible refine gate_callee (f := 34) rfl ?_); refine goesL_ (some 15) rfl rfl Try.func34 (by kernel_rfl) rfl #[.slice A0 l0.length c0, .string (rdOf ByteArray.empty l1 0)] rfl zq18_0 ?_; (with_reducible refine (cenotaphref10_Of.calls k (fun k_ => k_ < w.heap.size) _ _ l0 (rdOf ByteArray.empty l1 0) t308 _ ?side1 A5.out).mono ?_); (case side1 => exact Kd.V_mk HC0.out (Kd.F_below (Kd.C_F k25_heap HR0.out) zq18_1)); rintro e w9 ⟨v309, rfl, ho0, hb⟩; refine ⟨_, rfl, ?_⟩; have HO310 := Aside0.mk (Kd.V_lower (Kd.V_mono (ok' := fun k_ => some k_ ≠ (v305 : Value).ownBlock) ho0 (fun k_ hk_ => Or.elim hk_ (fun hs_ => fun e_ => Nat.not_le.2 hs_ (Kd.R_base HO306.out k_ e_.symm)) (fun hn_ => (Kd.fresh' (Kd.R_lt zq18_2) k_ hn_)))) (below_size zq18_1)); replace HO306 := Aside0.mk (Kd.R_below zq18_2 hb); replace HB := Aside0.mk (below_step zq18_1 hb); (try clear hb); (try clear hb2); (try clear hk); (try clear hi); (try clear ho0); obtain ⟨Ao11, co11, eo11⟩ := Kd.V_slice HO310.out; subst eo11) | ((with_reducible refine gate_builtin (b := .append) (xs := #[.tmp 10, .tmp 15]) rfl ?_); at_builtin; refine Kd.R_append_rows k76 (w0 := w) w.heap.size rfl (.tmp 10) (.tmp 15) 23 76 (.agg #[(.string ⟨#[]⟩), (.int .i64 0)]) 24 rfl Try.underlying23 info76 rfl (by decide) (by omega) v305 y304 t308 _ _ _ (fun _ => True) (fun _ => False) rfl rfl ?aO ?aR (fun _ _ h => h) (fun _ h => h.elim) ?aF ?aB ?aS ?aL ?_; (case aR => repeat (first | exact (Kd.V_reads' HO310.out).2.2 | (with_reducible refine Kd.C_alloc ?_ _) | (with_reducible refine Kd.C_drewN ?_ _) | (with_reducible refine Kd.C_drew ?_))); (case aB => exact zq18_1); (case aF => exact (fun _ _ => trivial)); (case aO => exact zq18_2); (case aS => exact (below_size zq18_1)); (case aL => have := LMc6.out; omega); intro v312 w10 ho hb hg hat; rw [← Ny311.out] at ho; replace HO310 := Aside0.mk (Kd.V_afterv (ok := (fun _ => True)) (by (with_reducible repeat (first | apply Kd.V_alloc | apply Kd.V_drewN | apply Kd.V_drew)); exact Kd.V_mono HO310.out (fun _ hk => ⟨trivial, hk⟩)) hg hat); replace HB := Aside0.mk (hb); have HO313 := Aside0.mk (ho); clear HO306; clear ho hb hg hat))
    go_loopg [5, 6] k (fun kq v5 v6 w' => ∃ (x5_1 : List (S76)) (x6_1 : Int), v6 = .int .i64 x6_1 ∧ Aside0 (cenotaphref10_Stable.l0 kq l0 l1 x5_1 x6_1 = some r) ∧ Aside0 (kq ≤ k) ∧ Aside0 (Kd.R k76 76 w' w.heap.size (fun _ => True) v5 x5_1) ∧ Aside0 (Below w.heap.size w w'))
    case atStart => exact ⟨(y311), (1), (by first | rfl | (simp; done) | (simp [*]; done)), H', ⟨Nat.le_refl _⟩, ⟨by (with_reducible repeat (first | apply Kd.R_alloc | apply Kd.R_drewN | apply Kd.R_drew)); exact HO313.out⟩, ⟨by repeat (first | (with_reducible first | exact HB.out | apply below_alloc | apply pw_below_drewN | apply below_drew1) | exact HB.out)⟩⟩
    case round =>
     clear H'
     try clear c1
     try clear p2
     try clear c3
     try clear c3b0
     try clear c3b1
     try clear p3
     try clear q3
     try clear hx3
     try clear qi3
     try clear c4
     try clear c4b0
     try clear c4b1
     try clear c6
     try clear hx307_0
     try clear p307
     try clear q307
     obtain ⟨x5_1, x6_1, rfl, HA, HK1, HO_5, HB⟩ := hrel
     cases gk with
     | zero => exact absurd HA.out (by simp [cenotaphref10_Stable.l0])
     | succ k1 =>
      have H := HA.out
      clear HA
      simp only [cenotaphref10_Stable.l0] at H
      by_cases c12 : x6_1 < (l1.length : Int)
      ·rw [if_pos c12] at H
       have c12b0 : decide (x6_1 < (l1.length : Int)) = true := decide_eq_true c12
       clear c12
       by_cases c13 : 0 ≤ x6_1
       ·rw [if_pos c13] at H
        have c13b0 : decide (0 ≤ x6_1) = true := decide_eq_true c13
        clear c13
        replace H := Option.bind_eq_some_iff.mp H
        obtain ⟨t315, A140, H⟩ := H
        have A14 := Aside0.mk A140
        clear A140
        replace H := Option.bind_eq_some_iff.mp H
        obtain ⟨t318, A150, H⟩ := H
        have A15 := Aside0.mk A150
        clear A150
        have H' := Aside0.mk H
        clear H
        have p314 : 0 ≤ (x6_1 : Int) := of_decide_eq_true zq18_4
        have q314 : x6_1 < (l1.length : Int) := of_decide_eq_true zq18_4
        obtain ⟨ad314, e314, hx314_0⟩ := Kd.at_string HR1.out x6_1 p314 q314
        obtain rfl : ad307 = ad314 := (by injection e314)
        replace hx314_0 := (HB.out.cell (World.block_lt_of_cell? w _ hx314_0)).trans hx314_0
        replace p314 := eq_true p314
        replace q314 := eq_true q314
        go_wp2_with (first | ((with_reducible refine gate_callee (f := 34) rfl ?_); refine goesL_ (some 29) rfl rfl Try.func34 (by kernel_rfl) rfl #[.slice A0 l0.length c0, .string (rdOf ByteArray.empty l1 x6_1)] rfl zq18_0 ?_; (with_reducible refine (cenotaphref10_Of.calls k1 (fun k_ => k_ < w.heap.size) _ _ l0 (rdOf ByteArray.empty l1 x6_1) t315 _ ?side1 A14.out).mono ?_); (case side1 => exact Kd.V_mk HC0.out (Kd.F_below (Kd.C_F k25_heap HR0.out) zq18_1)); rintro e w16 ⟨v316, rfl, ho0, hb⟩; refine ⟨_, rfl, ?_⟩; have HO317 := Aside0.mk (Kd.V_lower (Kd.V_mono (ok' := fun k_ => some k_ ≠ (u5 : Value).ownBlock) ho0 (fun k_ hk_ => Or.elim hk_ (fun hs_ => fun e_ => Nat.not_le.2 hs_ (Kd.R_base HO_5.out k_ e_.symm)) (fun hn_ => (Kd.fresh' (Kd.R_lt zq18_3) k_ hn_)))) (below_size zq18_1)); replace HO_5 := Aside0.mk (Kd.R_below zq18_3 hb); replace HB := Aside0.mk (below_step zq18_1 hb); (try clear hb); (try clear hb2); (try clear hk); (try clear hi); (try clear ho0); obtain ⟨Ao17, co17, eo17⟩ := Kd.R_slice HO_5.out; subst eo17; obtain ⟨Ao18, co18, eo18⟩ := Kd.V_slice HO317.out; subst eo18) | ((with_reducible refine gate_callee (f := 44) rfl ?_); refine goesL_ (some 30) rfl rfl Try.func44 (by kernel_rfl) rfl #[.slice Ao17 x5_1.length co17, .slice Ao18 t315.length co18] rfl zq18_0 ?_; (with_reducible refine (cenotaphref03_Meet.calls k1 _ _ x5_1 _ _ t315 t318 _ ?side1 ?side2 ?side3 ?side4 A15.out).mono ?_); (case side1 => repeat (first | exact (Kd.R_reads' HO_5.out).2.2 | (with_reducible refine Kd.C_alloc ?_ _) | (with_reducible refine Kd.C_drewN ?_ _) | (with_reducible refine Kd.C_drew ?_))); (case side2 => exact (Kd.R_reads' HO_5.out).2.1); (case side3 => repeat (first | exact (Kd.V_reads' HO317.out).2.2 | (with_reducible refine Kd.C_alloc ?_ _) | (with_reducible refine Kd.C_drewN ?_ _) | (with_reducible refine Kd.C_drew ?_))); (case side4 => exact (Kd.V_reads' HO317.out).2.1); rintro e w19 ⟨v319, rfl, ho0, hb⟩; refine ⟨_, rfl, ?_⟩; replace HO317 := Aside0.mk (Kd.V_elder' (by (with_reducible repeat (first | apply Kd.V_alloc | apply Kd.V_drewN | apply Kd.V_drew)); exact HO317.out) (Kd.R_base ho0) hb); have HO320 := Aside0.mk (Kd.R_lower (Kd.R_new' ho0 (Kd.R_lt zq18_3)) (below_size zq18_1)); replace HO_5 := Aside0.mk (Kd.R_elder' zq18_3 (Kd.R_base ho0) hb); replace HB := Aside0.mk (below_step zq18_1 hb); (try clear hb); (try clear hb2); (try clear hk); (try clear hi); (try clear ho0)))
        go_roundg k1
        case measure => have := HK1.out; omega
        case rel => exact ⟨(t318), (wrap64 (x6_1 + 1)), (by first | rfl | (simp; done) | (simp [*]; done)), H', ⟨by have := HK1.out; omega⟩, ⟨by (with_reducible repeat (first | apply Kd.R_alloc | apply Kd.R_drewN | apply Kd.R_drew)); exact Kd.R_mono HO320.out (fun _ hk => trivial)⟩, ⟨by repeat (first | (with_reducible first | exact HB.out | apply below_alloc | apply pw_below_drewN | apply below_drew1) | exact HB.out)⟩⟩
       ·rw [if_neg c13] at H
        exact absurd H (by simp)
      ·rw [if_neg c12] at H
       have c12b0 : decide (x6_1 < (l1.length : Int)) = false := decide_eq_false c12
       clear c12
       obtain rfl := Option.some.inj H
       go_wp2
       go_ret
       exact ⟨_, by first | rfl | (simp [errW_none, errW_some] <;> rfl) | (simp [*, errW_none, errW_some] <;> rfl), by (with_reducible repeat (first | apply Kd.R_alloc | apply Kd.R_drewN | apply Kd.R_drew)); exact HO_5.out, by repeat (first | (with_reducible first | exact HB.out | apply below_alloc | apply pw_below_drewN | apply below_drew1) | exact HB.out)⟩
   ·rw [if_neg c6] at H
    exact absurd H (by simp)
  ·rw [if_neg c4] at H
   exact absurd H (by simp)

/-! ### vec_Within: function 20 -/
set_option maxHeartbeats 1600000 in
set_option maxRecDepth 100000 in
theorem vecw_index (A0 : Option Addr) (c0 : Nat) (l0 : List S67) (cb : Value) (p : S67 → Bool) (w : World) (hr0 : Kd.C k67 w A0 l0.length l0)
  (hp : ∀ (x : S67) (W : World), x ∈ l0 → Below w.heap.size w W → Calls Try.prog 47 #[.agg #[.string x.f0, .int .i64 x.f1], cb] W fun e w' => e = .returned (.bool (p x)) ∧ Below W.heap.size W w') :
  Calls Try.prog 64 #[.slice A0 l0.length c0, .func (.func 47) #[] #[cb]] w fun e w' => e = .returned (.int .i64 (idxI p l0)) ∧ Below w.heap.size w w' := by
 have hlen := hr0.2.1
 have HR0 := Aside0.mk hr0
 have HP := Aside0.mk hp
 clear hr0 hp
 have HF := Aside0.mk (fun i hi hn h => idxI_found p z67 l0 i hi hn h)
 have HN := Aside0.mk (fun hn => idxI_none p z67 l0 hn)
 generalize idxI p l0 = r at *
 generalize hn : l0.length = n at *
 have HL := Aside0.mk hn
 clear hn
 have HB := Aside0.mk (Below.refl w.heap.size w)
 have hut := Try.underlying67
 go_enter Try.func64, Try.ntmps64
 go_wp2
 go_loopw [8] (fun vi wr => ∃ i : Nat, vi = .int .i64 i ∧ i ≤ n ∧ Aside0 (∀ j, j < i → p (l0.getD j z67) = false) ∧ Aside0 (Below w.heap.size w wr)) (fun vi _ => n - (intOf vi).toNat)
 case atStart => exact ⟨0, rfl, Nat.zero_le _, ⟨fun j hj => absurd hj (Nat.not_lt_zero _)⟩, HB⟩
 case round =>
  clear HB
  obtain ⟨i, rfl, hin, HA, HB⟩ := hrel
  by_cases hlt : i < n
  ·obtain ⟨ad, hA, hx0, hx1⟩ := at_T67 HR0.out (i : Int) (by omega) (by omega)
   obtain rfl := hA
   have pm := eq_true (show (0 : Int) ≤ (i : Int) by omega)
   have qm := eq_true (show (i : Int) < (n : Int) by omega)
   replace hx0 := (HB.out.cell (World.block_lt_of_cell? w _ hx0)).trans hx0; replace hx1 := (HB.out.cell (World.block_lt_of_cell? w _ hx1)).trans hx1
   have hel : rd_T67 l0 (i : Int) = l0.getD i z67 := rfl
   simp only [Int.toNat_natCast, hel] at hx0 hx1
   have HK := Aside0.mk (HP.out (l0.getD i z67)  wr (by rw [← List.getElem_eq_getD (h := by have := HL.out; omega)]; exact List.getElem_mem _) HB.out)
   by_cases hpx : p (l0.getD i z67) = true
   ·have HRES := Aside0.mk (HF.out i (by have := HL.out; omega) HA.out hpx)
    rw [hpx] at HK
    clear hel hpx
    go_wp2_with fail
    refine HK.out.mono ?_
    rintro e w' ⟨rfl, hb1⟩
    have HB1 := Aside0.mk (below_step HB.out hb1)
    clear hb1
    go_wp2_with fail
    go_ret
    exact ⟨by rw [HRES.out]; rfl, HB1.out⟩
   ·have hpf : p (l0.getD i z67) = false := by simpa using hpx
    rw [hpf] at HK
    have HPF := Aside0.mk hpf
    clear hel hpx hpf
    go_wp2_with fail
    refine HK.out.mono ?_
    rintro e w' ⟨rfl, hb1⟩
    have HB1 := Aside0.mk (below_step HB.out hb1)
    clear hb1
    go_wp2_with fail
    go_roundw
    case rel => exact ⟨i + 1, by go_num, by omega, ⟨fun j hj => by
     by_cases e : j = i
     ·subst e; exact HPF.out
     ·exact HA.out j (by omega)⟩, HB1⟩
    case measure => simp [intOf]; omega
  ·have hge : decide ((i : Int) < (n : Int)) = false := by simp; omega
   have HRES := Aside0.mk (HN.out (fun j hj => HA.out j (by have := HL.out; omega)))
   go_wp2_with fail
   go_ret
   exact ⟨by rw [HRES.out]; rfl, HB.out⟩

set_option maxHeartbeats 800000 in
set_option maxRecDepth 100000 in
theorem vecw_contains (A0 : Option Addr) (n c0 : Nat) (fv : Value) (q : Int) (w : World) (h : Calls Try.prog 64 #[.slice A0 n c0, fv] w fun e w' => e = .returned (.int .i64 q) ∧ Below w.heap.size w w') :
  Calls Try.prog 46 #[.slice A0 n c0, fv] w fun e w' => e = .returned (.bool (decide (q ≥ 0))) ∧ Below w.heap.size w w' := by
 have H := Aside0.mk h
 clear h
 go_enter Try.func46, Try.ntmps46
 go_wp2_with fail
 refine H.out.mono ?_
 rintro e w' ⟨rfl, hb⟩
 have HB := Aside0.mk hb
 clear hb
 go_wp2_with fail
 go_ret
 exact ⟨rfl, HB.out⟩

set_option maxHeartbeats 800000 in
set_option maxRecDepth 100000 in
theorem vecw_pred (x : S67) (B : Nat) (A1 : Option Addr) (c1 : Nat) (l1 : List S67) (n : Int) (W : World) (hB : W.heap[B]? = some (.cells #[.slice A1 l1.length c1] 36 (0, 0))) (hr1 : Kd.C k67 W A1 l1.length l1) (hc1 : l1.length ≤ c1) (hof : vec_Of.f l1 x.f0 = some n) :
  Calls Try.prog 47 #[.agg #[.string x.f0, .int .i64 x.f1], .pointer (some ⟨B, 0, none⟩)] W fun e w' => e = .returned (.bool (decide (x.f1 > n))) ∧ Below W.heap.size W w' := by
 have HOF := Aside0.mk (fun w (hw : Below W.heap.size W w) => vec_Of.calls A1 c1 l1 x.f0 n w (Kd.C_below hr1 hw) hc1 hof)
 have HB := Aside0.mk (Below.refl W.heap.size W)
 have hc : W.cell? ⟨B, 0, none⟩ = some (.slice A1 l1.length c1) := (blk_cell hB 0).trans rfl
 have HBB := Aside0.mk (blk_lt hB)
 have hut := Try.underlying67
 have hBk := hB
 clear hB hr1 hof
 go_enter Try.func47, Try.ntmps47
 go_wp2_with fail
 have HBK := Aside0.mk hBk
 have BK := Aside0.mk (blk_drew (blk_new W (.cells #[.string x.f0, .int .i64 x.f1] 67)))
 have BB := Aside0.mk (blk_drew (blk_alloc HBK.out (.cells #[.string x.f0, .int .i64 x.f1] 67)))
 have HW := Aside0.mk (below_drew1 (below_alloc HB.out (.cells #[.string x.f0, .int .i64 x.f1] 67)))
 refine start_ (n := 8) (S := fun w' => w'.cell? ⟨W.heap.size, 0, none⟩ = some (.string x.f0) ∧ w'.cell? ⟨W.heap.size, 1, none⟩ = some (.int .i64 x.f1) ∧ w'.cell? ⟨B, 0, none⟩ = some (.slice A1 l1.length c1)) (ds := []) #[false, false, false, false, false, false, false, false] (by kernel_rfl) rfl rfl ⟨(blk_cell BK.out 0).trans rfl, (blk_cell BK.out 1).trans rfl, (blk_cell BB.out 0).trans rfl⟩ (fun hHeld => ?_)
 refine p_ 0 4 (mk_ 8 0x1) ?_
 refine t_ 1 5 (mk_ 8 0x3) hHeld ?_
 refine t_ 2 6 (mk_ 8 0x7) hHeld ?_
 refine p_ 3 7 (mk_ 8 0xf) ?_
 refine t_ 4 8 (mk_ 8 0x1f) hHeld ?_
 refine one_ (i := 5) (N := some 9) #[true, true, true, true, true, true, false, false] rfl rfl (by kernel_rfl) (by decide) (fun K hK => ?_)
 refine goes_ Try.func48 (by kernel_rfl) rfl #[.slice A1 l1.length c1, .string x.f0] (by rfl) rfl rfl (by (try simp only [List.map_toArray, List.map_cons, List.map_nil]); first | done | rfl) ?_
 refine (HOF.out _ HW.out).mono ?_
 rintro e w' ⟨rfl, hb1⟩
 refine ⟨_, rfl, ?_⟩
 have HB1 := Aside0.mk (below_step HW.out hb1)
 have BK1 := Aside0.mk (blk_below BK.out hb1)
 have BB1 := Aside0.mk (blk_below BB.out hb1)
 clear hb1
 refine hK.out _ _ ⟨(blk_cell BK1.out 0).trans rfl, (blk_cell BK1.out 1).trans rfl, (blk_cell BB1.out 0).trans rfl⟩ (fun hHeld => ?_)
 clear hK K
 refine norm_ (a' := ?_) ?_ ?_
 rotate_left
 ·show Act.put _ (some 9) _ = _
  simp only [Act.put, List.setIfInBounds_toArray, List.set_cons_zero, List.set_cons_succ, i64_w, i32_w]
  rfl
 refine p_ 6 10 (mk_ 8 0x7f) ?_
 refine p_ 7 3 (mk_ 8 0xff) ?_
 refine done_ (by kernel_rfl) ?_
 go_wp2_with fail
 go_ret
 exact ⟨rfl, HB1.out⟩
def vec_Within.f (l0 : List S67) (l1 : List S67) : Option Bool := if (l0.all fun x => (vec_Of.f l1 x.f0).isSome) = true then some (!(l0.any fun x => decide (x.f1 > (vec_Of.f l1 x.f0).getD 0))) else none
set_option maxHeartbeats 800000 in
set_option maxRecDepth 100000 in
theorem vec_Within.calls (A0 : Option Addr) (c0 : Nat) (l0 : List S67) (A1 : Option Addr) (c1 : Nat) (l1 : List S67) (r : Bool) (w : World) (hr0 : Kd.C k67 w A0 l0.length l0) (hc0 : l0.length ≤ c0) (hr1 : Kd.C k67 w A1 l1.length l1) (hc1 : l1.length ≤ c1) (h : vec_Within.f l0 l1 = some r) :
  Calls Try.prog 20 #[.slice A0 l0.length c0, .slice A1 l1.length c1] w fun e w' => e = .returned (.bool r) ∧ Below w.heap.size w w' := by
 have hall : ∀ x ∈ l0, (vec_Of.f l1 x.f0).isSome = true := by
  by_cases hx : (l0.all fun x => (vec_Of.f l1 x.f0).isSome) = true
  ·exact List.all_eq_true.mp hx
  ·rw [vec_Within.f, if_neg hx] at h; cases h
 have hr : (!(l0.any fun x => decide (x.f1 > (vec_Of.f l1 x.f0).getD 0))) = r := by
  rw [vec_Within.f, if_pos (List.all_eq_true.mpr hall)] at h; exact Option.some.inj h
 rw [← idxI_any] at hr
 have hix := fun (W : World) (hW : Below w.heap.size w W) (hb : W.heap[w.heap.size]? = some (.cells #[.slice A1 l1.length c1] 36 (0, 0))) => vecw_index A0 c0 l0 (.pointer (some ⟨w.heap.size, 0, none⟩)) (fun x => decide (x.f1 > (vec_Of.f l1 x.f0).getD 0)) W (Kd.C_below hr0 hW) (fun x W2 hx hW2 => by
  obtain ⟨n, hn⟩ := Option.isSome_iff_exists.mp (hall x hx)
  have := vecw_pred x w.heap.size A1 c1 l1 n W2 (blk_below hb hW2) (Kd.C_below (Kd.C_below hr1 hW) hW2) hc1 hn
  rw [hn]; exact this)
 generalize idxI (fun x => decide (x.f1 > (vec_Of.f l1 x.f0).getD 0)) l0 = q at hr hix
 have HR := Aside0.mk hr
 have HIX := Aside0.mk hix
 have HB := Aside0.mk (Below.refl w.heap.size w)
 clear hr hix hr0 hr1 h hall
 go_enter Try.func20, Try.ntmps20
 go_wp2_with fail
 refine (vecw_contains A0 l0.length c0 _ q _ (HIX.out _ (below_alloc HB.out _) (blk_new w _))).mono ?_
 rintro e w' ⟨rfl, hb⟩
 have HB1 := Aside0.mk (below_step (below_alloc HB.out _) hb)
 clear hb
 go_wp2_with fail
 go_ret
 exact ⟨by rw [← HR.out]; rfl, HB1.out⟩

end Go.Proofs.Ytoodahceejdbcaa.P
