-- Written by a program of this session (wip/pp.py over the kit's printer, with our own texts put in).
import Derived.Test.YtjdhnnpagaocnaaP0
import Derived.Test.YtjdhnnpagaocnaaP6
import Derived.Test.YtjdhnnpagaocnaaP9
namespace Go.Proofs.Ytjdhnnpagaocnaa.P
open Go.RowKit Go.Proofs.YtjdhnnpagaocnaaW.PrintWords Go.Proofs.YtjdhnnpagaocnaaW.PrintLast Go.Proofs.YtjdhnnpagaocnaaW.PrintMore
attribute [local go_sem] max2_int min2_int max_two min_two max_three min_three max_four min_four   -- for this text's walks alone
set_option linter.unusedVariables false
set_option linter.unusedSimpArgs false

/-! ### cenotaphref03_Right: function 11 -/
abbrev bT11 : Bool := true
abbrev bF11 : Bool := false
theorem zq11_0 {p_ : Prop} (h_ : p_ := by (try simp only [List.map_toArray, List.map_cons, List.map_nil]); first | done | rfl | (simp only [List.length_drop, List.length_take]; rfl)) : p_ := h_
theorem zq11_1 {p_ : Prop} (h_ : p_ := by first | (with_reducible assumption) | assumption) : p_ := h_
theorem zq11_2 {p_ : Prop} (h_ : p_ := by first | rfl | (simp; done) | (simp [*]; done)) : p_ := h_
def cenotaphref03_Right.l0 : Nat → List (S33) → Int → Option (Bool)
 | 0, _, _ => none
 | k + 1, x0, x3 => if x3 < (x0.length : Int) then (if 0 ≤ x3 then ((cenotaphref01_Right.f k ((rd_T33 x0 x3).f0)).bind fun t150 => (if t150 = true then (if ((rd_T33 x0 x3).f1) < 1 then (some false) else (if ((rd_T33 x0 x3).f1) > 1048576 then (some false) else (if x3 > 0 then (if 0 ≤ (wrap64 (x3 - 1)) then (if (wrap64 (x3 - 1)) < (x0.length : Int) then ((cenotaphref01_Compare.f k ((rd_T33 x0 (wrap64 (x3 - 1))).f0) ((rd_T33 x0 x3).f0)).bind fun t155 => (if t155 ≥ 0 then (some false) else (cenotaphref03_Right.l0 k x0 (wrap64 (x3 + 1))))) else (none)) else (none)) else (cenotaphref03_Right.l0 k x0 (wrap64 (x3 + 1)))))) else (some false))) else (none)) else (some true)
def cenotaphref03_Right.f (k : Nat) (l0 : List (S33)) : Option (Bool) := cenotaphref03_Right.l0 k l0 0
theorem cenotaphref03_Right.mono_l : ∀ k, (∀ y0 y1, LeO (cenotaphref03_Right.l0 k y0 y1) (cenotaphref03_Right.l0 (k + 1) y0 y1))
 | 0 => fun _ _ r h => by simp [cenotaphref03_Right.l0] at h
 | k + 1 => by
  have ih0 := cenotaphref03_Right.mono_l k
  ·intro y0 y1
   unfold cenotaphref03_Right.l0
   repeat' first
   | (with_reducible exact ih0 _ _)
   | (with_reducible exact cenotaphref01_Compare.mono _ _ _)
   | (with_reducible exact cenotaphref01_Right.mono _ _)
   | (with_reducible exact LeO.refl _)
   | (with_reducible exact LeO.none _)
   | (with_reducible refine LeO.ite ?_ ?_)
   | (with_reducible refine LeO.bind ?_ (fun _ => ?_))
   | exact ih0 _ _
   | exact cenotaphref01_Compare.mono _ _ _
   | exact cenotaphref01_Right.mono _ _
   | exact LeO.none _
   | refine LeO.ite ?_ ?_
   | refine LeO.bind ?_ (fun _ => ?_)
theorem cenotaphref03_Right.mono : ∀ a0 k, LeO (cenotaphref03_Right.f k a0) (cenotaphref03_Right.f (k + 1) a0) := by
 intro a0 k
 have ih0 := cenotaphref03_Right.mono_l k
 unfold cenotaphref03_Right.f
 repeat' first
   | (with_reducible exact ih0 _ _)
   | (with_reducible exact cenotaphref01_Compare.mono _ _ _)
   | (with_reducible exact cenotaphref01_Right.mono _ _)
   | (with_reducible exact LeO.refl _)
   | (with_reducible exact LeO.none _)
   | (with_reducible refine LeO.ite ?_ ?_)
   | (with_reducible refine LeO.bind ?_ (fun _ => ?_))
   | exact ih0 _ _
   | exact cenotaphref01_Compare.mono _ _ _
   | exact cenotaphref01_Right.mono _ _
   | exact LeO.none _
   | refine LeO.ite ?_ ?_
   | refine LeO.bind ?_ (fun _ => ?_)
def cenotaphref03_Right.T4 : Bool × List (List Nat × List Nat) := (true, [([], []), ([], []), ([0, 1], [0, 1]), ([2], [2]), ([3], [3]), ([4], [4]), ([5], [5]), ([6, 5], [6]), ([7], [7]), ([7], [7]), ([8, 9, 7], [7, 8, 9]), ([10, 7], [7, 10]), ([11, 7], [7, 11]), ([12, 7], [7, 12]), ([7, 13], [7, 13]), ([14, 7], [14]), ([15], [15]), ([15], [15]), ([16, 17, 15], [15, 16, 17]), ([18, 15], [15, 18]), ([19, 15], [15, 19]), ([20, 15], [15, 20]), ([15, 21], [15, 21]), ([22, 15], [22]), ([23], [23]), ([24, 23], [23, 24]), ([25, 23, 23], [23, 25]), ([26], [26]), ([26], [26]), ([28, 26], [26, 28]), ([27, 29, 26], [26, 27, 29]), ([30, 26], [26, 30]), ([31, 26], [26, 31]), ([26], [26]), ([26], [26]), ([33, 34, 26], [26, 33, 34]), ([35, 26], [26, 35]), ([36, 26], [26, 36]), ([32, 37, 26, 26], [26, 32, 37]), ([38, 26], [26, 38]), ([26, 39, 23], [23, 26, 39]), ([23, 40], [23, 40])])
def cenotaphref03_Right.B4 : List Nat := [0, 0, 3, 7, 15, 31, 63, 127, 255, 255, 1023, 2047, 4095, 8191, 16383, 32767, 65535, 65535, 262143, 524287, 1048575, 2097151, 4194303, 8388607, 16777215, 33554431, 67108863, 134217727, 134217727, 402653183, 1073741823, 2147483647, 4294967295, 134217727, 134217727, 25904021503, 60263759871, 128983236607, 274877906943, 549755813887, 1099511627775, 2199023255551]
theorem cenotaphref03_Right.tab4 : rtab .any (opsOf Try.f11 4) = cenotaphref03_Right.T4 := by kernel_rfl
theorem cenotaphref03_Right.bits4 : waitsOk cenotaphref03_Right.T4.2 cenotaphref03_Right.B4 = true := by kernel_rfl
set_option maxHeartbeats 8000000 in
set_option maxRecDepth 100000 in
theorem cenotaphref03_Right.calls (k : Nat) (A0 : Option Addr) (c0 : Nat) (l0 : List (S33)) (r : Bool) (w : World) (hr0 : Kd.C k33 w A0 l0.length l0) (hc0 : l0.length ≤ c0) (h : cenotaphref03_Right.f k l0 = some r) :
  Calls Try.prog 11 #[.slice A0 l0.length c0] w fun e w' => e = .returned (.bool r) ∧ Below w.heap.size w w' := by
 have HR0 := Aside0.mk hr0
 have HC0 := Aside0.mk hc0
 clear hr0 hc0
 have HB := Aside0.mk (Below.refl w.heap.size w)
 have H : (cenotaphref03_Right.l0 k l0 0) = some r := h
 clear h
 have H' := Aside0.mk H
 clear H
 go_enter Try.func11, Try.ntmps11
 go_wp2
 go_loopg [3] k (fun kq v3 w' => ∃ (x3_1 : Int), v3 = .int .i64 x3_1 ∧ Aside0 (cenotaphref03_Right.l0 kq l0 x3_1 = some r) ∧ Aside0 (kq ≤ k) ∧ Aside0 (Below w.heap.size w w'))
 case atStart => exact ⟨(0), zq11_2, H', ⟨Nat.le_refl _⟩, ⟨by repeat (first | (with_reducible first | exact HB.out | apply below_alloc | apply pw_below_drewN | apply below_drew1) | exact HB.out)⟩⟩
 case round =>
  clear H'
  try clear c1
  obtain ⟨x3_1, rfl, HA, HK1, HB⟩ := hrel
  cases gk with
  | zero => exact absurd HA.out (by simp [cenotaphref03_Right.l0])
  | succ k1 =>
   have H := HA.out
   clear HA
   simp only [cenotaphref03_Right.l0] at H
   by_cases c2 : x3_1 < (l0.length : Int)
   ·rw [if_pos c2] at H
    have c2b0 : decide (x3_1 < (l0.length : Int)) = true := decide_eq_true c2
    clear c2
    by_cases c3 : 0 ≤ x3_1
    ·rw [if_pos c3] at H
     have c3b0 : decide (0 ≤ x3_1) = true := decide_eq_true c3
     clear c3
     replace H := Option.bind_eq_some_iff.mp H
     obtain ⟨t150, A40, H⟩ := H
     replace H : (if t150 = true then (if ((rd_T33 l0 x3_1).f1) < 1 then (some false) else (if ((rd_T33 l0 x3_1).f1) > 1048576 then (some false) else (if x3_1 > 0 then (if 0 ≤ (wrap64 (x3_1 - 1)) then (if (wrap64 (x3_1 - 1)) < (l0.length : Int) then ((cenotaphref01_Compare.f k1 ((rd_T33 l0 (wrap64 (x3_1 - 1))).f0) ((rd_T33 l0 x3_1).f0)).bind fun t155 => (if t155 ≥ 0 then (some false) else (cenotaphref03_Right.l0 k1 l0 (wrap64 (x3_1 + 1))))) else (none)) else (none)) else (cenotaphref03_Right.l0 k1 l0 (wrap64 (x3_1 + 1)))))) else (some false)) = some r := H
     have A4 := Aside0.mk A40
     clear A40
     by_cases c5 : t150 = true
     ·subst c5
      have H1 : (if ((rd_T33 l0 x3_1).f1) < 1 then (some false) else (if ((rd_T33 l0 x3_1).f1) > 1048576 then (some false) else (if x3_1 > 0 then (if 0 ≤ (wrap64 (x3_1 - 1)) then (if (wrap64 (x3_1 - 1)) < (l0.length : Int) then ((cenotaphref01_Compare.f k1 ((rd_T33 l0 (wrap64 (x3_1 - 1))).f0) ((rd_T33 l0 x3_1).f0)).bind fun t155 => (if t155 ≥ 0 then (some false) else (cenotaphref03_Right.l0 k1 l0 (wrap64 (x3_1 + 1))))) else (none)) else (none)) else (cenotaphref03_Right.l0 k1 l0 (wrap64 (x3_1 + 1)))))) = some r := by rw [if_pos rfl] at H; exact H
      clear H
      have H := H1
      clear H1
      by_cases c6 : ((rd_T33 l0 x3_1).f1) < 1
      ·rw [if_pos c6] at H
       have c6b0 : decide (((rd_T33 l0 x3_1).f1) < 1) = true := decide_eq_true c6
       clear c6
       obtain rfl := Option.some.inj H
       try go_wp2
       replace HB := Aside0.mk (below_drew1 HB.out)
       have p149 : 0 ≤ (x3_1 : Int) := of_decide_eq_true zq11_1
       have q149 : x3_1 < (l0.length : Int) := of_decide_eq_true zq11_1
       obtain ⟨ad149, e149, hx149_0, hx149_1⟩ := at_T33 HR0.out x3_1 p149 q149
       have hw149_1 := hx149_1
       have hw149_0 := hx149_0
       cases e149
       replace hx149_0 := (HB.out.cell (World.block_lt_of_cell? w _ hx149_0)).trans hx149_0
       replace hx149_1 := (HB.out.cell (World.block_lt_of_cell? w _ hx149_1)).trans hx149_1
       replace p149 := eq_true p149
       replace q149 := eq_true q149
       have p151 : 0 ≤ (x3_1 : Int) := of_decide_eq_true zq11_1
       have q151 : x3_1 < (l0.length : Int) := of_decide_eq_true zq11_1
       obtain ⟨ad151, e151, hx151_0, hx151_1⟩ := at_T33 HR0.out x3_1 p151 q151
       have hw151_1 := hx151_1
       have hw151_0 := hx151_0
       obtain rfl : ad149 = ad151 := (by injection e151)
       replace hx151_0 := (HB.out.cell (World.block_lt_of_cell? w _ hx151_0)).trans hx151_0
       replace hx151_1 := (HB.out.cell (World.block_lt_of_cell? w _ hx151_1)).trans hx151_1
       replace p151 := eq_true p151
       replace q151 := eq_true q151
       refine start_ (n := 42) (S := fun w' => w'.cell? (ad149.add ((x3_1).toNat * 2)) = some (.string ((rd_T33 l0 x3_1).f0)) ∧ w'.cell? ⟨(ad149.add ((x3_1).toNat * 2)).block, (ad149.add ((x3_1).toNat * 2)).off + 1, none⟩ = some (.int .i64 ((rd_T33 l0 x3_1).f1)) ∧ w'.cell? (ad149.add ((x3_1).toNat * 2)) = some (.string ((rd_T33 l0 x3_1).f0)) ∧ w'.cell? ⟨(ad149.add ((x3_1).toNat * 2)).block, (ad149.add ((x3_1).toNat * 2)).off + 1, none⟩ = some (.int .i64 ((rd_T33 l0 x3_1).f1))) (ds := []) #[bF11, bF11, bF11, bF11, bF11, bF11, bF11, bF11, bF11, bF11, bF11, bF11, bF11, bF11, bF11, bF11, bF11, bF11, bF11, bF11, bF11, bF11, bF11, bF11, bF11, bF11, bF11, bF11, bF11, bF11, bF11, bF11, bF11, bF11, bF11, bF11, bF11, bF11, bF11, bF11, bF11, bF11] (by kernel_rfl) rfl rfl ⟨((HB.out.cell (World.block_lt_of_cell? w _ hw149_0)).trans hw149_0), ((HB.out.cell (World.block_lt_of_cell? w _ hw149_1)).trans hw149_1), ((HB.out.cell (World.block_lt_of_cell? w _ hw151_0)).trans hw151_0), ((HB.out.cell (World.block_lt_of_cell? w _ hw151_1)).trans hw151_1)⟩ (fun hHeld => ?_); refine with_tabW cenotaphref03_Right.tab4 cenotaphref03_Right.bits4 (fun HT_ HW_ => ?_)
       generalize wr.drew = w7 at HB hx149_0 hx149_1 hx151_0 hx151_1 hHeld ⊢
       refine pure_ (i := 0) (N := some 10) (v := ?_) (a' := ?_) #[bT11, bF11, bF11, bF11, bF11, bF11, bF11, bF11, bF11, bF11, bF11, bF11, bF11, bF11, bF11, bF11, bF11, bF11, bF11, bF11, bF11, bF11, bF11, bF11, bF11, bF11, bF11, bF11, bF11, bF11, bF11, bF11, bF11, bF11, bF11, bF11, bF11, bF11, bF11, bF11, bF11, bF11] rfl rfl (any_of HT_.out (by kernel_rfl)) (fun _ _ _ h => h) (Or.inl ⟨by rfl, ?_⟩) ?_ ?_
       rotate_left
       ·intro w'
        go_simp
        with_reducible rfl
       rotate_left
       ·simp only [Act.put, List.setIfInBounds_toArray, List.set_cons_zero, List.set_cons_succ, i64_w, i32_w]
        rfl
       refine pure_ (i := 1) (N := some 11) (v := ?_) (a' := ?_) #[bT11, bT11, bF11, bF11, bF11, bF11, bF11, bF11, bF11, bF11, bF11, bF11, bF11, bF11, bF11, bF11, bF11, bF11, bF11, bF11, bF11, bF11, bF11, bF11, bF11, bF11, bF11, bF11, bF11, bF11, bF11, bF11, bF11, bF11, bF11, bF11, bF11, bF11, bF11, bF11, bF11, bF11] rfl rfl (any_of HT_.out (by kernel_rfl)) (fun _ _ _ h => h) (Or.inl ⟨by rfl, ?_⟩) ?_ ?_
       rotate_left
       ·intro w'
        go_simp
        with_reducible rfl
       rotate_left
       ·simp only [Act.put, List.setIfInBounds_toArray, List.set_cons_zero, List.set_cons_succ, i64_w, i32_w]
        rfl
       refine pure_ (i := 2) (N := some 12) (v := ?_) (a' := ?_) #[bT11, bT11, bT11, bF11, bF11, bF11, bF11, bF11, bF11, bF11, bF11, bF11, bF11, bF11, bF11, bF11, bF11, bF11, bF11, bF11, bF11, bF11, bF11, bF11, bF11, bF11, bF11, bF11, bF11, bF11, bF11, bF11, bF11, bF11, bF11, bF11, bF11, bF11, bF11, bF11, bF11, bF11] rfl rfl (any_of HT_.out (by kernel_rfl)) (fun _ _ _ h => h) (Or.inl ⟨by rfl, ?_⟩) ?_ ?_
       rotate_left
       ·intro w'
        go_simp
        with_reducible rfl
       rotate_left
       ·simp only [Act.put, List.setIfInBounds_toArray, List.set_cons_zero, List.set_cons_succ, i64_w, i32_w]
        rfl
       refine pure_ (i := 3) (N := some 13) (v := ?_) (a' := ?_) #[bT11, bT11, bT11, bT11, bF11, bF11, bF11, bF11, bF11, bF11, bF11, bF11, bF11, bF11, bF11, bF11, bF11, bF11, bF11, bF11, bF11, bF11, bF11, bF11, bF11, bF11, bF11, bF11, bF11, bF11, bF11, bF11, bF11, bF11, bF11, bF11, bF11, bF11, bF11, bF11, bF11, bF11] rfl rfl (any_of HT_.out (by kernel_rfl)) (fun _ _ _ h => h) (Or.inl ⟨by rfl, ?_⟩) ?_ ?_
       rotate_left
       ·intro w'
        go_simp
        with_reducible rfl
       rotate_left
       ·simp only [Act.put, List.setIfInBounds_toArray, List.set_cons_zero, List.set_cons_succ, i64_w, i32_w]
        rfl
       refine take_ (i := 4) (N := some 14) (v := ?_) (a' := ?_) #[bT11, bT11, bT11, bT11, bT11, bF11, bF11, bF11, bF11, bF11, bF11, bF11, bF11, bF11, bF11, bF11, bF11, bF11, bF11, bF11, bF11, bF11, bF11, bF11, bF11, bF11, bF11, bF11, bF11, bF11, bF11, bF11, bF11, bF11, bF11, bF11, bF11, bF11, bF11, bF11, bF11, bF11] rfl rfl (take_ofW HT_.out HW_.out (by kernel_rfl)) (fun _ _ _ h => h) (Or.inl ⟨by rfl, ?_⟩) hHeld ?_ ?_
       rotate_left
       ·rintro w' ⟨s0, s1, s2, s3⟩
        go_simp
        with_reducible rfl
       rotate_left
       ·simp only [Act.put, List.setIfInBounds_toArray, List.set_cons_zero, List.set_cons_succ, i64_w, i32_w]
        rfl
       refine one_ (i := 5) (N := some 15) #[bT11, bT11, bT11, bT11, bT11, bT11, bF11, bF11, bF11, bF11, bF11, bF11, bF11, bF11, bF11, bF11, bF11, bF11, bF11, bF11, bF11, bF11, bF11, bF11, bF11, bF11, bF11, bF11, bF11, bF11, bF11, bF11, bF11, bF11, bF11, bF11, bF11, bF11, bF11, bF11, bF11, bF11] rfl rfl (one_of HT_.out (by kernel_rfl)) (by decide) (fun K hK => ?_)
       refine goes_ Try.func30 (by kernel_rfl) rfl #[.string ((rd_T33 l0 x3_1).f0)] (by rfl) rfl rfl zq11_0 ?_
       with_reducible refine (cenotaphref01_Right.calls k1 ((rd_T33 l0 x3_1).f0) true _ A4.out).mono ?_
       rintro e w' ⟨rfl, ⟨nd, rfl⟩⟩
       refine ⟨_, rfl, ?_⟩
       refine hK.out _ _ ⟨((HB.out.cell (World.block_lt_of_cell? w _ hw149_0)).trans hw149_0), ((HB.out.cell (World.block_lt_of_cell? w _ hw149_1)).trans hw149_1), ((HB.out.cell (World.block_lt_of_cell? w _ hw151_0)).trans hw151_0), ((HB.out.cell (World.block_lt_of_cell? w _ hw151_1)).trans hw151_1)⟩ (fun hHeld => ?_)
       clear hK K
       refine norm_ (a' := ?_) ?_ ?_
       rotate_left
       ·show Act.put _ (some 15) _ = _
        simp only [Act.put, List.setIfInBounds_toArray, List.set_cons_zero, List.set_cons_succ, i64_w, i32_w]
        rfl
       refine pure_ (i := 6) (N := some 16) (v := ?_) (a' := ?_) #[bT11, bT11, bT11, bT11, bT11, bT11, bT11, bF11, bF11, bF11, bF11, bF11, bF11, bF11, bF11, bF11, bF11, bF11, bF11, bF11, bF11, bF11, bF11, bF11, bF11, bF11, bF11, bF11, bF11, bF11, bF11, bF11, bF11, bF11, bF11, bF11, bF11, bF11, bF11, bF11, bF11, bF11] rfl rfl (any_of HT_.out (by kernel_rfl)) (fun _ _ _ h => h) (Or.inl ⟨by rfl, ?_⟩) ?_ ?_
       rotate_left
       ·intro w'
        go_simp
        with_reducible rfl
       rotate_left
       ·simp only [Act.put, List.setIfInBounds_toArray, List.set_cons_zero, List.set_cons_succ, i64_w, i32_w]
        rfl
       refine pure_ (i := 7) (N := some 17) (v := ?_) (a' := ?_) #[bT11, bT11, bT11, bT11, bT11, bT11, bT11, bT11, bF11, bF11, bF11, bF11, bF11, bF11, bF11, bF11, bF11, bF11, bF11, bF11, bF11, bF11, bF11, bF11, bF11, bF11, bF11, bF11, bF11, bF11, bF11, bF11, bF11, bF11, bF11, bF11, bF11, bF11, bF11, bF11, bF11, bF11] rfl rfl (any_of HT_.out (by kernel_rfl)) (fun _ _ _ h => h) (Or.inl ⟨by rfl, ?_⟩) ?_ ?_
       rotate_left
       ·intro w'
        go_simp
        with_reducible rfl
       rotate_left
       ·simp only [Act.put, List.setIfInBounds_toArray, List.set_cons_zero, List.set_cons_succ, i64_w, i32_w]
        rfl
       refine pure_ (i := 8) (N := some 18) (v := ?_) (a' := ?_) #[bT11, bT11, bT11, bT11, bT11, bT11, bT11, bT11, bT11, bF11, bF11, bF11, bF11, bF11, bF11, bF11, bF11, bF11, bF11, bF11, bF11, bF11, bF11, bF11, bF11, bF11, bF11, bF11, bF11, bF11, bF11, bF11, bF11, bF11, bF11, bF11, bF11, bF11, bF11, bF11, bF11, bF11] rfl rfl (any_of HT_.out (by kernel_rfl)) (fun _ _ _ h => h) (Or.inl ⟨by rfl, ?_⟩) ?_ ?_
       rotate_left
       ·intro w'
        go_simp
        with_reducible rfl
       rotate_left
       ·simp only [Act.put, List.setIfInBounds_toArray, List.set_cons_zero, List.set_cons_succ, i64_w, i32_w]
        rfl
       refine pure_ (i := 9) (N := some 19) (v := ?_) (a' := ?_) #[bT11, bT11, bT11, bT11, bT11, bT11, bT11, bT11, bT11, bT11, bF11, bF11, bF11, bF11, bF11, bF11, bF11, bF11, bF11, bF11, bF11, bF11, bF11, bF11, bF11, bF11, bF11, bF11, bF11, bF11, bF11, bF11, bF11, bF11, bF11, bF11, bF11, bF11, bF11, bF11, bF11, bF11] rfl rfl (any_of HT_.out (by kernel_rfl)) (fun _ _ _ h => h) (Or.inl ⟨by rfl, ?_⟩) ?_ ?_
       rotate_left
       ·intro w'
        go_simp
        with_reducible rfl
       rotate_left
       ·simp only [Act.put, List.setIfInBounds_toArray, List.set_cons_zero, List.set_cons_succ, i64_w, i32_w]
        rfl
       refine pure_ (i := 10) (N := some 20) (v := ?_) (a' := ?_) #[bT11, bT11, bT11, bT11, bT11, bT11, bT11, bT11, bT11, bT11, bT11, bF11, bF11, bF11, bF11, bF11, bF11, bF11, bF11, bF11, bF11, bF11, bF11, bF11, bF11, bF11, bF11, bF11, bF11, bF11, bF11, bF11, bF11, bF11, bF11, bF11, bF11, bF11, bF11, bF11, bF11, bF11] rfl rfl (any_of HT_.out (by kernel_rfl)) (fun _ _ _ h => h) (Or.inl ⟨by rfl, ?_⟩) ?_ ?_
       rotate_left
       ·intro w'
        go_simp
        with_reducible rfl
       rotate_left
       ·simp only [Act.put, List.setIfInBounds_toArray, List.set_cons_zero, List.set_cons_succ, i64_w, i32_w]
        rfl
       refine pure_ (i := 11) (N := some 21) (v := ?_) (a' := ?_) #[bT11, bT11, bT11, bT11, bT11, bT11, bT11, bT11, bT11, bT11, bT11, bT11, bF11, bF11, bF11, bF11, bF11, bF11, bF11, bF11, bF11, bF11, bF11, bF11, bF11, bF11, bF11, bF11, bF11, bF11, bF11, bF11, bF11, bF11, bF11, bF11, bF11, bF11, bF11, bF11, bF11, bF11] rfl rfl (any_of HT_.out (by kernel_rfl)) (fun _ _ _ h => h) (Or.inl ⟨by rfl, ?_⟩) ?_ ?_
       rotate_left
       ·intro w'
        go_simp
        with_reducible rfl
       rotate_left
       ·simp only [Act.put, List.setIfInBounds_toArray, List.set_cons_zero, List.set_cons_succ, i64_w, i32_w]
        rfl
       refine take_ (i := 12) (N := some 22) (v := ?_) (a' := ?_) #[bT11, bT11, bT11, bT11, bT11, bT11, bT11, bT11, bT11, bT11, bT11, bT11, bT11, bF11, bF11, bF11, bF11, bF11, bF11, bF11, bF11, bF11, bF11, bF11, bF11, bF11, bF11, bF11, bF11, bF11, bF11, bF11, bF11, bF11, bF11, bF11, bF11, bF11, bF11, bF11, bF11, bF11] rfl rfl (take_ofW HT_.out HW_.out (by kernel_rfl)) (fun _ _ _ h => h) (Or.inl ⟨by rfl, ?_⟩) hHeld ?_ ?_
       rotate_left
       ·rintro w' ⟨s0, s1, s2, s3⟩
        go_simp
        with_reducible rfl
       rotate_left
       ·simp only [Act.put, List.setIfInBounds_toArray, List.set_cons_zero, List.set_cons_succ, i64_w, i32_w]
        rfl
       refine pure_ (i := 13) (N := some 23) (v := ?_) (a' := ?_) #[bT11, bT11, bT11, bT11, bT11, bT11, bT11, bT11, bT11, bT11, bT11, bT11, bT11, bT11, bF11, bF11, bF11, bF11, bF11, bF11, bF11, bF11, bF11, bF11, bF11, bF11, bF11, bF11, bF11, bF11, bF11, bF11, bF11, bF11, bF11, bF11, bF11, bF11, bF11, bF11, bF11, bF11] rfl rfl (any_of HT_.out (by kernel_rfl)) (fun _ _ _ h => h) (Or.inl ⟨by rfl, ?_⟩) ?_ ?_
       rotate_left
       ·intro w'
        go_simp
        with_reducible rfl
       rotate_left
       ·simp only [Act.put, List.setIfInBounds_toArray, List.set_cons_zero, List.set_cons_succ, i64_w, i32_w]
        rfl
       refine pure_ (i := 14) (N := some 24) (v := ?_) (a' := ?_) #[bT11, bT11, bT11, bT11, bT11, bT11, bT11, bT11, bT11, bT11, bT11, bT11, bT11, bT11, bT11, bF11, bF11, bF11, bF11, bF11, bF11, bF11, bF11, bF11, bF11, bF11, bF11, bF11, bF11, bF11, bF11, bF11, bF11, bF11, bF11, bF11, bF11, bF11, bF11, bF11, bF11, bF11] rfl rfl (any_of HT_.out (by kernel_rfl)) (fun _ _ _ h => h) (Or.inl ⟨by rfl, ?_⟩) ?_ ?_
       rotate_left
       ·intro w'
        go_simp
        with_reducible rfl
       rotate_left
       ·simp only [Act.put, List.setIfInBounds_toArray, List.set_cons_zero, List.set_cons_succ, i64_w, i32_w]
        rfl
       refine pure_ (i := 15) (N := some 25) (v := ?_) (a' := ?_) #[bT11, bT11, bT11, bT11, bT11, bT11, bT11, bT11, bT11, bT11, bT11, bT11, bT11, bT11, bT11, bT11, bF11, bF11, bF11, bF11, bF11, bF11, bF11, bF11, bF11, bF11, bF11, bF11, bF11, bF11, bF11, bF11, bF11, bF11, bF11, bF11, bF11, bF11, bF11, bF11, bF11, bF11] rfl rfl (any_of HT_.out (by kernel_rfl)) (fun _ _ _ h => h) (Or.inl ⟨by rfl, ?_⟩) ?_ ?_
       rotate_left
       ·intro w'
        go_simp
        with_reducible rfl
       rotate_left
       ·simp only [Act.put, List.setIfInBounds_toArray, List.set_cons_zero, List.set_cons_succ, i64_w, i32_w]
        rfl
       refine pure_ (i := 16) (N := some 26) (v := undef) (a' := ?_) #[bT11, bT11, bT11, bT11, bT11, bT11, bT11, bT11, bT11, bT11, bT11, bT11, bT11, bT11, bT11, bT11, bT11, bF11, bF11, bF11, bF11, bF11, bF11, bF11, bF11, bF11, bF11, bF11, bF11, bF11, bF11, bF11, bF11, bF11, bF11, bF11, bF11, bF11, bF11, bF11, bF11, bF11] rfl rfl (any_of HT_.out (by kernel_rfl)) (fun _ _ _ h => h) (Or.inr ⟨by rfl, rfl⟩) ?_ ?_
       rotate_left
       ·simp only [Act.put, List.setIfInBounds_toArray, List.set_cons_zero, List.set_cons_succ, i64_w, i32_w]
        rfl
       refine pure_ (i := 17) (N := some 27) (v := undef) (a' := ?_) #[bT11, bT11, bT11, bT11, bT11, bT11, bT11, bT11, bT11, bT11, bT11, bT11, bT11, bT11, bT11, bT11, bT11, bT11, bF11, bF11, bF11, bF11, bF11, bF11, bF11, bF11, bF11, bF11, bF11, bF11, bF11, bF11, bF11, bF11, bF11, bF11, bF11, bF11, bF11, bF11, bF11, bF11] rfl rfl (any_of HT_.out (by kernel_rfl)) (fun _ _ _ h => h) (Or.inr ⟨by rfl, rfl⟩) ?_ ?_
       rotate_left
       ·simp only [Act.put, List.setIfInBounds_toArray, List.set_cons_zero, List.set_cons_succ, i64_w, i32_w]
        rfl
       refine pure_ (i := 18) (N := some 28) (v := undef) (a' := ?_) #[bT11, bT11, bT11, bT11, bT11, bT11, bT11, bT11, bT11, bT11, bT11, bT11, bT11, bT11, bT11, bT11, bT11, bT11, bT11, bF11, bF11, bF11, bF11, bF11, bF11, bF11, bF11, bF11, bF11, bF11, bF11, bF11, bF11, bF11, bF11, bF11, bF11, bF11, bF11, bF11, bF11, bF11] rfl rfl (any_of HT_.out (by kernel_rfl)) (fun _ _ _ h => h) (Or.inr ⟨by rfl, rfl⟩) ?_ ?_
       rotate_left
       ·simp only [Act.put, List.setIfInBounds_toArray, List.set_cons_zero, List.set_cons_succ, i64_w, i32_w]
        rfl
       refine pure_ (i := 19) (N := some 29) (v := undef) (a' := ?_) #[bT11, bT11, bT11, bT11, bT11, bT11, bT11, bT11, bT11, bT11, bT11, bT11, bT11, bT11, bT11, bT11, bT11, bT11, bT11, bT11, bF11, bF11, bF11, bF11, bF11, bF11, bF11, bF11, bF11, bF11, bF11, bF11, bF11, bF11, bF11, bF11, bF11, bF11, bF11, bF11, bF11, bF11] rfl rfl (any_of HT_.out (by kernel_rfl)) (fun _ _ _ h => h) (Or.inr ⟨by rfl, rfl⟩) ?_ ?_
       rotate_left
       ·simp only [Act.put, List.setIfInBounds_toArray, List.set_cons_zero, List.set_cons_succ, i64_w, i32_w]
        rfl
       refine pure_ (i := 20) (N := some 30) (v := undef) (a' := ?_) #[bT11, bT11, bT11, bT11, bT11, bT11, bT11, bT11, bT11, bT11, bT11, bT11, bT11, bT11, bT11, bT11, bT11, bT11, bT11, bT11, bT11, bF11, bF11, bF11, bF11, bF11, bF11, bF11, bF11, bF11, bF11, bF11, bF11, bF11, bF11, bF11, bF11, bF11, bF11, bF11, bF11, bF11] rfl rfl (any_of HT_.out (by kernel_rfl)) (fun _ _ _ h => h) (Or.inr ⟨by rfl, rfl⟩) ?_ ?_
       rotate_left
       ·simp only [Act.put, List.setIfInBounds_toArray, List.set_cons_zero, List.set_cons_succ, i64_w, i32_w]
        rfl
       refine pure_ (i := 21) (N := some 31) (v := undef) (a' := ?_) #[bT11, bT11, bT11, bT11, bT11, bT11, bT11, bT11, bT11, bT11, bT11, bT11, bT11, bT11, bT11, bT11, bT11, bT11, bT11, bT11, bT11, bT11, bF11, bF11, bF11, bF11, bF11, bF11, bF11, bF11, bF11, bF11, bF11, bF11, bF11, bF11, bF11, bF11, bF11, bF11, bF11, bF11] rfl rfl (any_of HT_.out (by kernel_rfl)) (fun _ _ _ h => h) (Or.inr ⟨by rfl, rfl⟩) ?_ ?_
       rotate_left
       ·simp only [Act.put, List.setIfInBounds_toArray, List.set_cons_zero, List.set_cons_succ, i64_w, i32_w]
        rfl
       refine pure_ (i := 22) (N := some 32) (v := ?_) (a' := ?_) #[bT11, bT11, bT11, bT11, bT11, bT11, bT11, bT11, bT11, bT11, bT11, bT11, bT11, bT11, bT11, bT11, bT11, bT11, bT11, bT11, bT11, bT11, bT11, bF11, bF11, bF11, bF11, bF11, bF11, bF11, bF11, bF11, bF11, bF11, bF11, bF11, bF11, bF11, bF11, bF11, bF11, bF11] rfl rfl (any_of HT_.out (by kernel_rfl)) (fun _ _ _ h => h) (Or.inl ⟨by rfl, ?_⟩) ?_ ?_
       rotate_left
       ·intro w'
        go_simp
        with_reducible rfl
       rotate_left
       ·simp only [Act.put, List.setIfInBounds_toArray, List.set_cons_zero, List.set_cons_succ, i64_w, i32_w]
        rfl
       refine pure_ (i := 23) (N := some 33) (v := ?_) (a' := ?_) #[bT11, bT11, bT11, bT11, bT11, bT11, bT11, bT11, bT11, bT11, bT11, bT11, bT11, bT11, bT11, bT11, bT11, bT11, bT11, bT11, bT11, bT11, bT11, bT11, bF11, bF11, bF11, bF11, bF11, bF11, bF11, bF11, bF11, bF11, bF11, bF11, bF11, bF11, bF11, bF11, bF11, bF11] rfl rfl (any_of HT_.out (by kernel_rfl)) (fun _ _ _ h => h) (Or.inl ⟨by rfl, ?_⟩) ?_ ?_
       rotate_left
       ·intro w'
        go_simp
        with_reducible rfl
       rotate_left
       ·simp only [Act.put, List.setIfInBounds_toArray, List.set_cons_zero, List.set_cons_succ, i64_w, i32_w]
        rfl
       refine pure_ (i := 24) (N := some 34) (v := undef) (a' := ?_) #[bT11, bT11, bT11, bT11, bT11, bT11, bT11, bT11, bT11, bT11, bT11, bT11, bT11, bT11, bT11, bT11, bT11, bT11, bT11, bT11, bT11, bT11, bT11, bT11, bT11, bF11, bF11, bF11, bF11, bF11, bF11, bF11, bF11, bF11, bF11, bF11, bF11, bF11, bF11, bF11, bF11, bF11] rfl rfl (any_of HT_.out (by kernel_rfl)) (fun _ _ _ h => h) (Or.inr ⟨by rfl, rfl⟩) ?_ ?_
       rotate_left
       ·simp only [Act.put, List.setIfInBounds_toArray, List.set_cons_zero, List.set_cons_succ, i64_w, i32_w]
        rfl
       refine pure_ (i := 25) (N := some 35) (v := undef) (a' := ?_) #[bT11, bT11, bT11, bT11, bT11, bT11, bT11, bT11, bT11, bT11, bT11, bT11, bT11, bT11, bT11, bT11, bT11, bT11, bT11, bT11, bT11, bT11, bT11, bT11, bT11, bT11, bF11, bF11, bF11, bF11, bF11, bF11, bF11, bF11, bF11, bF11, bF11, bF11, bF11, bF11, bF11, bF11] rfl rfl (any_of HT_.out (by kernel_rfl)) (fun _ _ _ h => h) (Or.inr ⟨by rfl, rfl⟩) ?_ ?_
       rotate_left
       ·simp only [Act.put, List.setIfInBounds_toArray, List.set_cons_zero, List.set_cons_succ, i64_w, i32_w]
        rfl
       refine pure_ (i := 26) (N := some 36) (v := undef) (a' := ?_) #[bT11, bT11, bT11, bT11, bT11, bT11, bT11, bT11, bT11, bT11, bT11, bT11, bT11, bT11, bT11, bT11, bT11, bT11, bT11, bT11, bT11, bT11, bT11, bT11, bT11, bT11, bT11, bF11, bF11, bF11, bF11, bF11, bF11, bF11, bF11, bF11, bF11, bF11, bF11, bF11, bF11, bF11] rfl rfl (any_of HT_.out (by kernel_rfl)) (fun _ _ _ h => h) (Or.inr ⟨by rfl, rfl⟩) ?_ ?_
       rotate_left
       ·simp only [Act.put, List.setIfInBounds_toArray, List.set_cons_zero, List.set_cons_succ, i64_w, i32_w]
        rfl
       refine pure_ (i := 27) (N := some 37) (v := undef) (a' := ?_) #[bT11, bT11, bT11, bT11, bT11, bT11, bT11, bT11, bT11, bT11, bT11, bT11, bT11, bT11, bT11, bT11, bT11, bT11, bT11, bT11, bT11, bT11, bT11, bT11, bT11, bT11, bT11, bT11, bF11, bF11, bF11, bF11, bF11, bF11, bF11, bF11, bF11, bF11, bF11, bF11, bF11, bF11] rfl rfl (any_of HT_.out (by kernel_rfl)) (fun _ _ _ h => h) (Or.inr ⟨by rfl, rfl⟩) ?_ ?_
       rotate_left
       ·simp only [Act.put, List.setIfInBounds_toArray, List.set_cons_zero, List.set_cons_succ, i64_w, i32_w]
        rfl
       refine pure_ (i := 28) (N := some 38) (v := undef) (a' := ?_) #[bT11, bT11, bT11, bT11, bT11, bT11, bT11, bT11, bT11, bT11, bT11, bT11, bT11, bT11, bT11, bT11, bT11, bT11, bT11, bT11, bT11, bT11, bT11, bT11, bT11, bT11, bT11, bT11, bT11, bF11, bF11, bF11, bF11, bF11, bF11, bF11, bF11, bF11, bF11, bF11, bF11, bF11] rfl rfl (any_of HT_.out (by kernel_rfl)) (fun _ _ _ h => h) (Or.inr ⟨by rfl, rfl⟩) ?_ ?_
       rotate_left
       ·simp only [Act.put, List.setIfInBounds_toArray, List.set_cons_zero, List.set_cons_succ, i64_w, i32_w]
        rfl
       refine pure_ (i := 29) (N := some 39) (v := undef) (a' := ?_) #[bT11, bT11, bT11, bT11, bT11, bT11, bT11, bT11, bT11, bT11, bT11, bT11, bT11, bT11, bT11, bT11, bT11, bT11, bT11, bT11, bT11, bT11, bT11, bT11, bT11, bT11, bT11, bT11, bT11, bT11, bF11, bF11, bF11, bF11, bF11, bF11, bF11, bF11, bF11, bF11, bF11, bF11] rfl rfl (any_of HT_.out (by kernel_rfl)) (fun _ _ _ h => h) (Or.inr ⟨by rfl, rfl⟩) ?_ ?_
       rotate_left
       ·simp only [Act.put, List.setIfInBounds_toArray, List.set_cons_zero, List.set_cons_succ, i64_w, i32_w]
        rfl
       refine pure_ (i := 30) (N := some 40) (v := undef) (a' := ?_) #[bT11, bT11, bT11, bT11, bT11, bT11, bT11, bT11, bT11, bT11, bT11, bT11, bT11, bT11, bT11, bT11, bT11, bT11, bT11, bT11, bT11, bT11, bT11, bT11, bT11, bT11, bT11, bT11, bT11, bT11, bT11, bF11, bF11, bF11, bF11, bF11, bF11, bF11, bF11, bF11, bF11, bF11] rfl rfl (any_of HT_.out (by kernel_rfl)) (fun _ _ _ h => h) (Or.inr ⟨by rfl, rfl⟩) ?_ ?_
       rotate_left
       ·simp only [Act.put, List.setIfInBounds_toArray, List.set_cons_zero, List.set_cons_succ, i64_w, i32_w]
        rfl
       refine pure_ (i := 31) (N := some 41) (v := undef) (a' := ?_) #[bT11, bT11, bT11, bT11, bT11, bT11, bT11, bT11, bT11, bT11, bT11, bT11, bT11, bT11, bT11, bT11, bT11, bT11, bT11, bT11, bT11, bT11, bT11, bT11, bT11, bT11, bT11, bT11, bT11, bT11, bT11, bT11, bF11, bF11, bF11, bF11, bF11, bF11, bF11, bF11, bF11, bF11] rfl rfl (any_of HT_.out (by kernel_rfl)) (fun _ _ _ h => h) (Or.inr ⟨by rfl, rfl⟩) ?_ ?_
       rotate_left
       ·simp only [Act.put, List.setIfInBounds_toArray, List.set_cons_zero, List.set_cons_succ, i64_w, i32_w]
        rfl
       refine pure_ (i := 32) (N := some 42) (v := undef) (a' := ?_) #[bT11, bT11, bT11, bT11, bT11, bT11, bT11, bT11, bT11, bT11, bT11, bT11, bT11, bT11, bT11, bT11, bT11, bT11, bT11, bT11, bT11, bT11, bT11, bT11, bT11, bT11, bT11, bT11, bT11, bT11, bT11, bT11, bT11, bF11, bF11, bF11, bF11, bF11, bF11, bF11, bF11, bF11] rfl rfl (any_of HT_.out (by kernel_rfl)) (fun _ _ _ h => h) (Or.inr ⟨by rfl, rfl⟩) ?_ ?_
       rotate_left
       ·simp only [Act.put, List.setIfInBounds_toArray, List.set_cons_zero, List.set_cons_succ, i64_w, i32_w]
        rfl
       refine pure_ (i := 33) (N := some 43) (v := undef) (a' := ?_) #[bT11, bT11, bT11, bT11, bT11, bT11, bT11, bT11, bT11, bT11, bT11, bT11, bT11, bT11, bT11, bT11, bT11, bT11, bT11, bT11, bT11, bT11, bT11, bT11, bT11, bT11, bT11, bT11, bT11, bT11, bT11, bT11, bT11, bT11, bF11, bF11, bF11, bF11, bF11, bF11, bF11, bF11] rfl rfl (any_of HT_.out (by kernel_rfl)) (fun _ _ _ h => h) (Or.inr ⟨by rfl, rfl⟩) ?_ ?_
       rotate_left
       ·simp only [Act.put, List.setIfInBounds_toArray, List.set_cons_zero, List.set_cons_succ, i64_w, i32_w]
        rfl
       refine pure_ (i := 34) (N := some 44) (v := undef) (a' := ?_) #[bT11, bT11, bT11, bT11, bT11, bT11, bT11, bT11, bT11, bT11, bT11, bT11, bT11, bT11, bT11, bT11, bT11, bT11, bT11, bT11, bT11, bT11, bT11, bT11, bT11, bT11, bT11, bT11, bT11, bT11, bT11, bT11, bT11, bT11, bT11, bF11, bF11, bF11, bF11, bF11, bF11, bF11] rfl rfl (any_of HT_.out (by kernel_rfl)) (fun _ _ _ h => h) (Or.inr ⟨by rfl, rfl⟩) ?_ ?_
       rotate_left
       ·simp only [Act.put, List.setIfInBounds_toArray, List.set_cons_zero, List.set_cons_succ, i64_w, i32_w]
        rfl
       refine pure_ (i := 35) (N := some 45) (v := undef) (a' := ?_) #[bT11, bT11, bT11, bT11, bT11, bT11, bT11, bT11, bT11, bT11, bT11, bT11, bT11, bT11, bT11, bT11, bT11, bT11, bT11, bT11, bT11, bT11, bT11, bT11, bT11, bT11, bT11, bT11, bT11, bT11, bT11, bT11, bT11, bT11, bT11, bT11, bF11, bF11, bF11, bF11, bF11, bF11] rfl rfl (any_of HT_.out (by kernel_rfl)) (fun _ _ _ h => h) (Or.inr ⟨by rfl, rfl⟩) ?_ ?_
       rotate_left
       ·simp only [Act.put, List.setIfInBounds_toArray, List.set_cons_zero, List.set_cons_succ, i64_w, i32_w]
        rfl
       refine pure_ (i := 36) (N := some 46) (v := undef) (a' := ?_) #[bT11, bT11, bT11, bT11, bT11, bT11, bT11, bT11, bT11, bT11, bT11, bT11, bT11, bT11, bT11, bT11, bT11, bT11, bT11, bT11, bT11, bT11, bT11, bT11, bT11, bT11, bT11, bT11, bT11, bT11, bT11, bT11, bT11, bT11, bT11, bT11, bT11, bF11, bF11, bF11, bF11, bF11] rfl rfl (any_of HT_.out (by kernel_rfl)) (fun _ _ _ h => h) (Or.inr ⟨by rfl, rfl⟩) ?_ ?_
       rotate_left
       ·simp only [Act.put, List.setIfInBounds_toArray, List.set_cons_zero, List.set_cons_succ, i64_w, i32_w]
        rfl
       refine pure_ (i := 37) (N := some 47) (v := undef) (a' := ?_) #[bT11, bT11, bT11, bT11, bT11, bT11, bT11, bT11, bT11, bT11, bT11, bT11, bT11, bT11, bT11, bT11, bT11, bT11, bT11, bT11, bT11, bT11, bT11, bT11, bT11, bT11, bT11, bT11, bT11, bT11, bT11, bT11, bT11, bT11, bT11, bT11, bT11, bT11, bF11, bF11, bF11, bF11] rfl rfl (any_of HT_.out (by kernel_rfl)) (fun _ _ _ h => h) (Or.inr ⟨by rfl, rfl⟩) ?_ ?_
       rotate_left
       ·simp only [Act.put, List.setIfInBounds_toArray, List.set_cons_zero, List.set_cons_succ, i64_w, i32_w]
        rfl
       refine pure_ (i := 38) (N := some 48) (v := undef) (a' := ?_) #[bT11, bT11, bT11, bT11, bT11, bT11, bT11, bT11, bT11, bT11, bT11, bT11, bT11, bT11, bT11, bT11, bT11, bT11, bT11, bT11, bT11, bT11, bT11, bT11, bT11, bT11, bT11, bT11, bT11, bT11, bT11, bT11, bT11, bT11, bT11, bT11, bT11, bT11, bT11, bF11, bF11, bF11] rfl rfl (any_of HT_.out (by kernel_rfl)) (fun _ _ _ h => h) (Or.inr ⟨by rfl, rfl⟩) ?_ ?_
       rotate_left
       ·simp only [Act.put, List.setIfInBounds_toArray, List.set_cons_zero, List.set_cons_succ, i64_w, i32_w]
        rfl
       refine pure_ (i := 39) (N := some 49) (v := undef) (a' := ?_) #[bT11, bT11, bT11, bT11, bT11, bT11, bT11, bT11, bT11, bT11, bT11, bT11, bT11, bT11, bT11, bT11, bT11, bT11, bT11, bT11, bT11, bT11, bT11, bT11, bT11, bT11, bT11, bT11, bT11, bT11, bT11, bT11, bT11, bT11, bT11, bT11, bT11, bT11, bT11, bT11, bF11, bF11] rfl rfl (any_of HT_.out (by kernel_rfl)) (fun _ _ _ h => h) (Or.inr ⟨by rfl, rfl⟩) ?_ ?_
       rotate_left
       ·simp only [Act.put, List.setIfInBounds_toArray, List.set_cons_zero, List.set_cons_succ, i64_w, i32_w]
        rfl
       refine pure_ (i := 40) (N := some 50) (v := undef) (a' := ?_) #[bT11, bT11, bT11, bT11, bT11, bT11, bT11, bT11, bT11, bT11, bT11, bT11, bT11, bT11, bT11, bT11, bT11, bT11, bT11, bT11, bT11, bT11, bT11, bT11, bT11, bT11, bT11, bT11, bT11, bT11, bT11, bT11, bT11, bT11, bT11, bT11, bT11, bT11, bT11, bT11, bT11, bF11] rfl rfl (any_of HT_.out (by kernel_rfl)) (fun _ _ _ h => h) (Or.inr ⟨by rfl, rfl⟩) ?_ ?_
       rotate_left
       ·simp only [Act.put, List.setIfInBounds_toArray, List.set_cons_zero, List.set_cons_succ, i64_w, i32_w]
        rfl
       refine pure_ (i := 41) (N := some 51) (v := ?_) (a' := ?_) #[bT11, bT11, bT11, bT11, bT11, bT11, bT11, bT11, bT11, bT11, bT11, bT11, bT11, bT11, bT11, bT11, bT11, bT11, bT11, bT11, bT11, bT11, bT11, bT11, bT11, bT11, bT11, bT11, bT11, bT11, bT11, bT11, bT11, bT11, bT11, bT11, bT11, bT11, bT11, bT11, bT11, bT11] rfl rfl (any_of HT_.out (by kernel_rfl)) (fun _ _ _ h => h) (Or.inl ⟨by rfl, ?_⟩) ?_ ?_
       rotate_left
       ·intro w'
        go_simp
        with_reducible rfl
       rotate_left
       ·simp only [Act.put, List.setIfInBounds_toArray, List.set_cons_zero, List.set_cons_succ, i64_w, i32_w]
        rfl
       refine done_ (done_of HT_.out (by kernel_rfl)) ?_
       try go_wp2
       go_ret
       exact ⟨by first | rfl | (simp [errW_none, errW_some] <;> rfl) | (simp [*, errW_none, errW_some] <;> rfl), by repeat (first | (with_reducible first | exact HB.out | apply below_alloc | apply pw_below_drewN | apply below_drew1) | exact HB.out)⟩
      ·rw [if_neg c6] at H
       have c6b0 : decide (((rd_T33 l0 x3_1).f1) < 1) = false := decide_eq_false c6
       clear c6
       by_cases c8 : ((rd_T33 l0 x3_1).f1) > 1048576
       ·rw [if_pos c8] at H
        have c8b0 : decide (1048576 < ((rd_T33 l0 x3_1).f1)) = true := decide_eq_true c8
        clear c8
        obtain rfl := Option.some.inj H
        try go_wp2
        replace HB := Aside0.mk (below_drew1 HB.out)
        have p149 : 0 ≤ (x3_1 : Int) := of_decide_eq_true zq11_1
        have q149 : x3_1 < (l0.length : Int) := of_decide_eq_true zq11_1
        obtain ⟨ad149, e149, hx149_0, hx149_1⟩ := at_T33 HR0.out x3_1 p149 q149
        have hw149_1 := hx149_1
        have hw149_0 := hx149_0
        cases e149
        replace hx149_0 := (HB.out.cell (World.block_lt_of_cell? w _ hx149_0)).trans hx149_0
        replace hx149_1 := (HB.out.cell (World.block_lt_of_cell? w _ hx149_1)).trans hx149_1
        replace p149 := eq_true p149
        replace q149 := eq_true q149
        have p151 : 0 ≤ (x3_1 : Int) := of_decide_eq_true zq11_1
        have q151 : x3_1 < (l0.length : Int) := of_decide_eq_true zq11_1
        obtain ⟨ad151, e151, hx151_0, hx151_1⟩ := at_T33 HR0.out x3_1 p151 q151
        have hw151_1 := hx151_1
        have hw151_0 := hx151_0
        obtain rfl : ad149 = ad151 := (by injection e151)
        replace hx151_0 := (HB.out.cell (World.block_lt_of_cell? w _ hx151_0)).trans hx151_0
        replace hx151_1 := (HB.out.cell (World.block_lt_of_cell? w _ hx151_1)).trans hx151_1
        replace p151 := eq_true p151
        replace q151 := eq_true q151
        have p152 : 0 ≤ (x3_1 : Int) := of_decide_eq_true zq11_1
        have q152 : x3_1 < (l0.length : Int) := of_decide_eq_true zq11_1
        obtain ⟨ad152, e152, hx152_0, hx152_1⟩ := at_T33 HR0.out x3_1 p152 q152
        have hw152_1 := hx152_1
        have hw152_0 := hx152_0
        obtain rfl : ad149 = ad152 := (by injection e152)
        replace hx152_0 := (HB.out.cell (World.block_lt_of_cell? w _ hx152_0)).trans hx152_0
        replace hx152_1 := (HB.out.cell (World.block_lt_of_cell? w _ hx152_1)).trans hx152_1
        replace p152 := eq_true p152
        replace q152 := eq_true q152
        refine start_ (n := 42) (S := fun w' => w'.cell? (ad149.add ((x3_1).toNat * 2)) = some (.string ((rd_T33 l0 x3_1).f0)) ∧ w'.cell? ⟨(ad149.add ((x3_1).toNat * 2)).block, (ad149.add ((x3_1).toNat * 2)).off + 1, none⟩ = some (.int .i64 ((rd_T33 l0 x3_1).f1)) ∧ w'.cell? (ad149.add ((x3_1).toNat * 2)) = some (.string ((rd_T33 l0 x3_1).f0)) ∧ w'.cell? ⟨(ad149.add ((x3_1).toNat * 2)).block, (ad149.add ((x3_1).toNat * 2)).off + 1, none⟩ = some (.int .i64 ((rd_T33 l0 x3_1).f1)) ∧ w'.cell? (ad149.add ((x3_1).toNat * 2)) = some (.string ((rd_T33 l0 x3_1).f0)) ∧ w'.cell? ⟨(ad149.add ((x3_1).toNat * 2)).block, (ad149.add ((x3_1).toNat * 2)).off + 1, none⟩ = some (.int .i64 ((rd_T33 l0 x3_1).f1))) (ds := []) #[bF11, bF11, bF11, bF11, bF11, bF11, bF11, bF11, bF11, bF11, bF11, bF11, bF11, bF11, bF11, bF11, bF11, bF11, bF11, bF11, bF11, bF11, bF11, bF11, bF11, bF11, bF11, bF11, bF11, bF11, bF11, bF11, bF11, bF11, bF11, bF11, bF11, bF11, bF11, bF11, bF11, bF11] (by kernel_rfl) rfl rfl ⟨((HB.out.cell (World.block_lt_of_cell? w _ hw149_0)).trans hw149_0), ((HB.out.cell (World.block_lt_of_cell? w _ hw149_1)).trans hw149_1), ((HB.out.cell (World.block_lt_of_cell? w _ hw151_0)).trans hw151_0), ((HB.out.cell (World.block_lt_of_cell? w _ hw151_1)).trans hw151_1), ((HB.out.cell (World.block_lt_of_cell? w _ hw152_0)).trans hw152_0), ((HB.out.cell (World.block_lt_of_cell? w _ hw152_1)).trans hw152_1)⟩ (fun hHeld => ?_); refine with_tabW cenotaphref03_Right.tab4 cenotaphref03_Right.bits4 (fun HT_ HW_ => ?_)
        generalize wr.drew = w9 at HB hx149_0 hx149_1 hx151_0 hx151_1 hx152_0 hx152_1 hHeld ⊢
        refine pure_ (i := 0) (N := some 10) (v := ?_) (a' := ?_) #[bT11, bF11, bF11, bF11, bF11, bF11, bF11, bF11, bF11, bF11, bF11, bF11, bF11, bF11, bF11, bF11, bF11, bF11, bF11, bF11, bF11, bF11, bF11, bF11, bF11, bF11, bF11, bF11, bF11, bF11, bF11, bF11, bF11, bF11, bF11, bF11, bF11, bF11, bF11, bF11, bF11, bF11] rfl rfl (any_of HT_.out (by kernel_rfl)) (fun _ _ _ h => h) (Or.inl ⟨by rfl, ?_⟩) ?_ ?_
        rotate_left
        ·intro w'
         go_simp
         with_reducible rfl
        rotate_left
        ·simp only [Act.put, List.setIfInBounds_toArray, List.set_cons_zero, List.set_cons_succ, i64_w, i32_w]
         rfl
        refine pure_ (i := 1) (N := some 11) (v := ?_) (a' := ?_) #[bT11, bT11, bF11, bF11, bF11, bF11, bF11, bF11, bF11, bF11, bF11, bF11, bF11, bF11, bF11, bF11, bF11, bF11, bF11, bF11, bF11, bF11, bF11, bF11, bF11, bF11, bF11, bF11, bF11, bF11, bF11, bF11, bF11, bF11, bF11, bF11, bF11, bF11, bF11, bF11, bF11, bF11] rfl rfl (any_of HT_.out (by kernel_rfl)) (fun _ _ _ h => h) (Or.inl ⟨by rfl, ?_⟩) ?_ ?_
        rotate_left
        ·intro w'
         go_simp
         with_reducible rfl
        rotate_left
        ·simp only [Act.put, List.setIfInBounds_toArray, List.set_cons_zero, List.set_cons_succ, i64_w, i32_w]
         rfl
        refine pure_ (i := 2) (N := some 12) (v := ?_) (a' := ?_) #[bT11, bT11, bT11, bF11, bF11, bF11, bF11, bF11, bF11, bF11, bF11, bF11, bF11, bF11, bF11, bF11, bF11, bF11, bF11, bF11, bF11, bF11, bF11, bF11, bF11, bF11, bF11, bF11, bF11, bF11, bF11, bF11, bF11, bF11, bF11, bF11, bF11, bF11, bF11, bF11, bF11, bF11] rfl rfl (any_of HT_.out (by kernel_rfl)) (fun _ _ _ h => h) (Or.inl ⟨by rfl, ?_⟩) ?_ ?_
        rotate_left
        ·intro w'
         go_simp
         with_reducible rfl
        rotate_left
        ·simp only [Act.put, List.setIfInBounds_toArray, List.set_cons_zero, List.set_cons_succ, i64_w, i32_w]
         rfl
        refine pure_ (i := 3) (N := some 13) (v := ?_) (a' := ?_) #[bT11, bT11, bT11, bT11, bF11, bF11, bF11, bF11, bF11, bF11, bF11, bF11, bF11, bF11, bF11, bF11, bF11, bF11, bF11, bF11, bF11, bF11, bF11, bF11, bF11, bF11, bF11, bF11, bF11, bF11, bF11, bF11, bF11, bF11, bF11, bF11, bF11, bF11, bF11, bF11, bF11, bF11] rfl rfl (any_of HT_.out (by kernel_rfl)) (fun _ _ _ h => h) (Or.inl ⟨by rfl, ?_⟩) ?_ ?_
        rotate_left
        ·intro w'
         go_simp
         with_reducible rfl
        rotate_left
        ·simp only [Act.put, List.setIfInBounds_toArray, List.set_cons_zero, List.set_cons_succ, i64_w, i32_w]
         rfl
        refine take_ (i := 4) (N := some 14) (v := ?_) (a' := ?_) #[bT11, bT11, bT11, bT11, bT11, bF11, bF11, bF11, bF11, bF11, bF11, bF11, bF11, bF11, bF11, bF11, bF11, bF11, bF11, bF11, bF11, bF11, bF11, bF11, bF11, bF11, bF11, bF11, bF11, bF11, bF11, bF11, bF11, bF11, bF11, bF11, bF11, bF11, bF11, bF11, bF11, bF11] rfl rfl (take_ofW HT_.out HW_.out (by kernel_rfl)) (fun _ _ _ h => h) (Or.inl ⟨by rfl, ?_⟩) hHeld ?_ ?_
        rotate_left
        ·rintro w' ⟨s0, s1, s2, s3, s4, s5⟩
         go_simp
         with_reducible rfl
        rotate_left
        ·simp only [Act.put, List.setIfInBounds_toArray, List.set_cons_zero, List.set_cons_succ, i64_w, i32_w]
         rfl
        refine one_ (i := 5) (N := some 15) #[bT11, bT11, bT11, bT11, bT11, bT11, bF11, bF11, bF11, bF11, bF11, bF11, bF11, bF11, bF11, bF11, bF11, bF11, bF11, bF11, bF11, bF11, bF11, bF11, bF11, bF11, bF11, bF11, bF11, bF11, bF11, bF11, bF11, bF11, bF11, bF11, bF11, bF11, bF11, bF11, bF11, bF11] rfl rfl (one_of HT_.out (by kernel_rfl)) (by decide) (fun K hK => ?_)
        refine goes_ Try.func30 (by kernel_rfl) rfl #[.string ((rd_T33 l0 x3_1).f0)] (by rfl) rfl rfl zq11_0 ?_
        with_reducible refine (cenotaphref01_Right.calls k1 ((rd_T33 l0 x3_1).f0) true _ A4.out).mono ?_
        rintro e w' ⟨rfl, ⟨nd, rfl⟩⟩
        refine ⟨_, rfl, ?_⟩
        refine hK.out _ _ ⟨((HB.out.cell (World.block_lt_of_cell? w _ hw149_0)).trans hw149_0), ((HB.out.cell (World.block_lt_of_cell? w _ hw149_1)).trans hw149_1), ((HB.out.cell (World.block_lt_of_cell? w _ hw151_0)).trans hw151_0), ((HB.out.cell (World.block_lt_of_cell? w _ hw151_1)).trans hw151_1), ((HB.out.cell (World.block_lt_of_cell? w _ hw152_0)).trans hw152_0), ((HB.out.cell (World.block_lt_of_cell? w _ hw152_1)).trans hw152_1)⟩ (fun hHeld => ?_)
        clear hK K
        refine norm_ (a' := ?_) ?_ ?_
        rotate_left
        ·show Act.put _ (some 15) _ = _
         simp only [Act.put, List.setIfInBounds_toArray, List.set_cons_zero, List.set_cons_succ, i64_w, i32_w]
         rfl
        refine pure_ (i := 6) (N := some 16) (v := ?_) (a' := ?_) #[bT11, bT11, bT11, bT11, bT11, bT11, bT11, bF11, bF11, bF11, bF11, bF11, bF11, bF11, bF11, bF11, bF11, bF11, bF11, bF11, bF11, bF11, bF11, bF11, bF11, bF11, bF11, bF11, bF11, bF11, bF11, bF11, bF11, bF11, bF11, bF11, bF11, bF11, bF11, bF11, bF11, bF11] rfl rfl (any_of HT_.out (by kernel_rfl)) (fun _ _ _ h => h) (Or.inl ⟨by rfl, ?_⟩) ?_ ?_
        rotate_left
        ·intro w'
         go_simp
         with_reducible rfl
        rotate_left
        ·simp only [Act.put, List.setIfInBounds_toArray, List.set_cons_zero, List.set_cons_succ, i64_w, i32_w]
         rfl
        refine pure_ (i := 7) (N := some 17) (v := ?_) (a' := ?_) #[bT11, bT11, bT11, bT11, bT11, bT11, bT11, bT11, bF11, bF11, bF11, bF11, bF11, bF11, bF11, bF11, bF11, bF11, bF11, bF11, bF11, bF11, bF11, bF11, bF11, bF11, bF11, bF11, bF11, bF11, bF11, bF11, bF11, bF11, bF11, bF11, bF11, bF11, bF11, bF11, bF11, bF11] rfl rfl (any_of HT_.out (by kernel_rfl)) (fun _ _ _ h => h) (Or.inl ⟨by rfl, ?_⟩) ?_ ?_
        rotate_left
        ·intro w'
         go_simp
         with_reducible rfl
        rotate_left
        ·simp only [Act.put, List.setIfInBounds_toArray, List.set_cons_zero, List.set_cons_succ, i64_w, i32_w]
         rfl
        refine pure_ (i := 8) (N := some 18) (v := ?_) (a' := ?_) #[bT11, bT11, bT11, bT11, bT11, bT11, bT11, bT11, bT11, bF11, bF11, bF11, bF11, bF11, bF11, bF11, bF11, bF11, bF11, bF11, bF11, bF11, bF11, bF11, bF11, bF11, bF11, bF11, bF11, bF11, bF11, bF11, bF11, bF11, bF11, bF11, bF11, bF11, bF11, bF11, bF11, bF11] rfl rfl (any_of HT_.out (by kernel_rfl)) (fun _ _ _ h => h) (Or.inl ⟨by rfl, ?_⟩) ?_ ?_
        rotate_left
        ·intro w'
         go_simp
         with_reducible rfl
        rotate_left
        ·simp only [Act.put, List.setIfInBounds_toArray, List.set_cons_zero, List.set_cons_succ, i64_w, i32_w]
         rfl
        refine pure_ (i := 9) (N := some 19) (v := ?_) (a' := ?_) #[bT11, bT11, bT11, bT11, bT11, bT11, bT11, bT11, bT11, bT11, bF11, bF11, bF11, bF11, bF11, bF11, bF11, bF11, bF11, bF11, bF11, bF11, bF11, bF11, bF11, bF11, bF11, bF11, bF11, bF11, bF11, bF11, bF11, bF11, bF11, bF11, bF11, bF11, bF11, bF11, bF11, bF11] rfl rfl (any_of HT_.out (by kernel_rfl)) (fun _ _ _ h => h) (Or.inl ⟨by rfl, ?_⟩) ?_ ?_
        rotate_left
        ·intro w'
         go_simp
         with_reducible rfl
        rotate_left
        ·simp only [Act.put, List.setIfInBounds_toArray, List.set_cons_zero, List.set_cons_succ, i64_w, i32_w]
         rfl
        refine pure_ (i := 10) (N := some 20) (v := ?_) (a' := ?_) #[bT11, bT11, bT11, bT11, bT11, bT11, bT11, bT11, bT11, bT11, bT11, bF11, bF11, bF11, bF11, bF11, bF11, bF11, bF11, bF11, bF11, bF11, bF11, bF11, bF11, bF11, bF11, bF11, bF11, bF11, bF11, bF11, bF11, bF11, bF11, bF11, bF11, bF11, bF11, bF11, bF11, bF11] rfl rfl (any_of HT_.out (by kernel_rfl)) (fun _ _ _ h => h) (Or.inl ⟨by rfl, ?_⟩) ?_ ?_
        rotate_left
        ·intro w'
         go_simp
         with_reducible rfl
        rotate_left
        ·simp only [Act.put, List.setIfInBounds_toArray, List.set_cons_zero, List.set_cons_succ, i64_w, i32_w]
         rfl
        refine pure_ (i := 11) (N := some 21) (v := ?_) (a' := ?_) #[bT11, bT11, bT11, bT11, bT11, bT11, bT11, bT11, bT11, bT11, bT11, bT11, bF11, bF11, bF11, bF11, bF11, bF11, bF11, bF11, bF11, bF11, bF11, bF11, bF11, bF11, bF11, bF11, bF11, bF11, bF11, bF11, bF11, bF11, bF11, bF11, bF11, bF11, bF11, bF11, bF11, bF11] rfl rfl (any_of HT_.out (by kernel_rfl)) (fun _ _ _ h => h) (Or.inl ⟨by rfl, ?_⟩) ?_ ?_
        rotate_left
        ·intro w'
         go_simp
         with_reducible rfl
        rotate_left
        ·simp only [Act.put, List.setIfInBounds_toArray, List.set_cons_zero, List.set_cons_succ, i64_w, i32_w]
         rfl
        refine take_ (i := 12) (N := some 22) (v := ?_) (a' := ?_) #[bT11, bT11, bT11, bT11, bT11, bT11, bT11, bT11, bT11, bT11, bT11, bT11, bT11, bF11, bF11, bF11, bF11, bF11, bF11, bF11, bF11, bF11, bF11, bF11, bF11, bF11, bF11, bF11, bF11, bF11, bF11, bF11, bF11, bF11, bF11, bF11, bF11, bF11, bF11, bF11, bF11, bF11] rfl rfl (take_ofW HT_.out HW_.out (by kernel_rfl)) (fun _ _ _ h => h) (Or.inl ⟨by rfl, ?_⟩) hHeld ?_ ?_
        rotate_left
        ·rintro w' ⟨s0, s1, s2, s3, s4, s5⟩
         go_simp
         with_reducible rfl
        rotate_left
        ·simp only [Act.put, List.setIfInBounds_toArray, List.set_cons_zero, List.set_cons_succ, i64_w, i32_w]
         rfl
        refine pure_ (i := 13) (N := some 23) (v := ?_) (a' := ?_) #[bT11, bT11, bT11, bT11, bT11, bT11, bT11, bT11, bT11, bT11, bT11, bT11, bT11, bT11, bF11, bF11, bF11, bF11, bF11, bF11, bF11, bF11, bF11, bF11, bF11, bF11, bF11, bF11, bF11, bF11, bF11, bF11, bF11, bF11, bF11, bF11, bF11, bF11, bF11, bF11, bF11, bF11] rfl rfl (any_of HT_.out (by kernel_rfl)) (fun _ _ _ h => h) (Or.inl ⟨by rfl, ?_⟩) ?_ ?_
        rotate_left
        ·intro w'
         go_simp
         with_reducible rfl
        rotate_left
        ·simp only [Act.put, List.setIfInBounds_toArray, List.set_cons_zero, List.set_cons_succ, i64_w, i32_w]
         rfl
        refine pure_ (i := 14) (N := some 24) (v := ?_) (a' := ?_) #[bT11, bT11, bT11, bT11, bT11, bT11, bT11, bT11, bT11, bT11, bT11, bT11, bT11, bT11, bT11, bF11, bF11, bF11, bF11, bF11, bF11, bF11, bF11, bF11, bF11, bF11, bF11, bF11, bF11, bF11, bF11, bF11, bF11, bF11, bF11, bF11, bF11, bF11, bF11, bF11, bF11, bF11] rfl rfl (any_of HT_.out (by kernel_rfl)) (fun _ _ _ h => h) (Or.inl ⟨by rfl, ?_⟩) ?_ ?_
        rotate_left
        ·intro w'
         go_simp
         with_reducible rfl
        rotate_left
        ·simp only [Act.put, List.setIfInBounds_toArray, List.set_cons_zero, List.set_cons_succ, i64_w, i32_w]
         rfl
        refine pure_ (i := 15) (N := some 25) (v := ?_) (a' := ?_) #[bT11, bT11, bT11, bT11, bT11, bT11, bT11, bT11, bT11, bT11, bT11, bT11, bT11, bT11, bT11, bT11, bF11, bF11, bF11, bF11, bF11, bF11, bF11, bF11, bF11, bF11, bF11, bF11, bF11, bF11, bF11, bF11, bF11, bF11, bF11, bF11, bF11, bF11, bF11, bF11, bF11, bF11] rfl rfl (any_of HT_.out (by kernel_rfl)) (fun _ _ _ h => h) (Or.inl ⟨by rfl, ?_⟩) ?_ ?_
        rotate_left
        ·intro w'
         go_simp
         with_reducible rfl
        rotate_left
        ·simp only [Act.put, List.setIfInBounds_toArray, List.set_cons_zero, List.set_cons_succ, i64_w, i32_w]
         rfl
        refine pure_ (i := 16) (N := some 26) (v := ?_) (a' := ?_) #[bT11, bT11, bT11, bT11, bT11, bT11, bT11, bT11, bT11, bT11, bT11, bT11, bT11, bT11, bT11, bT11, bT11, bF11, bF11, bF11, bF11, bF11, bF11, bF11, bF11, bF11, bF11, bF11, bF11, bF11, bF11, bF11, bF11, bF11, bF11, bF11, bF11, bF11, bF11, bF11, bF11, bF11] rfl rfl (any_of HT_.out (by kernel_rfl)) (fun _ _ _ h => h) (Or.inl ⟨by rfl, ?_⟩) ?_ ?_
        rotate_left
        ·intro w'
         go_simp
         with_reducible rfl
        rotate_left
        ·simp only [Act.put, List.setIfInBounds_toArray, List.set_cons_zero, List.set_cons_succ, i64_w, i32_w]
         rfl
        refine pure_ (i := 17) (N := some 27) (v := ?_) (a' := ?_) #[bT11, bT11, bT11, bT11, bT11, bT11, bT11, bT11, bT11, bT11, bT11, bT11, bT11, bT11, bT11, bT11, bT11, bT11, bF11, bF11, bF11, bF11, bF11, bF11, bF11, bF11, bF11, bF11, bF11, bF11, bF11, bF11, bF11, bF11, bF11, bF11, bF11, bF11, bF11, bF11, bF11, bF11] rfl rfl (any_of HT_.out (by kernel_rfl)) (fun _ _ _ h => h) (Or.inl ⟨by rfl, ?_⟩) ?_ ?_
        rotate_left
        ·intro w'
         go_simp
         with_reducible rfl
        rotate_left
        ·simp only [Act.put, List.setIfInBounds_toArray, List.set_cons_zero, List.set_cons_succ, i64_w, i32_w]
         rfl
        refine pure_ (i := 18) (N := some 28) (v := ?_) (a' := ?_) #[bT11, bT11, bT11, bT11, bT11, bT11, bT11, bT11, bT11, bT11, bT11, bT11, bT11, bT11, bT11, bT11, bT11, bT11, bT11, bF11, bF11, bF11, bF11, bF11, bF11, bF11, bF11, bF11, bF11, bF11, bF11, bF11, bF11, bF11, bF11, bF11, bF11, bF11, bF11, bF11, bF11, bF11] rfl rfl (any_of HT_.out (by kernel_rfl)) (fun _ _ _ h => h) (Or.inl ⟨by rfl, ?_⟩) ?_ ?_
        rotate_left
        ·intro w'
         go_simp
         with_reducible rfl
        rotate_left
        ·simp only [Act.put, List.setIfInBounds_toArray, List.set_cons_zero, List.set_cons_succ, i64_w, i32_w]
         rfl
        refine pure_ (i := 19) (N := some 29) (v := ?_) (a' := ?_) #[bT11, bT11, bT11, bT11, bT11, bT11, bT11, bT11, bT11, bT11, bT11, bT11, bT11, bT11, bT11, bT11, bT11, bT11, bT11, bT11, bF11, bF11, bF11, bF11, bF11, bF11, bF11, bF11, bF11, bF11, bF11, bF11, bF11, bF11, bF11, bF11, bF11, bF11, bF11, bF11, bF11, bF11] rfl rfl (any_of HT_.out (by kernel_rfl)) (fun _ _ _ h => h) (Or.inl ⟨by rfl, ?_⟩) ?_ ?_
        rotate_left
        ·intro w'
         go_simp
         with_reducible rfl
        rotate_left
        ·simp only [Act.put, List.setIfInBounds_toArray, List.set_cons_zero, List.set_cons_succ, i64_w, i32_w]
         rfl
        refine take_ (i := 20) (N := some 30) (v := ?_) (a' := ?_) #[bT11, bT11, bT11, bT11, bT11, bT11, bT11, bT11, bT11, bT11, bT11, bT11, bT11, bT11, bT11, bT11, bT11, bT11, bT11, bT11, bT11, bF11, bF11, bF11, bF11, bF11, bF11, bF11, bF11, bF11, bF11, bF11, bF11, bF11, bF11, bF11, bF11, bF11, bF11, bF11, bF11, bF11] rfl rfl (take_ofW HT_.out HW_.out (by kernel_rfl)) (fun _ _ _ h => h) (Or.inl ⟨by rfl, ?_⟩) hHeld ?_ ?_
        rotate_left
        ·rintro w' ⟨s0, s1, s2, s3, s4, s5⟩
         go_simp
         with_reducible rfl
        rotate_left
        ·simp only [Act.put, List.setIfInBounds_toArray, List.set_cons_zero, List.set_cons_succ, i64_w, i32_w]
         rfl
        refine pure_ (i := 21) (N := some 31) (v := ?_) (a' := ?_) #[bT11, bT11, bT11, bT11, bT11, bT11, bT11, bT11, bT11, bT11, bT11, bT11, bT11, bT11, bT11, bT11, bT11, bT11, bT11, bT11, bT11, bT11, bF11, bF11, bF11, bF11, bF11, bF11, bF11, bF11, bF11, bF11, bF11, bF11, bF11, bF11, bF11, bF11, bF11, bF11, bF11, bF11] rfl rfl (any_of HT_.out (by kernel_rfl)) (fun _ _ _ h => h) (Or.inl ⟨by rfl, ?_⟩) ?_ ?_
        rotate_left
        ·intro w'
         go_simp
         with_reducible rfl
        rotate_left
        ·simp only [Act.put, List.setIfInBounds_toArray, List.set_cons_zero, List.set_cons_succ, i64_w, i32_w]
         rfl
        refine pure_ (i := 22) (N := some 32) (v := ?_) (a' := ?_) #[bT11, bT11, bT11, bT11, bT11, bT11, bT11, bT11, bT11, bT11, bT11, bT11, bT11, bT11, bT11, bT11, bT11, bT11, bT11, bT11, bT11, bT11, bT11, bF11, bF11, bF11, bF11, bF11, bF11, bF11, bF11, bF11, bF11, bF11, bF11, bF11, bF11, bF11, bF11, bF11, bF11, bF11] rfl rfl (any_of HT_.out (by kernel_rfl)) (fun _ _ _ h => h) (Or.inl ⟨by rfl, ?_⟩) ?_ ?_
        rotate_left
        ·intro w'
         go_simp
         with_reducible rfl
        rotate_left
        ·simp only [Act.put, List.setIfInBounds_toArray, List.set_cons_zero, List.set_cons_succ, i64_w, i32_w]
         rfl
        refine pure_ (i := 23) (N := some 33) (v := ?_) (a' := ?_) #[bT11, bT11, bT11, bT11, bT11, bT11, bT11, bT11, bT11, bT11, bT11, bT11, bT11, bT11, bT11, bT11, bT11, bT11, bT11, bT11, bT11, bT11, bT11, bT11, bF11, bF11, bF11, bF11, bF11, bF11, bF11, bF11, bF11, bF11, bF11, bF11, bF11, bF11, bF11, bF11, bF11, bF11] rfl rfl (any_of HT_.out (by kernel_rfl)) (fun _ _ _ h => h) (Or.inl ⟨by rfl, ?_⟩) ?_ ?_
        rotate_left
        ·intro w'
         go_simp
         with_reducible rfl
        rotate_left
        ·simp only [Act.put, List.setIfInBounds_toArray, List.set_cons_zero, List.set_cons_succ, i64_w, i32_w]
         rfl
        refine pure_ (i := 24) (N := some 34) (v := undef) (a' := ?_) #[bT11, bT11, bT11, bT11, bT11, bT11, bT11, bT11, bT11, bT11, bT11, bT11, bT11, bT11, bT11, bT11, bT11, bT11, bT11, bT11, bT11, bT11, bT11, bT11, bT11, bF11, bF11, bF11, bF11, bF11, bF11, bF11, bF11, bF11, bF11, bF11, bF11, bF11, bF11, bF11, bF11, bF11] rfl rfl (any_of HT_.out (by kernel_rfl)) (fun _ _ _ h => h) (Or.inr ⟨by rfl, rfl⟩) ?_ ?_
        rotate_left
        ·simp only [Act.put, List.setIfInBounds_toArray, List.set_cons_zero, List.set_cons_succ, i64_w, i32_w]
         rfl
        refine pure_ (i := 25) (N := some 35) (v := undef) (a' := ?_) #[bT11, bT11, bT11, bT11, bT11, bT11, bT11, bT11, bT11, bT11, bT11, bT11, bT11, bT11, bT11, bT11, bT11, bT11, bT11, bT11, bT11, bT11, bT11, bT11, bT11, bT11, bF11, bF11, bF11, bF11, bF11, bF11, bF11, bF11, bF11, bF11, bF11, bF11, bF11, bF11, bF11, bF11] rfl rfl (any_of HT_.out (by kernel_rfl)) (fun _ _ _ h => h) (Or.inr ⟨by rfl, rfl⟩) ?_ ?_
        rotate_left
        ·simp only [Act.put, List.setIfInBounds_toArray, List.set_cons_zero, List.set_cons_succ, i64_w, i32_w]
         rfl
        refine pure_ (i := 26) (N := some 36) (v := undef) (a' := ?_) #[bT11, bT11, bT11, bT11, bT11, bT11, bT11, bT11, bT11, bT11, bT11, bT11, bT11, bT11, bT11, bT11, bT11, bT11, bT11, bT11, bT11, bT11, bT11, bT11, bT11, bT11, bT11, bF11, bF11, bF11, bF11, bF11, bF11, bF11, bF11, bF11, bF11, bF11, bF11, bF11, bF11, bF11] rfl rfl (any_of HT_.out (by kernel_rfl)) (fun _ _ _ h => h) (Or.inr ⟨by rfl, rfl⟩) ?_ ?_
        rotate_left
        ·simp only [Act.put, List.setIfInBounds_toArray, List.set_cons_zero, List.set_cons_succ, i64_w, i32_w]
         rfl
        refine pure_ (i := 27) (N := some 37) (v := undef) (a' := ?_) #[bT11, bT11, bT11, bT11, bT11, bT11, bT11, bT11, bT11, bT11, bT11, bT11, bT11, bT11, bT11, bT11, bT11, bT11, bT11, bT11, bT11, bT11, bT11, bT11, bT11, bT11, bT11, bT11, bF11, bF11, bF11, bF11, bF11, bF11, bF11, bF11, bF11, bF11, bF11, bF11, bF11, bF11] rfl rfl (any_of HT_.out (by kernel_rfl)) (fun _ _ _ h => h) (Or.inr ⟨by rfl, rfl⟩) ?_ ?_
        rotate_left
        ·simp only [Act.put, List.setIfInBounds_toArray, List.set_cons_zero, List.set_cons_succ, i64_w, i32_w]
         rfl
        refine pure_ (i := 28) (N := some 38) (v := undef) (a' := ?_) #[bT11, bT11, bT11, bT11, bT11, bT11, bT11, bT11, bT11, bT11, bT11, bT11, bT11, bT11, bT11, bT11, bT11, bT11, bT11, bT11, bT11, bT11, bT11, bT11, bT11, bT11, bT11, bT11, bT11, bF11, bF11, bF11, bF11, bF11, bF11, bF11, bF11, bF11, bF11, bF11, bF11, bF11] rfl rfl (any_of HT_.out (by kernel_rfl)) (fun _ _ _ h => h) (Or.inr ⟨by rfl, rfl⟩) ?_ ?_
        rotate_left
        ·simp only [Act.put, List.setIfInBounds_toArray, List.set_cons_zero, List.set_cons_succ, i64_w, i32_w]
         rfl
        refine pure_ (i := 29) (N := some 39) (v := undef) (a' := ?_) #[bT11, bT11, bT11, bT11, bT11, bT11, bT11, bT11, bT11, bT11, bT11, bT11, bT11, bT11, bT11, bT11, bT11, bT11, bT11, bT11, bT11, bT11, bT11, bT11, bT11, bT11, bT11, bT11, bT11, bT11, bF11, bF11, bF11, bF11, bF11, bF11, bF11, bF11, bF11, bF11, bF11, bF11] rfl rfl (any_of HT_.out (by kernel_rfl)) (fun _ _ _ h => h) (Or.inr ⟨by rfl, rfl⟩) ?_ ?_
        rotate_left
        ·simp only [Act.put, List.setIfInBounds_toArray, List.set_cons_zero, List.set_cons_succ, i64_w, i32_w]
         rfl
        refine pure_ (i := 30) (N := some 40) (v := undef) (a' := ?_) #[bT11, bT11, bT11, bT11, bT11, bT11, bT11, bT11, bT11, bT11, bT11, bT11, bT11, bT11, bT11, bT11, bT11, bT11, bT11, bT11, bT11, bT11, bT11, bT11, bT11, bT11, bT11, bT11, bT11, bT11, bT11, bF11, bF11, bF11, bF11, bF11, bF11, bF11, bF11, bF11, bF11, bF11] rfl rfl (any_of HT_.out (by kernel_rfl)) (fun _ _ _ h => h) (Or.inr ⟨by rfl, rfl⟩) ?_ ?_
        rotate_left
        ·simp only [Act.put, List.setIfInBounds_toArray, List.set_cons_zero, List.set_cons_succ, i64_w, i32_w]
         rfl
        refine pure_ (i := 31) (N := some 41) (v := undef) (a' := ?_) #[bT11, bT11, bT11, bT11, bT11, bT11, bT11, bT11, bT11, bT11, bT11, bT11, bT11, bT11, bT11, bT11, bT11, bT11, bT11, bT11, bT11, bT11, bT11, bT11, bT11, bT11, bT11, bT11, bT11, bT11, bT11, bT11, bF11, bF11, bF11, bF11, bF11, bF11, bF11, bF11, bF11, bF11] rfl rfl (any_of HT_.out (by kernel_rfl)) (fun _ _ _ h => h) (Or.inr ⟨by rfl, rfl⟩) ?_ ?_
        rotate_left
        ·simp only [Act.put, List.setIfInBounds_toArray, List.set_cons_zero, List.set_cons_succ, i64_w, i32_w]
         rfl
        refine pure_ (i := 32) (N := some 42) (v := undef) (a' := ?_) #[bT11, bT11, bT11, bT11, bT11, bT11, bT11, bT11, bT11, bT11, bT11, bT11, bT11, bT11, bT11, bT11, bT11, bT11, bT11, bT11, bT11, bT11, bT11, bT11, bT11, bT11, bT11, bT11, bT11, bT11, bT11, bT11, bT11, bF11, bF11, bF11, bF11, bF11, bF11, bF11, bF11, bF11] rfl rfl (any_of HT_.out (by kernel_rfl)) (fun _ _ _ h => h) (Or.inr ⟨by rfl, rfl⟩) ?_ ?_
        rotate_left
        ·simp only [Act.put, List.setIfInBounds_toArray, List.set_cons_zero, List.set_cons_succ, i64_w, i32_w]
         rfl
        refine pure_ (i := 33) (N := some 43) (v := undef) (a' := ?_) #[bT11, bT11, bT11, bT11, bT11, bT11, bT11, bT11, bT11, bT11, bT11, bT11, bT11, bT11, bT11, bT11, bT11, bT11, bT11, bT11, bT11, bT11, bT11, bT11, bT11, bT11, bT11, bT11, bT11, bT11, bT11, bT11, bT11, bT11, bF11, bF11, bF11, bF11, bF11, bF11, bF11, bF11] rfl rfl (any_of HT_.out (by kernel_rfl)) (fun _ _ _ h => h) (Or.inr ⟨by rfl, rfl⟩) ?_ ?_
        rotate_left
        ·simp only [Act.put, List.setIfInBounds_toArray, List.set_cons_zero, List.set_cons_succ, i64_w, i32_w]
         rfl
        refine pure_ (i := 34) (N := some 44) (v := undef) (a' := ?_) #[bT11, bT11, bT11, bT11, bT11, bT11, bT11, bT11, bT11, bT11, bT11, bT11, bT11, bT11, bT11, bT11, bT11, bT11, bT11, bT11, bT11, bT11, bT11, bT11, bT11, bT11, bT11, bT11, bT11, bT11, bT11, bT11, bT11, bT11, bT11, bF11, bF11, bF11, bF11, bF11, bF11, bF11] rfl rfl (any_of HT_.out (by kernel_rfl)) (fun _ _ _ h => h) (Or.inr ⟨by rfl, rfl⟩) ?_ ?_
        rotate_left
        ·simp only [Act.put, List.setIfInBounds_toArray, List.set_cons_zero, List.set_cons_succ, i64_w, i32_w]
         rfl
        refine pure_ (i := 35) (N := some 45) (v := undef) (a' := ?_) #[bT11, bT11, bT11, bT11, bT11, bT11, bT11, bT11, bT11, bT11, bT11, bT11, bT11, bT11, bT11, bT11, bT11, bT11, bT11, bT11, bT11, bT11, bT11, bT11, bT11, bT11, bT11, bT11, bT11, bT11, bT11, bT11, bT11, bT11, bT11, bT11, bF11, bF11, bF11, bF11, bF11, bF11] rfl rfl (any_of HT_.out (by kernel_rfl)) (fun _ _ _ h => h) (Or.inr ⟨by rfl, rfl⟩) ?_ ?_
        rotate_left
        ·simp only [Act.put, List.setIfInBounds_toArray, List.set_cons_zero, List.set_cons_succ, i64_w, i32_w]
         rfl
        refine pure_ (i := 36) (N := some 46) (v := undef) (a' := ?_) #[bT11, bT11, bT11, bT11, bT11, bT11, bT11, bT11, bT11, bT11, bT11, bT11, bT11, bT11, bT11, bT11, bT11, bT11, bT11, bT11, bT11, bT11, bT11, bT11, bT11, bT11, bT11, bT11, bT11, bT11, bT11, bT11, bT11, bT11, bT11, bT11, bT11, bF11, bF11, bF11, bF11, bF11] rfl rfl (any_of HT_.out (by kernel_rfl)) (fun _ _ _ h => h) (Or.inr ⟨by rfl, rfl⟩) ?_ ?_
        rotate_left
        ·simp only [Act.put, List.setIfInBounds_toArray, List.set_cons_zero, List.set_cons_succ, i64_w, i32_w]
         rfl
        refine pure_ (i := 37) (N := some 47) (v := undef) (a' := ?_) #[bT11, bT11, bT11, bT11, bT11, bT11, bT11, bT11, bT11, bT11, bT11, bT11, bT11, bT11, bT11, bT11, bT11, bT11, bT11, bT11, bT11, bT11, bT11, bT11, bT11, bT11, bT11, bT11, bT11, bT11, bT11, bT11, bT11, bT11, bT11, bT11, bT11, bT11, bF11, bF11, bF11, bF11] rfl rfl (any_of HT_.out (by kernel_rfl)) (fun _ _ _ h => h) (Or.inr ⟨by rfl, rfl⟩) ?_ ?_
        rotate_left
        ·simp only [Act.put, List.setIfInBounds_toArray, List.set_cons_zero, List.set_cons_succ, i64_w, i32_w]
         rfl
        refine pure_ (i := 38) (N := some 48) (v := undef) (a' := ?_) #[bT11, bT11, bT11, bT11, bT11, bT11, bT11, bT11, bT11, bT11, bT11, bT11, bT11, bT11, bT11, bT11, bT11, bT11, bT11, bT11, bT11, bT11, bT11, bT11, bT11, bT11, bT11, bT11, bT11, bT11, bT11, bT11, bT11, bT11, bT11, bT11, bT11, bT11, bT11, bF11, bF11, bF11] rfl rfl (any_of HT_.out (by kernel_rfl)) (fun _ _ _ h => h) (Or.inr ⟨by rfl, rfl⟩) ?_ ?_
        rotate_left
        ·simp only [Act.put, List.setIfInBounds_toArray, List.set_cons_zero, List.set_cons_succ, i64_w, i32_w]
         rfl
        refine pure_ (i := 39) (N := some 49) (v := undef) (a' := ?_) #[bT11, bT11, bT11, bT11, bT11, bT11, bT11, bT11, bT11, bT11, bT11, bT11, bT11, bT11, bT11, bT11, bT11, bT11, bT11, bT11, bT11, bT11, bT11, bT11, bT11, bT11, bT11, bT11, bT11, bT11, bT11, bT11, bT11, bT11, bT11, bT11, bT11, bT11, bT11, bT11, bF11, bF11] rfl rfl (any_of HT_.out (by kernel_rfl)) (fun _ _ _ h => h) (Or.inr ⟨by rfl, rfl⟩) ?_ ?_
        rotate_left
        ·simp only [Act.put, List.setIfInBounds_toArray, List.set_cons_zero, List.set_cons_succ, i64_w, i32_w]
         rfl
        refine pure_ (i := 40) (N := some 50) (v := undef) (a' := ?_) #[bT11, bT11, bT11, bT11, bT11, bT11, bT11, bT11, bT11, bT11, bT11, bT11, bT11, bT11, bT11, bT11, bT11, bT11, bT11, bT11, bT11, bT11, bT11, bT11, bT11, bT11, bT11, bT11, bT11, bT11, bT11, bT11, bT11, bT11, bT11, bT11, bT11, bT11, bT11, bT11, bT11, bF11] rfl rfl (any_of HT_.out (by kernel_rfl)) (fun _ _ _ h => h) (Or.inr ⟨by rfl, rfl⟩) ?_ ?_
        rotate_left
        ·simp only [Act.put, List.setIfInBounds_toArray, List.set_cons_zero, List.set_cons_succ, i64_w, i32_w]
         rfl
        refine pure_ (i := 41) (N := some 51) (v := ?_) (a' := ?_) #[bT11, bT11, bT11, bT11, bT11, bT11, bT11, bT11, bT11, bT11, bT11, bT11, bT11, bT11, bT11, bT11, bT11, bT11, bT11, bT11, bT11, bT11, bT11, bT11, bT11, bT11, bT11, bT11, bT11, bT11, bT11, bT11, bT11, bT11, bT11, bT11, bT11, bT11, bT11, bT11, bT11, bT11] rfl rfl (any_of HT_.out (by kernel_rfl)) (fun _ _ _ h => h) (Or.inl ⟨by rfl, ?_⟩) ?_ ?_
        rotate_left
        ·intro w'
         go_simp
         with_reducible rfl
        rotate_left
        ·simp only [Act.put, List.setIfInBounds_toArray, List.set_cons_zero, List.set_cons_succ, i64_w, i32_w]
         rfl
        refine done_ (done_of HT_.out (by kernel_rfl)) ?_
        try go_wp2
        go_ret
        exact ⟨by first | rfl | (simp [errW_none, errW_some] <;> rfl) | (simp [*, errW_none, errW_some] <;> rfl), by repeat (first | (with_reducible first | exact HB.out | apply below_alloc | apply pw_below_drewN | apply below_drew1) | exact HB.out)⟩
       ·rw [if_neg c8] at H
        have c8b0 : decide (1048576 < ((rd_T33 l0 x3_1).f1)) = false := decide_eq_false c8
        clear c8
        by_cases c10 : x3_1 > 0
        ·rw [if_pos c10] at H
         have c10b0 : decide (0 < x3_1) = true := decide_eq_true c10
         clear c10
         obtain ⟨ji11, hji11⟩ : ∃ j_ : Int, (wrap64 (x3_1 - 1)) = j_ := ⟨_, rfl⟩
         replace H : (if 0 ≤ (ji11) then (if (ji11) < (l0.length : Int) then ((cenotaphref01_Compare.f k1 ((rd_T33 l0 (ji11)).f0) ((rd_T33 l0 x3_1).f0)).bind fun t155 => (if t155 ≥ 0 then (some false) else (cenotaphref03_Right.l0 k1 l0 (wrap64 (x3_1 + 1))))) else (none)) else (none)) = some r := by first | (rw [hji11] at H; exact H) | (simp only [hji11] at H ⊢; exact H)
         (try rw [hji11] at A4)
         have hji11w : (IntKind.i64.wrap (x3_1 - 1)) = ji11 := (i64_w _).trans hji11
         by_cases c12 : 0 ≤ (ji11)
         ·rw [if_pos c12] at H
          have c12b0 : decide (0 ≤ (ji11)) = true := decide_eq_true c12
          clear c12
          by_cases c13 : (ji11) < (l0.length : Int)
          ·rw [if_pos c13] at H
           have c13b0 : decide ((ji11) < (l0.length : Int)) = true := decide_eq_true c13
           clear c13
           replace H := Option.bind_eq_some_iff.mp H
           obtain ⟨t155, A140, H⟩ := H
           replace H : (if t155 ≥ 0 then (some false) else (cenotaphref03_Right.l0 k1 l0 (wrap64 (x3_1 + 1)))) = some r := H
           have A14 := Aside0.mk A140
           clear A140
           by_cases c15 : t155 ≥ 0
           ·rw [if_pos c15] at H
            have c15b0 : decide (0 ≤ t155) = true := decide_eq_true c15
            clear c15
            obtain rfl := Option.some.inj H
            try go_wp2
            replace HB := Aside0.mk (below_drew1 HB.out)
            have p149 : 0 ≤ (x3_1 : Int) := of_decide_eq_true zq11_1
            have q149 : x3_1 < (l0.length : Int) := of_decide_eq_true zq11_1
            obtain ⟨ad149, e149, hx149_0, hx149_1⟩ := at_T33 HR0.out x3_1 p149 q149
            have hw149_1 := hx149_1
            have hw149_0 := hx149_0
            cases e149
            replace hx149_0 := (HB.out.cell (World.block_lt_of_cell? w _ hx149_0)).trans hx149_0
            replace hx149_1 := (HB.out.cell (World.block_lt_of_cell? w _ hx149_1)).trans hx149_1
            replace p149 := eq_true p149
            replace q149 := eq_true q149
            have p151 : 0 ≤ (x3_1 : Int) := of_decide_eq_true zq11_1
            have q151 : x3_1 < (l0.length : Int) := of_decide_eq_true zq11_1
            obtain ⟨ad151, e151, hx151_0, hx151_1⟩ := at_T33 HR0.out x3_1 p151 q151
            have hw151_1 := hx151_1
            have hw151_0 := hx151_0
            obtain rfl : ad149 = ad151 := (by injection e151)
            replace hx151_0 := (HB.out.cell (World.block_lt_of_cell? w _ hx151_0)).trans hx151_0
            replace hx151_1 := (HB.out.cell (World.block_lt_of_cell? w _ hx151_1)).trans hx151_1
            replace p151 := eq_true p151
            replace q151 := eq_true q151
            have p152 : 0 ≤ (x3_1 : Int) := of_decide_eq_true zq11_1
            have q152 : x3_1 < (l0.length : Int) := of_decide_eq_true zq11_1
            obtain ⟨ad152, e152, hx152_0, hx152_1⟩ := at_T33 HR0.out x3_1 p152 q152
            have hw152_1 := hx152_1
            have hw152_0 := hx152_0
            obtain rfl : ad149 = ad152 := (by injection e152)
            replace hx152_0 := (HB.out.cell (World.block_lt_of_cell? w _ hx152_0)).trans hx152_0
            replace hx152_1 := (HB.out.cell (World.block_lt_of_cell? w _ hx152_1)).trans hx152_1
            replace p152 := eq_true p152
            replace q152 := eq_true q152
            have p153 : 0 ≤ ((ji11) : Int) := of_decide_eq_true zq11_1
            have q153 : (ji11) < (l0.length : Int) := of_decide_eq_true zq11_1
            obtain ⟨ad153, e153, hx153_0, hx153_1⟩ := at_T33 HR0.out (ji11) p153 q153
            have hw153_1 := hx153_1
            have hw153_0 := hx153_0
            obtain rfl : ad149 = ad153 := (by injection e153)
            replace hx153_0 := (HB.out.cell (World.block_lt_of_cell? w _ hx153_0)).trans hx153_0
            replace hx153_1 := (HB.out.cell (World.block_lt_of_cell? w _ hx153_1)).trans hx153_1
            replace p153 := eq_true p153
            replace q153 := eq_true q153
            have p154 : 0 ≤ (x3_1 : Int) := of_decide_eq_true zq11_1
            have q154 : x3_1 < (l0.length : Int) := of_decide_eq_true zq11_1
            obtain ⟨ad154, e154, hx154_0, hx154_1⟩ := at_T33 HR0.out x3_1 p154 q154
            have hw154_1 := hx154_1
            have hw154_0 := hx154_0
            obtain rfl : ad149 = ad154 := (by injection e154)
            replace hx154_0 := (HB.out.cell (World.block_lt_of_cell? w _ hx154_0)).trans hx154_0
            replace hx154_1 := (HB.out.cell (World.block_lt_of_cell? w _ hx154_1)).trans hx154_1
            replace p154 := eq_true p154
            replace q154 := eq_true q154
            refine start_ (n := 42) (S := fun w' => w'.cell? (ad149.add ((x3_1).toNat * 2)) = some (.string ((rd_T33 l0 x3_1).f0)) ∧ w'.cell? ⟨(ad149.add ((x3_1).toNat * 2)).block, (ad149.add ((x3_1).toNat * 2)).off + 1, none⟩ = some (.int .i64 ((rd_T33 l0 x3_1).f1)) ∧ w'.cell? (ad149.add ((x3_1).toNat * 2)) = some (.string ((rd_T33 l0 x3_1).f0)) ∧ w'.cell? ⟨(ad149.add ((x3_1).toNat * 2)).block, (ad149.add ((x3_1).toNat * 2)).off + 1, none⟩ = some (.int .i64 ((rd_T33 l0 x3_1).f1)) ∧ w'.cell? (ad149.add ((x3_1).toNat * 2)) = some (.string ((rd_T33 l0 x3_1).f0)) ∧ w'.cell? ⟨(ad149.add ((x3_1).toNat * 2)).block, (ad149.add ((x3_1).toNat * 2)).off + 1, none⟩ = some (.int .i64 ((rd_T33 l0 x3_1).f1)) ∧ w'.cell? (ad149.add (((ji11)).toNat * 2)) = some (.string ((rd_T33 l0 (ji11)).f0)) ∧ w'.cell? ⟨(ad149.add (((ji11)).toNat * 2)).block, (ad149.add (((ji11)).toNat * 2)).off + 1, none⟩ = some (.int .i64 ((rd_T33 l0 (ji11)).f1)) ∧ w'.cell? (ad149.add ((x3_1).toNat * 2)) = some (.string ((rd_T33 l0 x3_1).f0)) ∧ w'.cell? ⟨(ad149.add ((x3_1).toNat * 2)).block, (ad149.add ((x3_1).toNat * 2)).off + 1, none⟩ = some (.int .i64 ((rd_T33 l0 x3_1).f1))) (ds := []) #[bF11, bF11, bF11, bF11, bF11, bF11, bF11, bF11, bF11, bF11, bF11, bF11, bF11, bF11, bF11, bF11, bF11, bF11, bF11, bF11, bF11, bF11, bF11, bF11, bF11, bF11, bF11, bF11, bF11, bF11, bF11, bF11, bF11, bF11, bF11, bF11, bF11, bF11, bF11, bF11, bF11, bF11] (by kernel_rfl) rfl rfl ⟨((HB.out.cell (World.block_lt_of_cell? w _ hw149_0)).trans hw149_0), ((HB.out.cell (World.block_lt_of_cell? w _ hw149_1)).trans hw149_1), ((HB.out.cell (World.block_lt_of_cell? w _ hw151_0)).trans hw151_0), ((HB.out.cell (World.block_lt_of_cell? w _ hw151_1)).trans hw151_1), ((HB.out.cell (World.block_lt_of_cell? w _ hw152_0)).trans hw152_0), ((HB.out.cell (World.block_lt_of_cell? w _ hw152_1)).trans hw152_1), ((HB.out.cell (World.block_lt_of_cell? w _ hw153_0)).trans hw153_0), ((HB.out.cell (World.block_lt_of_cell? w _ hw153_1)).trans hw153_1), ((HB.out.cell (World.block_lt_of_cell? w _ hw154_0)).trans hw154_0), ((HB.out.cell (World.block_lt_of_cell? w _ hw154_1)).trans hw154_1)⟩ (fun hHeld => ?_); refine with_tabW cenotaphref03_Right.tab4 cenotaphref03_Right.bits4 (fun HT_ HW_ => ?_)
            generalize wr.drew = w16 at HB hx149_0 hx149_1 hx151_0 hx151_1 hx152_0 hx152_1 hx153_0 hx153_1 hx154_0 hx154_1 hHeld ⊢
            refine pure_ (i := 0) (N := some 10) (v := ?_) (a' := ?_) #[bT11, bF11, bF11, bF11, bF11, bF11, bF11, bF11, bF11, bF11, bF11, bF11, bF11, bF11, bF11, bF11, bF11, bF11, bF11, bF11, bF11, bF11, bF11, bF11, bF11, bF11, bF11, bF11, bF11, bF11, bF11, bF11, bF11, bF11, bF11, bF11, bF11, bF11, bF11, bF11, bF11, bF11] rfl rfl (any_of HT_.out (by kernel_rfl)) (fun _ _ _ h => h) (Or.inl ⟨by rfl, ?_⟩) ?_ ?_
            rotate_left
            ·intro w'
             go_simp
             with_reducible rfl
            rotate_left
            ·simp only [Act.put, List.setIfInBounds_toArray, List.set_cons_zero, List.set_cons_succ, i64_w, i32_w]
             rfl
            refine pure_ (i := 1) (N := some 11) (v := ?_) (a' := ?_) #[bT11, bT11, bF11, bF11, bF11, bF11, bF11, bF11, bF11, bF11, bF11, bF11, bF11, bF11, bF11, bF11, bF11, bF11, bF11, bF11, bF11, bF11, bF11, bF11, bF11, bF11, bF11, bF11, bF11, bF11, bF11, bF11, bF11, bF11, bF11, bF11, bF11, bF11, bF11, bF11, bF11, bF11] rfl rfl (any_of HT_.out (by kernel_rfl)) (fun _ _ _ h => h) (Or.inl ⟨by rfl, ?_⟩) ?_ ?_
            rotate_left
            ·intro w'
             go_simp
             with_reducible rfl
            rotate_left
            ·simp only [Act.put, List.setIfInBounds_toArray, List.set_cons_zero, List.set_cons_succ, i64_w, i32_w]
             rfl
            refine pure_ (i := 2) (N := some 12) (v := ?_) (a' := ?_) #[bT11, bT11, bT11, bF11, bF11, bF11, bF11, bF11, bF11, bF11, bF11, bF11, bF11, bF11, bF11, bF11, bF11, bF11, bF11, bF11, bF11, bF11, bF11, bF11, bF11, bF11, bF11, bF11, bF11, bF11, bF11, bF11, bF11, bF11, bF11, bF11, bF11, bF11, bF11, bF11, bF11, bF11] rfl rfl (any_of HT_.out (by kernel_rfl)) (fun _ _ _ h => h) (Or.inl ⟨by rfl, ?_⟩) ?_ ?_
            rotate_left
            ·intro w'
             go_simp
             with_reducible rfl
            rotate_left
            ·simp only [Act.put, List.setIfInBounds_toArray, List.set_cons_zero, List.set_cons_succ, i64_w, i32_w]
             rfl
            refine pure_ (i := 3) (N := some 13) (v := ?_) (a' := ?_) #[bT11, bT11, bT11, bT11, bF11, bF11, bF11, bF11, bF11, bF11, bF11, bF11, bF11, bF11, bF11, bF11, bF11, bF11, bF11, bF11, bF11, bF11, bF11, bF11, bF11, bF11, bF11, bF11, bF11, bF11, bF11, bF11, bF11, bF11, bF11, bF11, bF11, bF11, bF11, bF11, bF11, bF11] rfl rfl (any_of HT_.out (by kernel_rfl)) (fun _ _ _ h => h) (Or.inl ⟨by rfl, ?_⟩) ?_ ?_
            rotate_left
            ·intro w'
             go_simp
             with_reducible rfl
            rotate_left
            ·simp only [Act.put, List.setIfInBounds_toArray, List.set_cons_zero, List.set_cons_succ, i64_w, i32_w]
             rfl
            refine take_ (i := 4) (N := some 14) (v := ?_) (a' := ?_) #[bT11, bT11, bT11, bT11, bT11, bF11, bF11, bF11, bF11, bF11, bF11, bF11, bF11, bF11, bF11, bF11, bF11, bF11, bF11, bF11, bF11, bF11, bF11, bF11, bF11, bF11, bF11, bF11, bF11, bF11, bF11, bF11, bF11, bF11, bF11, bF11, bF11, bF11, bF11, bF11, bF11, bF11] rfl rfl (take_ofW HT_.out HW_.out (by kernel_rfl)) (fun _ _ _ h => h) (Or.inl ⟨by rfl, ?_⟩) hHeld ?_ ?_
            rotate_left
            ·rintro w' ⟨s0, s1, s2, s3, s4, s5, s6, s7, s8, s9⟩
             go_simp
             with_reducible rfl
            rotate_left
            ·simp only [Act.put, List.setIfInBounds_toArray, List.set_cons_zero, List.set_cons_succ, i64_w, i32_w]
             rfl
            refine one_ (i := 5) (N := some 15) #[bT11, bT11, bT11, bT11, bT11, bT11, bF11, bF11, bF11, bF11, bF11, bF11, bF11, bF11, bF11, bF11, bF11, bF11, bF11, bF11, bF11, bF11, bF11, bF11, bF11, bF11, bF11, bF11, bF11, bF11, bF11, bF11, bF11, bF11, bF11, bF11, bF11, bF11, bF11, bF11, bF11, bF11] rfl rfl (one_of HT_.out (by kernel_rfl)) (by decide) (fun K hK => ?_)
            refine goes_ Try.func30 (by kernel_rfl) rfl #[.string ((rd_T33 l0 x3_1).f0)] (by rfl) rfl rfl zq11_0 ?_
            with_reducible refine (cenotaphref01_Right.calls k1 ((rd_T33 l0 x3_1).f0) true _ A4.out).mono ?_
            rintro e w' ⟨rfl, ⟨nd, rfl⟩⟩
            refine ⟨_, rfl, ?_⟩
            refine hK.out _ _ ⟨((HB.out.cell (World.block_lt_of_cell? w _ hw149_0)).trans hw149_0), ((HB.out.cell (World.block_lt_of_cell? w _ hw149_1)).trans hw149_1), ((HB.out.cell (World.block_lt_of_cell? w _ hw151_0)).trans hw151_0), ((HB.out.cell (World.block_lt_of_cell? w _ hw151_1)).trans hw151_1), ((HB.out.cell (World.block_lt_of_cell? w _ hw152_0)).trans hw152_0), ((HB.out.cell (World.block_lt_of_cell? w _ hw152_1)).trans hw152_1), ((HB.out.cell (World.block_lt_of_cell? w _ hw153_0)).trans hw153_0), ((HB.out.cell (World.block_lt_of_cell? w _ hw153_1)).trans hw153_1), ((HB.out.cell (World.block_lt_of_cell? w _ hw154_0)).trans hw154_0), ((HB.out.cell (World.block_lt_of_cell? w _ hw154_1)).trans hw154_1)⟩ (fun hHeld => ?_)
            clear hK K
            refine norm_ (a' := ?_) ?_ ?_
            rotate_left
            ·show Act.put _ (some 15) _ = _
             simp only [Act.put, List.setIfInBounds_toArray, List.set_cons_zero, List.set_cons_succ, i64_w, i32_w]
             rfl
            refine pure_ (i := 6) (N := some 16) (v := ?_) (a' := ?_) #[bT11, bT11, bT11, bT11, bT11, bT11, bT11, bF11, bF11, bF11, bF11, bF11, bF11, bF11, bF11, bF11, bF11, bF11, bF11, bF11, bF11, bF11, bF11, bF11, bF11, bF11, bF11, bF11, bF11, bF11, bF11, bF11, bF11, bF11, bF11, bF11, bF11, bF11, bF11, bF11, bF11, bF11] rfl rfl (any_of HT_.out (by kernel_rfl)) (fun _ _ _ h => h) (Or.inl ⟨by rfl, ?_⟩) ?_ ?_
            rotate_left
            ·intro w'
             go_simp
             with_reducible rfl
            rotate_left
            ·simp only [Act.put, List.setIfInBounds_toArray, List.set_cons_zero, List.set_cons_succ, i64_w, i32_w]
             rfl
            refine pure_ (i := 7) (N := some 17) (v := ?_) (a' := ?_) #[bT11, bT11, bT11, bT11, bT11, bT11, bT11, bT11, bF11, bF11, bF11, bF11, bF11, bF11, bF11, bF11, bF11, bF11, bF11, bF11, bF11, bF11, bF11, bF11, bF11, bF11, bF11, bF11, bF11, bF11, bF11, bF11, bF11, bF11, bF11, bF11, bF11, bF11, bF11, bF11, bF11, bF11] rfl rfl (any_of HT_.out (by kernel_rfl)) (fun _ _ _ h => h) (Or.inl ⟨by rfl, ?_⟩) ?_ ?_
            rotate_left
            ·intro w'
             go_simp
             with_reducible rfl
            rotate_left
            ·simp only [Act.put, List.setIfInBounds_toArray, List.set_cons_zero, List.set_cons_succ, i64_w, i32_w]
             rfl
            refine pure_ (i := 8) (N := some 18) (v := ?_) (a' := ?_) #[bT11, bT11, bT11, bT11, bT11, bT11, bT11, bT11, bT11, bF11, bF11, bF11, bF11, bF11, bF11, bF11, bF11, bF11, bF11, bF11, bF11, bF11, bF11, bF11, bF11, bF11, bF11, bF11, bF11, bF11, bF11, bF11, bF11, bF11, bF11, bF11, bF11, bF11, bF11, bF11, bF11, bF11] rfl rfl (any_of HT_.out (by kernel_rfl)) (fun _ _ _ h => h) (Or.inl ⟨by rfl, ?_⟩) ?_ ?_
            rotate_left
            ·intro w'
             go_simp
             with_reducible rfl
            rotate_left
            ·simp only [Act.put, List.setIfInBounds_toArray, List.set_cons_zero, List.set_cons_succ, i64_w, i32_w]
             rfl
            refine pure_ (i := 9) (N := some 19) (v := ?_) (a' := ?_) #[bT11, bT11, bT11, bT11, bT11, bT11, bT11, bT11, bT11, bT11, bF11, bF11, bF11, bF11, bF11, bF11, bF11, bF11, bF11, bF11, bF11, bF11, bF11, bF11, bF11, bF11, bF11, bF11, bF11, bF11, bF11, bF11, bF11, bF11, bF11, bF11, bF11, bF11, bF11, bF11, bF11, bF11] rfl rfl (any_of HT_.out (by kernel_rfl)) (fun _ _ _ h => h) (Or.inl ⟨by rfl, ?_⟩) ?_ ?_
            rotate_left
            ·intro w'
             go_simp
             with_reducible rfl
            rotate_left
            ·simp only [Act.put, List.setIfInBounds_toArray, List.set_cons_zero, List.set_cons_succ, i64_w, i32_w]
             rfl
            refine pure_ (i := 10) (N := some 20) (v := ?_) (a' := ?_) #[bT11, bT11, bT11, bT11, bT11, bT11, bT11, bT11, bT11, bT11, bT11, bF11, bF11, bF11, bF11, bF11, bF11, bF11, bF11, bF11, bF11, bF11, bF11, bF11, bF11, bF11, bF11, bF11, bF11, bF11, bF11, bF11, bF11, bF11, bF11, bF11, bF11, bF11, bF11, bF11, bF11, bF11] rfl rfl (any_of HT_.out (by kernel_rfl)) (fun _ _ _ h => h) (Or.inl ⟨by rfl, ?_⟩) ?_ ?_
            rotate_left
            ·intro w'
             go_simp
             with_reducible rfl
            rotate_left
            ·simp only [Act.put, List.setIfInBounds_toArray, List.set_cons_zero, List.set_cons_succ, i64_w, i32_w]
             rfl
            refine pure_ (i := 11) (N := some 21) (v := ?_) (a' := ?_) #[bT11, bT11, bT11, bT11, bT11, bT11, bT11, bT11, bT11, bT11, bT11, bT11, bF11, bF11, bF11, bF11, bF11, bF11, bF11, bF11, bF11, bF11, bF11, bF11, bF11, bF11, bF11, bF11, bF11, bF11, bF11, bF11, bF11, bF11, bF11, bF11, bF11, bF11, bF11, bF11, bF11, bF11] rfl rfl (any_of HT_.out (by kernel_rfl)) (fun _ _ _ h => h) (Or.inl ⟨by rfl, ?_⟩) ?_ ?_
            rotate_left
            ·intro w'
             go_simp
             with_reducible rfl
            rotate_left
            ·simp only [Act.put, List.setIfInBounds_toArray, List.set_cons_zero, List.set_cons_succ, i64_w, i32_w]
             rfl
            refine take_ (i := 12) (N := some 22) (v := ?_) (a' := ?_) #[bT11, bT11, bT11, bT11, bT11, bT11, bT11, bT11, bT11, bT11, bT11, bT11, bT11, bF11, bF11, bF11, bF11, bF11, bF11, bF11, bF11, bF11, bF11, bF11, bF11, bF11, bF11, bF11, bF11, bF11, bF11, bF11, bF11, bF11, bF11, bF11, bF11, bF11, bF11, bF11, bF11, bF11] rfl rfl (take_ofW HT_.out HW_.out (by kernel_rfl)) (fun _ _ _ h => h) (Or.inl ⟨by rfl, ?_⟩) hHeld ?_ ?_
            rotate_left
            ·rintro w' ⟨s0, s1, s2, s3, s4, s5, s6, s7, s8, s9⟩
             go_simp
             with_reducible rfl
            rotate_left
            ·simp only [Act.put, List.setIfInBounds_toArray, List.set_cons_zero, List.set_cons_succ, i64_w, i32_w]
             rfl
            refine pure_ (i := 13) (N := some 23) (v := ?_) (a' := ?_) #[bT11, bT11, bT11, bT11, bT11, bT11, bT11, bT11, bT11, bT11, bT11, bT11, bT11, bT11, bF11, bF11, bF11, bF11, bF11, bF11, bF11, bF11, bF11, bF11, bF11, bF11, bF11, bF11, bF11, bF11, bF11, bF11, bF11, bF11, bF11, bF11, bF11, bF11, bF11, bF11, bF11, bF11] rfl rfl (any_of HT_.out (by kernel_rfl)) (fun _ _ _ h => h) (Or.inl ⟨by rfl, ?_⟩) ?_ ?_
            rotate_left
            ·intro w'
             go_simp
             with_reducible rfl
            rotate_left
            ·simp only [Act.put, List.setIfInBounds_toArray, List.set_cons_zero, List.set_cons_succ, i64_w, i32_w]
             rfl
            refine pure_ (i := 14) (N := some 24) (v := ?_) (a' := ?_) #[bT11, bT11, bT11, bT11, bT11, bT11, bT11, bT11, bT11, bT11, bT11, bT11, bT11, bT11, bT11, bF11, bF11, bF11, bF11, bF11, bF11, bF11, bF11, bF11, bF11, bF11, bF11, bF11, bF11, bF11, bF11, bF11, bF11, bF11, bF11, bF11, bF11, bF11, bF11, bF11, bF11, bF11] rfl rfl (any_of HT_.out (by kernel_rfl)) (fun _ _ _ h => h) (Or.inl ⟨by rfl, ?_⟩) ?_ ?_
            rotate_left
            ·intro w'
             go_simp
             with_reducible rfl
            rotate_left
            ·simp only [Act.put, List.setIfInBounds_toArray, List.set_cons_zero, List.set_cons_succ, i64_w, i32_w]
             rfl
            refine pure_ (i := 15) (N := some 25) (v := ?_) (a' := ?_) #[bT11, bT11, bT11, bT11, bT11, bT11, bT11, bT11, bT11, bT11, bT11, bT11, bT11, bT11, bT11, bT11, bF11, bF11, bF11, bF11, bF11, bF11, bF11, bF11, bF11, bF11, bF11, bF11, bF11, bF11, bF11, bF11, bF11, bF11, bF11, bF11, bF11, bF11, bF11, bF11, bF11, bF11] rfl rfl (any_of HT_.out (by kernel_rfl)) (fun _ _ _ h => h) (Or.inl ⟨by rfl, ?_⟩) ?_ ?_
            rotate_left
            ·intro w'
             go_simp
             with_reducible rfl
            rotate_left
            ·simp only [Act.put, List.setIfInBounds_toArray, List.set_cons_zero, List.set_cons_succ, i64_w, i32_w]
             rfl
            refine pure_ (i := 16) (N := some 26) (v := ?_) (a' := ?_) #[bT11, bT11, bT11, bT11, bT11, bT11, bT11, bT11, bT11, bT11, bT11, bT11, bT11, bT11, bT11, bT11, bT11, bF11, bF11, bF11, bF11, bF11, bF11, bF11, bF11, bF11, bF11, bF11, bF11, bF11, bF11, bF11, bF11, bF11, bF11, bF11, bF11, bF11, bF11, bF11, bF11, bF11] rfl rfl (any_of HT_.out (by kernel_rfl)) (fun _ _ _ h => h) (Or.inl ⟨by rfl, ?_⟩) ?_ ?_
            rotate_left
            ·intro w'
             go_simp
             with_reducible rfl
            rotate_left
            ·simp only [Act.put, List.setIfInBounds_toArray, List.set_cons_zero, List.set_cons_succ, i64_w, i32_w]
             rfl
            refine pure_ (i := 17) (N := some 27) (v := ?_) (a' := ?_) #[bT11, bT11, bT11, bT11, bT11, bT11, bT11, bT11, bT11, bT11, bT11, bT11, bT11, bT11, bT11, bT11, bT11, bT11, bF11, bF11, bF11, bF11, bF11, bF11, bF11, bF11, bF11, bF11, bF11, bF11, bF11, bF11, bF11, bF11, bF11, bF11, bF11, bF11, bF11, bF11, bF11, bF11] rfl rfl (any_of HT_.out (by kernel_rfl)) (fun _ _ _ h => h) (Or.inl ⟨by rfl, ?_⟩) ?_ ?_
            rotate_left
            ·intro w'
             go_simp
             with_reducible rfl
            rotate_left
            ·simp only [Act.put, List.setIfInBounds_toArray, List.set_cons_zero, List.set_cons_succ, i64_w, i32_w]
             rfl
            refine pure_ (i := 18) (N := some 28) (v := ?_) (a' := ?_) #[bT11, bT11, bT11, bT11, bT11, bT11, bT11, bT11, bT11, bT11, bT11, bT11, bT11, bT11, bT11, bT11, bT11, bT11, bT11, bF11, bF11, bF11, bF11, bF11, bF11, bF11, bF11, bF11, bF11, bF11, bF11, bF11, bF11, bF11, bF11, bF11, bF11, bF11, bF11, bF11, bF11, bF11] rfl rfl (any_of HT_.out (by kernel_rfl)) (fun _ _ _ h => h) (Or.inl ⟨by rfl, ?_⟩) ?_ ?_
            rotate_left
            ·intro w'
             go_simp
             with_reducible rfl
            rotate_left
            ·simp only [Act.put, List.setIfInBounds_toArray, List.set_cons_zero, List.set_cons_succ, i64_w, i32_w]
             rfl
            refine pure_ (i := 19) (N := some 29) (v := ?_) (a' := ?_) #[bT11, bT11, bT11, bT11, bT11, bT11, bT11, bT11, bT11, bT11, bT11, bT11, bT11, bT11, bT11, bT11, bT11, bT11, bT11, bT11, bF11, bF11, bF11, bF11, bF11, bF11, bF11, bF11, bF11, bF11, bF11, bF11, bF11, bF11, bF11, bF11, bF11, bF11, bF11, bF11, bF11, bF11] rfl rfl (any_of HT_.out (by kernel_rfl)) (fun _ _ _ h => h) (Or.inl ⟨by rfl, ?_⟩) ?_ ?_
            rotate_left
            ·intro w'
             go_simp
             with_reducible rfl
            rotate_left
            ·simp only [Act.put, List.setIfInBounds_toArray, List.set_cons_zero, List.set_cons_succ, i64_w, i32_w]
             rfl
            refine take_ (i := 20) (N := some 30) (v := ?_) (a' := ?_) #[bT11, bT11, bT11, bT11, bT11, bT11, bT11, bT11, bT11, bT11, bT11, bT11, bT11, bT11, bT11, bT11, bT11, bT11, bT11, bT11, bT11, bF11, bF11, bF11, bF11, bF11, bF11, bF11, bF11, bF11, bF11, bF11, bF11, bF11, bF11, bF11, bF11, bF11, bF11, bF11, bF11, bF11] rfl rfl (take_ofW HT_.out HW_.out (by kernel_rfl)) (fun _ _ _ h => h) (Or.inl ⟨by rfl, ?_⟩) hHeld ?_ ?_
            rotate_left
            ·rintro w' ⟨s0, s1, s2, s3, s4, s5, s6, s7, s8, s9⟩
             go_simp
             with_reducible rfl
            rotate_left
            ·simp only [Act.put, List.setIfInBounds_toArray, List.set_cons_zero, List.set_cons_succ, i64_w, i32_w]
             rfl
            refine pure_ (i := 21) (N := some 31) (v := ?_) (a' := ?_) #[bT11, bT11, bT11, bT11, bT11, bT11, bT11, bT11, bT11, bT11, bT11, bT11, bT11, bT11, bT11, bT11, bT11, bT11, bT11, bT11, bT11, bT11, bF11, bF11, bF11, bF11, bF11, bF11, bF11, bF11, bF11, bF11, bF11, bF11, bF11, bF11, bF11, bF11, bF11, bF11, bF11, bF11] rfl rfl (any_of HT_.out (by kernel_rfl)) (fun _ _ _ h => h) (Or.inl ⟨by rfl, ?_⟩) ?_ ?_
            rotate_left
            ·intro w'
             go_simp
             with_reducible rfl
            rotate_left
            ·simp only [Act.put, List.setIfInBounds_toArray, List.set_cons_zero, List.set_cons_succ, i64_w, i32_w]
             rfl
            refine pure_ (i := 22) (N := some 32) (v := ?_) (a' := ?_) #[bT11, bT11, bT11, bT11, bT11, bT11, bT11, bT11, bT11, bT11, bT11, bT11, bT11, bT11, bT11, bT11, bT11, bT11, bT11, bT11, bT11, bT11, bT11, bF11, bF11, bF11, bF11, bF11, bF11, bF11, bF11, bF11, bF11, bF11, bF11, bF11, bF11, bF11, bF11, bF11, bF11, bF11] rfl rfl (any_of HT_.out (by kernel_rfl)) (fun _ _ _ h => h) (Or.inl ⟨by rfl, ?_⟩) ?_ ?_
            rotate_left
            ·intro w'
             go_simp
             with_reducible rfl
            rotate_left
            ·simp only [Act.put, List.setIfInBounds_toArray, List.set_cons_zero, List.set_cons_succ, i64_w, i32_w]
             rfl
            refine pure_ (i := 23) (N := some 33) (v := ?_) (a' := ?_) #[bT11, bT11, bT11, bT11, bT11, bT11, bT11, bT11, bT11, bT11, bT11, bT11, bT11, bT11, bT11, bT11, bT11, bT11, bT11, bT11, bT11, bT11, bT11, bT11, bF11, bF11, bF11, bF11, bF11, bF11, bF11, bF11, bF11, bF11, bF11, bF11, bF11, bF11, bF11, bF11, bF11, bF11] rfl rfl (any_of HT_.out (by kernel_rfl)) (fun _ _ _ h => h) (Or.inl ⟨by rfl, ?_⟩) ?_ ?_
            rotate_left
            ·intro w'
             go_simp
             with_reducible rfl
            rotate_left
            ·simp only [Act.put, List.setIfInBounds_toArray, List.set_cons_zero, List.set_cons_succ, i64_w, i32_w]
             rfl
            refine pure_ (i := 24) (N := some 34) (v := ?_) (a' := ?_) #[bT11, bT11, bT11, bT11, bT11, bT11, bT11, bT11, bT11, bT11, bT11, bT11, bT11, bT11, bT11, bT11, bT11, bT11, bT11, bT11, bT11, bT11, bT11, bT11, bT11, bF11, bF11, bF11, bF11, bF11, bF11, bF11, bF11, bF11, bF11, bF11, bF11, bF11, bF11, bF11, bF11, bF11] rfl rfl (any_of HT_.out (by kernel_rfl)) (fun _ _ _ h => h) (Or.inl ⟨by rfl, ?_⟩) ?_ ?_
            rotate_left
            ·intro w'
             go_simp
             with_reducible rfl
            rotate_left
            ·simp only [Act.put, List.setIfInBounds_toArray, List.set_cons_zero, List.set_cons_succ, i64_w, i32_w]
             rfl
            refine pure_ (i := 25) (N := some 35) (v := ?_) (a' := ?_) #[bT11, bT11, bT11, bT11, bT11, bT11, bT11, bT11, bT11, bT11, bT11, bT11, bT11, bT11, bT11, bT11, bT11, bT11, bT11, bT11, bT11, bT11, bT11, bT11, bT11, bT11, bF11, bF11, bF11, bF11, bF11, bF11, bF11, bF11, bF11, bF11, bF11, bF11, bF11, bF11, bF11, bF11] rfl rfl (any_of HT_.out (by kernel_rfl)) (fun _ _ _ h => h) (Or.inl ⟨by rfl, ?_⟩) ?_ ?_
            rotate_left
            ·intro w'
             go_simp
             with_reducible rfl
            rotate_left
            ·simp only [Act.put, List.setIfInBounds_toArray, List.set_cons_zero, List.set_cons_succ, i64_w, i32_w]
             rfl
            refine pure_ (i := 26) (N := some 36) (v := ?_) (a' := ?_) #[bT11, bT11, bT11, bT11, bT11, bT11, bT11, bT11, bT11, bT11, bT11, bT11, bT11, bT11, bT11, bT11, bT11, bT11, bT11, bT11, bT11, bT11, bT11, bT11, bT11, bT11, bT11, bF11, bF11, bF11, bF11, bF11, bF11, bF11, bF11, bF11, bF11, bF11, bF11, bF11, bF11, bF11] rfl rfl (any_of HT_.out (by kernel_rfl)) (fun _ _ _ h => h) (Or.inl ⟨by rfl, ?_⟩) ?_ ?_
            rotate_left
            ·intro w'
             go_simp
             with_reducible rfl
            rotate_left
            ·simp only [Act.put, List.setIfInBounds_toArray, List.set_cons_zero, List.set_cons_succ, i64_w, i32_w]
             rfl
            refine pure_ (i := 27) (N := some 37) (v := ?_) (a' := ?_) #[bT11, bT11, bT11, bT11, bT11, bT11, bT11, bT11, bT11, bT11, bT11, bT11, bT11, bT11, bT11, bT11, bT11, bT11, bT11, bT11, bT11, bT11, bT11, bT11, bT11, bT11, bT11, bT11, bF11, bF11, bF11, bF11, bF11, bF11, bF11, bF11, bF11, bF11, bF11, bF11, bF11, bF11] rfl rfl (any_of HT_.out (by kernel_rfl)) (fun _ _ _ h => h) (Or.inl ⟨by rfl, ?_⟩) ?_ ?_
            rotate_left
            ·intro w'
             go_simp
             with_reducible rfl
            rotate_left
            ·simp only [Act.put, List.setIfInBounds_toArray, List.set_cons_zero, List.set_cons_succ, i64_w, i32_w]
             rfl
            refine pure_ (i := 28) (N := some 38) (v := ?_) (a' := ?_) #[bT11, bT11, bT11, bT11, bT11, bT11, bT11, bT11, bT11, bT11, bT11, bT11, bT11, bT11, bT11, bT11, bT11, bT11, bT11, bT11, bT11, bT11, bT11, bT11, bT11, bT11, bT11, bT11, bT11, bF11, bF11, bF11, bF11, bF11, bF11, bF11, bF11, bF11, bF11, bF11, bF11, bF11] rfl rfl (any_of HT_.out (by kernel_rfl)) (fun _ _ _ h => h) (Or.inl ⟨by rfl, ?_⟩) ?_ ?_
            rotate_left
            ·intro w'
             go_simp
             with_reducible rfl
            rotate_left
            ·simp only [Act.put, List.setIfInBounds_toArray, List.set_cons_zero, List.set_cons_succ, i64_w, i32_w]
             rfl
            refine pure_ (i := 29) (N := some 39) (v := ?_) (a' := ?_) #[bT11, bT11, bT11, bT11, bT11, bT11, bT11, bT11, bT11, bT11, bT11, bT11, bT11, bT11, bT11, bT11, bT11, bT11, bT11, bT11, bT11, bT11, bT11, bT11, bT11, bT11, bT11, bT11, bT11, bT11, bF11, bF11, bF11, bF11, bF11, bF11, bF11, bF11, bF11, bF11, bF11, bF11] rfl rfl (any_of HT_.out (by kernel_rfl)) (fun _ _ _ h => h) (Or.inl ⟨by rfl, ?_⟩) ?_ ?_
            rotate_left
            ·intro w'
             go_simp
             with_reducible rfl
            rotate_left
            ·simp only [Act.put, List.setIfInBounds_toArray, List.set_cons_zero, List.set_cons_succ, i64_w, i32_w]
             rfl
            refine pure_ (i := 30) (N := some 40) (v := ?_) (a' := ?_) #[bT11, bT11, bT11, bT11, bT11, bT11, bT11, bT11, bT11, bT11, bT11, bT11, bT11, bT11, bT11, bT11, bT11, bT11, bT11, bT11, bT11, bT11, bT11, bT11, bT11, bT11, bT11, bT11, bT11, bT11, bT11, bF11, bF11, bF11, bF11, bF11, bF11, bF11, bF11, bF11, bF11, bF11] rfl rfl (any_of HT_.out (by kernel_rfl)) (fun _ _ _ h => h) (Or.inl ⟨by rfl, ?_⟩) ?_ ?_
            rotate_left
            ·intro w'
             go_simp
             with_reducible rfl
            rotate_left
            ·simp only [Act.put, List.setIfInBounds_toArray, List.set_cons_zero, List.set_cons_succ, i64_w, i32_w]
             rfl
            refine pure_ (i := 31) (N := some 41) (v := ?_) (a' := ?_) #[bT11, bT11, bT11, bT11, bT11, bT11, bT11, bT11, bT11, bT11, bT11, bT11, bT11, bT11, bT11, bT11, bT11, bT11, bT11, bT11, bT11, bT11, bT11, bT11, bT11, bT11, bT11, bT11, bT11, bT11, bT11, bT11, bF11, bF11, bF11, bF11, bF11, bF11, bF11, bF11, bF11, bF11] rfl rfl (any_of HT_.out (by kernel_rfl)) (fun _ _ _ h => h) (Or.inl ⟨by rfl, ?_⟩) ?_ ?_
            rotate_left
            ·intro w'
             go_simp
             with_reducible rfl
            rotate_left
            ·simp only [Act.put, List.setIfInBounds_toArray, List.set_cons_zero, List.set_cons_succ, i64_w, i32_w]
             rfl
            refine pure_ (i := 33) (N := some 43) (v := ?_) (a' := ?_) #[bT11, bT11, bT11, bT11, bT11, bT11, bT11, bT11, bT11, bT11, bT11, bT11, bT11, bT11, bT11, bT11, bT11, bT11, bT11, bT11, bT11, bT11, bT11, bT11, bT11, bT11, bT11, bT11, bT11, bT11, bT11, bT11, bF11, bT11, bF11, bF11, bF11, bF11, bF11, bF11, bF11, bF11] rfl rfl (any_of HT_.out (by kernel_rfl)) (fun _ _ _ h => h) (Or.inl ⟨by rfl, ?_⟩) ?_ ?_
            rotate_left
            ·intro w'
             go_simp
             with_reducible rfl
            rotate_left
            ·simp only [Act.put, List.setIfInBounds_toArray, List.set_cons_zero, List.set_cons_succ, i64_w, i32_w]
             rfl
            refine pure_ (i := 34) (N := some 44) (v := ?_) (a' := ?_) #[bT11, bT11, bT11, bT11, bT11, bT11, bT11, bT11, bT11, bT11, bT11, bT11, bT11, bT11, bT11, bT11, bT11, bT11, bT11, bT11, bT11, bT11, bT11, bT11, bT11, bT11, bT11, bT11, bT11, bT11, bT11, bT11, bF11, bT11, bT11, bF11, bF11, bF11, bF11, bF11, bF11, bF11] rfl rfl (any_of HT_.out (by kernel_rfl)) (fun _ _ _ h => h) (Or.inl ⟨by rfl, ?_⟩) ?_ ?_
            rotate_left
            ·intro w'
             go_simp
             with_reducible rfl
            rotate_left
            ·simp only [Act.put, List.setIfInBounds_toArray, List.set_cons_zero, List.set_cons_succ, i64_w, i32_w]
             rfl
            refine pure_ (i := 35) (N := some 45) (v := ?_) (a' := ?_) #[bT11, bT11, bT11, bT11, bT11, bT11, bT11, bT11, bT11, bT11, bT11, bT11, bT11, bT11, bT11, bT11, bT11, bT11, bT11, bT11, bT11, bT11, bT11, bT11, bT11, bT11, bT11, bT11, bT11, bT11, bT11, bT11, bF11, bT11, bT11, bT11, bF11, bF11, bF11, bF11, bF11, bF11] rfl rfl (any_of HT_.out (by kernel_rfl)) (fun _ _ _ h => h) (Or.inl ⟨by rfl, ?_⟩) ?_ ?_
            rotate_left
            ·intro w'
             go_simp
             with_reducible rfl
            rotate_left
            ·simp only [Act.put, List.setIfInBounds_toArray, List.set_cons_zero, List.set_cons_succ, i64_w, i32_w]
             rfl
            refine pure_ (i := 36) (N := some 46) (v := ?_) (a' := ?_) #[bT11, bT11, bT11, bT11, bT11, bT11, bT11, bT11, bT11, bT11, bT11, bT11, bT11, bT11, bT11, bT11, bT11, bT11, bT11, bT11, bT11, bT11, bT11, bT11, bT11, bT11, bT11, bT11, bT11, bT11, bT11, bT11, bF11, bT11, bT11, bT11, bT11, bF11, bF11, bF11, bF11, bF11] rfl rfl (any_of HT_.out (by kernel_rfl)) (fun _ _ _ h => h) (Or.inl ⟨by rfl, ?_⟩) ?_ ?_
            rotate_left
            ·intro w'
             go_simp
             with_reducible rfl
            rotate_left
            ·simp only [Act.put, List.setIfInBounds_toArray, List.set_cons_zero, List.set_cons_succ, i64_w, i32_w]
             rfl
            refine take_ (i := 32) (N := some 42) (v := ?_) (a' := ?_) #[bT11, bT11, bT11, bT11, bT11, bT11, bT11, bT11, bT11, bT11, bT11, bT11, bT11, bT11, bT11, bT11, bT11, bT11, bT11, bT11, bT11, bT11, bT11, bT11, bT11, bT11, bT11, bT11, bT11, bT11, bT11, bT11, bT11, bT11, bT11, bT11, bT11, bF11, bF11, bF11, bF11, bF11] rfl rfl (take_ofW HT_.out HW_.out (by kernel_rfl)) (fun _ _ _ h => h) (Or.inl ⟨by rfl, ?_⟩) hHeld ?_ ?_
            rotate_left
            ·rintro w' ⟨s0, s1, s2, s3, s4, s5, s6, s7, s8, s9⟩
             go_simp
             with_reducible rfl
            rotate_left
            ·simp only [Act.put, List.setIfInBounds_toArray, List.set_cons_zero, List.set_cons_succ, i64_w, i32_w]
             rfl
            refine take_ (i := 37) (N := some 47) (v := ?_) (a' := ?_) #[bT11, bT11, bT11, bT11, bT11, bT11, bT11, bT11, bT11, bT11, bT11, bT11, bT11, bT11, bT11, bT11, bT11, bT11, bT11, bT11, bT11, bT11, bT11, bT11, bT11, bT11, bT11, bT11, bT11, bT11, bT11, bT11, bT11, bT11, bT11, bT11, bT11, bT11, bF11, bF11, bF11, bF11] rfl rfl (take_ofW HT_.out HW_.out (by kernel_rfl)) (fun _ _ _ h => h) (Or.inl ⟨by rfl, ?_⟩) hHeld ?_ ?_
            rotate_left
            ·rintro w' ⟨s0, s1, s2, s3, s4, s5, s6, s7, s8, s9⟩
             go_simp
             with_reducible rfl
            rotate_left
            ·simp only [Act.put, List.setIfInBounds_toArray, List.set_cons_zero, List.set_cons_succ, i64_w, i32_w]
             rfl
            refine one_ (i := 38) (N := some 48) #[bT11, bT11, bT11, bT11, bT11, bT11, bT11, bT11, bT11, bT11, bT11, bT11, bT11, bT11, bT11, bT11, bT11, bT11, bT11, bT11, bT11, bT11, bT11, bT11, bT11, bT11, bT11, bT11, bT11, bT11, bT11, bT11, bT11, bT11, bT11, bT11, bT11, bT11, bT11, bF11, bF11, bF11] rfl rfl (one_of HT_.out (by kernel_rfl)) (by decide) (fun K hK => ?_)
            refine goes_ Try.func31 (by kernel_rfl) rfl #[.string ((rd_T33 l0 (ji11)).f0), .string ((rd_T33 l0 x3_1).f0)] (by rfl) rfl rfl (by (try simp only [List.map_toArray, List.map_cons, List.map_nil]); first | done | (simp only [hji11]; rfl) | rfl | (simp only [List.length_drop, List.length_take]; rfl)) ?_
            with_reducible refine (cenotaphref01_Compare.calls k1 ((rd_T33 l0 (ji11)).f0) ((rd_T33 l0 x3_1).f0) t155 _ A14.out).mono ?_
            rintro e w' ⟨rfl, ⟨nd, rfl⟩⟩
            refine ⟨_, rfl, ?_⟩
            refine hK.out _ _ ⟨((HB.out.cell (World.block_lt_of_cell? w _ hw149_0)).trans hw149_0), ((HB.out.cell (World.block_lt_of_cell? w _ hw149_1)).trans hw149_1), ((HB.out.cell (World.block_lt_of_cell? w _ hw151_0)).trans hw151_0), ((HB.out.cell (World.block_lt_of_cell? w _ hw151_1)).trans hw151_1), ((HB.out.cell (World.block_lt_of_cell? w _ hw152_0)).trans hw152_0), ((HB.out.cell (World.block_lt_of_cell? w _ hw152_1)).trans hw152_1), ((HB.out.cell (World.block_lt_of_cell? w _ hw153_0)).trans hw153_0), ((HB.out.cell (World.block_lt_of_cell? w _ hw153_1)).trans hw153_1), ((HB.out.cell (World.block_lt_of_cell? w _ hw154_0)).trans hw154_0), ((HB.out.cell (World.block_lt_of_cell? w _ hw154_1)).trans hw154_1)⟩ (fun hHeld => ?_)
            clear hK K
            refine norm_ (a' := ?_) ?_ ?_
            rotate_left
            ·show Act.put _ (some 48) _ = _
             simp only [Act.put, List.setIfInBounds_toArray, List.set_cons_zero, List.set_cons_succ, i64_w, i32_w]
             rfl
            refine pure_ (i := 39) (N := some 49) (v := ?_) (a' := ?_) #[bT11, bT11, bT11, bT11, bT11, bT11, bT11, bT11, bT11, bT11, bT11, bT11, bT11, bT11, bT11, bT11, bT11, bT11, bT11, bT11, bT11, bT11, bT11, bT11, bT11, bT11, bT11, bT11, bT11, bT11, bT11, bT11, bT11, bT11, bT11, bT11, bT11, bT11, bT11, bT11, bF11, bF11] rfl rfl (any_of HT_.out (by kernel_rfl)) (fun _ _ _ h => h) (Or.inl ⟨by rfl, ?_⟩) ?_ ?_
            rotate_left
            ·intro w'
             go_simp
             with_reducible rfl
            rotate_left
            ·simp only [Act.put, List.setIfInBounds_toArray, List.set_cons_zero, List.set_cons_succ, i64_w, i32_w]
             rfl
            refine pure_ (i := 40) (N := some 50) (v := ?_) (a' := ?_) #[bT11, bT11, bT11, bT11, bT11, bT11, bT11, bT11, bT11, bT11, bT11, bT11, bT11, bT11, bT11, bT11, bT11, bT11, bT11, bT11, bT11, bT11, bT11, bT11, bT11, bT11, bT11, bT11, bT11, bT11, bT11, bT11, bT11, bT11, bT11, bT11, bT11, bT11, bT11, bT11, bT11, bF11] rfl rfl (any_of HT_.out (by kernel_rfl)) (fun _ _ _ h => h) (Or.inl ⟨by rfl, ?_⟩) ?_ ?_
            rotate_left
            ·intro w'
             go_simp
             with_reducible rfl
            rotate_left
            ·simp only [Act.put, List.setIfInBounds_toArray, List.set_cons_zero, List.set_cons_succ, i64_w, i32_w]
             rfl
            refine pure_ (i := 41) (N := some 51) (v := ?_) (a' := ?_) #[bT11, bT11, bT11, bT11, bT11, bT11, bT11, bT11, bT11, bT11, bT11, bT11, bT11, bT11, bT11, bT11, bT11, bT11, bT11, bT11, bT11, bT11, bT11, bT11, bT11, bT11, bT11, bT11, bT11, bT11, bT11, bT11, bT11, bT11, bT11, bT11, bT11, bT11, bT11, bT11, bT11, bT11] rfl rfl (any_of HT_.out (by kernel_rfl)) (fun _ _ _ h => h) (Or.inl ⟨by rfl, ?_⟩) ?_ ?_
            rotate_left
            ·intro w'
             go_simp
             with_reducible rfl
            rotate_left
            ·simp only [Act.put, List.setIfInBounds_toArray, List.set_cons_zero, List.set_cons_succ, i64_w, i32_w]
             rfl
            refine done_ (done_of HT_.out (by kernel_rfl)) ?_
            try go_wp2
            go_ret
            exact ⟨by first | rfl | (simp [errW_none, errW_some] <;> rfl) | (simp only [← hji11]; first | rfl | (simp [errW_none, errW_some] <;> rfl)) | (simp [*, errW_none, errW_some] <;> rfl), by repeat (first | (with_reducible first | exact HB.out | apply below_alloc | apply pw_below_drewN | apply below_drew1) | exact HB.out)⟩
           ·rw [if_neg c15] at H
            have c15b0 : decide (0 ≤ t155) = false := decide_eq_false c15
            clear c15
            have H' := Aside0.mk H
            clear H
            try go_wp2
            replace HB := Aside0.mk (below_drew1 HB.out)
            have p149 : 0 ≤ (x3_1 : Int) := of_decide_eq_true zq11_1
            have q149 : x3_1 < (l0.length : Int) := of_decide_eq_true zq11_1
            obtain ⟨ad149, e149, hx149_0, hx149_1⟩ := at_T33 HR0.out x3_1 p149 q149
            have hw149_1 := hx149_1
            have hw149_0 := hx149_0
            cases e149
            replace hx149_0 := (HB.out.cell (World.block_lt_of_cell? w _ hx149_0)).trans hx149_0
            replace hx149_1 := (HB.out.cell (World.block_lt_of_cell? w _ hx149_1)).trans hx149_1
            replace p149 := eq_true p149
            replace q149 := eq_true q149
            have p151 : 0 ≤ (x3_1 : Int) := of_decide_eq_true zq11_1
            have q151 : x3_1 < (l0.length : Int) := of_decide_eq_true zq11_1
            obtain ⟨ad151, e151, hx151_0, hx151_1⟩ := at_T33 HR0.out x3_1 p151 q151
            have hw151_1 := hx151_1
            have hw151_0 := hx151_0
            obtain rfl : ad149 = ad151 := (by injection e151)
            replace hx151_0 := (HB.out.cell (World.block_lt_of_cell? w _ hx151_0)).trans hx151_0
            replace hx151_1 := (HB.out.cell (World.block_lt_of_cell? w _ hx151_1)).trans hx151_1
            replace p151 := eq_true p151
            replace q151 := eq_true q151
            have p152 : 0 ≤ (x3_1 : Int) := of_decide_eq_true zq11_1
            have q152 : x3_1 < (l0.length : Int) := of_decide_eq_true zq11_1
            obtain ⟨ad152, e152, hx152_0, hx152_1⟩ := at_T33 HR0.out x3_1 p152 q152
            have hw152_1 := hx152_1
            have hw152_0 := hx152_0
            obtain rfl : ad149 = ad152 := (by injection e152)
            replace hx152_0 := (HB.out.cell (World.block_lt_of_cell? w _ hx152_0)).trans hx152_0
            replace hx152_1 := (HB.out.cell (World.block_lt_of_cell? w _ hx152_1)).trans hx152_1
            replace p152 := eq_true p152
            replace q152 := eq_true q152
            have p153 : 0 ≤ ((ji11) : Int) := of_decide_eq_true zq11_1
            have q153 : (ji11) < (l0.length : Int) := of_decide_eq_true zq11_1
            obtain ⟨ad153, e153, hx153_0, hx153_1⟩ := at_T33 HR0.out (ji11) p153 q153
            have hw153_1 := hx153_1
            have hw153_0 := hx153_0
            obtain rfl : ad149 = ad153 := (by injection e153)
            replace hx153_0 := (HB.out.cell (World.block_lt_of_cell? w _ hx153_0)).trans hx153_0
            replace hx153_1 := (HB.out.cell (World.block_lt_of_cell? w _ hx153_1)).trans hx153_1
            replace p153 := eq_true p153
            replace q153 := eq_true q153
            have p154 : 0 ≤ (x3_1 : Int) := of_decide_eq_true zq11_1
            have q154 : x3_1 < (l0.length : Int) := of_decide_eq_true zq11_1
            obtain ⟨ad154, e154, hx154_0, hx154_1⟩ := at_T33 HR0.out x3_1 p154 q154
            have hw154_1 := hx154_1
            have hw154_0 := hx154_0
            obtain rfl : ad149 = ad154 := (by injection e154)
            replace hx154_0 := (HB.out.cell (World.block_lt_of_cell? w _ hx154_0)).trans hx154_0
            replace hx154_1 := (HB.out.cell (World.block_lt_of_cell? w _ hx154_1)).trans hx154_1
            replace p154 := eq_true p154
            replace q154 := eq_true q154
            refine start_ (n := 42) (S := fun w' => w'.cell? (ad149.add ((x3_1).toNat * 2)) = some (.string ((rd_T33 l0 x3_1).f0)) ∧ w'.cell? ⟨(ad149.add ((x3_1).toNat * 2)).block, (ad149.add ((x3_1).toNat * 2)).off + 1, none⟩ = some (.int .i64 ((rd_T33 l0 x3_1).f1)) ∧ w'.cell? (ad149.add ((x3_1).toNat * 2)) = some (.string ((rd_T33 l0 x3_1).f0)) ∧ w'.cell? ⟨(ad149.add ((x3_1).toNat * 2)).block, (ad149.add ((x3_1).toNat * 2)).off + 1, none⟩ = some (.int .i64 ((rd_T33 l0 x3_1).f1)) ∧ w'.cell? (ad149.add ((x3_1).toNat * 2)) = some (.string ((rd_T33 l0 x3_1).f0)) ∧ w'.cell? ⟨(ad149.add ((x3_1).toNat * 2)).block, (ad149.add ((x3_1).toNat * 2)).off + 1, none⟩ = some (.int .i64 ((rd_T33 l0 x3_1).f1)) ∧ w'.cell? (ad149.add (((ji11)).toNat * 2)) = some (.string ((rd_T33 l0 (ji11)).f0)) ∧ w'.cell? ⟨(ad149.add (((ji11)).toNat * 2)).block, (ad149.add (((ji11)).toNat * 2)).off + 1, none⟩ = some (.int .i64 ((rd_T33 l0 (ji11)).f1)) ∧ w'.cell? (ad149.add ((x3_1).toNat * 2)) = some (.string ((rd_T33 l0 x3_1).f0)) ∧ w'.cell? ⟨(ad149.add ((x3_1).toNat * 2)).block, (ad149.add ((x3_1).toNat * 2)).off + 1, none⟩ = some (.int .i64 ((rd_T33 l0 x3_1).f1))) (ds := []) #[bF11, bF11, bF11, bF11, bF11, bF11, bF11, bF11, bF11, bF11, bF11, bF11, bF11, bF11, bF11, bF11, bF11, bF11, bF11, bF11, bF11, bF11, bF11, bF11, bF11, bF11, bF11, bF11, bF11, bF11, bF11, bF11, bF11, bF11, bF11, bF11, bF11, bF11, bF11, bF11, bF11, bF11] (by kernel_rfl) rfl rfl ⟨((HB.out.cell (World.block_lt_of_cell? w _ hw149_0)).trans hw149_0), ((HB.out.cell (World.block_lt_of_cell? w _ hw149_1)).trans hw149_1), ((HB.out.cell (World.block_lt_of_cell? w _ hw151_0)).trans hw151_0), ((HB.out.cell (World.block_lt_of_cell? w _ hw151_1)).trans hw151_1), ((HB.out.cell (World.block_lt_of_cell? w _ hw152_0)).trans hw152_0), ((HB.out.cell (World.block_lt_of_cell? w _ hw152_1)).trans hw152_1), ((HB.out.cell (World.block_lt_of_cell? w _ hw153_0)).trans hw153_0), ((HB.out.cell (World.block_lt_of_cell? w _ hw153_1)).trans hw153_1), ((HB.out.cell (World.block_lt_of_cell? w _ hw154_0)).trans hw154_0), ((HB.out.cell (World.block_lt_of_cell? w _ hw154_1)).trans hw154_1)⟩ (fun hHeld => ?_); refine with_tabW cenotaphref03_Right.tab4 cenotaphref03_Right.bits4 (fun HT_ HW_ => ?_)
            generalize wr.drew = w17 at HB hx149_0 hx149_1 hx151_0 hx151_1 hx152_0 hx152_1 hx153_0 hx153_1 hx154_0 hx154_1 hHeld ⊢
            refine pure_ (i := 0) (N := some 10) (v := ?_) (a' := ?_) #[bT11, bF11, bF11, bF11, bF11, bF11, bF11, bF11, bF11, bF11, bF11, bF11, bF11, bF11, bF11, bF11, bF11, bF11, bF11, bF11, bF11, bF11, bF11, bF11, bF11, bF11, bF11, bF11, bF11, bF11, bF11, bF11, bF11, bF11, bF11, bF11, bF11, bF11, bF11, bF11, bF11, bF11] rfl rfl (any_of HT_.out (by kernel_rfl)) (fun _ _ _ h => h) (Or.inl ⟨by rfl, ?_⟩) ?_ ?_
            rotate_left
            ·intro w'
             go_simp
             with_reducible rfl
            rotate_left
            ·simp only [Act.put, List.setIfInBounds_toArray, List.set_cons_zero, List.set_cons_succ, i64_w, i32_w]
             rfl
            refine pure_ (i := 1) (N := some 11) (v := ?_) (a' := ?_) #[bT11, bT11, bF11, bF11, bF11, bF11, bF11, bF11, bF11, bF11, bF11, bF11, bF11, bF11, bF11, bF11, bF11, bF11, bF11, bF11, bF11, bF11, bF11, bF11, bF11, bF11, bF11, bF11, bF11, bF11, bF11, bF11, bF11, bF11, bF11, bF11, bF11, bF11, bF11, bF11, bF11, bF11] rfl rfl (any_of HT_.out (by kernel_rfl)) (fun _ _ _ h => h) (Or.inl ⟨by rfl, ?_⟩) ?_ ?_
            rotate_left
            ·intro w'
             go_simp
             with_reducible rfl
            rotate_left
            ·simp only [Act.put, List.setIfInBounds_toArray, List.set_cons_zero, List.set_cons_succ, i64_w, i32_w]
             rfl
            refine pure_ (i := 2) (N := some 12) (v := ?_) (a' := ?_) #[bT11, bT11, bT11, bF11, bF11, bF11, bF11, bF11, bF11, bF11, bF11, bF11, bF11, bF11, bF11, bF11, bF11, bF11, bF11, bF11, bF11, bF11, bF11, bF11, bF11, bF11, bF11, bF11, bF11, bF11, bF11, bF11, bF11, bF11, bF11, bF11, bF11, bF11, bF11, bF11, bF11, bF11] rfl rfl (any_of HT_.out (by kernel_rfl)) (fun _ _ _ h => h) (Or.inl ⟨by rfl, ?_⟩) ?_ ?_
            rotate_left
            ·intro w'
             go_simp
             with_reducible rfl
            rotate_left
            ·simp only [Act.put, List.setIfInBounds_toArray, List.set_cons_zero, List.set_cons_succ, i64_w, i32_w]
             rfl
            refine pure_ (i := 3) (N := some 13) (v := ?_) (a' := ?_) #[bT11, bT11, bT11, bT11, bF11, bF11, bF11, bF11, bF11, bF11, bF11, bF11, bF11, bF11, bF11, bF11, bF11, bF11, bF11, bF11, bF11, bF11, bF11, bF11, bF11, bF11, bF11, bF11, bF11, bF11, bF11, bF11, bF11, bF11, bF11, bF11, bF11, bF11, bF11, bF11, bF11, bF11] rfl rfl (any_of HT_.out (by kernel_rfl)) (fun _ _ _ h => h) (Or.inl ⟨by rfl, ?_⟩) ?_ ?_
            rotate_left
            ·intro w'
             go_simp
             with_reducible rfl
            rotate_left
            ·simp only [Act.put, List.setIfInBounds_toArray, List.set_cons_zero, List.set_cons_succ, i64_w, i32_w]
             rfl
            refine take_ (i := 4) (N := some 14) (v := ?_) (a' := ?_) #[bT11, bT11, bT11, bT11, bT11, bF11, bF11, bF11, bF11, bF11, bF11, bF11, bF11, bF11, bF11, bF11, bF11, bF11, bF11, bF11, bF11, bF11, bF11, bF11, bF11, bF11, bF11, bF11, bF11, bF11, bF11, bF11, bF11, bF11, bF11, bF11, bF11, bF11, bF11, bF11, bF11, bF11] rfl rfl (take_ofW HT_.out HW_.out (by kernel_rfl)) (fun _ _ _ h => h) (Or.inl ⟨by rfl, ?_⟩) hHeld ?_ ?_
            rotate_left
            ·rintro w' ⟨s0, s1, s2, s3, s4, s5, s6, s7, s8, s9⟩
             go_simp
             with_reducible rfl
            rotate_left
            ·simp only [Act.put, List.setIfInBounds_toArray, List.set_cons_zero, List.set_cons_succ, i64_w, i32_w]
             rfl
            refine one_ (i := 5) (N := some 15) #[bT11, bT11, bT11, bT11, bT11, bT11, bF11, bF11, bF11, bF11, bF11, bF11, bF11, bF11, bF11, bF11, bF11, bF11, bF11, bF11, bF11, bF11, bF11, bF11, bF11, bF11, bF11, bF11, bF11, bF11, bF11, bF11, bF11, bF11, bF11, bF11, bF11, bF11, bF11, bF11, bF11, bF11] rfl rfl (one_of HT_.out (by kernel_rfl)) (by decide) (fun K hK => ?_)
            refine goes_ Try.func30 (by kernel_rfl) rfl #[.string ((rd_T33 l0 x3_1).f0)] (by rfl) rfl rfl zq11_0 ?_
            with_reducible refine (cenotaphref01_Right.calls k1 ((rd_T33 l0 x3_1).f0) true _ A4.out).mono ?_
            rintro e w' ⟨rfl, ⟨nd, rfl⟩⟩
            refine ⟨_, rfl, ?_⟩
            refine hK.out _ _ ⟨((HB.out.cell (World.block_lt_of_cell? w _ hw149_0)).trans hw149_0), ((HB.out.cell (World.block_lt_of_cell? w _ hw149_1)).trans hw149_1), ((HB.out.cell (World.block_lt_of_cell? w _ hw151_0)).trans hw151_0), ((HB.out.cell (World.block_lt_of_cell? w _ hw151_1)).trans hw151_1), ((HB.out.cell (World.block_lt_of_cell? w _ hw152_0)).trans hw152_0), ((HB.out.cell (World.block_lt_of_cell? w _ hw152_1)).trans hw152_1), ((HB.out.cell (World.block_lt_of_cell? w _ hw153_0)).trans hw153_0), ((HB.out.cell (World.block_lt_of_cell? w _ hw153_1)).trans hw153_1), ((HB.out.cell (World.block_lt_of_cell? w _ hw154_0)).trans hw154_0), ((HB.out.cell (World.block_lt_of_cell? w _ hw154_1)).trans hw154_1)⟩ (fun hHeld => ?_)
            clear hK K
            refine norm_ (a' := ?_) ?_ ?_
            rotate_left
            ·show Act.put _ (some 15) _ = _
             simp only [Act.put, List.setIfInBounds_toArray, List.set_cons_zero, List.set_cons_succ, i64_w, i32_w]
             rfl
            refine pure_ (i := 6) (N := some 16) (v := ?_) (a' := ?_) #[bT11, bT11, bT11, bT11, bT11, bT11, bT11, bF11, bF11, bF11, bF11, bF11, bF11, bF11, bF11, bF11, bF11, bF11, bF11, bF11, bF11, bF11, bF11, bF11, bF11, bF11, bF11, bF11, bF11, bF11, bF11, bF11, bF11, bF11, bF11, bF11, bF11, bF11, bF11, bF11, bF11, bF11] rfl rfl (any_of HT_.out (by kernel_rfl)) (fun _ _ _ h => h) (Or.inl ⟨by rfl, ?_⟩) ?_ ?_
            rotate_left
            ·intro w'
             go_simp
             with_reducible rfl
            rotate_left
            ·simp only [Act.put, List.setIfInBounds_toArray, List.set_cons_zero, List.set_cons_succ, i64_w, i32_w]
             rfl
            refine pure_ (i := 7) (N := some 17) (v := ?_) (a' := ?_) #[bT11, bT11, bT11, bT11, bT11, bT11, bT11, bT11, bF11, bF11, bF11, bF11, bF11, bF11, bF11, bF11, bF11, bF11, bF11, bF11, bF11, bF11, bF11, bF11, bF11, bF11, bF11, bF11, bF11, bF11, bF11, bF11, bF11, bF11, bF11, bF11, bF11, bF11, bF11, bF11, bF11, bF11] rfl rfl (any_of HT_.out (by kernel_rfl)) (fun _ _ _ h => h) (Or.inl ⟨by rfl, ?_⟩) ?_ ?_
            rotate_left
            ·intro w'
             go_simp
             with_reducible rfl
            rotate_left
            ·simp only [Act.put, List.setIfInBounds_toArray, List.set_cons_zero, List.set_cons_succ, i64_w, i32_w]
             rfl
            refine pure_ (i := 8) (N := some 18) (v := ?_) (a' := ?_) #[bT11, bT11, bT11, bT11, bT11, bT11, bT11, bT11, bT11, bF11, bF11, bF11, bF11, bF11, bF11, bF11, bF11, bF11, bF11, bF11, bF11, bF11, bF11, bF11, bF11, bF11, bF11, bF11, bF11, bF11, bF11, bF11, bF11, bF11, bF11, bF11, bF11, bF11, bF11, bF11, bF11, bF11] rfl rfl (any_of HT_.out (by kernel_rfl)) (fun _ _ _ h => h) (Or.inl ⟨by rfl, ?_⟩) ?_ ?_
            rotate_left
            ·intro w'
             go_simp
             with_reducible rfl
            rotate_left
            ·simp only [Act.put, List.setIfInBounds_toArray, List.set_cons_zero, List.set_cons_succ, i64_w, i32_w]
             rfl
            refine pure_ (i := 9) (N := some 19) (v := ?_) (a' := ?_) #[bT11, bT11, bT11, bT11, bT11, bT11, bT11, bT11, bT11, bT11, bF11, bF11, bF11, bF11, bF11, bF11, bF11, bF11, bF11, bF11, bF11, bF11, bF11, bF11, bF11, bF11, bF11, bF11, bF11, bF11, bF11, bF11, bF11, bF11, bF11, bF11, bF11, bF11, bF11, bF11, bF11, bF11] rfl rfl (any_of HT_.out (by kernel_rfl)) (fun _ _ _ h => h) (Or.inl ⟨by rfl, ?_⟩) ?_ ?_
            rotate_left
            ·intro w'
             go_simp
             with_reducible rfl
            rotate_left
            ·simp only [Act.put, List.setIfInBounds_toArray, List.set_cons_zero, List.set_cons_succ, i64_w, i32_w]
             rfl
            refine pure_ (i := 10) (N := some 20) (v := ?_) (a' := ?_) #[bT11, bT11, bT11, bT11, bT11, bT11, bT11, bT11, bT11, bT11, bT11, bF11, bF11, bF11, bF11, bF11, bF11, bF11, bF11, bF11, bF11, bF11, bF11, bF11, bF11, bF11, bF11, bF11, bF11, bF11, bF11, bF11, bF11, bF11, bF11, bF11, bF11, bF11, bF11, bF11, bF11, bF11] rfl rfl (any_of HT_.out (by kernel_rfl)) (fun _ _ _ h => h) (Or.inl ⟨by rfl, ?_⟩) ?_ ?_
            rotate_left
            ·intro w'
             go_simp
             with_reducible rfl
            rotate_left
            ·simp only [Act.put, List.setIfInBounds_toArray, List.set_cons_zero, List.set_cons_succ, i64_w, i32_w]
             rfl
            refine pure_ (i := 11) (N := some 21) (v := ?_) (a' := ?_) #[bT11, bT11, bT11, bT11, bT11, bT11, bT11, bT11, bT11, bT11, bT11, bT11, bF11, bF11, bF11, bF11, bF11, bF11, bF11, bF11, bF11, bF11, bF11, bF11, bF11, bF11, bF11, bF11, bF11, bF11, bF11, bF11, bF11, bF11, bF11, bF11, bF11, bF11, bF11, bF11, bF11, bF11] rfl rfl (any_of HT_.out (by kernel_rfl)) (fun _ _ _ h => h) (Or.inl ⟨by rfl, ?_⟩) ?_ ?_
            rotate_left
            ·intro w'
             go_simp
             with_reducible rfl
            rotate_left
            ·simp only [Act.put, List.setIfInBounds_toArray, List.set_cons_zero, List.set_cons_succ, i64_w, i32_w]
             rfl
            refine take_ (i := 12) (N := some 22) (v := ?_) (a' := ?_) #[bT11, bT11, bT11, bT11, bT11, bT11, bT11, bT11, bT11, bT11, bT11, bT11, bT11, bF11, bF11, bF11, bF11, bF11, bF11, bF11, bF11, bF11, bF11, bF11, bF11, bF11, bF11, bF11, bF11, bF11, bF11, bF11, bF11, bF11, bF11, bF11, bF11, bF11, bF11, bF11, bF11, bF11] rfl rfl (take_ofW HT_.out HW_.out (by kernel_rfl)) (fun _ _ _ h => h) (Or.inl ⟨by rfl, ?_⟩) hHeld ?_ ?_
            rotate_left
            ·rintro w' ⟨s0, s1, s2, s3, s4, s5, s6, s7, s8, s9⟩
             go_simp
             with_reducible rfl
            rotate_left
            ·simp only [Act.put, List.setIfInBounds_toArray, List.set_cons_zero, List.set_cons_succ, i64_w, i32_w]
             rfl
            refine pure_ (i := 13) (N := some 23) (v := ?_) (a' := ?_) #[bT11, bT11, bT11, bT11, bT11, bT11, bT11, bT11, bT11, bT11, bT11, bT11, bT11, bT11, bF11, bF11, bF11, bF11, bF11, bF11, bF11, bF11, bF11, bF11, bF11, bF11, bF11, bF11, bF11, bF11, bF11, bF11, bF11, bF11, bF11, bF11, bF11, bF11, bF11, bF11, bF11, bF11] rfl rfl (any_of HT_.out (by kernel_rfl)) (fun _ _ _ h => h) (Or.inl ⟨by rfl, ?_⟩) ?_ ?_
            rotate_left
            ·intro w'
             go_simp
             with_reducible rfl
            rotate_left
            ·simp only [Act.put, List.setIfInBounds_toArray, List.set_cons_zero, List.set_cons_succ, i64_w, i32_w]
             rfl
            refine pure_ (i := 14) (N := some 24) (v := ?_) (a' := ?_) #[bT11, bT11, bT11, bT11, bT11, bT11, bT11, bT11, bT11, bT11, bT11, bT11, bT11, bT11, bT11, bF11, bF11, bF11, bF11, bF11, bF11, bF11, bF11, bF11, bF11, bF11, bF11, bF11, bF11, bF11, bF11, bF11, bF11, bF11, bF11, bF11, bF11, bF11, bF11, bF11, bF11, bF11] rfl rfl (any_of HT_.out (by kernel_rfl)) (fun _ _ _ h => h) (Or.inl ⟨by rfl, ?_⟩) ?_ ?_
            rotate_left
            ·intro w'
             go_simp
             with_reducible rfl
            rotate_left
            ·simp only [Act.put, List.setIfInBounds_toArray, List.set_cons_zero, List.set_cons_succ, i64_w, i32_w]
             rfl
            refine pure_ (i := 15) (N := some 25) (v := ?_) (a' := ?_) #[bT11, bT11, bT11, bT11, bT11, bT11, bT11, bT11, bT11, bT11, bT11, bT11, bT11, bT11, bT11, bT11, bF11, bF11, bF11, bF11, bF11, bF11, bF11, bF11, bF11, bF11, bF11, bF11, bF11, bF11, bF11, bF11, bF11, bF11, bF11, bF11, bF11, bF11, bF11, bF11, bF11, bF11] rfl rfl (any_of HT_.out (by kernel_rfl)) (fun _ _ _ h => h) (Or.inl ⟨by rfl, ?_⟩) ?_ ?_
            rotate_left
            ·intro w'
             go_simp
             with_reducible rfl
            rotate_left
            ·simp only [Act.put, List.setIfInBounds_toArray, List.set_cons_zero, List.set_cons_succ, i64_w, i32_w]
             rfl
            refine pure_ (i := 16) (N := some 26) (v := ?_) (a' := ?_) #[bT11, bT11, bT11, bT11, bT11, bT11, bT11, bT11, bT11, bT11, bT11, bT11, bT11, bT11, bT11, bT11, bT11, bF11, bF11, bF11, bF11, bF11, bF11, bF11, bF11, bF11, bF11, bF11, bF11, bF11, bF11, bF11, bF11, bF11, bF11, bF11, bF11, bF11, bF11, bF11, bF11, bF11] rfl rfl (any_of HT_.out (by kernel_rfl)) (fun _ _ _ h => h) (Or.inl ⟨by rfl, ?_⟩) ?_ ?_
            rotate_left
            ·intro w'
             go_simp
             with_reducible rfl
            rotate_left
            ·simp only [Act.put, List.setIfInBounds_toArray, List.set_cons_zero, List.set_cons_succ, i64_w, i32_w]
             rfl
            refine pure_ (i := 17) (N := some 27) (v := ?_) (a' := ?_) #[bT11, bT11, bT11, bT11, bT11, bT11, bT11, bT11, bT11, bT11, bT11, bT11, bT11, bT11, bT11, bT11, bT11, bT11, bF11, bF11, bF11, bF11, bF11, bF11, bF11, bF11, bF11, bF11, bF11, bF11, bF11, bF11, bF11, bF11, bF11, bF11, bF11, bF11, bF11, bF11, bF11, bF11] rfl rfl (any_of HT_.out (by kernel_rfl)) (fun _ _ _ h => h) (Or.inl ⟨by rfl, ?_⟩) ?_ ?_
            rotate_left
            ·intro w'
             go_simp
             with_reducible rfl
            rotate_left
            ·simp only [Act.put, List.setIfInBounds_toArray, List.set_cons_zero, List.set_cons_succ, i64_w, i32_w]
             rfl
            refine pure_ (i := 18) (N := some 28) (v := ?_) (a' := ?_) #[bT11, bT11, bT11, bT11, bT11, bT11, bT11, bT11, bT11, bT11, bT11, bT11, bT11, bT11, bT11, bT11, bT11, bT11, bT11, bF11, bF11, bF11, bF11, bF11, bF11, bF11, bF11, bF11, bF11, bF11, bF11, bF11, bF11, bF11, bF11, bF11, bF11, bF11, bF11, bF11, bF11, bF11] rfl rfl (any_of HT_.out (by kernel_rfl)) (fun _ _ _ h => h) (Or.inl ⟨by rfl, ?_⟩) ?_ ?_
            rotate_left
            ·intro w'
             go_simp
             with_reducible rfl
            rotate_left
            ·simp only [Act.put, List.setIfInBounds_toArray, List.set_cons_zero, List.set_cons_succ, i64_w, i32_w]
             rfl
            refine pure_ (i := 19) (N := some 29) (v := ?_) (a' := ?_) #[bT11, bT11, bT11, bT11, bT11, bT11, bT11, bT11, bT11, bT11, bT11, bT11, bT11, bT11, bT11, bT11, bT11, bT11, bT11, bT11, bF11, bF11, bF11, bF11, bF11, bF11, bF11, bF11, bF11, bF11, bF11, bF11, bF11, bF11, bF11, bF11, bF11, bF11, bF11, bF11, bF11, bF11] rfl rfl (any_of HT_.out (by kernel_rfl)) (fun _ _ _ h => h) (Or.inl ⟨by rfl, ?_⟩) ?_ ?_
            rotate_left
            ·intro w'
             go_simp
             with_reducible rfl
            rotate_left
            ·simp only [Act.put, List.setIfInBounds_toArray, List.set_cons_zero, List.set_cons_succ, i64_w, i32_w]
             rfl
            refine take_ (i := 20) (N := some 30) (v := ?_) (a' := ?_) #[bT11, bT11, bT11, bT11, bT11, bT11, bT11, bT11, bT11, bT11, bT11, bT11, bT11, bT11, bT11, bT11, bT11, bT11, bT11, bT11, bT11, bF11, bF11, bF11, bF11, bF11, bF11, bF11, bF11, bF11, bF11, bF11, bF11, bF11, bF11, bF11, bF11, bF11, bF11, bF11, bF11, bF11] rfl rfl (take_ofW HT_.out HW_.out (by kernel_rfl)) (fun _ _ _ h => h) (Or.inl ⟨by rfl, ?_⟩) hHeld ?_ ?_
            rotate_left
            ·rintro w' ⟨s0, s1, s2, s3, s4, s5, s6, s7, s8, s9⟩
             go_simp
             with_reducible rfl
            rotate_left
            ·simp only [Act.put, List.setIfInBounds_toArray, List.set_cons_zero, List.set_cons_succ, i64_w, i32_w]
             rfl
            refine pure_ (i := 21) (N := some 31) (v := ?_) (a' := ?_) #[bT11, bT11, bT11, bT11, bT11, bT11, bT11, bT11, bT11, bT11, bT11, bT11, bT11, bT11, bT11, bT11, bT11, bT11, bT11, bT11, bT11, bT11, bF11, bF11, bF11, bF11, bF11, bF11, bF11, bF11, bF11, bF11, bF11, bF11, bF11, bF11, bF11, bF11, bF11, bF11, bF11, bF11] rfl rfl (any_of HT_.out (by kernel_rfl)) (fun _ _ _ h => h) (Or.inl ⟨by rfl, ?_⟩) ?_ ?_
            rotate_left
            ·intro w'
             go_simp
             with_reducible rfl
            rotate_left
            ·simp only [Act.put, List.setIfInBounds_toArray, List.set_cons_zero, List.set_cons_succ, i64_w, i32_w]
             rfl
            refine pure_ (i := 22) (N := some 32) (v := ?_) (a' := ?_) #[bT11, bT11, bT11, bT11, bT11, bT11, bT11, bT11, bT11, bT11, bT11, bT11, bT11, bT11, bT11, bT11, bT11, bT11, bT11, bT11, bT11, bT11, bT11, bF11, bF11, bF11, bF11, bF11, bF11, bF11, bF11, bF11, bF11, bF11, bF11, bF11, bF11, bF11, bF11, bF11, bF11, bF11] rfl rfl (any_of HT_.out (by kernel_rfl)) (fun _ _ _ h => h) (Or.inl ⟨by rfl, ?_⟩) ?_ ?_
            rotate_left
            ·intro w'
             go_simp
             with_reducible rfl
            rotate_left
            ·simp only [Act.put, List.setIfInBounds_toArray, List.set_cons_zero, List.set_cons_succ, i64_w, i32_w]
             rfl
            refine pure_ (i := 23) (N := some 33) (v := ?_) (a' := ?_) #[bT11, bT11, bT11, bT11, bT11, bT11, bT11, bT11, bT11, bT11, bT11, bT11, bT11, bT11, bT11, bT11, bT11, bT11, bT11, bT11, bT11, bT11, bT11, bT11, bF11, bF11, bF11, bF11, bF11, bF11, bF11, bF11, bF11, bF11, bF11, bF11, bF11, bF11, bF11, bF11, bF11, bF11] rfl rfl (any_of HT_.out (by kernel_rfl)) (fun _ _ _ h => h) (Or.inl ⟨by rfl, ?_⟩) ?_ ?_
            rotate_left
            ·intro w'
             go_simp
             with_reducible rfl
            rotate_left
            ·simp only [Act.put, List.setIfInBounds_toArray, List.set_cons_zero, List.set_cons_succ, i64_w, i32_w]
             rfl
            refine pure_ (i := 24) (N := some 34) (v := ?_) (a' := ?_) #[bT11, bT11, bT11, bT11, bT11, bT11, bT11, bT11, bT11, bT11, bT11, bT11, bT11, bT11, bT11, bT11, bT11, bT11, bT11, bT11, bT11, bT11, bT11, bT11, bT11, bF11, bF11, bF11, bF11, bF11, bF11, bF11, bF11, bF11, bF11, bF11, bF11, bF11, bF11, bF11, bF11, bF11] rfl rfl (any_of HT_.out (by kernel_rfl)) (fun _ _ _ h => h) (Or.inl ⟨by rfl, ?_⟩) ?_ ?_
            rotate_left
            ·intro w'
             go_simp
             with_reducible rfl
            rotate_left
            ·simp only [Act.put, List.setIfInBounds_toArray, List.set_cons_zero, List.set_cons_succ, i64_w, i32_w]
             rfl
            refine pure_ (i := 25) (N := some 35) (v := ?_) (a' := ?_) #[bT11, bT11, bT11, bT11, bT11, bT11, bT11, bT11, bT11, bT11, bT11, bT11, bT11, bT11, bT11, bT11, bT11, bT11, bT11, bT11, bT11, bT11, bT11, bT11, bT11, bT11, bF11, bF11, bF11, bF11, bF11, bF11, bF11, bF11, bF11, bF11, bF11, bF11, bF11, bF11, bF11, bF11] rfl rfl (any_of HT_.out (by kernel_rfl)) (fun _ _ _ h => h) (Or.inl ⟨by rfl, ?_⟩) ?_ ?_
            rotate_left
            ·intro w'
             go_simp
             with_reducible rfl
            rotate_left
            ·simp only [Act.put, List.setIfInBounds_toArray, List.set_cons_zero, List.set_cons_succ, i64_w, i32_w]
             rfl
            refine pure_ (i := 26) (N := some 36) (v := ?_) (a' := ?_) #[bT11, bT11, bT11, bT11, bT11, bT11, bT11, bT11, bT11, bT11, bT11, bT11, bT11, bT11, bT11, bT11, bT11, bT11, bT11, bT11, bT11, bT11, bT11, bT11, bT11, bT11, bT11, bF11, bF11, bF11, bF11, bF11, bF11, bF11, bF11, bF11, bF11, bF11, bF11, bF11, bF11, bF11] rfl rfl (any_of HT_.out (by kernel_rfl)) (fun _ _ _ h => h) (Or.inl ⟨by rfl, ?_⟩) ?_ ?_
            rotate_left
            ·intro w'
             go_simp
             with_reducible rfl
            rotate_left
            ·simp only [Act.put, List.setIfInBounds_toArray, List.set_cons_zero, List.set_cons_succ, i64_w, i32_w]
             rfl
            refine pure_ (i := 27) (N := some 37) (v := ?_) (a' := ?_) #[bT11, bT11, bT11, bT11, bT11, bT11, bT11, bT11, bT11, bT11, bT11, bT11, bT11, bT11, bT11, bT11, bT11, bT11, bT11, bT11, bT11, bT11, bT11, bT11, bT11, bT11, bT11, bT11, bF11, bF11, bF11, bF11, bF11, bF11, bF11, bF11, bF11, bF11, bF11, bF11, bF11, bF11] rfl rfl (any_of HT_.out (by kernel_rfl)) (fun _ _ _ h => h) (Or.inl ⟨by rfl, ?_⟩) ?_ ?_
            rotate_left
            ·intro w'
             go_simp
             with_reducible rfl
            rotate_left
            ·simp only [Act.put, List.setIfInBounds_toArray, List.set_cons_zero, List.set_cons_succ, i64_w, i32_w]
             rfl
            refine pure_ (i := 28) (N := some 38) (v := ?_) (a' := ?_) #[bT11, bT11, bT11, bT11, bT11, bT11, bT11, bT11, bT11, bT11, bT11, bT11, bT11, bT11, bT11, bT11, bT11, bT11, bT11, bT11, bT11, bT11, bT11, bT11, bT11, bT11, bT11, bT11, bT11, bF11, bF11, bF11, bF11, bF11, bF11, bF11, bF11, bF11, bF11, bF11, bF11, bF11] rfl rfl (any_of HT_.out (by kernel_rfl)) (fun _ _ _ h => h) (Or.inl ⟨by rfl, ?_⟩) ?_ ?_
            rotate_left
            ·intro w'
             go_simp
             with_reducible rfl
            rotate_left
            ·simp only [Act.put, List.setIfInBounds_toArray, List.set_cons_zero, List.set_cons_succ, i64_w, i32_w]
             rfl
            refine pure_ (i := 29) (N := some 39) (v := ?_) (a' := ?_) #[bT11, bT11, bT11, bT11, bT11, bT11, bT11, bT11, bT11, bT11, bT11, bT11, bT11, bT11, bT11, bT11, bT11, bT11, bT11, bT11, bT11, bT11, bT11, bT11, bT11, bT11, bT11, bT11, bT11, bT11, bF11, bF11, bF11, bF11, bF11, bF11, bF11, bF11, bF11, bF11, bF11, bF11] rfl rfl (any_of HT_.out (by kernel_rfl)) (fun _ _ _ h => h) (Or.inl ⟨by rfl, ?_⟩) ?_ ?_
            rotate_left
            ·intro w'
             go_simp
             with_reducible rfl
            rotate_left
            ·simp only [Act.put, List.setIfInBounds_toArray, List.set_cons_zero, List.set_cons_succ, i64_w, i32_w]
             rfl
            refine pure_ (i := 30) (N := some 40) (v := ?_) (a' := ?_) #[bT11, bT11, bT11, bT11, bT11, bT11, bT11, bT11, bT11, bT11, bT11, bT11, bT11, bT11, bT11, bT11, bT11, bT11, bT11, bT11, bT11, bT11, bT11, bT11, bT11, bT11, bT11, bT11, bT11, bT11, bT11, bF11, bF11, bF11, bF11, bF11, bF11, bF11, bF11, bF11, bF11, bF11] rfl rfl (any_of HT_.out (by kernel_rfl)) (fun _ _ _ h => h) (Or.inl ⟨by rfl, ?_⟩) ?_ ?_
            rotate_left
            ·intro w'
             go_simp
             with_reducible rfl
            rotate_left
            ·simp only [Act.put, List.setIfInBounds_toArray, List.set_cons_zero, List.set_cons_succ, i64_w, i32_w]
             rfl
            refine pure_ (i := 31) (N := some 41) (v := ?_) (a' := ?_) #[bT11, bT11, bT11, bT11, bT11, bT11, bT11, bT11, bT11, bT11, bT11, bT11, bT11, bT11, bT11, bT11, bT11, bT11, bT11, bT11, bT11, bT11, bT11, bT11, bT11, bT11, bT11, bT11, bT11, bT11, bT11, bT11, bF11, bF11, bF11, bF11, bF11, bF11, bF11, bF11, bF11, bF11] rfl rfl (any_of HT_.out (by kernel_rfl)) (fun _ _ _ h => h) (Or.inl ⟨by rfl, ?_⟩) ?_ ?_
            rotate_left
            ·intro w'
             go_simp
             with_reducible rfl
            rotate_left
            ·simp only [Act.put, List.setIfInBounds_toArray, List.set_cons_zero, List.set_cons_succ, i64_w, i32_w]
             rfl
            refine pure_ (i := 33) (N := some 43) (v := ?_) (a' := ?_) #[bT11, bT11, bT11, bT11, bT11, bT11, bT11, bT11, bT11, bT11, bT11, bT11, bT11, bT11, bT11, bT11, bT11, bT11, bT11, bT11, bT11, bT11, bT11, bT11, bT11, bT11, bT11, bT11, bT11, bT11, bT11, bT11, bF11, bT11, bF11, bF11, bF11, bF11, bF11, bF11, bF11, bF11] rfl rfl (any_of HT_.out (by kernel_rfl)) (fun _ _ _ h => h) (Or.inl ⟨by rfl, ?_⟩) ?_ ?_
            rotate_left
            ·intro w'
             go_simp
             with_reducible rfl
            rotate_left
            ·simp only [Act.put, List.setIfInBounds_toArray, List.set_cons_zero, List.set_cons_succ, i64_w, i32_w]
             rfl
            refine pure_ (i := 34) (N := some 44) (v := ?_) (a' := ?_) #[bT11, bT11, bT11, bT11, bT11, bT11, bT11, bT11, bT11, bT11, bT11, bT11, bT11, bT11, bT11, bT11, bT11, bT11, bT11, bT11, bT11, bT11, bT11, bT11, bT11, bT11, bT11, bT11, bT11, bT11, bT11, bT11, bF11, bT11, bT11, bF11, bF11, bF11, bF11, bF11, bF11, bF11] rfl rfl (any_of HT_.out (by kernel_rfl)) (fun _ _ _ h => h) (Or.inl ⟨by rfl, ?_⟩) ?_ ?_
            rotate_left
            ·intro w'
             go_simp
             with_reducible rfl
            rotate_left
            ·simp only [Act.put, List.setIfInBounds_toArray, List.set_cons_zero, List.set_cons_succ, i64_w, i32_w]
             rfl
            refine pure_ (i := 35) (N := some 45) (v := ?_) (a' := ?_) #[bT11, bT11, bT11, bT11, bT11, bT11, bT11, bT11, bT11, bT11, bT11, bT11, bT11, bT11, bT11, bT11, bT11, bT11, bT11, bT11, bT11, bT11, bT11, bT11, bT11, bT11, bT11, bT11, bT11, bT11, bT11, bT11, bF11, bT11, bT11, bT11, bF11, bF11, bF11, bF11, bF11, bF11] rfl rfl (any_of HT_.out (by kernel_rfl)) (fun _ _ _ h => h) (Or.inl ⟨by rfl, ?_⟩) ?_ ?_
            rotate_left
            ·intro w'
             go_simp
             with_reducible rfl
            rotate_left
            ·simp only [Act.put, List.setIfInBounds_toArray, List.set_cons_zero, List.set_cons_succ, i64_w, i32_w]
             rfl
            refine pure_ (i := 36) (N := some 46) (v := ?_) (a' := ?_) #[bT11, bT11, bT11, bT11, bT11, bT11, bT11, bT11, bT11, bT11, bT11, bT11, bT11, bT11, bT11, bT11, bT11, bT11, bT11, bT11, bT11, bT11, bT11, bT11, bT11, bT11, bT11, bT11, bT11, bT11, bT11, bT11, bF11, bT11, bT11, bT11, bT11, bF11, bF11, bF11, bF11, bF11] rfl rfl (any_of HT_.out (by kernel_rfl)) (fun _ _ _ h => h) (Or.inl ⟨by rfl, ?_⟩) ?_ ?_
            rotate_left
            ·intro w'
             go_simp
             with_reducible rfl
            rotate_left
            ·simp only [Act.put, List.setIfInBounds_toArray, List.set_cons_zero, List.set_cons_succ, i64_w, i32_w]
             rfl
            refine take_ (i := 32) (N := some 42) (v := ?_) (a' := ?_) #[bT11, bT11, bT11, bT11, bT11, bT11, bT11, bT11, bT11, bT11, bT11, bT11, bT11, bT11, bT11, bT11, bT11, bT11, bT11, bT11, bT11, bT11, bT11, bT11, bT11, bT11, bT11, bT11, bT11, bT11, bT11, bT11, bT11, bT11, bT11, bT11, bT11, bF11, bF11, bF11, bF11, bF11] rfl rfl (take_ofW HT_.out HW_.out (by kernel_rfl)) (fun _ _ _ h => h) (Or.inl ⟨by rfl, ?_⟩) hHeld ?_ ?_
            rotate_left
            ·rintro w' ⟨s0, s1, s2, s3, s4, s5, s6, s7, s8, s9⟩
             go_simp
             with_reducible rfl
            rotate_left
            ·simp only [Act.put, List.setIfInBounds_toArray, List.set_cons_zero, List.set_cons_succ, i64_w, i32_w]
             rfl
            refine take_ (i := 37) (N := some 47) (v := ?_) (a' := ?_) #[bT11, bT11, bT11, bT11, bT11, bT11, bT11, bT11, bT11, bT11, bT11, bT11, bT11, bT11, bT11, bT11, bT11, bT11, bT11, bT11, bT11, bT11, bT11, bT11, bT11, bT11, bT11, bT11, bT11, bT11, bT11, bT11, bT11, bT11, bT11, bT11, bT11, bT11, bF11, bF11, bF11, bF11] rfl rfl (take_ofW HT_.out HW_.out (by kernel_rfl)) (fun _ _ _ h => h) (Or.inl ⟨by rfl, ?_⟩) hHeld ?_ ?_
            rotate_left
            ·rintro w' ⟨s0, s1, s2, s3, s4, s5, s6, s7, s8, s9⟩
             go_simp
             with_reducible rfl
            rotate_left
            ·simp only [Act.put, List.setIfInBounds_toArray, List.set_cons_zero, List.set_cons_succ, i64_w, i32_w]
             rfl
            refine one_ (i := 38) (N := some 48) #[bT11, bT11, bT11, bT11, bT11, bT11, bT11, bT11, bT11, bT11, bT11, bT11, bT11, bT11, bT11, bT11, bT11, bT11, bT11, bT11, bT11, bT11, bT11, bT11, bT11, bT11, bT11, bT11, bT11, bT11, bT11, bT11, bT11, bT11, bT11, bT11, bT11, bT11, bT11, bF11, bF11, bF11] rfl rfl (one_of HT_.out (by kernel_rfl)) (by decide) (fun K hK => ?_)
            refine goes_ Try.func31 (by kernel_rfl) rfl #[.string ((rd_T33 l0 (ji11)).f0), .string ((rd_T33 l0 x3_1).f0)] (by rfl) rfl rfl (by (try simp only [List.map_toArray, List.map_cons, List.map_nil]); first | done | (simp only [hji11]; rfl) | rfl | (simp only [List.length_drop, List.length_take]; rfl)) ?_
            with_reducible refine (cenotaphref01_Compare.calls k1 ((rd_T33 l0 (ji11)).f0) ((rd_T33 l0 x3_1).f0) t155 _ A14.out).mono ?_
            rintro e w' ⟨rfl, ⟨nd, rfl⟩⟩
            refine ⟨_, rfl, ?_⟩
            refine hK.out _ _ ⟨((HB.out.cell (World.block_lt_of_cell? w _ hw149_0)).trans hw149_0), ((HB.out.cell (World.block_lt_of_cell? w _ hw149_1)).trans hw149_1), ((HB.out.cell (World.block_lt_of_cell? w _ hw151_0)).trans hw151_0), ((HB.out.cell (World.block_lt_of_cell? w _ hw151_1)).trans hw151_1), ((HB.out.cell (World.block_lt_of_cell? w _ hw152_0)).trans hw152_0), ((HB.out.cell (World.block_lt_of_cell? w _ hw152_1)).trans hw152_1), ((HB.out.cell (World.block_lt_of_cell? w _ hw153_0)).trans hw153_0), ((HB.out.cell (World.block_lt_of_cell? w _ hw153_1)).trans hw153_1), ((HB.out.cell (World.block_lt_of_cell? w _ hw154_0)).trans hw154_0), ((HB.out.cell (World.block_lt_of_cell? w _ hw154_1)).trans hw154_1)⟩ (fun hHeld => ?_)
            clear hK K
            refine norm_ (a' := ?_) ?_ ?_
            rotate_left
            ·show Act.put _ (some 48) _ = _
             simp only [Act.put, List.setIfInBounds_toArray, List.set_cons_zero, List.set_cons_succ, i64_w, i32_w]
             rfl
            refine pure_ (i := 39) (N := some 49) (v := ?_) (a' := ?_) #[bT11, bT11, bT11, bT11, bT11, bT11, bT11, bT11, bT11, bT11, bT11, bT11, bT11, bT11, bT11, bT11, bT11, bT11, bT11, bT11, bT11, bT11, bT11, bT11, bT11, bT11, bT11, bT11, bT11, bT11, bT11, bT11, bT11, bT11, bT11, bT11, bT11, bT11, bT11, bT11, bF11, bF11] rfl rfl (any_of HT_.out (by kernel_rfl)) (fun _ _ _ h => h) (Or.inl ⟨by rfl, ?_⟩) ?_ ?_
            rotate_left
            ·intro w'
             go_simp
             with_reducible rfl
            rotate_left
            ·simp only [Act.put, List.setIfInBounds_toArray, List.set_cons_zero, List.set_cons_succ, i64_w, i32_w]
             rfl
            refine pure_ (i := 40) (N := some 50) (v := ?_) (a' := ?_) #[bT11, bT11, bT11, bT11, bT11, bT11, bT11, bT11, bT11, bT11, bT11, bT11, bT11, bT11, bT11, bT11, bT11, bT11, bT11, bT11, bT11, bT11, bT11, bT11, bT11, bT11, bT11, bT11, bT11, bT11, bT11, bT11, bT11, bT11, bT11, bT11, bT11, bT11, bT11, bT11, bT11, bF11] rfl rfl (any_of HT_.out (by kernel_rfl)) (fun _ _ _ h => h) (Or.inl ⟨by rfl, ?_⟩) ?_ ?_
            rotate_left
            ·intro w'
             go_simp
             with_reducible rfl
            rotate_left
            ·simp only [Act.put, List.setIfInBounds_toArray, List.set_cons_zero, List.set_cons_succ, i64_w, i32_w]
             rfl
            refine pure_ (i := 41) (N := some 51) (v := ?_) (a' := ?_) #[bT11, bT11, bT11, bT11, bT11, bT11, bT11, bT11, bT11, bT11, bT11, bT11, bT11, bT11, bT11, bT11, bT11, bT11, bT11, bT11, bT11, bT11, bT11, bT11, bT11, bT11, bT11, bT11, bT11, bT11, bT11, bT11, bT11, bT11, bT11, bT11, bT11, bT11, bT11, bT11, bT11, bT11] rfl rfl (any_of HT_.out (by kernel_rfl)) (fun _ _ _ h => h) (Or.inl ⟨by rfl, ?_⟩) ?_ ?_
            rotate_left
            ·intro w'
             go_simp
             with_reducible rfl
            rotate_left
            ·simp only [Act.put, List.setIfInBounds_toArray, List.set_cons_zero, List.set_cons_succ, i64_w, i32_w]
             rfl
            refine done_ (done_of HT_.out (by kernel_rfl)) ?_
            try go_wp2
            go_roundg k1
            case measure => have := HK1.out; omega
            case rel => exact ⟨(wrap64 (x3_1 + 1)), zq11_2, H', ⟨by have := HK1.out; omega⟩, ⟨by repeat (first | (with_reducible first | exact HB.out | apply below_alloc | apply pw_below_drewN | apply below_drew1) | exact HB.out)⟩⟩
          ·rw [if_neg c13] at H
           exact absurd H (by simp)
         ·rw [if_neg c12] at H
          exact absurd H (by simp)
        ·rw [if_neg c10] at H
         have c10b0 : decide (0 < x3_1) = false := decide_eq_false c10
         clear c10
         have H' := Aside0.mk H
         clear H
         try go_wp2
         replace HB := Aside0.mk (below_drew1 HB.out)
         have p149 : 0 ≤ (x3_1 : Int) := of_decide_eq_true zq11_1
         have q149 : x3_1 < (l0.length : Int) := of_decide_eq_true zq11_1
         obtain ⟨ad149, e149, hx149_0, hx149_1⟩ := at_T33 HR0.out x3_1 p149 q149
         have hw149_1 := hx149_1
         have hw149_0 := hx149_0
         cases e149
         replace hx149_0 := (HB.out.cell (World.block_lt_of_cell? w _ hx149_0)).trans hx149_0
         replace hx149_1 := (HB.out.cell (World.block_lt_of_cell? w _ hx149_1)).trans hx149_1
         replace p149 := eq_true p149
         replace q149 := eq_true q149
         have p151 : 0 ≤ (x3_1 : Int) := of_decide_eq_true zq11_1
         have q151 : x3_1 < (l0.length : Int) := of_decide_eq_true zq11_1
         obtain ⟨ad151, e151, hx151_0, hx151_1⟩ := at_T33 HR0.out x3_1 p151 q151
         have hw151_1 := hx151_1
         have hw151_0 := hx151_0
         obtain rfl : ad149 = ad151 := (by injection e151)
         replace hx151_0 := (HB.out.cell (World.block_lt_of_cell? w _ hx151_0)).trans hx151_0
         replace hx151_1 := (HB.out.cell (World.block_lt_of_cell? w _ hx151_1)).trans hx151_1
         replace p151 := eq_true p151
         replace q151 := eq_true q151
         have p152 : 0 ≤ (x3_1 : Int) := of_decide_eq_true zq11_1
         have q152 : x3_1 < (l0.length : Int) := of_decide_eq_true zq11_1
         obtain ⟨ad152, e152, hx152_0, hx152_1⟩ := at_T33 HR0.out x3_1 p152 q152
         have hw152_1 := hx152_1
         have hw152_0 := hx152_0
         obtain rfl : ad149 = ad152 := (by injection e152)
         replace hx152_0 := (HB.out.cell (World.block_lt_of_cell? w _ hx152_0)).trans hx152_0
         replace hx152_1 := (HB.out.cell (World.block_lt_of_cell? w _ hx152_1)).trans hx152_1
         replace p152 := eq_true p152
         replace q152 := eq_true q152
         refine start_ (n := 42) (S := fun w' => w'.cell? (ad149.add ((x3_1).toNat * 2)) = some (.string ((rd_T33 l0 x3_1).f0)) ∧ w'.cell? ⟨(ad149.add ((x3_1).toNat * 2)).block, (ad149.add ((x3_1).toNat * 2)).off + 1, none⟩ = some (.int .i64 ((rd_T33 l0 x3_1).f1)) ∧ w'.cell? (ad149.add ((x3_1).toNat * 2)) = some (.string ((rd_T33 l0 x3_1).f0)) ∧ w'.cell? ⟨(ad149.add ((x3_1).toNat * 2)).block, (ad149.add ((x3_1).toNat * 2)).off + 1, none⟩ = some (.int .i64 ((rd_T33 l0 x3_1).f1)) ∧ w'.cell? (ad149.add ((x3_1).toNat * 2)) = some (.string ((rd_T33 l0 x3_1).f0)) ∧ w'.cell? ⟨(ad149.add ((x3_1).toNat * 2)).block, (ad149.add ((x3_1).toNat * 2)).off + 1, none⟩ = some (.int .i64 ((rd_T33 l0 x3_1).f1))) (ds := []) #[bF11, bF11, bF11, bF11, bF11, bF11, bF11, bF11, bF11, bF11, bF11, bF11, bF11, bF11, bF11, bF11, bF11, bF11, bF11, bF11, bF11, bF11, bF11, bF11, bF11, bF11, bF11, bF11, bF11, bF11, bF11, bF11, bF11, bF11, bF11, bF11, bF11, bF11, bF11, bF11, bF11, bF11] (by kernel_rfl) rfl rfl ⟨((HB.out.cell (World.block_lt_of_cell? w _ hw149_0)).trans hw149_0), ((HB.out.cell (World.block_lt_of_cell? w _ hw149_1)).trans hw149_1), ((HB.out.cell (World.block_lt_of_cell? w _ hw151_0)).trans hw151_0), ((HB.out.cell (World.block_lt_of_cell? w _ hw151_1)).trans hw151_1), ((HB.out.cell (World.block_lt_of_cell? w _ hw152_0)).trans hw152_0), ((HB.out.cell (World.block_lt_of_cell? w _ hw152_1)).trans hw152_1)⟩ (fun hHeld => ?_); refine with_tabW cenotaphref03_Right.tab4 cenotaphref03_Right.bits4 (fun HT_ HW_ => ?_)
         generalize wr.drew = w18 at HB hx149_0 hx149_1 hx151_0 hx151_1 hx152_0 hx152_1 hHeld ⊢
         refine pure_ (i := 0) (N := some 10) (v := ?_) (a' := ?_) #[bT11, bF11, bF11, bF11, bF11, bF11, bF11, bF11, bF11, bF11, bF11, bF11, bF11, bF11, bF11, bF11, bF11, bF11, bF11, bF11, bF11, bF11, bF11, bF11, bF11, bF11, bF11, bF11, bF11, bF11, bF11, bF11, bF11, bF11, bF11, bF11, bF11, bF11, bF11, bF11, bF11, bF11] rfl rfl (any_of HT_.out (by kernel_rfl)) (fun _ _ _ h => h) (Or.inl ⟨by rfl, ?_⟩) ?_ ?_
         rotate_left
         ·intro w'
          go_simp
          with_reducible rfl
         rotate_left
         ·simp only [Act.put, List.setIfInBounds_toArray, List.set_cons_zero, List.set_cons_succ, i64_w, i32_w]
          rfl
         refine pure_ (i := 1) (N := some 11) (v := ?_) (a' := ?_) #[bT11, bT11, bF11, bF11, bF11, bF11, bF11, bF11, bF11, bF11, bF11, bF11, bF11, bF11, bF11, bF11, bF11, bF11, bF11, bF11, bF11, bF11, bF11, bF11, bF11, bF11, bF11, bF11, bF11, bF11, bF11, bF11, bF11, bF11, bF11, bF11, bF11, bF11, bF11, bF11, bF11, bF11] rfl rfl (any_of HT_.out (by kernel_rfl)) (fun _ _ _ h => h) (Or.inl ⟨by rfl, ?_⟩) ?_ ?_
         rotate_left
         ·intro w'
          go_simp
          with_reducible rfl
         rotate_left
         ·simp only [Act.put, List.setIfInBounds_toArray, List.set_cons_zero, List.set_cons_succ, i64_w, i32_w]
          rfl
         refine pure_ (i := 2) (N := some 12) (v := ?_) (a' := ?_) #[bT11, bT11, bT11, bF11, bF11, bF11, bF11, bF11, bF11, bF11, bF11, bF11, bF11, bF11, bF11, bF11, bF11, bF11, bF11, bF11, bF11, bF11, bF11, bF11, bF11, bF11, bF11, bF11, bF11, bF11, bF11, bF11, bF11, bF11, bF11, bF11, bF11, bF11, bF11, bF11, bF11, bF11] rfl rfl (any_of HT_.out (by kernel_rfl)) (fun _ _ _ h => h) (Or.inl ⟨by rfl, ?_⟩) ?_ ?_
         rotate_left
         ·intro w'
          go_simp
          with_reducible rfl
         rotate_left
         ·simp only [Act.put, List.setIfInBounds_toArray, List.set_cons_zero, List.set_cons_succ, i64_w, i32_w]
          rfl
         refine pure_ (i := 3) (N := some 13) (v := ?_) (a' := ?_) #[bT11, bT11, bT11, bT11, bF11, bF11, bF11, bF11, bF11, bF11, bF11, bF11, bF11, bF11, bF11, bF11, bF11, bF11, bF11, bF11, bF11, bF11, bF11, bF11, bF11, bF11, bF11, bF11, bF11, bF11, bF11, bF11, bF11, bF11, bF11, bF11, bF11, bF11, bF11, bF11, bF11, bF11] rfl rfl (any_of HT_.out (by kernel_rfl)) (fun _ _ _ h => h) (Or.inl ⟨by rfl, ?_⟩) ?_ ?_
         rotate_left
         ·intro w'
          go_simp
          with_reducible rfl
         rotate_left
         ·simp only [Act.put, List.setIfInBounds_toArray, List.set_cons_zero, List.set_cons_succ, i64_w, i32_w]
          rfl
         refine take_ (i := 4) (N := some 14) (v := ?_) (a' := ?_) #[bT11, bT11, bT11, bT11, bT11, bF11, bF11, bF11, bF11, bF11, bF11, bF11, bF11, bF11, bF11, bF11, bF11, bF11, bF11, bF11, bF11, bF11, bF11, bF11, bF11, bF11, bF11, bF11, bF11, bF11, bF11, bF11, bF11, bF11, bF11, bF11, bF11, bF11, bF11, bF11, bF11, bF11] rfl rfl (take_ofW HT_.out HW_.out (by kernel_rfl)) (fun _ _ _ h => h) (Or.inl ⟨by rfl, ?_⟩) hHeld ?_ ?_
         rotate_left
         ·rintro w' ⟨s0, s1, s2, s3, s4, s5⟩
          go_simp
          with_reducible rfl
         rotate_left
         ·simp only [Act.put, List.setIfInBounds_toArray, List.set_cons_zero, List.set_cons_succ, i64_w, i32_w]
          rfl
         refine one_ (i := 5) (N := some 15) #[bT11, bT11, bT11, bT11, bT11, bT11, bF11, bF11, bF11, bF11, bF11, bF11, bF11, bF11, bF11, bF11, bF11, bF11, bF11, bF11, bF11, bF11, bF11, bF11, bF11, bF11, bF11, bF11, bF11, bF11, bF11, bF11, bF11, bF11, bF11, bF11, bF11, bF11, bF11, bF11, bF11, bF11] rfl rfl (one_of HT_.out (by kernel_rfl)) (by decide) (fun K hK => ?_)
         refine goes_ Try.func30 (by kernel_rfl) rfl #[.string ((rd_T33 l0 x3_1).f0)] (by rfl) rfl rfl zq11_0 ?_
         with_reducible refine (cenotaphref01_Right.calls k1 ((rd_T33 l0 x3_1).f0) true _ A4.out).mono ?_
         rintro e w' ⟨rfl, ⟨nd, rfl⟩⟩
         refine ⟨_, rfl, ?_⟩
         refine hK.out _ _ ⟨((HB.out.cell (World.block_lt_of_cell? w _ hw149_0)).trans hw149_0), ((HB.out.cell (World.block_lt_of_cell? w _ hw149_1)).trans hw149_1), ((HB.out.cell (World.block_lt_of_cell? w _ hw151_0)).trans hw151_0), ((HB.out.cell (World.block_lt_of_cell? w _ hw151_1)).trans hw151_1), ((HB.out.cell (World.block_lt_of_cell? w _ hw152_0)).trans hw152_0), ((HB.out.cell (World.block_lt_of_cell? w _ hw152_1)).trans hw152_1)⟩ (fun hHeld => ?_)
         clear hK K
         refine norm_ (a' := ?_) ?_ ?_
         rotate_left
         ·show Act.put _ (some 15) _ = _
          simp only [Act.put, List.setIfInBounds_toArray, List.set_cons_zero, List.set_cons_succ, i64_w, i32_w]
          rfl
         refine pure_ (i := 6) (N := some 16) (v := ?_) (a' := ?_) #[bT11, bT11, bT11, bT11, bT11, bT11, bT11, bF11, bF11, bF11, bF11, bF11, bF11, bF11, bF11, bF11, bF11, bF11, bF11, bF11, bF11, bF11, bF11, bF11, bF11, bF11, bF11, bF11, bF11, bF11, bF11, bF11, bF11, bF11, bF11, bF11, bF11, bF11, bF11, bF11, bF11, bF11] rfl rfl (any_of HT_.out (by kernel_rfl)) (fun _ _ _ h => h) (Or.inl ⟨by rfl, ?_⟩) ?_ ?_
         rotate_left
         ·intro w'
          go_simp
          with_reducible rfl
         rotate_left
         ·simp only [Act.put, List.setIfInBounds_toArray, List.set_cons_zero, List.set_cons_succ, i64_w, i32_w]
          rfl
         refine pure_ (i := 7) (N := some 17) (v := ?_) (a' := ?_) #[bT11, bT11, bT11, bT11, bT11, bT11, bT11, bT11, bF11, bF11, bF11, bF11, bF11, bF11, bF11, bF11, bF11, bF11, bF11, bF11, bF11, bF11, bF11, bF11, bF11, bF11, bF11, bF11, bF11, bF11, bF11, bF11, bF11, bF11, bF11, bF11, bF11, bF11, bF11, bF11, bF11, bF11] rfl rfl (any_of HT_.out (by kernel_rfl)) (fun _ _ _ h => h) (Or.inl ⟨by rfl, ?_⟩) ?_ ?_
         rotate_left
         ·intro w'
          go_simp
          with_reducible rfl
         rotate_left
         ·simp only [Act.put, List.setIfInBounds_toArray, List.set_cons_zero, List.set_cons_succ, i64_w, i32_w]
          rfl
         refine pure_ (i := 8) (N := some 18) (v := ?_) (a' := ?_) #[bT11, bT11, bT11, bT11, bT11, bT11, bT11, bT11, bT11, bF11, bF11, bF11, bF11, bF11, bF11, bF11, bF11, bF11, bF11, bF11, bF11, bF11, bF11, bF11, bF11, bF11, bF11, bF11, bF11, bF11, bF11, bF11, bF11, bF11, bF11, bF11, bF11, bF11, bF11, bF11, bF11, bF11] rfl rfl (any_of HT_.out (by kernel_rfl)) (fun _ _ _ h => h) (Or.inl ⟨by rfl, ?_⟩) ?_ ?_
         rotate_left
         ·intro w'
          go_simp
          with_reducible rfl
         rotate_left
         ·simp only [Act.put, List.setIfInBounds_toArray, List.set_cons_zero, List.set_cons_succ, i64_w, i32_w]
          rfl
         refine pure_ (i := 9) (N := some 19) (v := ?_) (a' := ?_) #[bT11, bT11, bT11, bT11, bT11, bT11, bT11, bT11, bT11, bT11, bF11, bF11, bF11, bF11, bF11, bF11, bF11, bF11, bF11, bF11, bF11, bF11, bF11, bF11, bF11, bF11, bF11, bF11, bF11, bF11, bF11, bF11, bF11, bF11, bF11, bF11, bF11, bF11, bF11, bF11, bF11, bF11] rfl rfl (any_of HT_.out (by kernel_rfl)) (fun _ _ _ h => h) (Or.inl ⟨by rfl, ?_⟩) ?_ ?_
         rotate_left
         ·intro w'
          go_simp
          with_reducible rfl
         rotate_left
         ·simp only [Act.put, List.setIfInBounds_toArray, List.set_cons_zero, List.set_cons_succ, i64_w, i32_w]
          rfl
         refine pure_ (i := 10) (N := some 20) (v := ?_) (a' := ?_) #[bT11, bT11, bT11, bT11, bT11, bT11, bT11, bT11, bT11, bT11, bT11, bF11, bF11, bF11, bF11, bF11, bF11, bF11, bF11, bF11, bF11, bF11, bF11, bF11, bF11, bF11, bF11, bF11, bF11, bF11, bF11, bF11, bF11, bF11, bF11, bF11, bF11, bF11, bF11, bF11, bF11, bF11] rfl rfl (any_of HT_.out (by kernel_rfl)) (fun _ _ _ h => h) (Or.inl ⟨by rfl, ?_⟩) ?_ ?_
         rotate_left
         ·intro w'
          go_simp
          with_reducible rfl
         rotate_left
         ·simp only [Act.put, List.setIfInBounds_toArray, List.set_cons_zero, List.set_cons_succ, i64_w, i32_w]
          rfl
         refine pure_ (i := 11) (N := some 21) (v := ?_) (a' := ?_) #[bT11, bT11, bT11, bT11, bT11, bT11, bT11, bT11, bT11, bT11, bT11, bT11, bF11, bF11, bF11, bF11, bF11, bF11, bF11, bF11, bF11, bF11, bF11, bF11, bF11, bF11, bF11, bF11, bF11, bF11, bF11, bF11, bF11, bF11, bF11, bF11, bF11, bF11, bF11, bF11, bF11, bF11] rfl rfl (any_of HT_.out (by kernel_rfl)) (fun _ _ _ h => h) (Or.inl ⟨by rfl, ?_⟩) ?_ ?_
         rotate_left
         ·intro w'
          go_simp
          with_reducible rfl
         rotate_left
         ·simp only [Act.put, List.setIfInBounds_toArray, List.set_cons_zero, List.set_cons_succ, i64_w, i32_w]
          rfl
         refine take_ (i := 12) (N := some 22) (v := ?_) (a' := ?_) #[bT11, bT11, bT11, bT11, bT11, bT11, bT11, bT11, bT11, bT11, bT11, bT11, bT11, bF11, bF11, bF11, bF11, bF11, bF11, bF11, bF11, bF11, bF11, bF11, bF11, bF11, bF11, bF11, bF11, bF11, bF11, bF11, bF11, bF11, bF11, bF11, bF11, bF11, bF11, bF11, bF11, bF11] rfl rfl (take_ofW HT_.out HW_.out (by kernel_rfl)) (fun _ _ _ h => h) (Or.inl ⟨by rfl, ?_⟩) hHeld ?_ ?_
         rotate_left
         ·rintro w' ⟨s0, s1, s2, s3, s4, s5⟩
          go_simp
          with_reducible rfl
         rotate_left
         ·simp only [Act.put, List.setIfInBounds_toArray, List.set_cons_zero, List.set_cons_succ, i64_w, i32_w]
          rfl
         refine pure_ (i := 13) (N := some 23) (v := ?_) (a' := ?_) #[bT11, bT11, bT11, bT11, bT11, bT11, bT11, bT11, bT11, bT11, bT11, bT11, bT11, bT11, bF11, bF11, bF11, bF11, bF11, bF11, bF11, bF11, bF11, bF11, bF11, bF11, bF11, bF11, bF11, bF11, bF11, bF11, bF11, bF11, bF11, bF11, bF11, bF11, bF11, bF11, bF11, bF11] rfl rfl (any_of HT_.out (by kernel_rfl)) (fun _ _ _ h => h) (Or.inl ⟨by rfl, ?_⟩) ?_ ?_
         rotate_left
         ·intro w'
          go_simp
          with_reducible rfl
         rotate_left
         ·simp only [Act.put, List.setIfInBounds_toArray, List.set_cons_zero, List.set_cons_succ, i64_w, i32_w]
          rfl
         refine pure_ (i := 14) (N := some 24) (v := ?_) (a' := ?_) #[bT11, bT11, bT11, bT11, bT11, bT11, bT11, bT11, bT11, bT11, bT11, bT11, bT11, bT11, bT11, bF11, bF11, bF11, bF11, bF11, bF11, bF11, bF11, bF11, bF11, bF11, bF11, bF11, bF11, bF11, bF11, bF11, bF11, bF11, bF11, bF11, bF11, bF11, bF11, bF11, bF11, bF11] rfl rfl (any_of HT_.out (by kernel_rfl)) (fun _ _ _ h => h) (Or.inl ⟨by rfl, ?_⟩) ?_ ?_
         rotate_left
         ·intro w'
          go_simp
          with_reducible rfl
         rotate_left
         ·simp only [Act.put, List.setIfInBounds_toArray, List.set_cons_zero, List.set_cons_succ, i64_w, i32_w]
          rfl
         refine pure_ (i := 15) (N := some 25) (v := ?_) (a' := ?_) #[bT11, bT11, bT11, bT11, bT11, bT11, bT11, bT11, bT11, bT11, bT11, bT11, bT11, bT11, bT11, bT11, bF11, bF11, bF11, bF11, bF11, bF11, bF11, bF11, bF11, bF11, bF11, bF11, bF11, bF11, bF11, bF11, bF11, bF11, bF11, bF11, bF11, bF11, bF11, bF11, bF11, bF11] rfl rfl (any_of HT_.out (by kernel_rfl)) (fun _ _ _ h => h) (Or.inl ⟨by rfl, ?_⟩) ?_ ?_
         rotate_left
         ·intro w'
          go_simp
          with_reducible rfl
         rotate_left
         ·simp only [Act.put, List.setIfInBounds_toArray, List.set_cons_zero, List.set_cons_succ, i64_w, i32_w]
          rfl
         refine pure_ (i := 16) (N := some 26) (v := ?_) (a' := ?_) #[bT11, bT11, bT11, bT11, bT11, bT11, bT11, bT11, bT11, bT11, bT11, bT11, bT11, bT11, bT11, bT11, bT11, bF11, bF11, bF11, bF11, bF11, bF11, bF11, bF11, bF11, bF11, bF11, bF11, bF11, bF11, bF11, bF11, bF11, bF11, bF11, bF11, bF11, bF11, bF11, bF11, bF11] rfl rfl (any_of HT_.out (by kernel_rfl)) (fun _ _ _ h => h) (Or.inl ⟨by rfl, ?_⟩) ?_ ?_
         rotate_left
         ·intro w'
          go_simp
          with_reducible rfl
         rotate_left
         ·simp only [Act.put, List.setIfInBounds_toArray, List.set_cons_zero, List.set_cons_succ, i64_w, i32_w]
          rfl
         refine pure_ (i := 17) (N := some 27) (v := ?_) (a' := ?_) #[bT11, bT11, bT11, bT11, bT11, bT11, bT11, bT11, bT11, bT11, bT11, bT11, bT11, bT11, bT11, bT11, bT11, bT11, bF11, bF11, bF11, bF11, bF11, bF11, bF11, bF11, bF11, bF11, bF11, bF11, bF11, bF11, bF11, bF11, bF11, bF11, bF11, bF11, bF11, bF11, bF11, bF11] rfl rfl (any_of HT_.out (by kernel_rfl)) (fun _ _ _ h => h) (Or.inl ⟨by rfl, ?_⟩) ?_ ?_
         rotate_left
         ·intro w'
          go_simp
          with_reducible rfl
         rotate_left
         ·simp only [Act.put, List.setIfInBounds_toArray, List.set_cons_zero, List.set_cons_succ, i64_w, i32_w]
          rfl
         refine pure_ (i := 18) (N := some 28) (v := ?_) (a' := ?_) #[bT11, bT11, bT11, bT11, bT11, bT11, bT11, bT11, bT11, bT11, bT11, bT11, bT11, bT11, bT11, bT11, bT11, bT11, bT11, bF11, bF11, bF11, bF11, bF11, bF11, bF11, bF11, bF11, bF11, bF11, bF11, bF11, bF11, bF11, bF11, bF11, bF11, bF11, bF11, bF11, bF11, bF11] rfl rfl (any_of HT_.out (by kernel_rfl)) (fun _ _ _ h => h) (Or.inl ⟨by rfl, ?_⟩) ?_ ?_
         rotate_left
         ·intro w'
          go_simp
          with_reducible rfl
         rotate_left
         ·simp only [Act.put, List.setIfInBounds_toArray, List.set_cons_zero, List.set_cons_succ, i64_w, i32_w]
          rfl
         refine pure_ (i := 19) (N := some 29) (v := ?_) (a' := ?_) #[bT11, bT11, bT11, bT11, bT11, bT11, bT11, bT11, bT11, bT11, bT11, bT11, bT11, bT11, bT11, bT11, bT11, bT11, bT11, bT11, bF11, bF11, bF11, bF11, bF11, bF11, bF11, bF11, bF11, bF11, bF11, bF11, bF11, bF11, bF11, bF11, bF11, bF11, bF11, bF11, bF11, bF11] rfl rfl (any_of HT_.out (by kernel_rfl)) (fun _ _ _ h => h) (Or.inl ⟨by rfl, ?_⟩) ?_ ?_
         rotate_left
         ·intro w'
          go_simp
          with_reducible rfl
         rotate_left
         ·simp only [Act.put, List.setIfInBounds_toArray, List.set_cons_zero, List.set_cons_succ, i64_w, i32_w]
          rfl
         refine take_ (i := 20) (N := some 30) (v := ?_) (a' := ?_) #[bT11, bT11, bT11, bT11, bT11, bT11, bT11, bT11, bT11, bT11, bT11, bT11, bT11, bT11, bT11, bT11, bT11, bT11, bT11, bT11, bT11, bF11, bF11, bF11, bF11, bF11, bF11, bF11, bF11, bF11, bF11, bF11, bF11, bF11, bF11, bF11, bF11, bF11, bF11, bF11, bF11, bF11] rfl rfl (take_ofW HT_.out HW_.out (by kernel_rfl)) (fun _ _ _ h => h) (Or.inl ⟨by rfl, ?_⟩) hHeld ?_ ?_
         rotate_left
         ·rintro w' ⟨s0, s1, s2, s3, s4, s5⟩
          go_simp
          with_reducible rfl
         rotate_left
         ·simp only [Act.put, List.setIfInBounds_toArray, List.set_cons_zero, List.set_cons_succ, i64_w, i32_w]
          rfl
         refine pure_ (i := 21) (N := some 31) (v := ?_) (a' := ?_) #[bT11, bT11, bT11, bT11, bT11, bT11, bT11, bT11, bT11, bT11, bT11, bT11, bT11, bT11, bT11, bT11, bT11, bT11, bT11, bT11, bT11, bT11, bF11, bF11, bF11, bF11, bF11, bF11, bF11, bF11, bF11, bF11, bF11, bF11, bF11, bF11, bF11, bF11, bF11, bF11, bF11, bF11] rfl rfl (any_of HT_.out (by kernel_rfl)) (fun _ _ _ h => h) (Or.inl ⟨by rfl, ?_⟩) ?_ ?_
         rotate_left
         ·intro w'
          go_simp
          with_reducible rfl
         rotate_left
         ·simp only [Act.put, List.setIfInBounds_toArray, List.set_cons_zero, List.set_cons_succ, i64_w, i32_w]
          rfl
         refine pure_ (i := 22) (N := some 32) (v := ?_) (a' := ?_) #[bT11, bT11, bT11, bT11, bT11, bT11, bT11, bT11, bT11, bT11, bT11, bT11, bT11, bT11, bT11, bT11, bT11, bT11, bT11, bT11, bT11, bT11, bT11, bF11, bF11, bF11, bF11, bF11, bF11, bF11, bF11, bF11, bF11, bF11, bF11, bF11, bF11, bF11, bF11, bF11, bF11, bF11] rfl rfl (any_of HT_.out (by kernel_rfl)) (fun _ _ _ h => h) (Or.inl ⟨by rfl, ?_⟩) ?_ ?_
         rotate_left
         ·intro w'
          go_simp
          with_reducible rfl
         rotate_left
         ·simp only [Act.put, List.setIfInBounds_toArray, List.set_cons_zero, List.set_cons_succ, i64_w, i32_w]
          rfl
         refine pure_ (i := 23) (N := some 33) (v := ?_) (a' := ?_) #[bT11, bT11, bT11, bT11, bT11, bT11, bT11, bT11, bT11, bT11, bT11, bT11, bT11, bT11, bT11, bT11, bT11, bT11, bT11, bT11, bT11, bT11, bT11, bT11, bF11, bF11, bF11, bF11, bF11, bF11, bF11, bF11, bF11, bF11, bF11, bF11, bF11, bF11, bF11, bF11, bF11, bF11] rfl rfl (any_of HT_.out (by kernel_rfl)) (fun _ _ _ h => h) (Or.inl ⟨by rfl, ?_⟩) ?_ ?_
         rotate_left
         ·intro w'
          go_simp
          with_reducible rfl
         rotate_left
         ·simp only [Act.put, List.setIfInBounds_toArray, List.set_cons_zero, List.set_cons_succ, i64_w, i32_w]
          rfl
         refine pure_ (i := 24) (N := some 34) (v := ?_) (a' := ?_) #[bT11, bT11, bT11, bT11, bT11, bT11, bT11, bT11, bT11, bT11, bT11, bT11, bT11, bT11, bT11, bT11, bT11, bT11, bT11, bT11, bT11, bT11, bT11, bT11, bT11, bF11, bF11, bF11, bF11, bF11, bF11, bF11, bF11, bF11, bF11, bF11, bF11, bF11, bF11, bF11, bF11, bF11] rfl rfl (any_of HT_.out (by kernel_rfl)) (fun _ _ _ h => h) (Or.inl ⟨by rfl, ?_⟩) ?_ ?_
         rotate_left
         ·intro w'
          go_simp
          with_reducible rfl
         rotate_left
         ·simp only [Act.put, List.setIfInBounds_toArray, List.set_cons_zero, List.set_cons_succ, i64_w, i32_w]
          rfl
         refine pure_ (i := 25) (N := some 35) (v := ?_) (a' := ?_) #[bT11, bT11, bT11, bT11, bT11, bT11, bT11, bT11, bT11, bT11, bT11, bT11, bT11, bT11, bT11, bT11, bT11, bT11, bT11, bT11, bT11, bT11, bT11, bT11, bT11, bT11, bF11, bF11, bF11, bF11, bF11, bF11, bF11, bF11, bF11, bF11, bF11, bF11, bF11, bF11, bF11, bF11] rfl rfl (any_of HT_.out (by kernel_rfl)) (fun _ _ _ h => h) (Or.inl ⟨by rfl, ?_⟩) ?_ ?_
         rotate_left
         ·intro w'
          go_simp
          with_reducible rfl
         rotate_left
         ·simp only [Act.put, List.setIfInBounds_toArray, List.set_cons_zero, List.set_cons_succ, i64_w, i32_w]
          rfl
         refine pure_ (i := 26) (N := some 36) (v := ?_) (a' := ?_) #[bT11, bT11, bT11, bT11, bT11, bT11, bT11, bT11, bT11, bT11, bT11, bT11, bT11, bT11, bT11, bT11, bT11, bT11, bT11, bT11, bT11, bT11, bT11, bT11, bT11, bT11, bT11, bF11, bF11, bF11, bF11, bF11, bF11, bF11, bF11, bF11, bF11, bF11, bF11, bF11, bF11, bF11] rfl rfl (any_of HT_.out (by kernel_rfl)) (fun _ _ _ h => h) (Or.inl ⟨by rfl, ?_⟩) ?_ ?_
         rotate_left
         ·intro w'
          go_simp
          with_reducible rfl
         rotate_left
         ·simp only [Act.put, List.setIfInBounds_toArray, List.set_cons_zero, List.set_cons_succ, i64_w, i32_w]
          rfl
         refine pure_ (i := 27) (N := some 37) (v := undef) (a' := ?_) #[bT11, bT11, bT11, bT11, bT11, bT11, bT11, bT11, bT11, bT11, bT11, bT11, bT11, bT11, bT11, bT11, bT11, bT11, bT11, bT11, bT11, bT11, bT11, bT11, bT11, bT11, bT11, bT11, bF11, bF11, bF11, bF11, bF11, bF11, bF11, bF11, bF11, bF11, bF11, bF11, bF11, bF11] rfl rfl (any_of HT_.out (by kernel_rfl)) (fun _ _ _ h => h) (Or.inr ⟨by rfl, rfl⟩) ?_ ?_
         rotate_left
         ·simp only [Act.put, List.setIfInBounds_toArray, List.set_cons_zero, List.set_cons_succ, i64_w, i32_w]
          rfl
         refine pure_ (i := 28) (N := some 38) (v := undef) (a' := ?_) #[bT11, bT11, bT11, bT11, bT11, bT11, bT11, bT11, bT11, bT11, bT11, bT11, bT11, bT11, bT11, bT11, bT11, bT11, bT11, bT11, bT11, bT11, bT11, bT11, bT11, bT11, bT11, bT11, bT11, bF11, bF11, bF11, bF11, bF11, bF11, bF11, bF11, bF11, bF11, bF11, bF11, bF11] rfl rfl (any_of HT_.out (by kernel_rfl)) (fun _ _ _ h => h) (Or.inr ⟨by rfl, rfl⟩) ?_ ?_
         rotate_left
         ·simp only [Act.put, List.setIfInBounds_toArray, List.set_cons_zero, List.set_cons_succ, i64_w, i32_w]
          rfl
         refine pure_ (i := 29) (N := some 39) (v := undef) (a' := ?_) #[bT11, bT11, bT11, bT11, bT11, bT11, bT11, bT11, bT11, bT11, bT11, bT11, bT11, bT11, bT11, bT11, bT11, bT11, bT11, bT11, bT11, bT11, bT11, bT11, bT11, bT11, bT11, bT11, bT11, bT11, bF11, bF11, bF11, bF11, bF11, bF11, bF11, bF11, bF11, bF11, bF11, bF11] rfl rfl (any_of HT_.out (by kernel_rfl)) (fun _ _ _ h => h) (Or.inr ⟨by rfl, rfl⟩) ?_ ?_
         rotate_left
         ·simp only [Act.put, List.setIfInBounds_toArray, List.set_cons_zero, List.set_cons_succ, i64_w, i32_w]
          rfl
         refine pure_ (i := 30) (N := some 40) (v := undef) (a' := ?_) #[bT11, bT11, bT11, bT11, bT11, bT11, bT11, bT11, bT11, bT11, bT11, bT11, bT11, bT11, bT11, bT11, bT11, bT11, bT11, bT11, bT11, bT11, bT11, bT11, bT11, bT11, bT11, bT11, bT11, bT11, bT11, bF11, bF11, bF11, bF11, bF11, bF11, bF11, bF11, bF11, bF11, bF11] rfl rfl (any_of HT_.out (by kernel_rfl)) (fun _ _ _ h => h) (Or.inr ⟨by rfl, rfl⟩) ?_ ?_
         rotate_left
         ·simp only [Act.put, List.setIfInBounds_toArray, List.set_cons_zero, List.set_cons_succ, i64_w, i32_w]
          rfl
         refine pure_ (i := 31) (N := some 41) (v := undef) (a' := ?_) #[bT11, bT11, bT11, bT11, bT11, bT11, bT11, bT11, bT11, bT11, bT11, bT11, bT11, bT11, bT11, bT11, bT11, bT11, bT11, bT11, bT11, bT11, bT11, bT11, bT11, bT11, bT11, bT11, bT11, bT11, bT11, bT11, bF11, bF11, bF11, bF11, bF11, bF11, bF11, bF11, bF11, bF11] rfl rfl (any_of HT_.out (by kernel_rfl)) (fun _ _ _ h => h) (Or.inr ⟨by rfl, rfl⟩) ?_ ?_
         rotate_left
         ·simp only [Act.put, List.setIfInBounds_toArray, List.set_cons_zero, List.set_cons_succ, i64_w, i32_w]
          rfl
         refine pure_ (i := 32) (N := some 42) (v := undef) (a' := ?_) #[bT11, bT11, bT11, bT11, bT11, bT11, bT11, bT11, bT11, bT11, bT11, bT11, bT11, bT11, bT11, bT11, bT11, bT11, bT11, bT11, bT11, bT11, bT11, bT11, bT11, bT11, bT11, bT11, bT11, bT11, bT11, bT11, bT11, bF11, bF11, bF11, bF11, bF11, bF11, bF11, bF11, bF11] rfl rfl (any_of HT_.out (by kernel_rfl)) (fun _ _ _ h => h) (Or.inr ⟨by rfl, rfl⟩) ?_ ?_
         rotate_left
         ·simp only [Act.put, List.setIfInBounds_toArray, List.set_cons_zero, List.set_cons_succ, i64_w, i32_w]
          rfl
         refine pure_ (i := 33) (N := some 43) (v := undef) (a' := ?_) #[bT11, bT11, bT11, bT11, bT11, bT11, bT11, bT11, bT11, bT11, bT11, bT11, bT11, bT11, bT11, bT11, bT11, bT11, bT11, bT11, bT11, bT11, bT11, bT11, bT11, bT11, bT11, bT11, bT11, bT11, bT11, bT11, bT11, bT11, bF11, bF11, bF11, bF11, bF11, bF11, bF11, bF11] rfl rfl (any_of HT_.out (by kernel_rfl)) (fun _ _ _ h => h) (Or.inr ⟨by rfl, rfl⟩) ?_ ?_
         rotate_left
         ·simp only [Act.put, List.setIfInBounds_toArray, List.set_cons_zero, List.set_cons_succ, i64_w, i32_w]
          rfl
         refine pure_ (i := 34) (N := some 44) (v := undef) (a' := ?_) #[bT11, bT11, bT11, bT11, bT11, bT11, bT11, bT11, bT11, bT11, bT11, bT11, bT11, bT11, bT11, bT11, bT11, bT11, bT11, bT11, bT11, bT11, bT11, bT11, bT11, bT11, bT11, bT11, bT11, bT11, bT11, bT11, bT11, bT11, bT11, bF11, bF11, bF11, bF11, bF11, bF11, bF11] rfl rfl (any_of HT_.out (by kernel_rfl)) (fun _ _ _ h => h) (Or.inr ⟨by rfl, rfl⟩) ?_ ?_
         rotate_left
         ·simp only [Act.put, List.setIfInBounds_toArray, List.set_cons_zero, List.set_cons_succ, i64_w, i32_w]
          rfl
         refine pure_ (i := 35) (N := some 45) (v := undef) (a' := ?_) #[bT11, bT11, bT11, bT11, bT11, bT11, bT11, bT11, bT11, bT11, bT11, bT11, bT11, bT11, bT11, bT11, bT11, bT11, bT11, bT11, bT11, bT11, bT11, bT11, bT11, bT11, bT11, bT11, bT11, bT11, bT11, bT11, bT11, bT11, bT11, bT11, bF11, bF11, bF11, bF11, bF11, bF11] rfl rfl (any_of HT_.out (by kernel_rfl)) (fun _ _ _ h => h) (Or.inr ⟨by rfl, rfl⟩) ?_ ?_
         rotate_left
         ·simp only [Act.put, List.setIfInBounds_toArray, List.set_cons_zero, List.set_cons_succ, i64_w, i32_w]
          rfl
         refine pure_ (i := 36) (N := some 46) (v := undef) (a' := ?_) #[bT11, bT11, bT11, bT11, bT11, bT11, bT11, bT11, bT11, bT11, bT11, bT11, bT11, bT11, bT11, bT11, bT11, bT11, bT11, bT11, bT11, bT11, bT11, bT11, bT11, bT11, bT11, bT11, bT11, bT11, bT11, bT11, bT11, bT11, bT11, bT11, bT11, bF11, bF11, bF11, bF11, bF11] rfl rfl (any_of HT_.out (by kernel_rfl)) (fun _ _ _ h => h) (Or.inr ⟨by rfl, rfl⟩) ?_ ?_
         rotate_left
         ·simp only [Act.put, List.setIfInBounds_toArray, List.set_cons_zero, List.set_cons_succ, i64_w, i32_w]
          rfl
         refine pure_ (i := 37) (N := some 47) (v := undef) (a' := ?_) #[bT11, bT11, bT11, bT11, bT11, bT11, bT11, bT11, bT11, bT11, bT11, bT11, bT11, bT11, bT11, bT11, bT11, bT11, bT11, bT11, bT11, bT11, bT11, bT11, bT11, bT11, bT11, bT11, bT11, bT11, bT11, bT11, bT11, bT11, bT11, bT11, bT11, bT11, bF11, bF11, bF11, bF11] rfl rfl (any_of HT_.out (by kernel_rfl)) (fun _ _ _ h => h) (Or.inr ⟨by rfl, rfl⟩) ?_ ?_
         rotate_left
         ·simp only [Act.put, List.setIfInBounds_toArray, List.set_cons_zero, List.set_cons_succ, i64_w, i32_w]
          rfl
         refine pure_ (i := 38) (N := some 48) (v := undef) (a' := ?_) #[bT11, bT11, bT11, bT11, bT11, bT11, bT11, bT11, bT11, bT11, bT11, bT11, bT11, bT11, bT11, bT11, bT11, bT11, bT11, bT11, bT11, bT11, bT11, bT11, bT11, bT11, bT11, bT11, bT11, bT11, bT11, bT11, bT11, bT11, bT11, bT11, bT11, bT11, bT11, bF11, bF11, bF11] rfl rfl (any_of HT_.out (by kernel_rfl)) (fun _ _ _ h => h) (Or.inr ⟨by rfl, rfl⟩) ?_ ?_
         rotate_left
         ·simp only [Act.put, List.setIfInBounds_toArray, List.set_cons_zero, List.set_cons_succ, i64_w, i32_w]
          rfl
         refine pure_ (i := 39) (N := some 49) (v := undef) (a' := ?_) #[bT11, bT11, bT11, bT11, bT11, bT11, bT11, bT11, bT11, bT11, bT11, bT11, bT11, bT11, bT11, bT11, bT11, bT11, bT11, bT11, bT11, bT11, bT11, bT11, bT11, bT11, bT11, bT11, bT11, bT11, bT11, bT11, bT11, bT11, bT11, bT11, bT11, bT11, bT11, bT11, bF11, bF11] rfl rfl (any_of HT_.out (by kernel_rfl)) (fun _ _ _ h => h) (Or.inr ⟨by rfl, rfl⟩) ?_ ?_
         rotate_left
         ·simp only [Act.put, List.setIfInBounds_toArray, List.set_cons_zero, List.set_cons_succ, i64_w, i32_w]
          rfl
         refine pure_ (i := 40) (N := some 50) (v := ?_) (a' := ?_) #[bT11, bT11, bT11, bT11, bT11, bT11, bT11, bT11, bT11, bT11, bT11, bT11, bT11, bT11, bT11, bT11, bT11, bT11, bT11, bT11, bT11, bT11, bT11, bT11, bT11, bT11, bT11, bT11, bT11, bT11, bT11, bT11, bT11, bT11, bT11, bT11, bT11, bT11, bT11, bT11, bT11, bF11] rfl rfl (any_of HT_.out (by kernel_rfl)) (fun _ _ _ h => h) (Or.inl ⟨by rfl, ?_⟩) ?_ ?_
         rotate_left
         ·intro w'
          go_simp
          with_reducible rfl
         rotate_left
         ·simp only [Act.put, List.setIfInBounds_toArray, List.set_cons_zero, List.set_cons_succ, i64_w, i32_w]
          rfl
         refine pure_ (i := 41) (N := some 51) (v := ?_) (a' := ?_) #[bT11, bT11, bT11, bT11, bT11, bT11, bT11, bT11, bT11, bT11, bT11, bT11, bT11, bT11, bT11, bT11, bT11, bT11, bT11, bT11, bT11, bT11, bT11, bT11, bT11, bT11, bT11, bT11, bT11, bT11, bT11, bT11, bT11, bT11, bT11, bT11, bT11, bT11, bT11, bT11, bT11, bT11] rfl rfl (any_of HT_.out (by kernel_rfl)) (fun _ _ _ h => h) (Or.inl ⟨by rfl, ?_⟩) ?_ ?_
         rotate_left
         ·intro w'
          go_simp
          with_reducible rfl
         rotate_left
         ·simp only [Act.put, List.setIfInBounds_toArray, List.set_cons_zero, List.set_cons_succ, i64_w, i32_w]
          rfl
         refine done_ (done_of HT_.out (by kernel_rfl)) ?_
         try go_wp2
         go_roundg k1
         case measure => have := HK1.out; omega
         case rel => exact ⟨(wrap64 (x3_1 + 1)), zq11_2, H', ⟨by have := HK1.out; omega⟩, ⟨by repeat (first | (with_reducible first | exact HB.out | apply below_alloc | apply pw_below_drewN | apply below_drew1) | exact HB.out)⟩⟩
     ·replace c5 := Bool.eq_false_iff.mpr c5
      subst c5
      have H1 : (some false) = some r := by rw [if_neg (show ¬ (false = true) by decide)] at H; exact H
      clear H
      have H := H1
      clear H1
      obtain rfl := Option.some.inj H
      try go_wp2
      replace HB := Aside0.mk (below_drew1 HB.out)
      have p149 : 0 ≤ (x3_1 : Int) := of_decide_eq_true zq11_1
      have q149 : x3_1 < (l0.length : Int) := of_decide_eq_true zq11_1
      obtain ⟨ad149, e149, hx149_0, hx149_1⟩ := at_T33 HR0.out x3_1 p149 q149
      have hw149_1 := hx149_1
      have hw149_0 := hx149_0
      cases e149
      replace hx149_0 := (HB.out.cell (World.block_lt_of_cell? w _ hx149_0)).trans hx149_0
      replace hx149_1 := (HB.out.cell (World.block_lt_of_cell? w _ hx149_1)).trans hx149_1
      replace p149 := eq_true p149
      replace q149 := eq_true q149
      refine start_ (n := 42) (S := fun w' => w'.cell? (ad149.add ((x3_1).toNat * 2)) = some (.string ((rd_T33 l0 x3_1).f0)) ∧ w'.cell? ⟨(ad149.add ((x3_1).toNat * 2)).block, (ad149.add ((x3_1).toNat * 2)).off + 1, none⟩ = some (.int .i64 ((rd_T33 l0 x3_1).f1))) (ds := []) #[bF11, bF11, bF11, bF11, bF11, bF11, bF11, bF11, bF11, bF11, bF11, bF11, bF11, bF11, bF11, bF11, bF11, bF11, bF11, bF11, bF11, bF11, bF11, bF11, bF11, bF11, bF11, bF11, bF11, bF11, bF11, bF11, bF11, bF11, bF11, bF11, bF11, bF11, bF11, bF11, bF11, bF11] (by kernel_rfl) rfl rfl ⟨((HB.out.cell (World.block_lt_of_cell? w _ hw149_0)).trans hw149_0), ((HB.out.cell (World.block_lt_of_cell? w _ hw149_1)).trans hw149_1)⟩ (fun hHeld => ?_); refine with_tabW cenotaphref03_Right.tab4 cenotaphref03_Right.bits4 (fun HT_ HW_ => ?_)
      generalize wr.drew = w19 at HB hx149_0 hx149_1 hHeld ⊢
      refine pure_ (i := 0) (N := some 10) (v := ?_) (a' := ?_) #[bT11, bF11, bF11, bF11, bF11, bF11, bF11, bF11, bF11, bF11, bF11, bF11, bF11, bF11, bF11, bF11, bF11, bF11, bF11, bF11, bF11, bF11, bF11, bF11, bF11, bF11, bF11, bF11, bF11, bF11, bF11, bF11, bF11, bF11, bF11, bF11, bF11, bF11, bF11, bF11, bF11, bF11] rfl rfl (any_of HT_.out (by kernel_rfl)) (fun _ _ _ h => h) (Or.inl ⟨by rfl, ?_⟩) ?_ ?_
      rotate_left
      ·intro w'
       go_simp
       with_reducible rfl
      rotate_left
      ·simp only [Act.put, List.setIfInBounds_toArray, List.set_cons_zero, List.set_cons_succ, i64_w, i32_w]
       rfl
      refine pure_ (i := 1) (N := some 11) (v := ?_) (a' := ?_) #[bT11, bT11, bF11, bF11, bF11, bF11, bF11, bF11, bF11, bF11, bF11, bF11, bF11, bF11, bF11, bF11, bF11, bF11, bF11, bF11, bF11, bF11, bF11, bF11, bF11, bF11, bF11, bF11, bF11, bF11, bF11, bF11, bF11, bF11, bF11, bF11, bF11, bF11, bF11, bF11, bF11, bF11] rfl rfl (any_of HT_.out (by kernel_rfl)) (fun _ _ _ h => h) (Or.inl ⟨by rfl, ?_⟩) ?_ ?_
      rotate_left
      ·intro w'
       go_simp
       with_reducible rfl
      rotate_left
      ·simp only [Act.put, List.setIfInBounds_toArray, List.set_cons_zero, List.set_cons_succ, i64_w, i32_w]
       rfl
      refine pure_ (i := 2) (N := some 12) (v := ?_) (a' := ?_) #[bT11, bT11, bT11, bF11, bF11, bF11, bF11, bF11, bF11, bF11, bF11, bF11, bF11, bF11, bF11, bF11, bF11, bF11, bF11, bF11, bF11, bF11, bF11, bF11, bF11, bF11, bF11, bF11, bF11, bF11, bF11, bF11, bF11, bF11, bF11, bF11, bF11, bF11, bF11, bF11, bF11, bF11] rfl rfl (any_of HT_.out (by kernel_rfl)) (fun _ _ _ h => h) (Or.inl ⟨by rfl, ?_⟩) ?_ ?_
      rotate_left
      ·intro w'
       go_simp
       with_reducible rfl
      rotate_left
      ·simp only [Act.put, List.setIfInBounds_toArray, List.set_cons_zero, List.set_cons_succ, i64_w, i32_w]
       rfl
      refine pure_ (i := 3) (N := some 13) (v := ?_) (a' := ?_) #[bT11, bT11, bT11, bT11, bF11, bF11, bF11, bF11, bF11, bF11, bF11, bF11, bF11, bF11, bF11, bF11, bF11, bF11, bF11, bF11, bF11, bF11, bF11, bF11, bF11, bF11, bF11, bF11, bF11, bF11, bF11, bF11, bF11, bF11, bF11, bF11, bF11, bF11, bF11, bF11, bF11, bF11] rfl rfl (any_of HT_.out (by kernel_rfl)) (fun _ _ _ h => h) (Or.inl ⟨by rfl, ?_⟩) ?_ ?_
      rotate_left
      ·intro w'
       go_simp
       with_reducible rfl
      rotate_left
      ·simp only [Act.put, List.setIfInBounds_toArray, List.set_cons_zero, List.set_cons_succ, i64_w, i32_w]
       rfl
      refine take_ (i := 4) (N := some 14) (v := ?_) (a' := ?_) #[bT11, bT11, bT11, bT11, bT11, bF11, bF11, bF11, bF11, bF11, bF11, bF11, bF11, bF11, bF11, bF11, bF11, bF11, bF11, bF11, bF11, bF11, bF11, bF11, bF11, bF11, bF11, bF11, bF11, bF11, bF11, bF11, bF11, bF11, bF11, bF11, bF11, bF11, bF11, bF11, bF11, bF11] rfl rfl (take_ofW HT_.out HW_.out (by kernel_rfl)) (fun _ _ _ h => h) (Or.inl ⟨by rfl, ?_⟩) hHeld ?_ ?_
      rotate_left
      ·rintro w' ⟨s0, s1⟩
       go_simp
       with_reducible rfl
      rotate_left
      ·simp only [Act.put, List.setIfInBounds_toArray, List.set_cons_zero, List.set_cons_succ, i64_w, i32_w]
       rfl
      refine one_ (i := 5) (N := some 15) #[bT11, bT11, bT11, bT11, bT11, bT11, bF11, bF11, bF11, bF11, bF11, bF11, bF11, bF11, bF11, bF11, bF11, bF11, bF11, bF11, bF11, bF11, bF11, bF11, bF11, bF11, bF11, bF11, bF11, bF11, bF11, bF11, bF11, bF11, bF11, bF11, bF11, bF11, bF11, bF11, bF11, bF11] rfl rfl (one_of HT_.out (by kernel_rfl)) (by decide) (fun K hK => ?_)
      refine goes_ Try.func30 (by kernel_rfl) rfl #[.string ((rd_T33 l0 x3_1).f0)] (by rfl) rfl rfl zq11_0 ?_
      with_reducible refine (cenotaphref01_Right.calls k1 ((rd_T33 l0 x3_1).f0) false _ A4.out).mono ?_
      rintro e w' ⟨rfl, ⟨nd, rfl⟩⟩
      refine ⟨_, rfl, ?_⟩
      refine hK.out _ _ ⟨((HB.out.cell (World.block_lt_of_cell? w _ hw149_0)).trans hw149_0), ((HB.out.cell (World.block_lt_of_cell? w _ hw149_1)).trans hw149_1)⟩ (fun hHeld => ?_)
      clear hK K
      refine norm_ (a' := ?_) ?_ ?_
      rotate_left
      ·show Act.put _ (some 15) _ = _
       simp only [Act.put, List.setIfInBounds_toArray, List.set_cons_zero, List.set_cons_succ, i64_w, i32_w]
       rfl
      refine pure_ (i := 6) (N := some 16) (v := ?_) (a' := ?_) #[bT11, bT11, bT11, bT11, bT11, bT11, bT11, bF11, bF11, bF11, bF11, bF11, bF11, bF11, bF11, bF11, bF11, bF11, bF11, bF11, bF11, bF11, bF11, bF11, bF11, bF11, bF11, bF11, bF11, bF11, bF11, bF11, bF11, bF11, bF11, bF11, bF11, bF11, bF11, bF11, bF11, bF11] rfl rfl (any_of HT_.out (by kernel_rfl)) (fun _ _ _ h => h) (Or.inl ⟨by rfl, ?_⟩) ?_ ?_
      rotate_left
      ·intro w'
       go_simp
       with_reducible rfl
      rotate_left
      ·simp only [Act.put, List.setIfInBounds_toArray, List.set_cons_zero, List.set_cons_succ, i64_w, i32_w]
       rfl
      refine pure_ (i := 7) (N := some 17) (v := ?_) (a' := ?_) #[bT11, bT11, bT11, bT11, bT11, bT11, bT11, bT11, bF11, bF11, bF11, bF11, bF11, bF11, bF11, bF11, bF11, bF11, bF11, bF11, bF11, bF11, bF11, bF11, bF11, bF11, bF11, bF11, bF11, bF11, bF11, bF11, bF11, bF11, bF11, bF11, bF11, bF11, bF11, bF11, bF11, bF11] rfl rfl (any_of HT_.out (by kernel_rfl)) (fun _ _ _ h => h) (Or.inl ⟨by rfl, ?_⟩) ?_ ?_
      rotate_left
      ·intro w'
       go_simp
       with_reducible rfl
      rotate_left
      ·simp only [Act.put, List.setIfInBounds_toArray, List.set_cons_zero, List.set_cons_succ, i64_w, i32_w]
       rfl
      refine pure_ (i := 8) (N := some 18) (v := undef) (a' := ?_) #[bT11, bT11, bT11, bT11, bT11, bT11, bT11, bT11, bT11, bF11, bF11, bF11, bF11, bF11, bF11, bF11, bF11, bF11, bF11, bF11, bF11, bF11, bF11, bF11, bF11, bF11, bF11, bF11, bF11, bF11, bF11, bF11, bF11, bF11, bF11, bF11, bF11, bF11, bF11, bF11, bF11, bF11] rfl rfl (any_of HT_.out (by kernel_rfl)) (fun _ _ _ h => h) (Or.inr ⟨by rfl, rfl⟩) ?_ ?_
      rotate_left
      ·simp only [Act.put, List.setIfInBounds_toArray, List.set_cons_zero, List.set_cons_succ, i64_w, i32_w]
       rfl
      refine pure_ (i := 9) (N := some 19) (v := undef) (a' := ?_) #[bT11, bT11, bT11, bT11, bT11, bT11, bT11, bT11, bT11, bT11, bF11, bF11, bF11, bF11, bF11, bF11, bF11, bF11, bF11, bF11, bF11, bF11, bF11, bF11, bF11, bF11, bF11, bF11, bF11, bF11, bF11, bF11, bF11, bF11, bF11, bF11, bF11, bF11, bF11, bF11, bF11, bF11] rfl rfl (any_of HT_.out (by kernel_rfl)) (fun _ _ _ h => h) (Or.inr ⟨by rfl, rfl⟩) ?_ ?_
      rotate_left
      ·simp only [Act.put, List.setIfInBounds_toArray, List.set_cons_zero, List.set_cons_succ, i64_w, i32_w]
       rfl
      refine pure_ (i := 10) (N := some 20) (v := undef) (a' := ?_) #[bT11, bT11, bT11, bT11, bT11, bT11, bT11, bT11, bT11, bT11, bT11, bF11, bF11, bF11, bF11, bF11, bF11, bF11, bF11, bF11, bF11, bF11, bF11, bF11, bF11, bF11, bF11, bF11, bF11, bF11, bF11, bF11, bF11, bF11, bF11, bF11, bF11, bF11, bF11, bF11, bF11, bF11] rfl rfl (any_of HT_.out (by kernel_rfl)) (fun _ _ _ h => h) (Or.inr ⟨by rfl, rfl⟩) ?_ ?_
      rotate_left
      ·simp only [Act.put, List.setIfInBounds_toArray, List.set_cons_zero, List.set_cons_succ, i64_w, i32_w]
       rfl
      refine pure_ (i := 11) (N := some 21) (v := undef) (a' := ?_) #[bT11, bT11, bT11, bT11, bT11, bT11, bT11, bT11, bT11, bT11, bT11, bT11, bF11, bF11, bF11, bF11, bF11, bF11, bF11, bF11, bF11, bF11, bF11, bF11, bF11, bF11, bF11, bF11, bF11, bF11, bF11, bF11, bF11, bF11, bF11, bF11, bF11, bF11, bF11, bF11, bF11, bF11] rfl rfl (any_of HT_.out (by kernel_rfl)) (fun _ _ _ h => h) (Or.inr ⟨by rfl, rfl⟩) ?_ ?_
      rotate_left
      ·simp only [Act.put, List.setIfInBounds_toArray, List.set_cons_zero, List.set_cons_succ, i64_w, i32_w]
       rfl
      refine pure_ (i := 12) (N := some 22) (v := undef) (a' := ?_) #[bT11, bT11, bT11, bT11, bT11, bT11, bT11, bT11, bT11, bT11, bT11, bT11, bT11, bF11, bF11, bF11, bF11, bF11, bF11, bF11, bF11, bF11, bF11, bF11, bF11, bF11, bF11, bF11, bF11, bF11, bF11, bF11, bF11, bF11, bF11, bF11, bF11, bF11, bF11, bF11, bF11, bF11] rfl rfl (any_of HT_.out (by kernel_rfl)) (fun _ _ _ h => h) (Or.inr ⟨by rfl, rfl⟩) ?_ ?_
      rotate_left
      ·simp only [Act.put, List.setIfInBounds_toArray, List.set_cons_zero, List.set_cons_succ, i64_w, i32_w]
       rfl
      refine pure_ (i := 13) (N := some 23) (v := undef) (a' := ?_) #[bT11, bT11, bT11, bT11, bT11, bT11, bT11, bT11, bT11, bT11, bT11, bT11, bT11, bT11, bF11, bF11, bF11, bF11, bF11, bF11, bF11, bF11, bF11, bF11, bF11, bF11, bF11, bF11, bF11, bF11, bF11, bF11, bF11, bF11, bF11, bF11, bF11, bF11, bF11, bF11, bF11, bF11] rfl rfl (any_of HT_.out (by kernel_rfl)) (fun _ _ _ h => h) (Or.inr ⟨by rfl, rfl⟩) ?_ ?_
      rotate_left
      ·simp only [Act.put, List.setIfInBounds_toArray, List.set_cons_zero, List.set_cons_succ, i64_w, i32_w]
       rfl
      refine pure_ (i := 14) (N := some 24) (v := ?_) (a' := ?_) #[bT11, bT11, bT11, bT11, bT11, bT11, bT11, bT11, bT11, bT11, bT11, bT11, bT11, bT11, bT11, bF11, bF11, bF11, bF11, bF11, bF11, bF11, bF11, bF11, bF11, bF11, bF11, bF11, bF11, bF11, bF11, bF11, bF11, bF11, bF11, bF11, bF11, bF11, bF11, bF11, bF11, bF11] rfl rfl (any_of HT_.out (by kernel_rfl)) (fun _ _ _ h => h) (Or.inl ⟨by rfl, ?_⟩) ?_ ?_
      rotate_left
      ·intro w'
       go_simp
       with_reducible rfl
      rotate_left
      ·simp only [Act.put, List.setIfInBounds_toArray, List.set_cons_zero, List.set_cons_succ, i64_w, i32_w]
       rfl
      refine pure_ (i := 15) (N := some 25) (v := ?_) (a' := ?_) #[bT11, bT11, bT11, bT11, bT11, bT11, bT11, bT11, bT11, bT11, bT11, bT11, bT11, bT11, bT11, bT11, bF11, bF11, bF11, bF11, bF11, bF11, bF11, bF11, bF11, bF11, bF11, bF11, bF11, bF11, bF11, bF11, bF11, bF11, bF11, bF11, bF11, bF11, bF11, bF11, bF11, bF11] rfl rfl (any_of HT_.out (by kernel_rfl)) (fun _ _ _ h => h) (Or.inl ⟨by rfl, ?_⟩) ?_ ?_
      rotate_left
      ·intro w'
       go_simp
       with_reducible rfl
      rotate_left
      ·simp only [Act.put, List.setIfInBounds_toArray, List.set_cons_zero, List.set_cons_succ, i64_w, i32_w]
       rfl
      refine pure_ (i := 16) (N := some 26) (v := undef) (a' := ?_) #[bT11, bT11, bT11, bT11, bT11, bT11, bT11, bT11, bT11, bT11, bT11, bT11, bT11, bT11, bT11, bT11, bT11, bF11, bF11, bF11, bF11, bF11, bF11, bF11, bF11, bF11, bF11, bF11, bF11, bF11, bF11, bF11, bF11, bF11, bF11, bF11, bF11, bF11, bF11, bF11, bF11, bF11] rfl rfl (any_of HT_.out (by kernel_rfl)) (fun _ _ _ h => h) (Or.inr ⟨by rfl, rfl⟩) ?_ ?_
      rotate_left
      ·simp only [Act.put, List.setIfInBounds_toArray, List.set_cons_zero, List.set_cons_succ, i64_w, i32_w]
       rfl
      refine pure_ (i := 17) (N := some 27) (v := undef) (a' := ?_) #[bT11, bT11, bT11, bT11, bT11, bT11, bT11, bT11, bT11, bT11, bT11, bT11, bT11, bT11, bT11, bT11, bT11, bT11, bF11, bF11, bF11, bF11, bF11, bF11, bF11, bF11, bF11, bF11, bF11, bF11, bF11, bF11, bF11, bF11, bF11, bF11, bF11, bF11, bF11, bF11, bF11, bF11] rfl rfl (any_of HT_.out (by kernel_rfl)) (fun _ _ _ h => h) (Or.inr ⟨by rfl, rfl⟩) ?_ ?_
      rotate_left
      ·simp only [Act.put, List.setIfInBounds_toArray, List.set_cons_zero, List.set_cons_succ, i64_w, i32_w]
       rfl
      refine pure_ (i := 18) (N := some 28) (v := undef) (a' := ?_) #[bT11, bT11, bT11, bT11, bT11, bT11, bT11, bT11, bT11, bT11, bT11, bT11, bT11, bT11, bT11, bT11, bT11, bT11, bT11, bF11, bF11, bF11, bF11, bF11, bF11, bF11, bF11, bF11, bF11, bF11, bF11, bF11, bF11, bF11, bF11, bF11, bF11, bF11, bF11, bF11, bF11, bF11] rfl rfl (any_of HT_.out (by kernel_rfl)) (fun _ _ _ h => h) (Or.inr ⟨by rfl, rfl⟩) ?_ ?_
      rotate_left
      ·simp only [Act.put, List.setIfInBounds_toArray, List.set_cons_zero, List.set_cons_succ, i64_w, i32_w]
       rfl
      refine pure_ (i := 19) (N := some 29) (v := undef) (a' := ?_) #[bT11, bT11, bT11, bT11, bT11, bT11, bT11, bT11, bT11, bT11, bT11, bT11, bT11, bT11, bT11, bT11, bT11, bT11, bT11, bT11, bF11, bF11, bF11, bF11, bF11, bF11, bF11, bF11, bF11, bF11, bF11, bF11, bF11, bF11, bF11, bF11, bF11, bF11, bF11, bF11, bF11, bF11] rfl rfl (any_of HT_.out (by kernel_rfl)) (fun _ _ _ h => h) (Or.inr ⟨by rfl, rfl⟩) ?_ ?_
      rotate_left
      ·simp only [Act.put, List.setIfInBounds_toArray, List.set_cons_zero, List.set_cons_succ, i64_w, i32_w]
       rfl
      refine pure_ (i := 20) (N := some 30) (v := undef) (a' := ?_) #[bT11, bT11, bT11, bT11, bT11, bT11, bT11, bT11, bT11, bT11, bT11, bT11, bT11, bT11, bT11, bT11, bT11, bT11, bT11, bT11, bT11, bF11, bF11, bF11, bF11, bF11, bF11, bF11, bF11, bF11, bF11, bF11, bF11, bF11, bF11, bF11, bF11, bF11, bF11, bF11, bF11, bF11] rfl rfl (any_of HT_.out (by kernel_rfl)) (fun _ _ _ h => h) (Or.inr ⟨by rfl, rfl⟩) ?_ ?_
      rotate_left
      ·simp only [Act.put, List.setIfInBounds_toArray, List.set_cons_zero, List.set_cons_succ, i64_w, i32_w]
       rfl
      refine pure_ (i := 21) (N := some 31) (v := undef) (a' := ?_) #[bT11, bT11, bT11, bT11, bT11, bT11, bT11, bT11, bT11, bT11, bT11, bT11, bT11, bT11, bT11, bT11, bT11, bT11, bT11, bT11, bT11, bT11, bF11, bF11, bF11, bF11, bF11, bF11, bF11, bF11, bF11, bF11, bF11, bF11, bF11, bF11, bF11, bF11, bF11, bF11, bF11, bF11] rfl rfl (any_of HT_.out (by kernel_rfl)) (fun _ _ _ h => h) (Or.inr ⟨by rfl, rfl⟩) ?_ ?_
      rotate_left
      ·simp only [Act.put, List.setIfInBounds_toArray, List.set_cons_zero, List.set_cons_succ, i64_w, i32_w]
       rfl
      refine pure_ (i := 22) (N := some 32) (v := ?_) (a' := ?_) #[bT11, bT11, bT11, bT11, bT11, bT11, bT11, bT11, bT11, bT11, bT11, bT11, bT11, bT11, bT11, bT11, bT11, bT11, bT11, bT11, bT11, bT11, bT11, bF11, bF11, bF11, bF11, bF11, bF11, bF11, bF11, bF11, bF11, bF11, bF11, bF11, bF11, bF11, bF11, bF11, bF11, bF11] rfl rfl (any_of HT_.out (by kernel_rfl)) (fun _ _ _ h => h) (Or.inl ⟨by rfl, ?_⟩) ?_ ?_
      rotate_left
      ·intro w'
       go_simp
       with_reducible rfl
      rotate_left
      ·simp only [Act.put, List.setIfInBounds_toArray, List.set_cons_zero, List.set_cons_succ, i64_w, i32_w]
       rfl
      refine pure_ (i := 23) (N := some 33) (v := ?_) (a' := ?_) #[bT11, bT11, bT11, bT11, bT11, bT11, bT11, bT11, bT11, bT11, bT11, bT11, bT11, bT11, bT11, bT11, bT11, bT11, bT11, bT11, bT11, bT11, bT11, bT11, bF11, bF11, bF11, bF11, bF11, bF11, bF11, bF11, bF11, bF11, bF11, bF11, bF11, bF11, bF11, bF11, bF11, bF11] rfl rfl (any_of HT_.out (by kernel_rfl)) (fun _ _ _ h => h) (Or.inl ⟨by rfl, ?_⟩) ?_ ?_
      rotate_left
      ·intro w'
       go_simp
       with_reducible rfl
      rotate_left
      ·simp only [Act.put, List.setIfInBounds_toArray, List.set_cons_zero, List.set_cons_succ, i64_w, i32_w]
       rfl
      refine pure_ (i := 24) (N := some 34) (v := undef) (a' := ?_) #[bT11, bT11, bT11, bT11, bT11, bT11, bT11, bT11, bT11, bT11, bT11, bT11, bT11, bT11, bT11, bT11, bT11, bT11, bT11, bT11, bT11, bT11, bT11, bT11, bT11, bF11, bF11, bF11, bF11, bF11, bF11, bF11, bF11, bF11, bF11, bF11, bF11, bF11, bF11, bF11, bF11, bF11] rfl rfl (any_of HT_.out (by kernel_rfl)) (fun _ _ _ h => h) (Or.inr ⟨by rfl, rfl⟩) ?_ ?_
      rotate_left
      ·simp only [Act.put, List.setIfInBounds_toArray, List.set_cons_zero, List.set_cons_succ, i64_w, i32_w]
       rfl
      refine pure_ (i := 25) (N := some 35) (v := undef) (a' := ?_) #[bT11, bT11, bT11, bT11, bT11, bT11, bT11, bT11, bT11, bT11, bT11, bT11, bT11, bT11, bT11, bT11, bT11, bT11, bT11, bT11, bT11, bT11, bT11, bT11, bT11, bT11, bF11, bF11, bF11, bF11, bF11, bF11, bF11, bF11, bF11, bF11, bF11, bF11, bF11, bF11, bF11, bF11] rfl rfl (any_of HT_.out (by kernel_rfl)) (fun _ _ _ h => h) (Or.inr ⟨by rfl, rfl⟩) ?_ ?_
      rotate_left
      ·simp only [Act.put, List.setIfInBounds_toArray, List.set_cons_zero, List.set_cons_succ, i64_w, i32_w]
       rfl
      refine pure_ (i := 26) (N := some 36) (v := undef) (a' := ?_) #[bT11, bT11, bT11, bT11, bT11, bT11, bT11, bT11, bT11, bT11, bT11, bT11, bT11, bT11, bT11, bT11, bT11, bT11, bT11, bT11, bT11, bT11, bT11, bT11, bT11, bT11, bT11, bF11, bF11, bF11, bF11, bF11, bF11, bF11, bF11, bF11, bF11, bF11, bF11, bF11, bF11, bF11] rfl rfl (any_of HT_.out (by kernel_rfl)) (fun _ _ _ h => h) (Or.inr ⟨by rfl, rfl⟩) ?_ ?_
      rotate_left
      ·simp only [Act.put, List.setIfInBounds_toArray, List.set_cons_zero, List.set_cons_succ, i64_w, i32_w]
       rfl
      refine pure_ (i := 27) (N := some 37) (v := undef) (a' := ?_) #[bT11, bT11, bT11, bT11, bT11, bT11, bT11, bT11, bT11, bT11, bT11, bT11, bT11, bT11, bT11, bT11, bT11, bT11, bT11, bT11, bT11, bT11, bT11, bT11, bT11, bT11, bT11, bT11, bF11, bF11, bF11, bF11, bF11, bF11, bF11, bF11, bF11, bF11, bF11, bF11, bF11, bF11] rfl rfl (any_of HT_.out (by kernel_rfl)) (fun _ _ _ h => h) (Or.inr ⟨by rfl, rfl⟩) ?_ ?_
      rotate_left
      ·simp only [Act.put, List.setIfInBounds_toArray, List.set_cons_zero, List.set_cons_succ, i64_w, i32_w]
       rfl
      refine pure_ (i := 28) (N := some 38) (v := undef) (a' := ?_) #[bT11, bT11, bT11, bT11, bT11, bT11, bT11, bT11, bT11, bT11, bT11, bT11, bT11, bT11, bT11, bT11, bT11, bT11, bT11, bT11, bT11, bT11, bT11, bT11, bT11, bT11, bT11, bT11, bT11, bF11, bF11, bF11, bF11, bF11, bF11, bF11, bF11, bF11, bF11, bF11, bF11, bF11] rfl rfl (any_of HT_.out (by kernel_rfl)) (fun _ _ _ h => h) (Or.inr ⟨by rfl, rfl⟩) ?_ ?_
      rotate_left
      ·simp only [Act.put, List.setIfInBounds_toArray, List.set_cons_zero, List.set_cons_succ, i64_w, i32_w]
       rfl
      refine pure_ (i := 29) (N := some 39) (v := undef) (a' := ?_) #[bT11, bT11, bT11, bT11, bT11, bT11, bT11, bT11, bT11, bT11, bT11, bT11, bT11, bT11, bT11, bT11, bT11, bT11, bT11, bT11, bT11, bT11, bT11, bT11, bT11, bT11, bT11, bT11, bT11, bT11, bF11, bF11, bF11, bF11, bF11, bF11, bF11, bF11, bF11, bF11, bF11, bF11] rfl rfl (any_of HT_.out (by kernel_rfl)) (fun _ _ _ h => h) (Or.inr ⟨by rfl, rfl⟩) ?_ ?_
      rotate_left
      ·simp only [Act.put, List.setIfInBounds_toArray, List.set_cons_zero, List.set_cons_succ, i64_w, i32_w]
       rfl
      refine pure_ (i := 30) (N := some 40) (v := undef) (a' := ?_) #[bT11, bT11, bT11, bT11, bT11, bT11, bT11, bT11, bT11, bT11, bT11, bT11, bT11, bT11, bT11, bT11, bT11, bT11, bT11, bT11, bT11, bT11, bT11, bT11, bT11, bT11, bT11, bT11, bT11, bT11, bT11, bF11, bF11, bF11, bF11, bF11, bF11, bF11, bF11, bF11, bF11, bF11] rfl rfl (any_of HT_.out (by kernel_rfl)) (fun _ _ _ h => h) (Or.inr ⟨by rfl, rfl⟩) ?_ ?_
      rotate_left
      ·simp only [Act.put, List.setIfInBounds_toArray, List.set_cons_zero, List.set_cons_succ, i64_w, i32_w]
       rfl
      refine pure_ (i := 31) (N := some 41) (v := undef) (a' := ?_) #[bT11, bT11, bT11, bT11, bT11, bT11, bT11, bT11, bT11, bT11, bT11, bT11, bT11, bT11, bT11, bT11, bT11, bT11, bT11, bT11, bT11, bT11, bT11, bT11, bT11, bT11, bT11, bT11, bT11, bT11, bT11, bT11, bF11, bF11, bF11, bF11, bF11, bF11, bF11, bF11, bF11, bF11] rfl rfl (any_of HT_.out (by kernel_rfl)) (fun _ _ _ h => h) (Or.inr ⟨by rfl, rfl⟩) ?_ ?_
      rotate_left
      ·simp only [Act.put, List.setIfInBounds_toArray, List.set_cons_zero, List.set_cons_succ, i64_w, i32_w]
       rfl
      refine pure_ (i := 32) (N := some 42) (v := undef) (a' := ?_) #[bT11, bT11, bT11, bT11, bT11, bT11, bT11, bT11, bT11, bT11, bT11, bT11, bT11, bT11, bT11, bT11, bT11, bT11, bT11, bT11, bT11, bT11, bT11, bT11, bT11, bT11, bT11, bT11, bT11, bT11, bT11, bT11, bT11, bF11, bF11, bF11, bF11, bF11, bF11, bF11, bF11, bF11] rfl rfl (any_of HT_.out (by kernel_rfl)) (fun _ _ _ h => h) (Or.inr ⟨by rfl, rfl⟩) ?_ ?_
      rotate_left
      ·simp only [Act.put, List.setIfInBounds_toArray, List.set_cons_zero, List.set_cons_succ, i64_w, i32_w]
       rfl
      refine pure_ (i := 33) (N := some 43) (v := undef) (a' := ?_) #[bT11, bT11, bT11, bT11, bT11, bT11, bT11, bT11, bT11, bT11, bT11, bT11, bT11, bT11, bT11, bT11, bT11, bT11, bT11, bT11, bT11, bT11, bT11, bT11, bT11, bT11, bT11, bT11, bT11, bT11, bT11, bT11, bT11, bT11, bF11, bF11, bF11, bF11, bF11, bF11, bF11, bF11] rfl rfl (any_of HT_.out (by kernel_rfl)) (fun _ _ _ h => h) (Or.inr ⟨by rfl, rfl⟩) ?_ ?_
      rotate_left
      ·simp only [Act.put, List.setIfInBounds_toArray, List.set_cons_zero, List.set_cons_succ, i64_w, i32_w]
       rfl
      refine pure_ (i := 34) (N := some 44) (v := undef) (a' := ?_) #[bT11, bT11, bT11, bT11, bT11, bT11, bT11, bT11, bT11, bT11, bT11, bT11, bT11, bT11, bT11, bT11, bT11, bT11, bT11, bT11, bT11, bT11, bT11, bT11, bT11, bT11, bT11, bT11, bT11, bT11, bT11, bT11, bT11, bT11, bT11, bF11, bF11, bF11, bF11, bF11, bF11, bF11] rfl rfl (any_of HT_.out (by kernel_rfl)) (fun _ _ _ h => h) (Or.inr ⟨by rfl, rfl⟩) ?_ ?_
      rotate_left
      ·simp only [Act.put, List.setIfInBounds_toArray, List.set_cons_zero, List.set_cons_succ, i64_w, i32_w]
       rfl
      refine pure_ (i := 35) (N := some 45) (v := undef) (a' := ?_) #[bT11, bT11, bT11, bT11, bT11, bT11, bT11, bT11, bT11, bT11, bT11, bT11, bT11, bT11, bT11, bT11, bT11, bT11, bT11, bT11, bT11, bT11, bT11, bT11, bT11, bT11, bT11, bT11, bT11, bT11, bT11, bT11, bT11, bT11, bT11, bT11, bF11, bF11, bF11, bF11, bF11, bF11] rfl rfl (any_of HT_.out (by kernel_rfl)) (fun _ _ _ h => h) (Or.inr ⟨by rfl, rfl⟩) ?_ ?_
      rotate_left
      ·simp only [Act.put, List.setIfInBounds_toArray, List.set_cons_zero, List.set_cons_succ, i64_w, i32_w]
       rfl
      refine pure_ (i := 36) (N := some 46) (v := undef) (a' := ?_) #[bT11, bT11, bT11, bT11, bT11, bT11, bT11, bT11, bT11, bT11, bT11, bT11, bT11, bT11, bT11, bT11, bT11, bT11, bT11, bT11, bT11, bT11, bT11, bT11, bT11, bT11, bT11, bT11, bT11, bT11, bT11, bT11, bT11, bT11, bT11, bT11, bT11, bF11, bF11, bF11, bF11, bF11] rfl rfl (any_of HT_.out (by kernel_rfl)) (fun _ _ _ h => h) (Or.inr ⟨by rfl, rfl⟩) ?_ ?_
      rotate_left
      ·simp only [Act.put, List.setIfInBounds_toArray, List.set_cons_zero, List.set_cons_succ, i64_w, i32_w]
       rfl
      refine pure_ (i := 37) (N := some 47) (v := undef) (a' := ?_) #[bT11, bT11, bT11, bT11, bT11, bT11, bT11, bT11, bT11, bT11, bT11, bT11, bT11, bT11, bT11, bT11, bT11, bT11, bT11, bT11, bT11, bT11, bT11, bT11, bT11, bT11, bT11, bT11, bT11, bT11, bT11, bT11, bT11, bT11, bT11, bT11, bT11, bT11, bF11, bF11, bF11, bF11] rfl rfl (any_of HT_.out (by kernel_rfl)) (fun _ _ _ h => h) (Or.inr ⟨by rfl, rfl⟩) ?_ ?_
      rotate_left
      ·simp only [Act.put, List.setIfInBounds_toArray, List.set_cons_zero, List.set_cons_succ, i64_w, i32_w]
       rfl
      refine pure_ (i := 38) (N := some 48) (v := undef) (a' := ?_) #[bT11, bT11, bT11, bT11, bT11, bT11, bT11, bT11, bT11, bT11, bT11, bT11, bT11, bT11, bT11, bT11, bT11, bT11, bT11, bT11, bT11, bT11, bT11, bT11, bT11, bT11, bT11, bT11, bT11, bT11, bT11, bT11, bT11, bT11, bT11, bT11, bT11, bT11, bT11, bF11, bF11, bF11] rfl rfl (any_of HT_.out (by kernel_rfl)) (fun _ _ _ h => h) (Or.inr ⟨by rfl, rfl⟩) ?_ ?_
      rotate_left
      ·simp only [Act.put, List.setIfInBounds_toArray, List.set_cons_zero, List.set_cons_succ, i64_w, i32_w]
       rfl
      refine pure_ (i := 39) (N := some 49) (v := undef) (a' := ?_) #[bT11, bT11, bT11, bT11, bT11, bT11, bT11, bT11, bT11, bT11, bT11, bT11, bT11, bT11, bT11, bT11, bT11, bT11, bT11, bT11, bT11, bT11, bT11, bT11, bT11, bT11, bT11, bT11, bT11, bT11, bT11, bT11, bT11, bT11, bT11, bT11, bT11, bT11, bT11, bT11, bF11, bF11] rfl rfl (any_of HT_.out (by kernel_rfl)) (fun _ _ _ h => h) (Or.inr ⟨by rfl, rfl⟩) ?_ ?_
      rotate_left
      ·simp only [Act.put, List.setIfInBounds_toArray, List.set_cons_zero, List.set_cons_succ, i64_w, i32_w]
       rfl
      refine pure_ (i := 40) (N := some 50) (v := undef) (a' := ?_) #[bT11, bT11, bT11, bT11, bT11, bT11, bT11, bT11, bT11, bT11, bT11, bT11, bT11, bT11, bT11, bT11, bT11, bT11, bT11, bT11, bT11, bT11, bT11, bT11, bT11, bT11, bT11, bT11, bT11, bT11, bT11, bT11, bT11, bT11, bT11, bT11, bT11, bT11, bT11, bT11, bT11, bF11] rfl rfl (any_of HT_.out (by kernel_rfl)) (fun _ _ _ h => h) (Or.inr ⟨by rfl, rfl⟩) ?_ ?_
      rotate_left
      ·simp only [Act.put, List.setIfInBounds_toArray, List.set_cons_zero, List.set_cons_succ, i64_w, i32_w]
       rfl
      refine pure_ (i := 41) (N := some 51) (v := ?_) (a' := ?_) #[bT11, bT11, bT11, bT11, bT11, bT11, bT11, bT11, bT11, bT11, bT11, bT11, bT11, bT11, bT11, bT11, bT11, bT11, bT11, bT11, bT11, bT11, bT11, bT11, bT11, bT11, bT11, bT11, bT11, bT11, bT11, bT11, bT11, bT11, bT11, bT11, bT11, bT11, bT11, bT11, bT11, bT11] rfl rfl (any_of HT_.out (by kernel_rfl)) (fun _ _ _ h => h) (Or.inl ⟨by rfl, ?_⟩) ?_ ?_
      rotate_left
      ·intro w'
       go_simp
       with_reducible rfl
      rotate_left
      ·simp only [Act.put, List.setIfInBounds_toArray, List.set_cons_zero, List.set_cons_succ, i64_w, i32_w]
       rfl
      refine done_ (done_of HT_.out (by kernel_rfl)) ?_
      try go_wp2
      go_ret
      exact ⟨by first | rfl | (simp [errW_none, errW_some] <;> rfl) | (simp [*, errW_none, errW_some] <;> rfl), by repeat (first | (with_reducible first | exact HB.out | apply below_alloc | apply pw_below_drewN | apply below_drew1) | exact HB.out)⟩
    ·rw [if_neg c3] at H
     exact absurd H (by simp)
   ·rw [if_neg c2] at H
    have c2b0 : decide (x3_1 < (l0.length : Int)) = false := decide_eq_false c2
    clear c2
    obtain rfl := Option.some.inj H
    go_wp2
    go_ret
    exact ⟨by first | rfl | (simp [errW_none, errW_some] <;> rfl) | (simp [*, errW_none, errW_some] <;> rfl), by repeat (first | (with_reducible first | exact HB.out | apply below_alloc | apply pw_below_drewN | apply below_drew1) | exact HB.out)⟩

end Go.Proofs.Ytjdhnnpagaocnaa.P
