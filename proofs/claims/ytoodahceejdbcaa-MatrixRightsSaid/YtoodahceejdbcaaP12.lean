-- Written by a program of this session (wip/pp.py over the kit's printer, with our own texts put in).
import Derived.Test.YtoodahceejdbcaaP0
import Derived.Test.YtoodahceejdbcaaP5
namespace Go.Proofs.Ytoodahceejdbcaa.P
open Go.RowKit Go.Proofs.YtoodahceejdbcaaW.PrintWords Go.Proofs.YtoodahceejdbcaaW.PrintLast Go.Proofs.YtoodahceejdbcaaW.PrintMore
attribute [local go_sem] max2_int min2_int max_two min_two max_three min_three max_four min_four   -- for this text's walks alone
set_option linter.unusedVariables false
set_option linter.unusedSimpArgs false

/-! ### cenotaphref03_Right: function 39 -/
theorem zq39_0 {p_ : Prop} (h_ : p_ := by (try simp only [List.map_toArray, List.map_cons, List.map_nil]); first | done | rfl | (simp only [List.length_drop, List.length_take]; rfl)) : p_ := h_
theorem zq39_1 {p_ : Prop} (h_ : p_ := by first | (with_reducible assumption) | assumption) : p_ := h_
theorem zq39_2 {p_ : Prop} (h_ : p_ := by first | rfl | (simp; done) | (simp [*]; done)) : p_ := h_
def cenotaphref03_Right.l0 : Nat → List (S76) → Int → Option (Bool)
 | 0, _, _ => none
 | k + 1, x0, x3 => if x3 < (x0.length : Int) then (if 0 ≤ x3 then ((cenotaphref01_Right.f k ((rd_T76 x0 x3).f0)).bind fun t182 => (if t182 = true then (if ((rd_T76 x0 x3).f1) < 1 then (some false) else (if ((rd_T76 x0 x3).f1) > 1048576 then (some false) else (if x3 > 0 then (if 0 ≤ (wrap64 (x3 - 1)) then (if (wrap64 (x3 - 1)) < (x0.length : Int) then ((cenotaphref01_Compare.f k ((rd_T76 x0 (wrap64 (x3 - 1))).f0) ((rd_T76 x0 x3).f0)).bind fun t187 => (if t187 ≥ 0 then (some false) else (cenotaphref03_Right.l0 k x0 (wrap64 (x3 + 1))))) else (none)) else (none)) else (cenotaphref03_Right.l0 k x0 (wrap64 (x3 + 1)))))) else (some false))) else (none)) else (some true)
def cenotaphref03_Right.f (k : Nat) (l0 : List (S76)) : Option (Bool) := cenotaphref03_Right.l0 k l0 0
theorem cenotaphref03_Right.mono_l : ∀ k, (∀ y0 y1, LeO (cenotaphref03_Right.l0 k y0 y1) (cenotaphref03_Right.l0 (k + 1) y0 y1))
 | 0 => fun _ _ r h => by simp [cenotaphref03_Right.l0] at h
 | k + 1 => by
  have ih0 := cenotaphref03_Right.mono_l k
  ·intro y0 y1
   unfold cenotaphref03_Right.l0
   repeat' first
   | (with_reducible exact ih0 _ _)
   | (with_reducible exact cenotaphref01_Compare.mono _ _ _)
   | (with_reducible exact cenotaphref01_Right.mono _ _)
   | (with_reducible exact LeO.refl _)
   | (with_reducible exact LeO.none _)
   | (with_reducible refine LeO.ite ?_ ?_)
   | (with_reducible refine LeO.bind ?_ (fun _ => ?_))
   | exact ih0 _ _
   | exact cenotaphref01_Compare.mono _ _ _
   | exact cenotaphref01_Right.mono _ _
   | exact LeO.none _
   | refine LeO.ite ?_ ?_
   | refine LeO.bind ?_ (fun _ => ?_)
theorem cenotaphref03_Right.mono : ∀ a0 k, LeO (cenotaphref03_Right.f k a0) (cenotaphref03_Right.f (k + 1) a0) := by
 intro a0 k
 have ih0 := cenotaphref03_Right.mono_l k
 unfold cenotaphref03_Right.f
 repeat' first
   | (with_reducible exact ih0 _ _)
   | (with_reducible exact cenotaphref01_Compare.mono _ _ _)
   | (with_reducible exact cenotaphref01_Right.mono _ _)
   | (with_reducible exact LeO.refl _)
   | (with_reducible exact LeO.none _)
   | (with_reducible refine LeO.ite ?_ ?_)
   | (with_reducible refine LeO.bind ?_ (fun _ => ?_))
   | exact ih0 _ _
   | exact cenotaphref01_Compare.mono _ _ _
   | exact cenotaphref01_Right.mono _ _
   | exact LeO.none _
   | refine LeO.ite ?_ ?_
   | refine LeO.bind ?_ (fun _ => ?_)
def cenotaphref03_Right.T4 : Bool × List (List Nat × List Nat) := (true, [([], []), ([], []), ([0, 1], [0, 1]), ([2], [2]), ([3], [3]), ([4], [4]), ([5], [5]), ([6, 5], [6]), ([7], [7]), ([7], [7]), ([8, 9, 7], [7, 8, 9]), ([10, 7], [7, 10]), ([11, 7], [7, 11]), ([12, 7], [7, 12]), ([7, 13], [7, 13]), ([14, 7], [14]), ([15], [15]), ([15], [15]), ([16, 17, 15], [15, 16, 17]), ([18, 15], [15, 18]), ([19, 15], [15, 19]), ([20, 15], [15, 20]), ([15, 21], [15, 21]), ([22, 15], [22]), ([23], [23]), ([24, 23], [23, 24]), ([25, 23, 23], [23, 25]), ([26], [26]), ([26], [26]), ([28, 26], [26, 28]), ([27, 29, 26], [26, 27, 29]), ([30, 26], [26, 30]), ([31, 26], [26, 31]), ([26], [26]), ([26], [26]), ([33, 34, 26], [26, 33, 34]), ([35, 26], [26, 35]), ([36, 26], [26, 36]), ([32, 37, 26, 26], [26, 32, 37]), ([38, 26], [26, 38]), ([26, 39, 23], [23, 26, 39]), ([23, 40], [23, 40])])
def cenotaphref03_Right.B4 : List Nat := [0, 0, 3, 7, 15, 31, 63, 127, 255, 255, 1023, 2047, 4095, 8191, 16383, 32767, 65535, 65535, 262143, 524287, 1048575, 2097151, 4194303, 8388607, 16777215, 33554431, 67108863, 134217727, 134217727, 402653183, 1073741823, 2147483647, 4294967295, 134217727, 134217727, 25904021503, 60263759871, 128983236607, 274877906943, 549755813887, 1099511627775, 2199023255551]
theorem cenotaphref03_Right.tab4 : rtab .any (opsOf Try.f39 4) = cenotaphref03_Right.T4 := by kernel_rfl
theorem cenotaphref03_Right.bits4 : waitsOk cenotaphref03_Right.T4.2 cenotaphref03_Right.B4 = true := by kernel_rfl
set_option maxHeartbeats 8000000 in
set_option maxRecDepth 100000 in
theorem cenotaphref03_Right.calls (k : Nat) (A0 : Option Addr) (c0 : Nat) (l0 : List (S76)) (r : Bool) (w : World) (hr0 : Kd.C k76 w A0 l0.length l0) (hc0 : l0.length ≤ c0) (h : cenotaphref03_Right.f k l0 = some r) :
  Calls Try.prog 39 #[.slice A0 l0.length c0] w fun e w' => e = .returned (.bool r) ∧ Below w.heap.size w w' := by
 have HR0 := Aside0.mk hr0
 have HC0 := Aside0.mk hc0
 clear hr0 hc0
 have HB := Aside0.mk (Below.refl w.heap.size w)
 have H : (cenotaphref03_Right.l0 k l0 0) = some r := h
 clear h
 have H' := Aside0.mk H
 clear H
 go_enter Try.func39, Try.ntmps39
 go_wp2
 go_loopg [3] k (fun kq v3 w' => ∃ (x3_1 : Int), v3 = .int .i64 x3_1 ∧ Aside0 (cenotaphref03_Right.l0 kq l0 x3_1 = some r) ∧ Aside0 (kq ≤ k) ∧ Aside0 (Below w.heap.size w w'))
 case atStart => exact ⟨(0), zq39_2, H', ⟨Nat.le_refl _⟩, ⟨by repeat (first | (with_reducible first | exact HB.out | apply below_alloc | apply pw_below_drewN | apply below_drew1) | exact HB.out)⟩⟩
 case round =>
  clear H'
  obtain ⟨x3_1, rfl, HA, HK1, HB⟩ := hrel
  cases gk with
  | zero => exact absurd HA.out (by simp [cenotaphref03_Right.l0])
  | succ k1 =>
   have H := HA.out
   clear HA
   simp only [cenotaphref03_Right.l0] at H
   by_cases c2 : x3_1 < (l0.length : Int)
   ·rw [if_pos c2] at H
    have c2b0 : decide (x3_1 < (l0.length : Int)) = true := decide_eq_true c2
    clear c2
    by_cases c3 : 0 ≤ x3_1
    ·rw [if_pos c3] at H
     have c3b0 : decide (0 ≤ x3_1) = true := decide_eq_true c3
     clear c3
     replace H := Option.bind_eq_some_iff.mp H
     obtain ⟨t182, A40, H⟩ := H
     replace H : (if t182 = true then (if ((rd_T76 l0 x3_1).f1) < 1 then (some false) else (if ((rd_T76 l0 x3_1).f1) > 1048576 then (some false) else (if x3_1 > 0 then (if 0 ≤ (wrap64 (x3_1 - 1)) then (if (wrap64 (x3_1 - 1)) < (l0.length : Int) then ((cenotaphref01_Compare.f k1 ((rd_T76 l0 (wrap64 (x3_1 - 1))).f0) ((rd_T76 l0 x3_1).f0)).bind fun t187 => (if t187 ≥ 0 then (some false) else (cenotaphref03_Right.l0 k1 l0 (wrap64 (x3_1 + 1))))) else (none)) else (none)) else (cenotaphref03_Right.l0 k1 l0 (wrap64 (x3_1 + 1)))))) else (some false)) = some r := H
     have A4 := Aside0.mk A40
     clear A40
     by_cases c5 : t182 = true
     ·subst c5
      have H1 : (if ((rd_T76 l0 x3_1).f1) < 1 then (some false) else (if ((rd_T76 l0 x3_1).f1) > 1048576 then (some false) else (if x3_1 > 0 then (if 0 ≤ (wrap64 (x3_1 - 1)) then (if (wrap64 (x3_1 - 1)) < (l0.length : Int) then ((cenotaphref01_Compare.f k1 ((rd_T76 l0 (wrap64 (x3_1 - 1))).f0) ((rd_T76 l0 x3_1).f0)).bind fun t187 => (if t187 ≥ 0 then (some false) else (cenotaphref03_Right.l0 k1 l0 (wrap64 (x3_1 + 1))))) else (none)) else (none)) else (cenotaphref03_Right.l0 k1 l0 (wrap64 (x3_1 + 1)))))) = some r := by rw [if_pos rfl] at H; exact H
      clear H
      have H := H1
      clear H1
      by_cases c6 : ((rd_T76 l0 x3_1).f1) < 1
      ·rw [if_pos c6] at H
       have c6b0 : decide (((rd_T76 l0 x3_1).f1) < 1) = true := decide_eq_true c6
       clear c6
       obtain rfl := Option.some.inj H
       try go_wp2
       replace HB := Aside0.mk (below_drew1 HB.out)
       have p181 : 0 ≤ (x3_1 : Int) := of_decide_eq_true zq39_1
       have q181 : x3_1 < (l0.length : Int) := of_decide_eq_true zq39_1
       obtain ⟨ad181, e181, hx181_0, hx181_1⟩ := at_T76 HR0.out x3_1 p181 q181
       have hw181_1 := hx181_1
       have hw181_0 := hx181_0
       cases e181
       replace hx181_0 := (HB.out.cell (World.block_lt_of_cell? w _ hx181_0)).trans hx181_0
       replace hx181_1 := (HB.out.cell (World.block_lt_of_cell? w _ hx181_1)).trans hx181_1
       replace p181 := eq_true p181
       replace q181 := eq_true q181
       have p183 : 0 ≤ (x3_1 : Int) := of_decide_eq_true zq39_1
       have q183 : x3_1 < (l0.length : Int) := of_decide_eq_true zq39_1
       obtain ⟨ad183, e183, hx183_0, hx183_1⟩ := at_T76 HR0.out x3_1 p183 q183
       have hw183_1 := hx183_1
       have hw183_0 := hx183_0
       obtain rfl : ad181 = ad183 := (by injection e183)
       replace hx183_0 := (HB.out.cell (World.block_lt_of_cell? w _ hx183_0)).trans hx183_0
       replace hx183_1 := (HB.out.cell (World.block_lt_of_cell? w _ hx183_1)).trans hx183_1
       replace p183 := eq_true p183
       replace q183 := eq_true q183
       refine start_ (n := 42) (S := fun w' => w'.cell? (ad181.add ((x3_1).toNat * 2)) = some (.string ((rd_T76 l0 x3_1).f0)) ∧ w'.cell? ⟨(ad181.add ((x3_1).toNat * 2)).block, (ad181.add ((x3_1).toNat * 2)).off + 1, none⟩ = some (.int .i64 ((rd_T76 l0 x3_1).f1)) ∧ w'.cell? (ad181.add ((x3_1).toNat * 2)) = some (.string ((rd_T76 l0 x3_1).f0)) ∧ w'.cell? ⟨(ad181.add ((x3_1).toNat * 2)).block, (ad181.add ((x3_1).toNat * 2)).off + 1, none⟩ = some (.int .i64 ((rd_T76 l0 x3_1).f1))) (ds := []) #[false, false, false, false, false, false, false, false, false, false, false, false, false, false, false, false, false, false, false, false, false, false, false, false, false, false, false, false, false, false, false, false, false, false, false, false, false, false, false, false, false, false] (by kernel_rfl) rfl rfl ⟨((HB.out.cell (World.block_lt_of_cell? w _ hw181_0)).trans hw181_0), ((HB.out.cell (World.block_lt_of_cell? w _ hw181_1)).trans hw181_1), ((HB.out.cell (World.block_lt_of_cell? w _ hw183_0)).trans hw183_0), ((HB.out.cell (World.block_lt_of_cell? w _ hw183_1)).trans hw183_1)⟩ (fun hHeld => ?_); refine with_tabW cenotaphref03_Right.tab4 cenotaphref03_Right.bits4 (fun HT_ HW_ => ?_)
       generalize wr.drew = w7 at HB hx181_0 hx181_1 hx183_0 hx183_1 hHeld ⊢
       refine p_ 0 10 (mk_ 42 0x1) ?_
       refine p_ 1 11 (mk_ 42 0x3) ?_
       refine p_ 2 12 (mk_ 42 0x7) ?_
       refine p_ 3 13 (mk_ 42 0xf) ?_
       refine t_ 4 14 (mk_ 42 0x1f) hHeld ?_
       refine one_ (i := 5) (N := some 15) #[true, true, true, true, true, true, false, false, false, false, false, false, false, false, false, false, false, false, false, false, false, false, false, false, false, false, false, false, false, false, false, false, false, false, false, false, false, false, false, false, false, false] rfl rfl (one_of HT_.out (by kernel_rfl)) (by decide) (fun K hK => ?_)
       refine goes_ Try.func38 (by kernel_rfl) rfl #[.string ((rd_T76 l0 x3_1).f0)] (by rfl) rfl rfl zq39_0 ?_
       with_reducible refine (cenotaphref01_Right.calls k1 ((rd_T76 l0 x3_1).f0) true _ A4.out).mono ?_
       rintro e w' ⟨rfl, ⟨nd, rfl⟩⟩
       refine ⟨_, rfl, ?_⟩
       refine hK.out _ _ ⟨((HB.out.cell (World.block_lt_of_cell? w _ hw181_0)).trans hw181_0), ((HB.out.cell (World.block_lt_of_cell? w _ hw181_1)).trans hw181_1), ((HB.out.cell (World.block_lt_of_cell? w _ hw183_0)).trans hw183_0), ((HB.out.cell (World.block_lt_of_cell? w _ hw183_1)).trans hw183_1)⟩ (fun hHeld => ?_)
       clear hK K
       refine norm_ (a' := ?_) ?_ ?_
       rotate_left
       ·show Act.put _ (some 15) _ = _
        simp only [Act.put, List.setIfInBounds_toArray, List.set_cons_zero, List.set_cons_succ, i64_w, i32_w]
        rfl
       refine p_ 6 16 (mk_ 42 0x7f) ?_
       refine p_ 7 17 (mk_ 42 0xff) ?_
       refine p_ 8 18 (mk_ 42 0x1ff) ?_
       refine p_ 9 19 (mk_ 42 0x3ff) ?_
       refine p_ 10 20 (mk_ 42 0x7ff) ?_
       refine p_ 11 21 (mk_ 42 0xfff) ?_
       refine t_ 12 22 (mk_ 42 0x1fff) hHeld ?_
       refine p_ 13 23 (mk_ 42 0x3fff) ?_
       refine p_ 14 24 (mk_ 42 0x7fff) ?_
       refine p_ 15 25 (mk_ 42 0xffff) ?_
       refine u_ 16 26 (mk_ 42 0x1ffff) ?_
       refine u_ 17 27 (mk_ 42 0x3ffff) ?_
       refine u_ 18 28 (mk_ 42 0x7ffff) ?_
       refine u_ 19 29 (mk_ 42 0xfffff) ?_
       refine u_ 20 30 (mk_ 42 0x1fffff) ?_
       refine u_ 21 31 (mk_ 42 0x3fffff) ?_
       refine p_ 22 32 (mk_ 42 0x7fffff) ?_
       refine p_ 23 33 (mk_ 42 0xffffff) ?_
       refine u_ 24 34 (mk_ 42 0x1ffffff) ?_
       refine u_ 25 35 (mk_ 42 0x3ffffff) ?_
       refine u_ 26 36 (mk_ 42 0x7ffffff) ?_
       refine u_ 27 37 (mk_ 42 0xfffffff) ?_
       refine u_ 28 38 (mk_ 42 0x1fffffff) ?_
       refine u_ 29 39 (mk_ 42 0x3fffffff) ?_
       refine u_ 30 40 (mk_ 42 0x7fffffff) ?_
       refine u_ 31 41 (mk_ 42 0xffffffff) ?_
       refine u_ 32 42 (mk_ 42 0x1ffffffff) ?_
       refine u_ 33 43 (mk_ 42 0x3ffffffff) ?_
       refine u_ 34 44 (mk_ 42 0x7ffffffff) ?_
       refine u_ 35 45 (mk_ 42 0xfffffffff) ?_
       refine u_ 36 46 (mk_ 42 0x1fffffffff) ?_
       refine u_ 37 47 (mk_ 42 0x3fffffffff) ?_
       refine u_ 38 48 (mk_ 42 0x7fffffffff) ?_
       refine u_ 39 49 (mk_ 42 0xffffffffff) ?_
       refine u_ 40 50 (mk_ 42 0x1ffffffffff) ?_
       refine p_ 41 51 (mk_ 42 0x3ffffffffff) ?_
       refine done_ (done_of HT_.out (by kernel_rfl)) ?_
       try go_wp2
       go_ret
       exact ⟨by first | rfl | (simp [errW_none, errW_some] <;> rfl) | (simp [*, errW_none, errW_some] <;> rfl), by repeat (first | (with_reducible first | exact HB.out | apply below_alloc | apply pw_below_drewN | apply below_drew1) | exact HB.out)⟩
      ·rw [if_neg c6] at H
       have c6b0 : decide (((rd_T76 l0 x3_1).f1) < 1) = false := decide_eq_false c6
       clear c6
       by_cases c8 : ((rd_T76 l0 x3_1).f1) > 1048576
       ·rw [if_pos c8] at H
        have c8b0 : decide (1048576 < ((rd_T76 l0 x3_1).f1)) = true := decide_eq_true c8
        clear c8
        obtain rfl := Option.some.inj H
        try go_wp2
        replace HB := Aside0.mk (below_drew1 HB.out)
        have p181 : 0 ≤ (x3_1 : Int) := of_decide_eq_true zq39_1
        have q181 : x3_1 < (l0.length : Int) := of_decide_eq_true zq39_1
        obtain ⟨ad181, e181, hx181_0, hx181_1⟩ := at_T76 HR0.out x3_1 p181 q181
        have hw181_1 := hx181_1
        have hw181_0 := hx181_0
        cases e181
        replace hx181_0 := (HB.out.cell (World.block_lt_of_cell? w _ hx181_0)).trans hx181_0
        replace hx181_1 := (HB.out.cell (World.block_lt_of_cell? w _ hx181_1)).trans hx181_1
        replace p181 := eq_true p181
        replace q181 := eq_true q181
        have p183 : 0 ≤ (x3_1 : Int) := of_decide_eq_true zq39_1
        have q183 : x3_1 < (l0.length : Int) := of_decide_eq_true zq39_1
        obtain ⟨ad183, e183, hx183_0, hx183_1⟩ := at_T76 HR0.out x3_1 p183 q183
        have hw183_1 := hx183_1
        have hw183_0 := hx183_0
        obtain rfl : ad181 = ad183 := (by injection e183)
        replace hx183_0 := (HB.out.cell (World.block_lt_of_cell? w _ hx183_0)).trans hx183_0
        replace hx183_1 := (HB.out.cell (World.block_lt_of_cell? w _ hx183_1)).trans hx183_1
        replace p183 := eq_true p183
        replace q183 := eq_true q183
        have p184 : 0 ≤ (x3_1 : Int) := of_decide_eq_true zq39_1
        have q184 : x3_1 < (l0.length : Int) := of_decide_eq_true zq39_1
        obtain ⟨ad184, e184, hx184_0, hx184_1⟩ := at_T76 HR0.out x3_1 p184 q184
        have hw184_1 := hx184_1
        have hw184_0 := hx184_0
        obtain rfl : ad181 = ad184 := (by injection e184)
        replace hx184_0 := (HB.out.cell (World.block_lt_of_cell? w _ hx184_0)).trans hx184_0
        replace hx184_1 := (HB.out.cell (World.block_lt_of_cell? w _ hx184_1)).trans hx184_1
        replace p184 := eq_true p184
        replace q184 := eq_true q184
        refine start_ (n := 42) (S := fun w' => w'.cell? (ad181.add ((x3_1).toNat * 2)) = some (.string ((rd_T76 l0 x3_1).f0)) ∧ w'.cell? ⟨(ad181.add ((x3_1).toNat * 2)).block, (ad181.add ((x3_1).toNat * 2)).off + 1, none⟩ = some (.int .i64 ((rd_T76 l0 x3_1).f1)) ∧ w'.cell? (ad181.add ((x3_1).toNat * 2)) = some (.string ((rd_T76 l0 x3_1).f0)) ∧ w'.cell? ⟨(ad181.add ((x3_1).toNat * 2)).block, (ad181.add ((x3_1).toNat * 2)).off + 1, none⟩ = some (.int .i64 ((rd_T76 l0 x3_1).f1)) ∧ w'.cell? (ad181.add ((x3_1).toNat * 2)) = some (.string ((rd_T76 l0 x3_1).f0)) ∧ w'.cell? ⟨(ad181.add ((x3_1).toNat * 2)).block, (ad181.add ((x3_1).toNat * 2)).off + 1, none⟩ = some (.int .i64 ((rd_T76 l0 x3_1).f1))) (ds := []) #[false, false, false, false, false, false, false, false, false, false, false, false, false, false, false, false, false, false, false, false, false, false, false, false, false, false, false, false, false, false, false, false, false, false, false, false, false, false, false, false, false, false] (by kernel_rfl) rfl rfl ⟨((HB.out.cell (World.block_lt_of_cell? w _ hw181_0)).trans hw181_0), ((HB.out.cell (World.block_lt_of_cell? w _ hw181_1)).trans hw181_1), ((HB.out.cell (World.block_lt_of_cell? w _ hw183_0)).trans hw183_0), ((HB.out.cell (World.block_lt_of_cell? w _ hw183_1)).trans hw183_1), ((HB.out.cell (World.block_lt_of_cell? w _ hw184_0)).trans hw184_0), ((HB.out.cell (World.block_lt_of_cell? w _ hw184_1)).trans hw184_1)⟩ (fun hHeld => ?_); refine with_tabW cenotaphref03_Right.tab4 cenotaphref03_Right.bits4 (fun HT_ HW_ => ?_)
        generalize wr.drew = w9 at HB hx181_0 hx181_1 hx183_0 hx183_1 hx184_0 hx184_1 hHeld ⊢
        refine p_ 0 10 (mk_ 42 0x1) ?_
        refine p_ 1 11 (mk_ 42 0x3) ?_
        refine p_ 2 12 (mk_ 42 0x7) ?_
        refine p_ 3 13 (mk_ 42 0xf) ?_
        refine t_ 4 14 (mk_ 42 0x1f) hHeld ?_
        refine one_ (i := 5) (N := some 15) #[true, true, true, true, true, true, false, false, false, false, false, false, false, false, false, false, false, false, false, false, false, false, false, false, false, false, false, false, false, false, false, false, false, false, false, false, false, false, false, false, false, false] rfl rfl (one_of HT_.out (by kernel_rfl)) (by decide) (fun K hK => ?_)
        refine goes_ Try.func38 (by kernel_rfl) rfl #[.string ((rd_T76 l0 x3_1).f0)] (by rfl) rfl rfl zq39_0 ?_
        with_reducible refine (cenotaphref01_Right.calls k1 ((rd_T76 l0 x3_1).f0) true _ A4.out).mono ?_
        rintro e w' ⟨rfl, ⟨nd, rfl⟩⟩
        refine ⟨_, rfl, ?_⟩
        refine hK.out _ _ ⟨((HB.out.cell (World.block_lt_of_cell? w _ hw181_0)).trans hw181_0), ((HB.out.cell (World.block_lt_of_cell? w _ hw181_1)).trans hw181_1), ((HB.out.cell (World.block_lt_of_cell? w _ hw183_0)).trans hw183_0), ((HB.out.cell (World.block_lt_of_cell? w _ hw183_1)).trans hw183_1), ((HB.out.cell (World.block_lt_of_cell? w _ hw184_0)).trans hw184_0), ((HB.out.cell (World.block_lt_of_cell? w _ hw184_1)).trans hw184_1)⟩ (fun hHeld => ?_)
        clear hK K
        refine norm_ (a' := ?_) ?_ ?_
        rotate_left
        ·show Act.put _ (some 15) _ = _
         simp only [Act.put, List.setIfInBounds_toArray, List.set_cons_zero, List.set_cons_succ, i64_w, i32_w]
         rfl
        refine p_ 6 16 (mk_ 42 0x7f) ?_
        refine p_ 7 17 (mk_ 42 0xff) ?_
        refine p_ 8 18 (mk_ 42 0x1ff) ?_
        refine p_ 9 19 (mk_ 42 0x3ff) ?_
        refine p_ 10 20 (mk_ 42 0x7ff) ?_
        refine p_ 11 21 (mk_ 42 0xfff) ?_
        refine t_ 12 22 (mk_ 42 0x1fff) hHeld ?_
        refine p_ 13 23 (mk_ 42 0x3fff) ?_
        refine p_ 14 24 (mk_ 42 0x7fff) ?_
        refine p_ 15 25 (mk_ 42 0xffff) ?_
        refine p_ 16 26 (mk_ 42 0x1ffff) ?_
        refine p_ 17 27 (mk_ 42 0x3ffff) ?_
        refine p_ 18 28 (mk_ 42 0x7ffff) ?_
        refine p_ 19 29 (mk_ 42 0xfffff) ?_
        refine t_ 20 30 (mk_ 42 0x1fffff) hHeld ?_
        refine p_ 21 31 (mk_ 42 0x3fffff) ?_
        refine p_ 22 32 (mk_ 42 0x7fffff) ?_
        refine p_ 23 33 (mk_ 42 0xffffff) ?_
        refine u_ 24 34 (mk_ 42 0x1ffffff) ?_
        refine u_ 25 35 (mk_ 42 0x3ffffff) ?_
        refine u_ 26 36 (mk_ 42 0x7ffffff) ?_
        refine u_ 27 37 (mk_ 42 0xfffffff) ?_
        refine u_ 28 38 (mk_ 42 0x1fffffff) ?_
        refine u_ 29 39 (mk_ 42 0x3fffffff) ?_
        refine u_ 30 40 (mk_ 42 0x7fffffff) ?_
        refine u_ 31 41 (mk_ 42 0xffffffff) ?_
        refine u_ 32 42 (mk_ 42 0x1ffffffff) ?_
        refine u_ 33 43 (mk_ 42 0x3ffffffff) ?_
        refine u_ 34 44 (mk_ 42 0x7ffffffff) ?_
        refine u_ 35 45 (mk_ 42 0xfffffffff) ?_
        refine u_ 36 46 (mk_ 42 0x1fffffffff) ?_
        refine u_ 37 47 (mk_ 42 0x3fffffffff) ?_
        refine u_ 38 48 (mk_ 42 0x7fffffffff) ?_
        refine u_ 39 49 (mk_ 42 0xffffffffff) ?_
        refine u_ 40 50 (mk_ 42 0x1ffffffffff) ?_
        refine p_ 41 51 (mk_ 42 0x3ffffffffff) ?_
        refine done_ (done_of HT_.out (by kernel_rfl)) ?_
        try go_wp2
        go_ret
        exact ⟨by first | rfl | (simp [errW_none, errW_some] <;> rfl) | (simp [*, errW_none, errW_some] <;> rfl), by repeat (first | (with_reducible first | exact HB.out | apply below_alloc | apply pw_below_drewN | apply below_drew1) | exact HB.out)⟩
       ·rw [if_neg c8] at H
        have c8b0 : decide (1048576 < ((rd_T76 l0 x3_1).f1)) = false := decide_eq_false c8
        clear c8
        by_cases c10 : x3_1 > 0
        ·rw [if_pos c10] at H
         have c10b0 : decide (0 < x3_1) = true := decide_eq_true c10
         clear c10
         obtain ⟨ji11, hji11⟩ : ∃ j_ : Int, (wrap64 (x3_1 - 1)) = j_ := ⟨_, rfl⟩
         replace H : (if 0 ≤ (ji11) then (if (ji11) < (l0.length : Int) then ((cenotaphref01_Compare.f k1 ((rd_T76 l0 (ji11)).f0) ((rd_T76 l0 x3_1).f0)).bind fun t187 => (if t187 ≥ 0 then (some false) else (cenotaphref03_Right.l0 k1 l0 (wrap64 (x3_1 + 1))))) else (none)) else (none)) = some r := by first | (rw [hji11] at H; exact H) | (simp only [hji11] at H ⊢; exact H)
         (try rw [hji11] at A4)
         have hji11w : (IntKind.i64.wrap (x3_1 - 1)) = ji11 := (i64_w _).trans hji11
         by_cases c12 : 0 ≤ (ji11)
         ·rw [if_pos c12] at H
          have c12b0 : decide (0 ≤ (ji11)) = true := decide_eq_true c12
          clear c12
          by_cases c13 : (ji11) < (l0.length : Int)
          ·rw [if_pos c13] at H
           have c13b0 : decide ((ji11) < (l0.length : Int)) = true := decide_eq_true c13
           clear c13
           replace H := Option.bind_eq_some_iff.mp H
           obtain ⟨t187, A140, H⟩ := H
           replace H : (if t187 ≥ 0 then (some false) else (cenotaphref03_Right.l0 k1 l0 (wrap64 (x3_1 + 1)))) = some r := H
           have A14 := Aside0.mk A140
           clear A140
           by_cases c15 : t187 ≥ 0
           ·rw [if_pos c15] at H
            have c15b0 : decide (0 ≤ t187) = true := decide_eq_true c15
            clear c15
            obtain rfl := Option.some.inj H
            try go_wp2
            replace HB := Aside0.mk (below_drew1 HB.out)
            have p181 : 0 ≤ (x3_1 : Int) := of_decide_eq_true zq39_1
            have q181 : x3_1 < (l0.length : Int) := of_decide_eq_true zq39_1
            obtain ⟨ad181, e181, hx181_0, hx181_1⟩ := at_T76 HR0.out x3_1 p181 q181
            have hw181_1 := hx181_1
            have hw181_0 := hx181_0
            cases e181
            replace hx181_0 := (HB.out.cell (World.block_lt_of_cell? w _ hx181_0)).trans hx181_0
            replace hx181_1 := (HB.out.cell (World.block_lt_of_cell? w _ hx181_1)).trans hx181_1
            replace p181 := eq_true p181
            replace q181 := eq_true q181
            have p183 : 0 ≤ (x3_1 : Int) := of_decide_eq_true zq39_1
            have q183 : x3_1 < (l0.length : Int) := of_decide_eq_true zq39_1
            obtain ⟨ad183, e183, hx183_0, hx183_1⟩ := at_T76 HR0.out x3_1 p183 q183
            have hw183_1 := hx183_1
            have hw183_0 := hx183_0
            obtain rfl : ad181 = ad183 := (by injection e183)
            replace hx183_0 := (HB.out.cell (World.block_lt_of_cell? w _ hx183_0)).trans hx183_0
            replace hx183_1 := (HB.out.cell (World.block_lt_of_cell? w _ hx183_1)).trans hx183_1
            replace p183 := eq_true p183
            replace q183 := eq_true q183
            have p184 : 0 ≤ (x3_1 : Int) := of_decide_eq_true zq39_1
            have q184 : x3_1 < (l0.length : Int) := of_decide_eq_true zq39_1
            obtain ⟨ad184, e184, hx184_0, hx184_1⟩ := at_T76 HR0.out x3_1 p184 q184
            have hw184_1 := hx184_1
            have hw184_0 := hx184_0
            obtain rfl : ad181 = ad184 := (by injection e184)
            replace hx184_0 := (HB.out.cell (World.block_lt_of_cell? w _ hx184_0)).trans hx184_0
            replace hx184_1 := (HB.out.cell (World.block_lt_of_cell? w _ hx184_1)).trans hx184_1
            replace p184 := eq_true p184
            replace q184 := eq_true q184
            have p185 : 0 ≤ ((ji11) : Int) := of_decide_eq_true zq39_1
            have q185 : (ji11) < (l0.length : Int) := of_decide_eq_true zq39_1
            obtain ⟨ad185, e185, hx185_0, hx185_1⟩ := at_T76 HR0.out (ji11) p185 q185
            have hw185_1 := hx185_1
            have hw185_0 := hx185_0
            obtain rfl : ad181 = ad185 := (by injection e185)
            replace hx185_0 := (HB.out.cell (World.block_lt_of_cell? w _ hx185_0)).trans hx185_0
            replace hx185_1 := (HB.out.cell (World.block_lt_of_cell? w _ hx185_1)).trans hx185_1
            replace p185 := eq_true p185
            replace q185 := eq_true q185
            have p186 : 0 ≤ (x3_1 : Int) := of_decide_eq_true zq39_1
            have q186 : x3_1 < (l0.length : Int) := of_decide_eq_true zq39_1
            obtain ⟨ad186, e186, hx186_0, hx186_1⟩ := at_T76 HR0.out x3_1 p186 q186
            have hw186_1 := hx186_1
            have hw186_0 := hx186_0
            obtain rfl : ad181 = ad186 := (by injection e186)
            replace hx186_0 := (HB.out.cell (World.block_lt_of_cell? w _ hx186_0)).trans hx186_0
            replace hx186_1 := (HB.out.cell (World.block_lt_of_cell? w _ hx186_1)).trans hx186_1
            replace p186 := eq_true p186
            replace q186 := eq_true q186
            refine start_ (n := 42) (S := fun w' => w'.cell? (ad181.add ((x3_1).toNat * 2)) = some (.string ((rd_T76 l0 x3_1).f0)) ∧ w'.cell? ⟨(ad181.add ((x3_1).toNat * 2)).block, (ad181.add ((x3_1).toNat * 2)).off + 1, none⟩ = some (.int .i64 ((rd_T76 l0 x3_1).f1)) ∧ w'.cell? (ad181.add ((x3_1).toNat * 2)) = some (.string ((rd_T76 l0 x3_1).f0)) ∧ w'.cell? ⟨(ad181.add ((x3_1).toNat * 2)).block, (ad181.add ((x3_1).toNat * 2)).off + 1, none⟩ = some (.int .i64 ((rd_T76 l0 x3_1).f1)) ∧ w'.cell? (ad181.add ((x3_1).toNat * 2)) = some (.string ((rd_T76 l0 x3_1).f0)) ∧ w'.cell? ⟨(ad181.add ((x3_1).toNat * 2)).block, (ad181.add ((x3_1).toNat * 2)).off + 1, none⟩ = some (.int .i64 ((rd_T76 l0 x3_1).f1)) ∧ w'.cell? (ad181.add (((ji11)).toNat * 2)) = some (.string ((rd_T76 l0 (ji11)).f0)) ∧ w'.cell? ⟨(ad181.add (((ji11)).toNat * 2)).block, (ad181.add (((ji11)).toNat * 2)).off + 1, none⟩ = some (.int .i64 ((rd_T76 l0 (ji11)).f1)) ∧ w'.cell? (ad181.add ((x3_1).toNat * 2)) = some (.string ((rd_T76 l0 x3_1).f0)) ∧ w'.cell? ⟨(ad181.add ((x3_1).toNat * 2)).block, (ad181.add ((x3_1).toNat * 2)).off + 1, none⟩ = some (.int .i64 ((rd_T76 l0 x3_1).f1))) (ds := []) #[false, false, false, false, false, false, false, false, false, false, false, false, false, false, false, false, false, false, false, false, false, false, false, false, false, false, false, false, false, false, false, false, false, false, false, false, false, false, false, false, false, false] (by kernel_rfl) rfl rfl ⟨((HB.out.cell (World.block_lt_of_cell? w _ hw181_0)).trans hw181_0), ((HB.out.cell (World.block_lt_of_cell? w _ hw181_1)).trans hw181_1), ((HB.out.cell (World.block_lt_of_cell? w _ hw183_0)).trans hw183_0), ((HB.out.cell (World.block_lt_of_cell? w _ hw183_1)).trans hw183_1), ((HB.out.cell (World.block_lt_of_cell? w _ hw184_0)).trans hw184_0), ((HB.out.cell (World.block_lt_of_cell? w _ hw184_1)).trans hw184_1), ((HB.out.cell (World.block_lt_of_cell? w _ hw185_0)).trans hw185_0), ((HB.out.cell (World.block_lt_of_cell? w _ hw185_1)).trans hw185_1), ((HB.out.cell (World.block_lt_of_cell? w _ hw186_0)).trans hw186_0), ((HB.out.cell (World.block_lt_of_cell? w _ hw186_1)).trans hw186_1)⟩ (fun hHeld => ?_); refine with_tabW cenotaphref03_Right.tab4 cenotaphref03_Right.bits4 (fun HT_ HW_ => ?_)
            generalize wr.drew = w16 at HB hx181_0 hx181_1 hx183_0 hx183_1 hx184_0 hx184_1 hx185_0 hx185_1 hx186_0 hx186_1 hHeld ⊢
            refine p_ 0 10 (mk_ 42 0x1) ?_
            refine p_ 1 11 (mk_ 42 0x3) ?_
            refine p_ 2 12 (mk_ 42 0x7) ?_
            refine p_ 3 13 (mk_ 42 0xf) ?_
            refine t_ 4 14 (mk_ 42 0x1f) hHeld ?_
            refine one_ (i := 5) (N := some 15) #[true, true, true, true, true, true, false, false, false, false, false, false, false, false, false, false, false, false, false, false, false, false, false, false, false, false, false, false, false, false, false, false, false, false, false, false, false, false, false, false, false, false] rfl rfl (one_of HT_.out (by kernel_rfl)) (by decide) (fun K hK => ?_)
            refine goes_ Try.func38 (by kernel_rfl) rfl #[.string ((rd_T76 l0 x3_1).f0)] (by rfl) rfl rfl zq39_0 ?_
            with_reducible refine (cenotaphref01_Right.calls k1 ((rd_T76 l0 x3_1).f0) true _ A4.out).mono ?_
            rintro e w' ⟨rfl, ⟨nd, rfl⟩⟩
            refine ⟨_, rfl, ?_⟩
            refine hK.out _ _ ⟨((HB.out.cell (World.block_lt_of_cell? w _ hw181_0)).trans hw181_0), ((HB.out.cell (World.block_lt_of_cell? w _ hw181_1)).trans hw181_1), ((HB.out.cell (World.block_lt_of_cell? w _ hw183_0)).trans hw183_0), ((HB.out.cell (World.block_lt_of_cell? w _ hw183_1)).trans hw183_1), ((HB.out.cell (World.block_lt_of_cell? w _ hw184_0)).trans hw184_0), ((HB.out.cell (World.block_lt_of_cell? w _ hw184_1)).trans hw184_1), ((HB.out.cell (World.block_lt_of_cell? w _ hw185_0)).trans hw185_0), ((HB.out.cell (World.block_lt_of_cell? w _ hw185_1)).trans hw185_1), ((HB.out.cell (World.block_lt_of_cell? w _ hw186_0)).trans hw186_0), ((HB.out.cell (World.block_lt_of_cell? w _ hw186_1)).trans hw186_1)⟩ (fun hHeld => ?_)
            clear hK K
            refine norm_ (a' := ?_) ?_ ?_
            rotate_left
            ·show Act.put _ (some 15) _ = _
             simp only [Act.put, List.setIfInBounds_toArray, List.set_cons_zero, List.set_cons_succ, i64_w, i32_w]
             rfl
            refine p_ 6 16 (mk_ 42 0x7f) ?_
            refine p_ 7 17 (mk_ 42 0xff) ?_
            refine p_ 8 18 (mk_ 42 0x1ff) ?_
            refine p_ 9 19 (mk_ 42 0x3ff) ?_
            refine p_ 10 20 (mk_ 42 0x7ff) ?_
            refine p_ 11 21 (mk_ 42 0xfff) ?_
            refine t_ 12 22 (mk_ 42 0x1fff) hHeld ?_
            refine p_ 13 23 (mk_ 42 0x3fff) ?_
            refine p_ 14 24 (mk_ 42 0x7fff) ?_
            refine p_ 15 25 (mk_ 42 0xffff) ?_
            refine p_ 16 26 (mk_ 42 0x1ffff) ?_
            refine p_ 17 27 (mk_ 42 0x3ffff) ?_
            refine p_ 18 28 (mk_ 42 0x7ffff) ?_
            refine p_ 19 29 (mk_ 42 0xfffff) ?_
            refine t_ 20 30 (mk_ 42 0x1fffff) hHeld ?_
            refine p_ 21 31 (mk_ 42 0x3fffff) ?_
            refine p_ 22 32 (mk_ 42 0x7fffff) ?_
            refine p_ 23 33 (mk_ 42 0xffffff) ?_
            refine p_ 24 34 (mk_ 42 0x1ffffff) ?_
            refine p_ 25 35 (mk_ 42 0x3ffffff) ?_
            refine p_ 26 36 (mk_ 42 0x7ffffff) ?_
            refine p_ 27 37 (mk_ 42 0xfffffff) ?_
            refine p_ 28 38 (mk_ 42 0x1fffffff) ?_
            refine p_ 29 39 (mk_ 42 0x3fffffff) ?_
            refine p_ 30 40 (mk_ 42 0x7fffffff) ?_
            refine p_ 31 41 (mk_ 42 0xffffffff) ?_
            refine p_ 33 43 (mk_ 42 0x2ffffffff) ?_
            refine p_ 34 44 (mk_ 42 0x6ffffffff) ?_
            refine p_ 35 45 (mk_ 42 0xeffffffff) ?_
            refine p_ 36 46 (mk_ 42 0x1effffffff) ?_
            refine t_ 32 42 (mk_ 42 0x1fffffffff) hHeld ?_
            refine t_ 37 47 (mk_ 42 0x3fffffffff) hHeld ?_
            refine one_ (i := 38) (N := some 48) #[true, true, true, true, true, true, true, true, true, true, true, true, true, true, true, true, true, true, true, true, true, true, true, true, true, true, true, true, true, true, true, true, true, true, true, true, true, true, true, false, false, false] rfl rfl (one_of HT_.out (by kernel_rfl)) (by decide) (fun K hK => ?_)
            refine goes_ Try.func40 (by kernel_rfl) rfl #[.string ((rd_T76 l0 (ji11)).f0), .string ((rd_T76 l0 x3_1).f0)] (by rfl) rfl rfl (by (try simp only [List.map_toArray, List.map_cons, List.map_nil]); first | done | (simp only [hji11]; rfl) | rfl | (simp only [List.length_drop, List.length_take]; rfl)) ?_
            with_reducible refine (cenotaphref01_Compare.calls k1 ((rd_T76 l0 (ji11)).f0) ((rd_T76 l0 x3_1).f0) t187 _ A14.out).mono ?_
            rintro e w' ⟨rfl, ⟨nd, rfl⟩⟩
            refine ⟨_, rfl, ?_⟩
            refine hK.out _ _ ⟨((HB.out.cell (World.block_lt_of_cell? w _ hw181_0)).trans hw181_0), ((HB.out.cell (World.block_lt_of_cell? w _ hw181_1)).trans hw181_1), ((HB.out.cell (World.block_lt_of_cell? w _ hw183_0)).trans hw183_0), ((HB.out.cell (World.block_lt_of_cell? w _ hw183_1)).trans hw183_1), ((HB.out.cell (World.block_lt_of_cell? w _ hw184_0)).trans hw184_0), ((HB.out.cell (World.block_lt_of_cell? w _ hw184_1)).trans hw184_1), ((HB.out.cell (World.block_lt_of_cell? w _ hw185_0)).trans hw185_0), ((HB.out.cell (World.block_lt_of_cell? w _ hw185_1)).trans hw185_1), ((HB.out.cell (World.block_lt_of_cell? w _ hw186_0)).trans hw186_0), ((HB.out.cell (World.block_lt_of_cell? w _ hw186_1)).trans hw186_1)⟩ (fun hHeld => ?_)
            clear hK K
            refine norm_ (a' := ?_) ?_ ?_
            rotate_left
            ·show Act.put _ (some 48) _ = _
             simp only [Act.put, List.setIfInBounds_toArray, List.set_cons_zero, List.set_cons_succ, i64_w, i32_w]
             rfl
            refine p_ 39 49 (mk_ 42 0xffffffffff) ?_
            refine p_ 40 50 (mk_ 42 0x1ffffffffff) ?_
            refine p_ 41 51 (mk_ 42 0x3ffffffffff) ?_
            refine done_ (done_of HT_.out (by kernel_rfl)) ?_
            try go_wp2
            go_ret
            exact ⟨by first | rfl | (simp [errW_none, errW_some] <;> rfl) | (simp only [← hji11]; first | rfl | (simp [errW_none, errW_some] <;> rfl)) | (simp [*, errW_none, errW_some] <;> rfl), by repeat (first | (with_reducible first | exact HB.out | apply below_alloc | apply pw_below_drewN | apply below_drew1) | exact HB.out)⟩
           ·rw [if_neg c15] at H
            have c15b0 : decide (0 ≤ t187) = false := decide_eq_false c15
            clear c15
            have H' := Aside0.mk H
            clear H
            try go_wp2
            replace HB := Aside0.mk (below_drew1 HB.out)
            have p181 : 0 ≤ (x3_1 : Int) := of_decide_eq_true zq39_1
            have q181 : x3_1 < (l0.length : Int) := of_decide_eq_true zq39_1
            obtain ⟨ad181, e181, hx181_0, hx181_1⟩ := at_T76 HR0.out x3_1 p181 q181
            have hw181_1 := hx181_1
            have hw181_0 := hx181_0
            cases e181
            replace hx181_0 := (HB.out.cell (World.block_lt_of_cell? w _ hx181_0)).trans hx181_0
            replace hx181_1 := (HB.out.cell (World.block_lt_of_cell? w _ hx181_1)).trans hx181_1
            replace p181 := eq_true p181
            replace q181 := eq_true q181
            have p183 : 0 ≤ (x3_1 : Int) := of_decide_eq_true zq39_1
            have q183 : x3_1 < (l0.length : Int) := of_decide_eq_true zq39_1
            obtain ⟨ad183, e183, hx183_0, hx183_1⟩ := at_T76 HR0.out x3_1 p183 q183
            have hw183_1 := hx183_1
            have hw183_0 := hx183_0
            obtain rfl : ad181 = ad183 := (by injection e183)
            replace hx183_0 := (HB.out.cell (World.block_lt_of_cell? w _ hx183_0)).trans hx183_0
            replace hx183_1 := (HB.out.cell (World.block_lt_of_cell? w _ hx183_1)).trans hx183_1
            replace p183 := eq_true p183
            replace q183 := eq_true q183
            have p184 : 0 ≤ (x3_1 : Int) := of_decide_eq_true zq39_1
            have q184 : x3_1 < (l0.length : Int) := of_decide_eq_true zq39_1
            obtain ⟨ad184, e184, hx184_0, hx184_1⟩ := at_T76 HR0.out x3_1 p184 q184
            have hw184_1 := hx184_1
            have hw184_0 := hx184_0
            obtain rfl : ad181 = ad184 := (by injection e184)
            replace hx184_0 := (HB.out.cell (World.block_lt_of_cell? w _ hx184_0)).trans hx184_0
            replace hx184_1 := (HB.out.cell (World.block_lt_of_cell? w _ hx184_1)).trans hx184_1
            replace p184 := eq_true p184
            replace q184 := eq_true q184
            have p185 : 0 ≤ ((ji11) : Int) := of_decide_eq_true zq39_1
            have q185 : (ji11) < (l0.length : Int) := of_decide_eq_true zq39_1
            obtain ⟨ad185, e185, hx185_0, hx185_1⟩ := at_T76 HR0.out (ji11) p185 q185
            have hw185_1 := hx185_1
            have hw185_0 := hx185_0
            obtain rfl : ad181 = ad185 := (by injection e185)
            replace hx185_0 := (HB.out.cell (World.block_lt_of_cell? w _ hx185_0)).trans hx185_0
            replace hx185_1 := (HB.out.cell (World.block_lt_of_cell? w _ hx185_1)).trans hx185_1
            replace p185 := eq_true p185
            replace q185 := eq_true q185
            have p186 : 0 ≤ (x3_1 : Int) := of_decide_eq_true zq39_1
            have q186 : x3_1 < (l0.length : Int) := of_decide_eq_true zq39_1
            obtain ⟨ad186, e186, hx186_0, hx186_1⟩ := at_T76 HR0.out x3_1 p186 q186
            have hw186_1 := hx186_1
            have hw186_0 := hx186_0
            obtain rfl : ad181 = ad186 := (by injection e186)
            replace hx186_0 := (HB.out.cell (World.block_lt_of_cell? w _ hx186_0)).trans hx186_0
            replace hx186_1 := (HB.out.cell (World.block_lt_of_cell? w _ hx186_1)).trans hx186_1
            replace p186 := eq_true p186
            replace q186 := eq_true q186
            refine start_ (n := 42) (S := fun w' => w'.cell? (ad181.add ((x3_1).toNat * 2)) = some (.string ((rd_T76 l0 x3_1).f0)) ∧ w'.cell? ⟨(ad181.add ((x3_1).toNat * 2)).block, (ad181.add ((x3_1).toNat * 2)).off + 1, none⟩ = some (.int .i64 ((rd_T76 l0 x3_1).f1)) ∧ w'.cell? (ad181.add ((x3_1).toNat * 2)) = some (.string ((rd_T76 l0 x3_1).f0)) ∧ w'.cell? ⟨(ad181.add ((x3_1).toNat * 2)).block, (ad181.add ((x3_1).toNat * 2)).off + 1, none⟩ = some (.int .i64 ((rd_T76 l0 x3_1).f1)) ∧ w'.cell? (ad181.add ((x3_1).toNat * 2)) = some (.string ((rd_T76 l0 x3_1).f0)) ∧ w'.cell? ⟨(ad181.add ((x3_1).toNat * 2)).block, (ad181.add ((x3_1).toNat * 2)).off + 1, none⟩ = some (.int .i64 ((rd_T76 l0 x3_1).f1)) ∧ w'.cell? (ad181.add (((ji11)).toNat * 2)) = some (.string ((rd_T76 l0 (ji11)).f0)) ∧ w'.cell? ⟨(ad181.add (((ji11)).toNat * 2)).block, (ad181.add (((ji11)).toNat * 2)).off + 1, none⟩ = some (.int .i64 ((rd_T76 l0 (ji11)).f1)) ∧ w'.cell? (ad181.add ((x3_1).toNat * 2)) = some (.string ((rd_T76 l0 x3_1).f0)) ∧ w'.cell? ⟨(ad181.add ((x3_1).toNat * 2)).block, (ad181.add ((x3_1).toNat * 2)).off + 1, none⟩ = some (.int .i64 ((rd_T76 l0 x3_1).f1))) (ds := []) #[false, false, false, false, false, false, false, false, false, false, false, false, false, false, false, false, false, false, false, false, false, false, false, false, false, false, false, false, false, false, false, false, false, false, false, false, false, false, false, false, false, false] (by kernel_rfl) rfl rfl ⟨((HB.out.cell (World.block_lt_of_cell? w _ hw181_0)).trans hw181_0), ((HB.out.cell (World.block_lt_of_cell? w _ hw181_1)).trans hw181_1), ((HB.out.cell (World.block_lt_of_cell? w _ hw183_0)).trans hw183_0), ((HB.out.cell (World.block_lt_of_cell? w _ hw183_1)).trans hw183_1), ((HB.out.cell (World.block_lt_of_cell? w _ hw184_0)).trans hw184_0), ((HB.out.cell (World.block_lt_of_cell? w _ hw184_1)).trans hw184_1), ((HB.out.cell (World.block_lt_of_cell? w _ hw185_0)).trans hw185_0), ((HB.out.cell (World.block_lt_of_cell? w _ hw185_1)).trans hw185_1), ((HB.out.cell (World.block_lt_of_cell? w _ hw186_0)).trans hw186_0), ((HB.out.cell (World.block_lt_of_cell? w _ hw186_1)).trans hw186_1)⟩ (fun hHeld => ?_); refine with_tabW cenotaphref03_Right.tab4 cenotaphref03_Right.bits4 (fun HT_ HW_ => ?_)
            generalize wr.drew = w17 at HB hx181_0 hx181_1 hx183_0 hx183_1 hx184_0 hx184_1 hx185_0 hx185_1 hx186_0 hx186_1 hHeld ⊢
            refine p_ 0 10 (mk_ 42 0x1) ?_
            refine p_ 1 11 (mk_ 42 0x3) ?_
            refine p_ 2 12 (mk_ 42 0x7) ?_
            refine p_ 3 13 (mk_ 42 0xf) ?_
            refine t_ 4 14 (mk_ 42 0x1f) hHeld ?_
            refine one_ (i := 5) (N := some 15) #[true, true, true, true, true, true, false, false, false, false, false, false, false, false, false, false, false, false, false, false, false, false, false, false, false, false, false, false, false, false, false, false, false, false, false, false, false, false, false, false, false, false] rfl rfl (one_of HT_.out (by kernel_rfl)) (by decide) (fun K hK => ?_)
            refine goes_ Try.func38 (by kernel_rfl) rfl #[.string ((rd_T76 l0 x3_1).f0)] (by rfl) rfl rfl zq39_0 ?_
            with_reducible refine (cenotaphref01_Right.calls k1 ((rd_T76 l0 x3_1).f0) true _ A4.out).mono ?_
            rintro e w' ⟨rfl, ⟨nd, rfl⟩⟩
            refine ⟨_, rfl, ?_⟩
            refine hK.out _ _ ⟨((HB.out.cell (World.block_lt_of_cell? w _ hw181_0)).trans hw181_0), ((HB.out.cell (World.block_lt_of_cell? w _ hw181_1)).trans hw181_1), ((HB.out.cell (World.block_lt_of_cell? w _ hw183_0)).trans hw183_0), ((HB.out.cell (World.block_lt_of_cell? w _ hw183_1)).trans hw183_1), ((HB.out.cell (World.block_lt_of_cell? w _ hw184_0)).trans hw184_0), ((HB.out.cell (World.block_lt_of_cell? w _ hw184_1)).trans hw184_1), ((HB.out.cell (World.block_lt_of_cell? w _ hw185_0)).trans hw185_0), ((HB.out.cell (World.block_lt_of_cell? w _ hw185_1)).trans hw185_1), ((HB.out.cell (World.block_lt_of_cell? w _ hw186_0)).trans hw186_0), ((HB.out.cell (World.block_lt_of_cell? w _ hw186_1)).trans hw186_1)⟩ (fun hHeld => ?_)
            clear hK K
            refine norm_ (a' := ?_) ?_ ?_
            rotate_left
            ·show Act.put _ (some 15) _ = _
             simp only [Act.put, List.setIfInBounds_toArray, List.set_cons_zero, List.set_cons_succ, i64_w, i32_w]
             rfl
            refine p_ 6 16 (mk_ 42 0x7f) ?_
            refine p_ 7 17 (mk_ 42 0xff) ?_
            refine p_ 8 18 (mk_ 42 0x1ff) ?_
            refine p_ 9 19 (mk_ 42 0x3ff) ?_
            refine p_ 10 20 (mk_ 42 0x7ff) ?_
            refine p_ 11 21 (mk_ 42 0xfff) ?_
            refine t_ 12 22 (mk_ 42 0x1fff) hHeld ?_
            refine p_ 13 23 (mk_ 42 0x3fff) ?_
            refine p_ 14 24 (mk_ 42 0x7fff) ?_
            refine p_ 15 25 (mk_ 42 0xffff) ?_
            refine p_ 16 26 (mk_ 42 0x1ffff) ?_
            refine p_ 17 27 (mk_ 42 0x3ffff) ?_
            refine p_ 18 28 (mk_ 42 0x7ffff) ?_
            refine p_ 19 29 (mk_ 42 0xfffff) ?_
            refine t_ 20 30 (mk_ 42 0x1fffff) hHeld ?_
            refine p_ 21 31 (mk_ 42 0x3fffff) ?_
            refine p_ 22 32 (mk_ 42 0x7fffff) ?_
            refine p_ 23 33 (mk_ 42 0xffffff) ?_
            refine p_ 24 34 (mk_ 42 0x1ffffff) ?_
            refine p_ 25 35 (mk_ 42 0x3ffffff) ?_
            refine p_ 26 36 (mk_ 42 0x7ffffff) ?_
            refine p_ 27 37 (mk_ 42 0xfffffff) ?_
            refine p_ 28 38 (mk_ 42 0x1fffffff) ?_
            refine p_ 29 39 (mk_ 42 0x3fffffff) ?_
            refine p_ 30 40 (mk_ 42 0x7fffffff) ?_
            refine p_ 31 41 (mk_ 42 0xffffffff) ?_
            refine p_ 33 43 (mk_ 42 0x2ffffffff) ?_
            refine p_ 34 44 (mk_ 42 0x6ffffffff) ?_
            refine p_ 35 45 (mk_ 42 0xeffffffff) ?_
            refine p_ 36 46 (mk_ 42 0x1effffffff) ?_
            refine t_ 32 42 (mk_ 42 0x1fffffffff) hHeld ?_
            refine t_ 37 47 (mk_ 42 0x3fffffffff) hHeld ?_
            refine one_ (i := 38) (N := some 48) #[true, true, true, true, true, true, true, true, true, true, true, true, true, true, true, true, true, true, true, true, true, true, true, true, true, true, true, true, true, true, true, true, true, true, true, true, true, true, true, false, false, false] rfl rfl (one_of HT_.out (by kernel_rfl)) (by decide) (fun K hK => ?_)
            refine goes_ Try.func40 (by kernel_rfl) rfl #[.string ((rd_T76 l0 (ji11)).f0), .string ((rd_T76 l0 x3_1).f0)] (by rfl) rfl rfl (by (try simp only [List.map_toArray, List.map_cons, List.map_nil]); first | done | (simp only [hji11]; rfl) | rfl | (simp only [List.length_drop, List.length_take]; rfl)) ?_
            with_reducible refine (cenotaphref01_Compare.calls k1 ((rd_T76 l0 (ji11)).f0) ((rd_T76 l0 x3_1).f0) t187 _ A14.out).mono ?_
            rintro e w' ⟨rfl, ⟨nd, rfl⟩⟩
            refine ⟨_, rfl, ?_⟩
            refine hK.out _ _ ⟨((HB.out.cell (World.block_lt_of_cell? w _ hw181_0)).trans hw181_0), ((HB.out.cell (World.block_lt_of_cell? w _ hw181_1)).trans hw181_1), ((HB.out.cell (World.block_lt_of_cell? w _ hw183_0)).trans hw183_0), ((HB.out.cell (World.block_lt_of_cell? w _ hw183_1)).trans hw183_1), ((HB.out.cell (World.block_lt_of_cell? w _ hw184_0)).trans hw184_0), ((HB.out.cell (World.block_lt_of_cell? w _ hw184_1)).trans hw184_1), ((HB.out.cell (World.block_lt_of_cell? w _ hw185_0)).trans hw185_0), ((HB.out.cell (World.block_lt_of_cell? w _ hw185_1)).trans hw185_1), ((HB.out.cell (World.block_lt_of_cell? w _ hw186_0)).trans hw186_0), ((HB.out.cell (World.block_lt_of_cell? w _ hw186_1)).trans hw186_1)⟩ (fun hHeld => ?_)
            clear hK K
            refine norm_ (a' := ?_) ?_ ?_
            rotate_left
            ·show Act.put _ (some 48) _ = _
             simp only [Act.put, List.setIfInBounds_toArray, List.set_cons_zero, List.set_cons_succ, i64_w, i32_w]
             rfl
            refine p_ 39 49 (mk_ 42 0xffffffffff) ?_
            refine p_ 40 50 (mk_ 42 0x1ffffffffff) ?_
            refine p_ 41 51 (mk_ 42 0x3ffffffffff) ?_
            refine done_ (done_of HT_.out (by kernel_rfl)) ?_
            try go_wp2
            go_roundg k1
            case measure => have := HK1.out; omega
            case rel => exact ⟨(wrap64 (x3_1 + 1)), zq39_2, H', ⟨by have := HK1.out; omega⟩, ⟨by repeat (first | (with_reducible first | exact HB.out | apply below_alloc | apply pw_below_drewN | apply below_drew1) | exact HB.out)⟩⟩
          ·rw [if_neg c13] at H
           exact absurd H (by simp)
         ·rw [if_neg c12] at H
          exact absurd H (by simp)
        ·rw [if_neg c10] at H
         have c10b0 : decide (0 < x3_1) = false := decide_eq_false c10
         clear c10
         have H' := Aside0.mk H
         clear H
         try go_wp2
         replace HB := Aside0.mk (below_drew1 HB.out)
         have p181 : 0 ≤ (x3_1 : Int) := of_decide_eq_true zq39_1
         have q181 : x3_1 < (l0.length : Int) := of_decide_eq_true zq39_1
         obtain ⟨ad181, e181, hx181_0, hx181_1⟩ := at_T76 HR0.out x3_1 p181 q181
         have hw181_1 := hx181_1
         have hw181_0 := hx181_0
         cases e181
         replace hx181_0 := (HB.out.cell (World.block_lt_of_cell? w _ hx181_0)).trans hx181_0
         replace hx181_1 := (HB.out.cell (World.block_lt_of_cell? w _ hx181_1)).trans hx181_1
         replace p181 := eq_true p181
         replace q181 := eq_true q181
         have p183 : 0 ≤ (x3_1 : Int) := of_decide_eq_true zq39_1
         have q183 : x3_1 < (l0.length : Int) := of_decide_eq_true zq39_1
         obtain ⟨ad183, e183, hx183_0, hx183_1⟩ := at_T76 HR0.out x3_1 p183 q183
         have hw183_1 := hx183_1
         have hw183_0 := hx183_0
         obtain rfl : ad181 = ad183 := (by injection e183)
         replace hx183_0 := (HB.out.cell (World.block_lt_of_cell? w _ hx183_0)).trans hx183_0
         replace hx183_1 := (HB.out.cell (World.block_lt_of_cell? w _ hx183_1)).trans hx183_1
         replace p183 := eq_true p183
         replace q183 := eq_true q183
         have p184 : 0 ≤ (x3_1 : Int) := of_decide_eq_true zq39_1
         have q184 : x3_1 < (l0.length : Int) := of_decide_eq_true zq39_1
         obtain ⟨ad184, e184, hx184_0, hx184_1⟩ := at_T76 HR0.out x3_1 p184 q184
         have hw184_1 := hx184_1
         have hw184_0 := hx184_0
         obtain rfl : ad181 = ad184 := (by injection e184)
         replace hx184_0 := (HB.out.cell (World.block_lt_of_cell? w _ hx184_0)).trans hx184_0
         replace hx184_1 := (HB.out.cell (World.block_lt_of_cell? w _ hx184_1)).trans hx184_1
         replace p184 := eq_true p184
         replace q184 := eq_true q184
         refine start_ (n := 42) (S := fun w' => w'.cell? (ad181.add ((x3_1).toNat * 2)) = some (.string ((rd_T76 l0 x3_1).f0)) ∧ w'.cell? ⟨(ad181.add ((x3_1).toNat * 2)).block, (ad181.add ((x3_1).toNat * 2)).off + 1, none⟩ = some (.int .i64 ((rd_T76 l0 x3_1).f1)) ∧ w'.cell? (ad181.add ((x3_1).toNat * 2)) = some (.string ((rd_T76 l0 x3_1).f0)) ∧ w'.cell? ⟨(ad181.add ((x3_1).toNat * 2)).block, (ad181.add ((x3_1).toNat * 2)).off + 1, none⟩ = some (.int .i64 ((rd_T76 l0 x3_1).f1)) ∧ w'.cell? (ad181.add ((x3_1).toNat * 2)) = some (.string ((rd_T76 l0 x3_1).f0)) ∧ w'.cell? ⟨(ad181.add ((x3_1).toNat * 2)).block, (ad181.add ((x3_1).toNat * 2)).off + 1, none⟩ = some (.int .i64 ((rd_T76 l0 x3_1).f1))) (ds := []) #[false, false, false, false, false, false, false, false, false, false, false, false, false, false, false, false, false, false, false, false, false, false, false, false, false, false, false, false, false, false, false, false, false, false, false, false, false, false, false, false, false, false] (by kernel_rfl) rfl rfl ⟨((HB.out.cell (World.block_lt_of_cell? w _ hw181_0)).trans hw181_0), ((HB.out.cell (World.block_lt_of_cell? w _ hw181_1)).trans hw181_1), ((HB.out.cell (World.block_lt_of_cell? w _ hw183_0)).trans hw183_0), ((HB.out.cell (World.block_lt_of_cell? w _ hw183_1)).trans hw183_1), ((HB.out.cell (World.block_lt_of_cell? w _ hw184_0)).trans hw184_0), ((HB.out.cell (World.block_lt_of_cell? w _ hw184_1)).trans hw184_1)⟩ (fun hHeld => ?_); refine with_tabW cenotaphref03_Right.tab4 cenotaphref03_Right.bits4 (fun HT_ HW_ => ?_)
         generalize wr.drew = w18 at HB hx181_0 hx181_1 hx183_0 hx183_1 hx184_0 hx184_1 hHeld ⊢
         refine p_ 0 10 (mk_ 42 0x1) ?_
         refine p_ 1 11 (mk_ 42 0x3) ?_
         refine p_ 2 12 (mk_ 42 0x7) ?_
         refine p_ 3 13 (mk_ 42 0xf) ?_
         refine t_ 4 14 (mk_ 42 0x1f) hHeld ?_
         refine one_ (i := 5) (N := some 15) #[true, true, true, true, true, true, false, false, false, false, false, false, false, false, false, false, false, false, false, false, false, false, false, false, false, false, false, false, false, false, false, false, false, false, false, false, false, false, false, false, false, false] rfl rfl (one_of HT_.out (by kernel_rfl)) (by decide) (fun K hK => ?_)
         refine goes_ Try.func38 (by kernel_rfl) rfl #[.string ((rd_T76 l0 x3_1).f0)] (by rfl) rfl rfl zq39_0 ?_
         with_reducible refine (cenotaphref01_Right.calls k1 ((rd_T76 l0 x3_1).f0) true _ A4.out).mono ?_
         rintro e w' ⟨rfl, ⟨nd, rfl⟩⟩
         refine ⟨_, rfl, ?_⟩
         refine hK.out _ _ ⟨((HB.out.cell (World.block_lt_of_cell? w _ hw181_0)).trans hw181_0), ((HB.out.cell (World.block_lt_of_cell? w _ hw181_1)).trans hw181_1), ((HB.out.cell (World.block_lt_of_cell? w _ hw183_0)).trans hw183_0), ((HB.out.cell (World.block_lt_of_cell? w _ hw183_1)).trans hw183_1), ((HB.out.cell (World.block_lt_of_cell? w _ hw184_0)).trans hw184_0), ((HB.out.cell (World.block_lt_of_cell? w _ hw184_1)).trans hw184_1)⟩ (fun hHeld => ?_)
         clear hK K
         refine norm_ (a' := ?_) ?_ ?_
         rotate_left
         ·show Act.put _ (some 15) _ = _
          simp only [Act.put, List.setIfInBounds_toArray, List.set_cons_zero, List.set_cons_succ, i64_w, i32_w]
          rfl
         refine p_ 6 16 (mk_ 42 0x7f) ?_
         refine p_ 7 17 (mk_ 42 0xff) ?_
         refine p_ 8 18 (mk_ 42 0x1ff) ?_
         refine p_ 9 19 (mk_ 42 0x3ff) ?_
         refine p_ 10 20 (mk_ 42 0x7ff) ?_
         refine p_ 11 21 (mk_ 42 0xfff) ?_
         refine t_ 12 22 (mk_ 42 0x1fff) hHeld ?_
         refine p_ 13 23 (mk_ 42 0x3fff) ?_
         refine p_ 14 24 (mk_ 42 0x7fff) ?_
         refine p_ 15 25 (mk_ 42 0xffff) ?_
         refine p_ 16 26 (mk_ 42 0x1ffff) ?_
         refine p_ 17 27 (mk_ 42 0x3ffff) ?_
         refine p_ 18 28 (mk_ 42 0x7ffff) ?_
         refine p_ 19 29 (mk_ 42 0xfffff) ?_
         refine t_ 20 30 (mk_ 42 0x1fffff) hHeld ?_
         refine p_ 21 31 (mk_ 42 0x3fffff) ?_
         refine p_ 22 32 (mk_ 42 0x7fffff) ?_
         refine p_ 23 33 (mk_ 42 0xffffff) ?_
         refine p_ 24 34 (mk_ 42 0x1ffffff) ?_
         refine p_ 25 35 (mk_ 42 0x3ffffff) ?_
         refine p_ 26 36 (mk_ 42 0x7ffffff) ?_
         refine u_ 27 37 (mk_ 42 0xfffffff) ?_
         refine u_ 28 38 (mk_ 42 0x1fffffff) ?_
         refine u_ 29 39 (mk_ 42 0x3fffffff) ?_
         refine u_ 30 40 (mk_ 42 0x7fffffff) ?_
         refine u_ 31 41 (mk_ 42 0xffffffff) ?_
         refine u_ 32 42 (mk_ 42 0x1ffffffff) ?_
         refine u_ 33 43 (mk_ 42 0x3ffffffff) ?_
         refine u_ 34 44 (mk_ 42 0x7ffffffff) ?_
         refine u_ 35 45 (mk_ 42 0xfffffffff) ?_
         refine u_ 36 46 (mk_ 42 0x1fffffffff) ?_
         refine u_ 37 47 (mk_ 42 0x3fffffffff) ?_
         refine u_ 38 48 (mk_ 42 0x7fffffffff) ?_
         refine u_ 39 49 (mk_ 42 0xffffffffff) ?_
         refine p_ 40 50 (mk_ 42 0x1ffffffffff) ?_
         refine p_ 41 51 (mk_ 42 0x3ffffffffff) ?_
         refine done_ (done_of HT_.out (by kernel_rfl)) ?_
         try go_wp2
         go_roundg k1
         case measure => have := HK1.out; omega
         case rel => exact ⟨(wrap64 (x3_1 + 1)), zq39_2, H', ⟨by have := HK1.out; omega⟩, ⟨by repeat (first | (with_reducible first | exact HB.out | apply below_alloc | apply pw_below_drewN | apply below_drew1) | exact HB.out)⟩⟩
     ·replace c5 := Bool.eq_false_iff.mpr c5
      subst c5
      have H1 : (some false) = some r := by rw [if_neg (show ¬ (false = true) by decide)] at H; exact H
      clear H
      have H := H1
      clear H1
      obtain rfl := Option.some.inj H
      try go_wp2
      replace HB := Aside0.mk (below_drew1 HB.out)
      have p181 : 0 ≤ (x3_1 : Int) := of_decide_eq_true zq39_1
      have q181 : x3_1 < (l0.length : Int) := of_decide_eq_true zq39_1
      obtain ⟨ad181, e181, hx181_0, hx181_1⟩ := at_T76 HR0.out x3_1 p181 q181
      have hw181_1 := hx181_1
      have hw181_0 := hx181_0
      cases e181
      replace hx181_0 := (HB.out.cell (World.block_lt_of_cell? w _ hx181_0)).trans hx181_0
      replace hx181_1 := (HB.out.cell (World.block_lt_of_cell? w _ hx181_1)).trans hx181_1
      replace p181 := eq_true p181
      replace q181 := eq_true q181
      refine start_ (n := 42) (S := fun w' => w'.cell? (ad181.add ((x3_1).toNat * 2)) = some (.string ((rd_T76 l0 x3_1).f0)) ∧ w'.cell? ⟨(ad181.add ((x3_1).toNat * 2)).block, (ad181.add ((x3_1).toNat * 2)).off + 1, none⟩ = some (.int .i64 ((rd_T76 l0 x3_1).f1))) (ds := []) #[false, false, false, false, false, false, false, false, false, false, false, false, false, false, false, false, false, false, false, false, false, false, false, false, false, false, false, false, false, false, false, false, false, false, false, false, false, false, false, false, false, false] (by kernel_rfl) rfl rfl ⟨((HB.out.cell (World.block_lt_of_cell? w _ hw181_0)).trans hw181_0), ((HB.out.cell (World.block_lt_of_cell? w _ hw181_1)).trans hw181_1)⟩ (fun hHeld => ?_); refine with_tabW cenotaphref03_Right.tab4 cenotaphref03_Right.bits4 (fun HT_ HW_ => ?_)
      generalize wr.drew = w19 at HB hx181_0 hx181_1 hHeld ⊢
      refine p_ 0 10 (mk_ 42 0x1) ?_
      refine p_ 1 11 (mk_ 42 0x3) ?_
      refine p_ 2 12 (mk_ 42 0x7) ?_
      refine p_ 3 13 (mk_ 42 0xf) ?_
      refine t_ 4 14 (mk_ 42 0x1f) hHeld ?_
      refine one_ (i := 5) (N := some 15) #[true, true, true, true, true, true, false, false, false, false, false, false, false, false, false, false, false, false, false, false, false, false, false, false, false, false, false, false, false, false, false, false, false, false, false, false, false, false, false, false, false, false] rfl rfl (one_of HT_.out (by kernel_rfl)) (by decide) (fun K hK => ?_)
      refine goes_ Try.func38 (by kernel_rfl) rfl #[.string ((rd_T76 l0 x3_1).f0)] (by rfl) rfl rfl zq39_0 ?_
      with_reducible refine (cenotaphref01_Right.calls k1 ((rd_T76 l0 x3_1).f0) false _ A4.out).mono ?_
      rintro e w' ⟨rfl, ⟨nd, rfl⟩⟩
      refine ⟨_, rfl, ?_⟩
      refine hK.out _ _ ⟨((HB.out.cell (World.block_lt_of_cell? w _ hw181_0)).trans hw181_0), ((HB.out.cell (World.block_lt_of_cell? w _ hw181_1)).trans hw181_1)⟩ (fun hHeld => ?_)
      clear hK K
      refine norm_ (a' := ?_) ?_ ?_
      rotate_left
      ·show Act.put _ (some 15) _ = _
       simp only [Act.put, List.setIfInBounds_toArray, List.set_cons_zero, List.set_cons_succ, i64_w, i32_w]
       rfl
      refine p_ 6 16 (mk_ 42 0x7f) ?_
      refine p_ 7 17 (mk_ 42 0xff) ?_
      refine u_ 8 18 (mk_ 42 0x1ff) ?_
      refine u_ 9 19 (mk_ 42 0x3ff) ?_
      refine u_ 10 20 (mk_ 42 0x7ff) ?_
      refine u_ 11 21 (mk_ 42 0xfff) ?_
      refine u_ 12 22 (mk_ 42 0x1fff) ?_
      refine u_ 13 23 (mk_ 42 0x3fff) ?_
      refine p_ 14 24 (mk_ 42 0x7fff) ?_
      refine p_ 15 25 (mk_ 42 0xffff) ?_
      refine u_ 16 26 (mk_ 42 0x1ffff) ?_
      refine u_ 17 27 (mk_ 42 0x3ffff) ?_
      refine u_ 18 28 (mk_ 42 0x7ffff) ?_
      refine u_ 19 29 (mk_ 42 0xfffff) ?_
      refine u_ 20 30 (mk_ 42 0x1fffff) ?_
      refine u_ 21 31 (mk_ 42 0x3fffff) ?_
      refine p_ 22 32 (mk_ 42 0x7fffff) ?_
      refine p_ 23 33 (mk_ 42 0xffffff) ?_
      refine u_ 24 34 (mk_ 42 0x1ffffff) ?_
      refine u_ 25 35 (mk_ 42 0x3ffffff) ?_
      refine u_ 26 36 (mk_ 42 0x7ffffff) ?_
      refine u_ 27 37 (mk_ 42 0xfffffff) ?_
      refine u_ 28 38 (mk_ 42 0x1fffffff) ?_
      refine u_ 29 39 (mk_ 42 0x3fffffff) ?_
      refine u_ 30 40 (mk_ 42 0x7fffffff) ?_
      refine u_ 31 41 (mk_ 42 0xffffffff) ?_
      refine u_ 32 42 (mk_ 42 0x1ffffffff) ?_
      refine u_ 33 43 (mk_ 42 0x3ffffffff) ?_
      refine u_ 34 44 (mk_ 42 0x7ffffffff) ?_
      refine u_ 35 45 (mk_ 42 0xfffffffff) ?_
      refine u_ 36 46 (mk_ 42 0x1fffffffff) ?_
      refine u_ 37 47 (mk_ 42 0x3fffffffff) ?_
      refine u_ 38 48 (mk_ 42 0x7fffffffff) ?_
      refine u_ 39 49 (mk_ 42 0xffffffffff) ?_
      refine u_ 40 50 (mk_ 42 0x1ffffffffff) ?_
      refine p_ 41 51 (mk_ 42 0x3ffffffffff) ?_
      refine done_ (done_of HT_.out (by kernel_rfl)) ?_
      try go_wp2
      go_ret
      exact ⟨by first | rfl | (simp [errW_none, errW_some] <;> rfl) | (simp [*, errW_none, errW_some] <;> rfl), by repeat (first | (with_reducible first | exact HB.out | apply below_alloc | apply pw_below_drewN | apply below_drew1) | exact HB.out)⟩
    ·rw [if_neg c3] at H
     exact absurd H (by simp)
   ·rw [if_neg c2] at H
    have c2b0 : decide (x3_1 < (l0.length : Int)) = false := decide_eq_false c2
    clear c2
    obtain rfl := Option.some.inj H
    go_wp2
    go_ret
    exact ⟨by first | rfl | (simp [errW_none, errW_some] <;> rfl) | (simp [*, errW_none, errW_some] <;> rfl), by repeat (first | (with_reducible first | exact HB.out | apply below_alloc | apply pw_below_drewN | apply below_drew1) | exact HB.out)⟩

/-! ### cenotaphref10_Right: function 11 -/
theorem zq11_0 {p_ : Prop} (h_ : p_ := by (try simp only [List.map_toArray, List.map_cons, List.map_nil]); first | done | rfl | (simp only [List.length_drop, List.length_take]; rfl)) : p_ := h_
theorem zq11_1 {p_ : Prop} (h_ : p_ := by repeat (first | (with_reducible first | exact HB.out | apply below_alloc | apply pw_below_drewN | apply below_drew1) | exact HB.out)) : p_ := h_
theorem zq11_2 {p_ : Prop} (h_ : p_ := by first | (with_reducible assumption) | assumption) : p_ := h_
theorem zq11_3 {p_ : Prop} (h_ : p_ := by first | rfl | (simp; done) | (simp [*]; done)) : p_ := h_
def cenotaphref10_Right.l0 : Nat → List (S25) → Int → Option (Bool)
 | 0, _, _ => none
 | k + 1, x0, x3 => if x3 < (x0.length : Int) then (if 0 ≤ x3 then ((cenotaphref01_Right.f k ((rd_T25 x0 x3).f0)).bind fun t189 => (if t189 = true then ((cenotaphref03_Right.f k ((rd_T25 x0 x3).f1)).bind fun t191 => (if t191 = true then (if (((rd_T25 x0 x3).f1).length : Int) < 1 then (some false) else (if x3 > 0 then (if 0 ≤ (wrap64 (x3 - 1)) then (if (wrap64 (x3 - 1)) < (x0.length : Int) then ((cenotaphref01_Compare.f k ((rd_T25 x0 (wrap64 (x3 - 1))).f0) ((rd_T25 x0 x3).f0)).bind fun t195 => (if t195 ≥ 0 then (some false) else (cenotaphref10_Right.l0 k x0 (wrap64 (x3 + 1))))) else (none)) else (none)) else (cenotaphref10_Right.l0 k x0 (wrap64 (x3 + 1))))) else (some false))) else (some false))) else (none)) else (some true)
def cenotaphref10_Right.f (k : Nat) (l0 : List (S25)) : Option (Bool) := cenotaphref10_Right.l0 k l0 0
theorem cenotaphref10_Right.mono_l : ∀ k, (∀ y0 y1, LeO (cenotaphref10_Right.l0 k y0 y1) (cenotaphref10_Right.l0 (k + 1) y0 y1))
 | 0 => fun _ _ r h => by simp [cenotaphref10_Right.l0] at h
 | k + 1 => by
  have ih0 := cenotaphref10_Right.mono_l k
  ·intro y0 y1
   unfold cenotaphref10_Right.l0
   repeat' first
   | (with_reducible exact ih0 _ _)
   | (with_reducible exact cenotaphref01_Compare.mono _ _ _)
   | (with_reducible exact cenotaphref01_Right.mono _ _)
   | (with_reducible exact cenotaphref03_Right.mono _ _)
   | (with_reducible exact LeO.refl _)
   | (with_reducible exact LeO.none _)
   | (with_reducible refine LeO.ite ?_ ?_)
   | (with_reducible refine LeO.bind ?_ (fun _ => ?_))
   | exact ih0 _ _
   | exact cenotaphref01_Compare.mono _ _ _
   | exact cenotaphref01_Right.mono _ _
   | exact cenotaphref03_Right.mono _ _
   | exact LeO.none _
   | refine LeO.ite ?_ ?_
   | refine LeO.bind ?_ (fun _ => ?_)
theorem cenotaphref10_Right.mono : ∀ a0 k, LeO (cenotaphref10_Right.f k a0) (cenotaphref10_Right.f (k + 1) a0) := by
 intro a0 k
 have ih0 := cenotaphref10_Right.mono_l k
 unfold cenotaphref10_Right.f
 repeat' first
   | (with_reducible exact ih0 _ _)
   | (with_reducible exact cenotaphref01_Compare.mono _ _ _)
   | (with_reducible exact cenotaphref01_Right.mono _ _)
   | (with_reducible exact cenotaphref03_Right.mono _ _)
   | (with_reducible exact LeO.refl _)
   | (with_reducible exact LeO.none _)
   | (with_reducible refine LeO.ite ?_ ?_)
   | (with_reducible refine LeO.bind ?_ (fun _ => ?_))
   | exact ih0 _ _
   | exact cenotaphref01_Compare.mono _ _ _
   | exact cenotaphref01_Right.mono _ _
   | exact cenotaphref03_Right.mono _ _
   | exact LeO.none _
   | refine LeO.ite ?_ ?_
   | refine LeO.bind ?_ (fun _ => ?_)
def cenotaphref10_Right.T4 : Bool × List (List Nat × List Nat) := (true, [([], []), ([], []), ([0, 1], [0, 1]), ([2], [2]), ([3], [3]), ([4], [4]), ([5], [5]), ([6, 5], [6]), ([7], [7]), ([7], [7]), ([8, 9, 7], [7, 8, 9]), ([10, 7], [7, 10]), ([11, 7], [7, 11]), ([12, 7, 7], [7, 12]), ([13, 7], [7, 13]), ([7, 14], [7, 14]), ([15, 13], [15]), ([16], [16]), ([16], [16]), ([17, 18, 16], [16, 17, 18]), ([19, 16], [16, 19]), ([20, 16], [16, 20]), ([21, 16], [16, 21]), ([22, 16], [16, 22]), ([16, 23], [16, 23]), ([24, 16], [24]), ([25], [25]), ([26, 25], [25, 26]), ([27, 25, 25], [25, 27]), ([28], [28]), ([28], [28]), ([30, 28], [28, 30]), ([29, 31, 28], [28, 29, 31]), ([32, 28], [28, 32]), ([33, 28], [28, 33]), ([28], [28]), ([28], [28]), ([35, 36, 28], [28, 35, 36]), ([37, 28], [28, 37]), ([38, 28], [28, 38]), ([34, 39, 28, 28], [28, 34, 39]), ([40, 28], [28, 40]), ([28, 41, 25], [25, 28, 41]), ([25, 42], [25, 42])])
def cenotaphref10_Right.B4 : List Nat := [0, 0, 3, 7, 15, 31, 63, 127, 255, 255, 1023, 2047, 4095, 8191, 16383, 32767, 65535, 131071, 131071, 524287, 1048575, 2097151, 4194303, 8388607, 16777215, 33554431, 67108863, 134217727, 268435455, 536870911, 536870911, 1610612735, 4294967295, 8589934591, 17179869183, 536870911, 536870911, 103616086015, 241055039487, 515932946431, 1099511627775, 2199023255551, 4398046511103, 8796093022207]
theorem cenotaphref10_Right.tab4 : rtab .any (opsOf Try.f11 4) = cenotaphref10_Right.T4 := by kernel_rfl
theorem cenotaphref10_Right.bits4 : waitsOk cenotaphref10_Right.T4.2 cenotaphref10_Right.B4 = true := by kernel_rfl
set_option maxHeartbeats 8000000 in
set_option maxRecDepth 100000 in
theorem cenotaphref10_Right.calls (k : Nat) (A0 : Option Addr) (c0 : Nat) (l0 : List (S25)) (r : Bool) (w : World) (hr0 : Kd.C k25 w A0 l0.length l0) (hc0 : l0.length ≤ c0) (h : cenotaphref10_Right.f k l0 = some r) :
  Calls Try.prog 11 #[.slice A0 l0.length c0] w fun e w' => e = .returned (.bool r) ∧ Below w.heap.size w w' := by
 have HR0 := Aside0.mk hr0
 have HC0 := Aside0.mk hc0
 clear hr0 hc0
 have HB := Aside0.mk (Below.refl w.heap.size w)
 have H : (cenotaphref10_Right.l0 k l0 0) = some r := h
 clear h
 have H' := Aside0.mk H
 clear H
 go_enter Try.func11, Try.ntmps11
 go_wp2
 go_loopg [3] k (fun kq v3 w' => ∃ (x3_1 : Int), v3 = .int .i64 x3_1 ∧ Aside0 (cenotaphref10_Right.l0 kq l0 x3_1 = some r) ∧ Aside0 (kq ≤ k) ∧ Aside0 (Below w.heap.size w w'))
 case atStart => exact ⟨(0), zq11_3, H', ⟨Nat.le_refl _⟩, ⟨by repeat (first | (with_reducible first | exact HB.out | apply below_alloc | apply pw_below_drewN | apply below_drew1) | exact HB.out)⟩⟩
 case round =>
  clear H'
  try clear c1
  obtain ⟨x3_1, rfl, HA, HK1, HB⟩ := hrel
  cases gk with
  | zero => exact absurd HA.out (by simp [cenotaphref10_Right.l0])
  | succ k1 =>
   have H := HA.out
   clear HA
   simp only [cenotaphref10_Right.l0] at H
   by_cases c2 : x3_1 < (l0.length : Int)
   ·rw [if_pos c2] at H
    have c2b0 : decide (x3_1 < (l0.length : Int)) = true := decide_eq_true c2
    clear c2
    by_cases c3 : 0 ≤ x3_1
    ·rw [if_pos c3] at H
     have c3b0 : decide (0 ≤ x3_1) = true := decide_eq_true c3
     clear c3
     replace H := Option.bind_eq_some_iff.mp H
     obtain ⟨t189, A40, H⟩ := H
     replace H : (if t189 = true then ((cenotaphref03_Right.f k1 ((rd_T25 l0 x3_1).f1)).bind fun t191 => (if t191 = true then (if (((rd_T25 l0 x3_1).f1).length : Int) < 1 then (some false) else (if x3_1 > 0 then (if 0 ≤ (wrap64 (x3_1 - 1)) then (if (wrap64 (x3_1 - 1)) < (l0.length : Int) then ((cenotaphref01_Compare.f k1 ((rd_T25 l0 (wrap64 (x3_1 - 1))).f0) ((rd_T25 l0 x3_1).f0)).bind fun t195 => (if t195 ≥ 0 then (some false) else (cenotaphref10_Right.l0 k1 l0 (wrap64 (x3_1 + 1))))) else (none)) else (none)) else (cenotaphref10_Right.l0 k1 l0 (wrap64 (x3_1 + 1))))) else (some false))) else (some false)) = some r := H
     have A4 := Aside0.mk A40
     clear A40
     by_cases c5 : t189 = true
     ·subst c5
      have H1 : ((cenotaphref03_Right.f k1 ((rd_T25 l0 x3_1).f1)).bind fun t191 => (if t191 = true then (if (((rd_T25 l0 x3_1).f1).length : Int) < 1 then (some false) else (if x3_1 > 0 then (if 0 ≤ (wrap64 (x3_1 - 1)) then (if (wrap64 (x3_1 - 1)) < (l0.length : Int) then ((cenotaphref01_Compare.f k1 ((rd_T25 l0 (wrap64 (x3_1 - 1))).f0) ((rd_T25 l0 x3_1).f0)).bind fun t195 => (if t195 ≥ 0 then (some false) else (cenotaphref10_Right.l0 k1 l0 (wrap64 (x3_1 + 1))))) else (none)) else (none)) else (cenotaphref10_Right.l0 k1 l0 (wrap64 (x3_1 + 1))))) else (some false))) = some r := by rw [if_pos rfl] at H; exact H
      clear H
      have H := H1
      clear H1
      replace H := Option.bind_eq_some_iff.mp H
      obtain ⟨t191, A60, H⟩ := H
      replace H : (if t191 = true then (if (((rd_T25 l0 x3_1).f1).length : Int) < 1 then (some false) else (if x3_1 > 0 then (if 0 ≤ (wrap64 (x3_1 - 1)) then (if (wrap64 (x3_1 - 1)) < (l0.length : Int) then ((cenotaphref01_Compare.f k1 ((rd_T25 l0 (wrap64 (x3_1 - 1))).f0) ((rd_T25 l0 x3_1).f0)).bind fun t195 => (if t195 ≥ 0 then (some false) else (cenotaphref10_Right.l0 k1 l0 (wrap64 (x3_1 + 1))))) else (none)) else (none)) else (cenotaphref10_Right.l0 k1 l0 (wrap64 (x3_1 + 1))))) else (some false)) = some r := H
      have A6 := Aside0.mk A60
      clear A60
      by_cases c7 : t191 = true
      ·subst c7
       have H1 : (if (((rd_T25 l0 x3_1).f1).length : Int) < 1 then (some false) else (if x3_1 > 0 then (if 0 ≤ (wrap64 (x3_1 - 1)) then (if (wrap64 (x3_1 - 1)) < (l0.length : Int) then ((cenotaphref01_Compare.f k1 ((rd_T25 l0 (wrap64 (x3_1 - 1))).f0) ((rd_T25 l0 x3_1).f0)).bind fun t195 => (if t195 ≥ 0 then (some false) else (cenotaphref10_Right.l0 k1 l0 (wrap64 (x3_1 + 1))))) else (none)) else (none)) else (cenotaphref10_Right.l0 k1 l0 (wrap64 (x3_1 + 1))))) = some r := by rw [if_pos rfl] at H; exact H
       clear H
       have H := H1
       clear H1
       by_cases c8 : (((rd_T25 l0 x3_1).f1).length : Int) < 1
       ·rw [if_pos c8] at H
        have c8b0 : decide ((((rd_T25 l0 x3_1).f1).length : Int) < 1) = true := decide_eq_true c8
        have c8b1 : decide (((rd_T25 l0 x3_1).f1).length < 1) = true := decide_eq_true (by omega)
        clear c8
        obtain rfl := Option.some.inj H
        try go_wp2
        replace HB := Aside0.mk (below_drew1 HB.out)
        have p188 : 0 ≤ (x3_1 : Int) := of_decide_eq_true zq11_2
        have q188 : x3_1 < (l0.length : Int) := of_decide_eq_true zq11_2
        obtain ⟨ad188, A188_1, c188_1, e188, hx188_0, hx188_1, hl188_1, hi188_1⟩ := at_T25 HR0.out x3_1 p188 q188
        have hw188_1 := hx188_1
        have hw188_0 := hx188_0
        cases e188
        replace hx188_0 := (HB.out.cell (World.block_lt_of_cell? w _ hx188_0)).trans hx188_0
        replace hx188_1 := (HB.out.cell (World.block_lt_of_cell? w _ hx188_1)).trans hx188_1
        have HR188_1 := Aside0.mk hi188_1
        have HC188_1 := Aside0.mk hl188_1
        clear hi188_1 hl188_1
        replace p188 := eq_true p188
        replace q188 := eq_true q188
        have p190 : 0 ≤ (x3_1 : Int) := of_decide_eq_true zq11_2
        have q190 : x3_1 < (l0.length : Int) := of_decide_eq_true zq11_2
        obtain ⟨ad190, A190_1, c190_1, e190, hx190_0, hx190_1, hl190_1, hi190_1⟩ := at_T25 HR0.out x3_1 p190 q190
        have hw190_1 := hx190_1
        have hw190_0 := hx190_0
        obtain rfl : ad188 = ad190 := (by injection e190)
        replace hx190_0 := (HB.out.cell (World.block_lt_of_cell? w _ hx190_0)).trans hx190_0
        replace hx190_1 := (HB.out.cell (World.block_lt_of_cell? w _ hx190_1)).trans hx190_1
        have HR190_1 := Aside0.mk hi190_1
        have HC190_1 := Aside0.mk hl190_1
        clear hi190_1 hl190_1
        replace p190 := eq_true p190
        replace q190 := eq_true q190
        have ea_ := Option.some.inj (hx188_1.symm.trans hx190_1)
        injection ea_ with ea_ en_ ec_
        subst ea_
        subst ec_
        clear en_
        have p192 : 0 ≤ (x3_1 : Int) := of_decide_eq_true zq11_2
        have q192 : x3_1 < (l0.length : Int) := of_decide_eq_true zq11_2
        obtain ⟨ad192, A192_1, c192_1, e192, hx192_0, hx192_1, hl192_1, hi192_1⟩ := at_T25 HR0.out x3_1 p192 q192
        have hw192_1 := hx192_1
        have hw192_0 := hx192_0
        obtain rfl : ad188 = ad192 := (by injection e192)
        replace hx192_0 := (HB.out.cell (World.block_lt_of_cell? w _ hx192_0)).trans hx192_0
        replace hx192_1 := (HB.out.cell (World.block_lt_of_cell? w _ hx192_1)).trans hx192_1
        have HR192_1 := Aside0.mk hi192_1
        have HC192_1 := Aside0.mk hl192_1
        clear hi192_1 hl192_1
        replace p192 := eq_true p192
        replace q192 := eq_true q192
        refine start_ (n := 44) (S := fun w' => w'.cell? (ad188.add ((x3_1).toNat * 2)) = some (.string ((rd_T25 l0 x3_1).f0)) ∧ w'.cell? ⟨(ad188.add ((x3_1).toNat * 2)).block, (ad188.add ((x3_1).toNat * 2)).off + 1, none⟩ = some (.slice A188_1 ((rd_T25 l0 x3_1).f1).length c188_1) ∧ w'.cell? (ad188.add ((x3_1).toNat * 2)) = some (.string ((rd_T25 l0 x3_1).f0)) ∧ w'.cell? ⟨(ad188.add ((x3_1).toNat * 2)).block, (ad188.add ((x3_1).toNat * 2)).off + 1, none⟩ = some (.slice A188_1 ((rd_T25 l0 x3_1).f1).length c188_1) ∧ w'.cell? (ad188.add ((x3_1).toNat * 2)) = some (.string ((rd_T25 l0 x3_1).f0)) ∧ w'.cell? ⟨(ad188.add ((x3_1).toNat * 2)).block, (ad188.add ((x3_1).toNat * 2)).off + 1, none⟩ = some (.slice A192_1 ((rd_T25 l0 x3_1).f1).length c192_1)) (ds := []) #[false, false, false, false, false, false, false, false, false, false, false, false, false, false, false, false, false, false, false, false, false, false, false, false, false, false, false, false, false, false, false, false, false, false, false, false, false, false, false, false, false, false, false, false] (by kernel_rfl) rfl rfl ⟨((HB.out.cell (World.block_lt_of_cell? w _ hw188_0)).trans hw188_0), ((HB.out.cell (World.block_lt_of_cell? w _ hw188_1)).trans hw188_1), ((HB.out.cell (World.block_lt_of_cell? w _ hw190_0)).trans hw190_0), ((HB.out.cell (World.block_lt_of_cell? w _ hw190_1)).trans hw190_1), ((HB.out.cell (World.block_lt_of_cell? w _ hw192_0)).trans hw192_0), ((HB.out.cell (World.block_lt_of_cell? w _ hw192_1)).trans hw192_1)⟩ (fun hHeld => ?_); refine with_tabW cenotaphref10_Right.tab4 cenotaphref10_Right.bits4 (fun HT_ HW_ => ?_)
        generalize wr.drew = w9 at HB HR188_1 HR190_1 HR192_1 hx188_0 hx188_1 hx190_0 hx190_1 hx192_0 hx192_1 hHeld ⊢
        refine p_ 0 10 (mk_ 44 0x1) ?_
        refine p_ 1 11 (mk_ 44 0x3) ?_
        refine p_ 2 12 (mk_ 44 0x7) ?_
        refine p_ 3 13 (mk_ 44 0xf) ?_
        refine t_ 4 14 (mk_ 44 0x1f) hHeld ?_
        refine one_ (i := 5) (N := some 15) #[true, true, true, true, true, true, false, false, false, false, false, false, false, false, false, false, false, false, false, false, false, false, false, false, false, false, false, false, false, false, false, false, false, false, false, false, false, false, false, false, false, false, false, false] rfl rfl (one_of HT_.out (by kernel_rfl)) (by decide) (fun K hK => ?_)
        refine goes_ Try.func38 (by kernel_rfl) rfl #[.string ((rd_T25 l0 x3_1).f0)] (by rfl) rfl rfl zq11_0 ?_
        with_reducible refine (cenotaphref01_Right.calls k1 ((rd_T25 l0 x3_1).f0) true _ A4.out).mono ?_
        rintro e w' ⟨rfl, ⟨nd, rfl⟩⟩
        refine ⟨_, rfl, ?_⟩
        refine hK.out _ _ ⟨((HB.out.cell (World.block_lt_of_cell? w _ hw188_0)).trans hw188_0), ((HB.out.cell (World.block_lt_of_cell? w _ hw188_1)).trans hw188_1), ((HB.out.cell (World.block_lt_of_cell? w _ hw190_0)).trans hw190_0), ((HB.out.cell (World.block_lt_of_cell? w _ hw190_1)).trans hw190_1), ((HB.out.cell (World.block_lt_of_cell? w _ hw192_0)).trans hw192_0), ((HB.out.cell (World.block_lt_of_cell? w _ hw192_1)).trans hw192_1)⟩ (fun hHeld => ?_)
        clear hK K
        refine norm_ (a' := ?_) ?_ ?_
        rotate_left
        ·show Act.put _ (some 15) _ = _
         simp only [Act.put, List.setIfInBounds_toArray, List.set_cons_zero, List.set_cons_succ, i64_w, i32_w]
         rfl
        refine p_ 6 16 (mk_ 44 0x7f) ?_
        refine p_ 7 17 (mk_ 44 0xff) ?_
        refine p_ 8 18 (mk_ 44 0x1ff) ?_
        refine p_ 9 19 (mk_ 44 0x3ff) ?_
        refine p_ 10 20 (mk_ 44 0x7ff) ?_
        refine p_ 11 21 (mk_ 44 0xfff) ?_
        refine t_ 12 22 (mk_ 44 0x1fff) hHeld ?_
        refine one_ (i := 13) (N := some 23) #[true, true, true, true, true, true, true, true, true, true, true, true, true, true, false, false, false, false, false, false, false, false, false, false, false, false, false, false, false, false, false, false, false, false, false, false, false, false, false, false, false, false, false, false] rfl rfl (one_of HT_.out (by kernel_rfl)) (by decide) (fun K hK => ?_)
        refine goes_ Try.func39 (by kernel_rfl) rfl #[.slice A188_1 ((rd_T25 l0 x3_1).f1).length c188_1] (by rfl) rfl rfl zq11_0 ?_
        with_reducible refine (cenotaphref03_Right.calls k1 _ _ ((rd_T25 l0 x3_1).f1) true _ ?side1 ?side2 A6.out).mono ?_
        (case side1 => repeat (first | exact (Kd.C_below HR190_1.out zq11_1) | (with_reducible refine Kd.C_alloc ?_ _) | (with_reducible refine Kd.C_drewN ?_ _) | (with_reducible refine Kd.C_drew ?_)))
        (case side2 => exact HC190_1.out)
        rintro e w10 ⟨rfl, hb⟩
        refine ⟨_, rfl, ?_⟩
        replace HB := Aside0.mk (below_step zq11_1 hb)
        (try clear hb)
        (try clear hb2)
        (try clear hk)
        (try clear hi)
        refine hK.out _ _ ⟨((HB.out.cell (World.block_lt_of_cell? w _ hw188_0)).trans hw188_0), ((HB.out.cell (World.block_lt_of_cell? w _ hw188_1)).trans hw188_1), ((HB.out.cell (World.block_lt_of_cell? w _ hw190_0)).trans hw190_0), ((HB.out.cell (World.block_lt_of_cell? w _ hw190_1)).trans hw190_1), ((HB.out.cell (World.block_lt_of_cell? w _ hw192_0)).trans hw192_0), ((HB.out.cell (World.block_lt_of_cell? w _ hw192_1)).trans hw192_1)⟩ (fun hHeld => ?_)
        clear hK K
        refine norm_ (a' := ?_) ?_ ?_
        rotate_left
        ·show Act.put _ (some 23) _ = _
         simp only [Act.put, List.setIfInBounds_toArray, List.set_cons_zero, List.set_cons_succ, i64_w, i32_w]
         rfl
        refine p_ 14 24 (mk_ 44 0x7fff) ?_
        refine p_ 15 25 (mk_ 44 0xffff) ?_
        refine p_ 16 26 (mk_ 44 0x1ffff) ?_
        refine p_ 17 27 (mk_ 44 0x3ffff) ?_
        refine p_ 18 28 (mk_ 44 0x7ffff) ?_
        refine p_ 19 29 (mk_ 44 0xfffff) ?_
        refine p_ 20 30 (mk_ 44 0x1fffff) ?_
        refine t_ 21 31 (mk_ 44 0x3fffff) hHeld ?_
        refine p_ 22 32 (mk_ 44 0x7fffff) ?_
        refine p_ 23 33 (mk_ 44 0xffffff) ?_
        refine p_ 24 34 (mk_ 44 0x1ffffff) ?_
        refine p_ 25 35 (mk_ 44 0x3ffffff) ?_
        refine u_ 26 36 (mk_ 44 0x7ffffff) ?_
        refine u_ 27 37 (mk_ 44 0xfffffff) ?_
        refine u_ 28 38 (mk_ 44 0x1fffffff) ?_
        refine u_ 29 39 (mk_ 44 0x3fffffff) ?_
        refine u_ 30 40 (mk_ 44 0x7fffffff) ?_
        refine u_ 31 41 (mk_ 44 0xffffffff) ?_
        refine u_ 32 42 (mk_ 44 0x1ffffffff) ?_
        refine u_ 33 43 (mk_ 44 0x3ffffffff) ?_
        refine u_ 34 44 (mk_ 44 0x7ffffffff) ?_
        refine u_ 35 45 (mk_ 44 0xfffffffff) ?_
        refine u_ 36 46 (mk_ 44 0x1fffffffff) ?_
        refine u_ 37 47 (mk_ 44 0x3fffffffff) ?_
        refine u_ 38 48 (mk_ 44 0x7fffffffff) ?_
        refine u_ 39 49 (mk_ 44 0xffffffffff) ?_
        refine u_ 40 50 (mk_ 44 0x1ffffffffff) ?_
        refine u_ 41 51 (mk_ 44 0x3ffffffffff) ?_
        refine u_ 42 52 (mk_ 44 0x7ffffffffff) ?_
        refine p_ 43 53 (mk_ 44 0xfffffffffff) ?_
        refine done_ (done_of HT_.out (by kernel_rfl)) ?_
        try go_wp2
        go_ret
        exact ⟨by first | rfl | (simp [errW_none, errW_some] <;> rfl) | (simp [*, errW_none, errW_some] <;> rfl), by repeat (first | (with_reducible first | exact HB.out | apply below_alloc | apply pw_below_drewN | apply below_drew1) | exact HB.out)⟩
       ·rw [if_neg c8] at H
        have c8b0 : decide ((((rd_T25 l0 x3_1).f1).length : Int) < 1) = false := decide_eq_false c8
        have c8b1 : decide (((rd_T25 l0 x3_1).f1).length < 1) = false := decide_eq_false (by omega)
        clear c8
        by_cases c11 : x3_1 > 0
        ·rw [if_pos c11] at H
         have c11b0 : decide (0 < x3_1) = true := decide_eq_true c11
         clear c11
         obtain ⟨ji12, hji12⟩ : ∃ j_ : Int, (wrap64 (x3_1 - 1)) = j_ := ⟨_, rfl⟩
         replace H : (if 0 ≤ (ji12) then (if (ji12) < (l0.length : Int) then ((cenotaphref01_Compare.f k1 ((rd_T25 l0 (ji12)).f0) ((rd_T25 l0 x3_1).f0)).bind fun t195 => (if t195 ≥ 0 then (some false) else (cenotaphref10_Right.l0 k1 l0 (wrap64 (x3_1 + 1))))) else (none)) else (none)) = some r := by first | (rw [hji12] at H; exact H) | (simp only [hji12] at H ⊢; exact H)
         (try rw [hji12] at A4)
         (try rw [hji12] at A6)
         have hji12w : (IntKind.i64.wrap (x3_1 - 1)) = ji12 := (i64_w _).trans hji12
         by_cases c13 : 0 ≤ (ji12)
         ·rw [if_pos c13] at H
          have c13b0 : decide (0 ≤ (ji12)) = true := decide_eq_true c13
          clear c13
          by_cases c14 : (ji12) < (l0.length : Int)
          ·rw [if_pos c14] at H
           have c14b0 : decide ((ji12) < (l0.length : Int)) = true := decide_eq_true c14
           clear c14
           replace H := Option.bind_eq_some_iff.mp H
           obtain ⟨t195, A150, H⟩ := H
           replace H : (if t195 ≥ 0 then (some false) else (cenotaphref10_Right.l0 k1 l0 (wrap64 (x3_1 + 1)))) = some r := H
           have A15 := Aside0.mk A150
           clear A150
           by_cases c16 : t195 ≥ 0
           ·rw [if_pos c16] at H
            have c16b0 : decide (0 ≤ t195) = true := decide_eq_true c16
            clear c16
            obtain rfl := Option.some.inj H
            try go_wp2
            replace HB := Aside0.mk (below_drew1 HB.out)
            have p188 : 0 ≤ (x3_1 : Int) := of_decide_eq_true zq11_2
            have q188 : x3_1 < (l0.length : Int) := of_decide_eq_true zq11_2
            obtain ⟨ad188, A188_1, c188_1, e188, hx188_0, hx188_1, hl188_1, hi188_1⟩ := at_T25 HR0.out x3_1 p188 q188
            have hw188_1 := hx188_1
            have hw188_0 := hx188_0
            cases e188
            replace hx188_0 := (HB.out.cell (World.block_lt_of_cell? w _ hx188_0)).trans hx188_0
            replace hx188_1 := (HB.out.cell (World.block_lt_of_cell? w _ hx188_1)).trans hx188_1
            have HR188_1 := Aside0.mk hi188_1
            have HC188_1 := Aside0.mk hl188_1
            clear hi188_1 hl188_1
            replace p188 := eq_true p188
            replace q188 := eq_true q188
            have p190 : 0 ≤ (x3_1 : Int) := of_decide_eq_true zq11_2
            have q190 : x3_1 < (l0.length : Int) := of_decide_eq_true zq11_2
            obtain ⟨ad190, A190_1, c190_1, e190, hx190_0, hx190_1, hl190_1, hi190_1⟩ := at_T25 HR0.out x3_1 p190 q190
            have hw190_1 := hx190_1
            have hw190_0 := hx190_0
            obtain rfl : ad188 = ad190 := (by injection e190)
            replace hx190_0 := (HB.out.cell (World.block_lt_of_cell? w _ hx190_0)).trans hx190_0
            replace hx190_1 := (HB.out.cell (World.block_lt_of_cell? w _ hx190_1)).trans hx190_1
            have HR190_1 := Aside0.mk hi190_1
            have HC190_1 := Aside0.mk hl190_1
            clear hi190_1 hl190_1
            replace p190 := eq_true p190
            replace q190 := eq_true q190
            have ea_ := Option.some.inj (hx188_1.symm.trans hx190_1)
            injection ea_ with ea_ en_ ec_
            subst ea_
            subst ec_
            clear en_
            have p192 : 0 ≤ (x3_1 : Int) := of_decide_eq_true zq11_2
            have q192 : x3_1 < (l0.length : Int) := of_decide_eq_true zq11_2
            obtain ⟨ad192, A192_1, c192_1, e192, hx192_0, hx192_1, hl192_1, hi192_1⟩ := at_T25 HR0.out x3_1 p192 q192
            have hw192_1 := hx192_1
            have hw192_0 := hx192_0
            obtain rfl : ad188 = ad192 := (by injection e192)
            replace hx192_0 := (HB.out.cell (World.block_lt_of_cell? w _ hx192_0)).trans hx192_0
            replace hx192_1 := (HB.out.cell (World.block_lt_of_cell? w _ hx192_1)).trans hx192_1
            have HR192_1 := Aside0.mk hi192_1
            have HC192_1 := Aside0.mk hl192_1
            clear hi192_1 hl192_1
            replace p192 := eq_true p192
            replace q192 := eq_true q192
            have p193 : 0 ≤ ((ji12) : Int) := of_decide_eq_true zq11_2
            have q193 : (ji12) < (l0.length : Int) := of_decide_eq_true zq11_2
            obtain ⟨ad193, A193_1, c193_1, e193, hx193_0, hx193_1, hl193_1, hi193_1⟩ := at_T25 HR0.out (ji12) p193 q193
            have hw193_1 := hx193_1
            have hw193_0 := hx193_0
            obtain rfl : ad188 = ad193 := (by injection e193)
            replace hx193_0 := (HB.out.cell (World.block_lt_of_cell? w _ hx193_0)).trans hx193_0
            replace hx193_1 := (HB.out.cell (World.block_lt_of_cell? w _ hx193_1)).trans hx193_1
            have HR193_1 := Aside0.mk hi193_1
            have HC193_1 := Aside0.mk hl193_1
            clear hi193_1 hl193_1
            replace p193 := eq_true p193
            replace q193 := eq_true q193
            have p194 : 0 ≤ (x3_1 : Int) := of_decide_eq_true zq11_2
            have q194 : x3_1 < (l0.length : Int) := of_decide_eq_true zq11_2
            obtain ⟨ad194, A194_1, c194_1, e194, hx194_0, hx194_1, hl194_1, hi194_1⟩ := at_T25 HR0.out x3_1 p194 q194
            have hw194_1 := hx194_1
            have hw194_0 := hx194_0
            obtain rfl : ad188 = ad194 := (by injection e194)
            replace hx194_0 := (HB.out.cell (World.block_lt_of_cell? w _ hx194_0)).trans hx194_0
            replace hx194_1 := (HB.out.cell (World.block_lt_of_cell? w _ hx194_1)).trans hx194_1
            have HR194_1 := Aside0.mk hi194_1
            have HC194_1 := Aside0.mk hl194_1
            clear hi194_1 hl194_1
            replace p194 := eq_true p194
            replace q194 := eq_true q194
            have ea_ := Option.some.inj (hx192_1.symm.trans hx194_1)
            injection ea_ with ea_ en_ ec_
            subst ea_
            subst ec_
            clear en_
            refine start_ (n := 44) (S := fun w' => w'.cell? (ad188.add ((x3_1).toNat * 2)) = some (.string ((rd_T25 l0 x3_1).f0)) ∧ w'.cell? ⟨(ad188.add ((x3_1).toNat * 2)).block, (ad188.add ((x3_1).toNat * 2)).off + 1, none⟩ = some (.slice A188_1 ((rd_T25 l0 x3_1).f1).length c188_1) ∧ w'.cell? (ad188.add ((x3_1).toNat * 2)) = some (.string ((rd_T25 l0 x3_1).f0)) ∧ w'.cell? ⟨(ad188.add ((x3_1).toNat * 2)).block, (ad188.add ((x3_1).toNat * 2)).off + 1, none⟩ = some (.slice A188_1 ((rd_T25 l0 x3_1).f1).length c188_1) ∧ w'.cell? (ad188.add ((x3_1).toNat * 2)) = some (.string ((rd_T25 l0 x3_1).f0)) ∧ w'.cell? ⟨(ad188.add ((x3_1).toNat * 2)).block, (ad188.add ((x3_1).toNat * 2)).off + 1, none⟩ = some (.slice A192_1 ((rd_T25 l0 x3_1).f1).length c192_1) ∧ w'.cell? (ad188.add (((ji12)).toNat * 2)) = some (.string ((rd_T25 l0 (ji12)).f0)) ∧ w'.cell? ⟨(ad188.add (((ji12)).toNat * 2)).block, (ad188.add (((ji12)).toNat * 2)).off + 1, none⟩ = some (.slice A193_1 ((rd_T25 l0 (ji12)).f1).length c193_1) ∧ w'.cell? (ad188.add ((x3_1).toNat * 2)) = some (.string ((rd_T25 l0 x3_1).f0)) ∧ w'.cell? ⟨(ad188.add ((x3_1).toNat * 2)).block, (ad188.add ((x3_1).toNat * 2)).off + 1, none⟩ = some (.slice A192_1 ((rd_T25 l0 x3_1).f1).length c192_1)) (ds := []) #[false, false, false, false, false, false, false, false, false, false, false, false, false, false, false, false, false, false, false, false, false, false, false, false, false, false, false, false, false, false, false, false, false, false, false, false, false, false, false, false, false, false, false, false] (by kernel_rfl) rfl rfl ⟨((HB.out.cell (World.block_lt_of_cell? w _ hw188_0)).trans hw188_0), ((HB.out.cell (World.block_lt_of_cell? w _ hw188_1)).trans hw188_1), ((HB.out.cell (World.block_lt_of_cell? w _ hw190_0)).trans hw190_0), ((HB.out.cell (World.block_lt_of_cell? w _ hw190_1)).trans hw190_1), ((HB.out.cell (World.block_lt_of_cell? w _ hw192_0)).trans hw192_0), ((HB.out.cell (World.block_lt_of_cell? w _ hw192_1)).trans hw192_1), ((HB.out.cell (World.block_lt_of_cell? w _ hw193_0)).trans hw193_0), ((HB.out.cell (World.block_lt_of_cell? w _ hw193_1)).trans hw193_1), ((HB.out.cell (World.block_lt_of_cell? w _ hw194_0)).trans hw194_0), ((HB.out.cell (World.block_lt_of_cell? w _ hw194_1)).trans hw194_1)⟩ (fun hHeld => ?_); refine with_tabW cenotaphref10_Right.tab4 cenotaphref10_Right.bits4 (fun HT_ HW_ => ?_)
            generalize wr.drew = w17 at HB HR188_1 HR190_1 HR192_1 HR193_1 HR194_1 hx188_0 hx188_1 hx190_0 hx190_1 hx192_0 hx192_1 hx193_0 hx193_1 hx194_0 hx194_1 hHeld ⊢
            refine p_ 0 10 (mk_ 44 0x1) ?_
            refine p_ 1 11 (mk_ 44 0x3) ?_
            refine p_ 2 12 (mk_ 44 0x7) ?_
            refine p_ 3 13 (mk_ 44 0xf) ?_
            refine t_ 4 14 (mk_ 44 0x1f) hHeld ?_
            refine one_ (i := 5) (N := some 15) #[true, true, true, true, true, true, false, false, false, false, false, false, false, false, false, false, false, false, false, false, false, false, false, false, false, false, false, false, false, false, false, false, false, false, false, false, false, false, false, false, false, false, false, false] rfl rfl (one_of HT_.out (by kernel_rfl)) (by decide) (fun K hK => ?_)
            refine goes_ Try.func38 (by kernel_rfl) rfl #[.string ((rd_T25 l0 x3_1).f0)] (by rfl) rfl rfl zq11_0 ?_
            with_reducible refine (cenotaphref01_Right.calls k1 ((rd_T25 l0 x3_1).f0) true _ A4.out).mono ?_
            rintro e w' ⟨rfl, ⟨nd, rfl⟩⟩
            refine ⟨_, rfl, ?_⟩
            refine hK.out _ _ ⟨((HB.out.cell (World.block_lt_of_cell? w _ hw188_0)).trans hw188_0), ((HB.out.cell (World.block_lt_of_cell? w _ hw188_1)).trans hw188_1), ((HB.out.cell (World.block_lt_of_cell? w _ hw190_0)).trans hw190_0), ((HB.out.cell (World.block_lt_of_cell? w _ hw190_1)).trans hw190_1), ((HB.out.cell (World.block_lt_of_cell? w _ hw192_0)).trans hw192_0), ((HB.out.cell (World.block_lt_of_cell? w _ hw192_1)).trans hw192_1), ((HB.out.cell (World.block_lt_of_cell? w _ hw193_0)).trans hw193_0), ((HB.out.cell (World.block_lt_of_cell? w _ hw193_1)).trans hw193_1), ((HB.out.cell (World.block_lt_of_cell? w _ hw194_0)).trans hw194_0), ((HB.out.cell (World.block_lt_of_cell? w _ hw194_1)).trans hw194_1)⟩ (fun hHeld => ?_)
            clear hK K
            refine norm_ (a' := ?_) ?_ ?_
            rotate_left
            ·show Act.put _ (some 15) _ = _
             simp only [Act.put, List.setIfInBounds_toArray, List.set_cons_zero, List.set_cons_succ, i64_w, i32_w]
             rfl
            refine p_ 6 16 (mk_ 44 0x7f) ?_
            refine p_ 7 17 (mk_ 44 0xff) ?_
            refine p_ 8 18 (mk_ 44 0x1ff) ?_
            refine p_ 9 19 (mk_ 44 0x3ff) ?_
            refine p_ 10 20 (mk_ 44 0x7ff) ?_
            refine p_ 11 21 (mk_ 44 0xfff) ?_
            refine t_ 12 22 (mk_ 44 0x1fff) hHeld ?_
            refine one_ (i := 13) (N := some 23) #[true, true, true, true, true, true, true, true, true, true, true, true, true, true, false, false, false, false, false, false, false, false, false, false, false, false, false, false, false, false, false, false, false, false, false, false, false, false, false, false, false, false, false, false] rfl rfl (one_of HT_.out (by kernel_rfl)) (by decide) (fun K hK => ?_)
            refine goes_ Try.func39 (by kernel_rfl) rfl #[.slice A188_1 ((rd_T25 l0 x3_1).f1).length c188_1] (by rfl) rfl rfl zq11_0 ?_
            with_reducible refine (cenotaphref03_Right.calls k1 _ _ ((rd_T25 l0 x3_1).f1) true _ ?side1 ?side2 A6.out).mono ?_
            (case side1 => repeat (first | exact (Kd.C_below HR190_1.out zq11_1) | (with_reducible refine Kd.C_alloc ?_ _) | (with_reducible refine Kd.C_drewN ?_ _) | (with_reducible refine Kd.C_drew ?_)))
            (case side2 => exact HC190_1.out)
            rintro e w18 ⟨rfl, hb⟩
            refine ⟨_, rfl, ?_⟩
            replace HB := Aside0.mk (below_step zq11_1 hb)
            (try clear hb)
            (try clear hb2)
            (try clear hk)
            (try clear hi)
            refine hK.out _ _ ⟨((HB.out.cell (World.block_lt_of_cell? w _ hw188_0)).trans hw188_0), ((HB.out.cell (World.block_lt_of_cell? w _ hw188_1)).trans hw188_1), ((HB.out.cell (World.block_lt_of_cell? w _ hw190_0)).trans hw190_0), ((HB.out.cell (World.block_lt_of_cell? w _ hw190_1)).trans hw190_1), ((HB.out.cell (World.block_lt_of_cell? w _ hw192_0)).trans hw192_0), ((HB.out.cell (World.block_lt_of_cell? w _ hw192_1)).trans hw192_1), ((HB.out.cell (World.block_lt_of_cell? w _ hw193_0)).trans hw193_0), ((HB.out.cell (World.block_lt_of_cell? w _ hw193_1)).trans hw193_1), ((HB.out.cell (World.block_lt_of_cell? w _ hw194_0)).trans hw194_0), ((HB.out.cell (World.block_lt_of_cell? w _ hw194_1)).trans hw194_1)⟩ (fun hHeld => ?_)
            clear hK K
            refine norm_ (a' := ?_) ?_ ?_
            rotate_left
            ·show Act.put _ (some 23) _ = _
             simp only [Act.put, List.setIfInBounds_toArray, List.set_cons_zero, List.set_cons_succ, i64_w, i32_w]
             rfl
            refine p_ 14 24 (mk_ 44 0x7fff) ?_
            refine p_ 15 25 (mk_ 44 0xffff) ?_
            refine p_ 16 26 (mk_ 44 0x1ffff) ?_
            refine p_ 17 27 (mk_ 44 0x3ffff) ?_
            refine p_ 18 28 (mk_ 44 0x7ffff) ?_
            refine p_ 19 29 (mk_ 44 0xfffff) ?_
            refine p_ 20 30 (mk_ 44 0x1fffff) ?_
            refine t_ 21 31 (mk_ 44 0x3fffff) hHeld ?_
            refine p_ 22 32 (mk_ 44 0x7fffff) ?_
            refine p_ 23 33 (mk_ 44 0xffffff) ?_
            refine p_ 24 34 (mk_ 44 0x1ffffff) ?_
            refine p_ 25 35 (mk_ 44 0x3ffffff) ?_
            refine p_ 26 36 (mk_ 44 0x7ffffff) ?_
            refine p_ 27 37 (mk_ 44 0xfffffff) ?_
            refine p_ 28 38 (mk_ 44 0x1fffffff) ?_
            refine p_ 29 39 (mk_ 44 0x3fffffff) ?_
            refine p_ 30 40 (mk_ 44 0x7fffffff) ?_
            refine p_ 31 41 (mk_ 44 0xffffffff) ?_
            refine p_ 32 42 (mk_ 44 0x1ffffffff) ?_
            refine p_ 33 43 (mk_ 44 0x3ffffffff) ?_
            refine p_ 35 45 (mk_ 44 0xbffffffff) ?_
            refine p_ 36 46 (mk_ 44 0x1bffffffff) ?_
            refine p_ 37 47 (mk_ 44 0x3bffffffff) ?_
            refine p_ 38 48 (mk_ 44 0x7bffffffff) ?_
            refine t_ 34 44 (mk_ 44 0x7fffffffff) hHeld ?_
            refine t_ 39 49 (mk_ 44 0xffffffffff) hHeld ?_
            refine one_ (i := 40) (N := some 50) #[true, true, true, true, true, true, true, true, true, true, true, true, true, true, true, true, true, true, true, true, true, true, true, true, true, true, true, true, true, true, true, true, true, true, true, true, true, true, true, true, true, false, false, false] rfl rfl (one_of HT_.out (by kernel_rfl)) (by decide) (fun K hK => ?_)
            refine goes_ Try.func40 (by kernel_rfl) rfl #[.string ((rd_T25 l0 (ji12)).f0), .string ((rd_T25 l0 x3_1).f0)] (by rfl) rfl rfl (by (try simp only [List.map_toArray, List.map_cons, List.map_nil]); first | done | (simp only [hji12]; rfl) | rfl | (simp only [List.length_drop, List.length_take]; rfl)) ?_
            with_reducible refine (cenotaphref01_Compare.calls k1 ((rd_T25 l0 (ji12)).f0) ((rd_T25 l0 x3_1).f0) t195 _ A15.out).mono ?_
            rintro e w' ⟨rfl, ⟨nd, rfl⟩⟩
            refine ⟨_, rfl, ?_⟩
            refine hK.out _ _ ⟨((HB.out.cell (World.block_lt_of_cell? w _ hw188_0)).trans hw188_0), ((HB.out.cell (World.block_lt_of_cell? w _ hw188_1)).trans hw188_1), ((HB.out.cell (World.block_lt_of_cell? w _ hw190_0)).trans hw190_0), ((HB.out.cell (World.block_lt_of_cell? w _ hw190_1)).trans hw190_1), ((HB.out.cell (World.block_lt_of_cell? w _ hw192_0)).trans hw192_0), ((HB.out.cell (World.block_lt_of_cell? w _ hw192_1)).trans hw192_1), ((HB.out.cell (World.block_lt_of_cell? w _ hw193_0)).trans hw193_0), ((HB.out.cell (World.block_lt_of_cell? w _ hw193_1)).trans hw193_1), ((HB.out.cell (World.block_lt_of_cell? w _ hw194_0)).trans hw194_0), ((HB.out.cell (World.block_lt_of_cell? w _ hw194_1)).trans hw194_1)⟩ (fun hHeld => ?_)
            clear hK K
            refine norm_ (a' := ?_) ?_ ?_
            rotate_left
            ·show Act.put _ (some 50) _ = _
             simp only [Act.put, List.setIfInBounds_toArray, List.set_cons_zero, List.set_cons_succ, i64_w, i32_w]
             rfl
            refine p_ 41 51 (mk_ 44 0x3ffffffffff) ?_
            refine p_ 42 52 (mk_ 44 0x7ffffffffff) ?_
            refine p_ 43 53 (mk_ 44 0xfffffffffff) ?_
            refine done_ (done_of HT_.out (by kernel_rfl)) ?_
            try go_wp2
            go_ret
            exact ⟨by first | rfl | (simp [errW_none, errW_some] <;> rfl) | (simp only [← hji12]; first | rfl | (simp [errW_none, errW_some] <;> rfl)) | (simp [*, errW_none, errW_some] <;> rfl), by repeat (first | (with_reducible first | exact HB.out | apply below_alloc | apply pw_below_drewN | apply below_drew1) | exact HB.out)⟩
           ·rw [if_neg c16] at H
            have c16b0 : decide (0 ≤ t195) = false := decide_eq_false c16
            clear c16
            have H' := Aside0.mk H
            clear H
            try go_wp2
            replace HB := Aside0.mk (below_drew1 HB.out)
            have p188 : 0 ≤ (x3_1 : Int) := of_decide_eq_true zq11_2
            have q188 : x3_1 < (l0.length : Int) := of_decide_eq_true zq11_2
            obtain ⟨ad188, A188_1, c188_1, e188, hx188_0, hx188_1, hl188_1, hi188_1⟩ := at_T25 HR0.out x3_1 p188 q188
            have hw188_1 := hx188_1
            have hw188_0 := hx188_0
            cases e188
            replace hx188_0 := (HB.out.cell (World.block_lt_of_cell? w _ hx188_0)).trans hx188_0
            replace hx188_1 := (HB.out.cell (World.block_lt_of_cell? w _ hx188_1)).trans hx188_1
            have HR188_1 := Aside0.mk hi188_1
            have HC188_1 := Aside0.mk hl188_1
            clear hi188_1 hl188_1
            replace p188 := eq_true p188
            replace q188 := eq_true q188
            have p190 : 0 ≤ (x3_1 : Int) := of_decide_eq_true zq11_2
            have q190 : x3_1 < (l0.length : Int) := of_decide_eq_true zq11_2
            obtain ⟨ad190, A190_1, c190_1, e190, hx190_0, hx190_1, hl190_1, hi190_1⟩ := at_T25 HR0.out x3_1 p190 q190
            have hw190_1 := hx190_1
            have hw190_0 := hx190_0
            obtain rfl : ad188 = ad190 := (by injection e190)
            replace hx190_0 := (HB.out.cell (World.block_lt_of_cell? w _ hx190_0)).trans hx190_0
            replace hx190_1 := (HB.out.cell (World.block_lt_of_cell? w _ hx190_1)).trans hx190_1
            have HR190_1 := Aside0.mk hi190_1
            have HC190_1 := Aside0.mk hl190_1
            clear hi190_1 hl190_1
            replace p190 := eq_true p190
            replace q190 := eq_true q190
            have ea_ := Option.some.inj (hx188_1.symm.trans hx190_1)
            injection ea_ with ea_ en_ ec_
            subst ea_
            subst ec_
            clear en_
            have p192 : 0 ≤ (x3_1 : Int) := of_decide_eq_true zq11_2
            have q192 : x3_1 < (l0.length : Int) := of_decide_eq_true zq11_2
            obtain ⟨ad192, A192_1, c192_1, e192, hx192_0, hx192_1, hl192_1, hi192_1⟩ := at_T25 HR0.out x3_1 p192 q192
            have hw192_1 := hx192_1
            have hw192_0 := hx192_0
            obtain rfl : ad188 = ad192 := (by injection e192)
            replace hx192_0 := (HB.out.cell (World.block_lt_of_cell? w _ hx192_0)).trans hx192_0
            replace hx192_1 := (HB.out.cell (World.block_lt_of_cell? w _ hx192_1)).trans hx192_1
            have HR192_1 := Aside0.mk hi192_1
            have HC192_1 := Aside0.mk hl192_1
            clear hi192_1 hl192_1
            replace p192 := eq_true p192
            replace q192 := eq_true q192
            have p193 : 0 ≤ ((ji12) : Int) := of_decide_eq_true zq11_2
            have q193 : (ji12) < (l0.length : Int) := of_decide_eq_true zq11_2
            obtain ⟨ad193, A193_1, c193_1, e193, hx193_0, hx193_1, hl193_1, hi193_1⟩ := at_T25 HR0.out (ji12) p193 q193
            have hw193_1 := hx193_1
            have hw193_0 := hx193_0
            obtain rfl : ad188 = ad193 := (by injection e193)
            replace hx193_0 := (HB.out.cell (World.block_lt_of_cell? w _ hx193_0)).trans hx193_0
            replace hx193_1 := (HB.out.cell (World.block_lt_of_cell? w _ hx193_1)).trans hx193_1
            have HR193_1 := Aside0.mk hi193_1
            have HC193_1 := Aside0.mk hl193_1
            clear hi193_1 hl193_1
            replace p193 := eq_true p193
            replace q193 := eq_true q193
            have p194 : 0 ≤ (x3_1 : Int) := of_decide_eq_true zq11_2
            have q194 : x3_1 < (l0.length : Int) := of_decide_eq_true zq11_2
            obtain ⟨ad194, A194_1, c194_1, e194, hx194_0, hx194_1, hl194_1, hi194_1⟩ := at_T25 HR0.out x3_1 p194 q194
            have hw194_1 := hx194_1
            have hw194_0 := hx194_0
            obtain rfl : ad188 = ad194 := (by injection e194)
            replace hx194_0 := (HB.out.cell (World.block_lt_of_cell? w _ hx194_0)).trans hx194_0
            replace hx194_1 := (HB.out.cell (World.block_lt_of_cell? w _ hx194_1)).trans hx194_1
            have HR194_1 := Aside0.mk hi194_1
            have HC194_1 := Aside0.mk hl194_1
            clear hi194_1 hl194_1
            replace p194 := eq_true p194
            replace q194 := eq_true q194
            have ea_ := Option.some.inj (hx192_1.symm.trans hx194_1)
            injection ea_ with ea_ en_ ec_
            subst ea_
            subst ec_
            clear en_
            refine start_ (n := 44) (S := fun w' => w'.cell? (ad188.add ((x3_1).toNat * 2)) = some (.string ((rd_T25 l0 x3_1).f0)) ∧ w'.cell? ⟨(ad188.add ((x3_1).toNat * 2)).block, (ad188.add ((x3_1).toNat * 2)).off + 1, none⟩ = some (.slice A188_1 ((rd_T25 l0 x3_1).f1).length c188_1) ∧ w'.cell? (ad188.add ((x3_1).toNat * 2)) = some (.string ((rd_T25 l0 x3_1).f0)) ∧ w'.cell? ⟨(ad188.add ((x3_1).toNat * 2)).block, (ad188.add ((x3_1).toNat * 2)).off + 1, none⟩ = some (.slice A188_1 ((rd_T25 l0 x3_1).f1).length c188_1) ∧ w'.cell? (ad188.add ((x3_1).toNat * 2)) = some (.string ((rd_T25 l0 x3_1).f0)) ∧ w'.cell? ⟨(ad188.add ((x3_1).toNat * 2)).block, (ad188.add ((x3_1).toNat * 2)).off + 1, none⟩ = some (.slice A192_1 ((rd_T25 l0 x3_1).f1).length c192_1) ∧ w'.cell? (ad188.add (((ji12)).toNat * 2)) = some (.string ((rd_T25 l0 (ji12)).f0)) ∧ w'.cell? ⟨(ad188.add (((ji12)).toNat * 2)).block, (ad188.add (((ji12)).toNat * 2)).off + 1, none⟩ = some (.slice A193_1 ((rd_T25 l0 (ji12)).f1).length c193_1) ∧ w'.cell? (ad188.add ((x3_1).toNat * 2)) = some (.string ((rd_T25 l0 x3_1).f0)) ∧ w'.cell? ⟨(ad188.add ((x3_1).toNat * 2)).block, (ad188.add ((x3_1).toNat * 2)).off + 1, none⟩ = some (.slice A192_1 ((rd_T25 l0 x3_1).f1).length c192_1)) (ds := []) #[false, false, false, false, false, false, false, false, false, false, false, false, false, false, false, false, false, false, false, false, false, false, false, false, false, false, false, false, false, false, false, false, false, false, false, false, false, false, false, false, false, false, false, false] (by kernel_rfl) rfl rfl ⟨((HB.out.cell (World.block_lt_of_cell? w _ hw188_0)).trans hw188_0), ((HB.out.cell (World.block_lt_of_cell? w _ hw188_1)).trans hw188_1), ((HB.out.cell (World.block_lt_of_cell? w _ hw190_0)).trans hw190_0), ((HB.out.cell (World.block_lt_of_cell? w _ hw190_1)).trans hw190_1), ((HB.out.cell (World.block_lt_of_cell? w _ hw192_0)).trans hw192_0), ((HB.out.cell (World.block_lt_of_cell? w _ hw192_1)).trans hw192_1), ((HB.out.cell (World.block_lt_of_cell? w _ hw193_0)).trans hw193_0), ((HB.out.cell (World.block_lt_of_cell? w _ hw193_1)).trans hw193_1), ((HB.out.cell (World.block_lt_of_cell? w _ hw194_0)).trans hw194_0), ((HB.out.cell (World.block_lt_of_cell? w _ hw194_1)).trans hw194_1)⟩ (fun hHeld => ?_); refine with_tabW cenotaphref10_Right.tab4 cenotaphref10_Right.bits4 (fun HT_ HW_ => ?_)
            generalize wr.drew = w19 at HB HR188_1 HR190_1 HR192_1 HR193_1 HR194_1 hx188_0 hx188_1 hx190_0 hx190_1 hx192_0 hx192_1 hx193_0 hx193_1 hx194_0 hx194_1 hHeld ⊢
            refine p_ 0 10 (mk_ 44 0x1) ?_
            refine p_ 1 11 (mk_ 44 0x3) ?_
            refine p_ 2 12 (mk_ 44 0x7) ?_
            refine p_ 3 13 (mk_ 44 0xf) ?_
            refine t_ 4 14 (mk_ 44 0x1f) hHeld ?_
            refine one_ (i := 5) (N := some 15) #[true, true, true, true, true, true, false, false, false, false, false, false, false, false, false, false, false, false, false, false, false, false, false, false, false, false, false, false, false, false, false, false, false, false, false, false, false, false, false, false, false, false, false, false] rfl rfl (one_of HT_.out (by kernel_rfl)) (by decide) (fun K hK => ?_)
            refine goes_ Try.func38 (by kernel_rfl) rfl #[.string ((rd_T25 l0 x3_1).f0)] (by rfl) rfl rfl zq11_0 ?_
            with_reducible refine (cenotaphref01_Right.calls k1 ((rd_T25 l0 x3_1).f0) true _ A4.out).mono ?_
            rintro e w' ⟨rfl, ⟨nd, rfl⟩⟩
            refine ⟨_, rfl, ?_⟩
            refine hK.out _ _ ⟨((HB.out.cell (World.block_lt_of_cell? w _ hw188_0)).trans hw188_0), ((HB.out.cell (World.block_lt_of_cell? w _ hw188_1)).trans hw188_1), ((HB.out.cell (World.block_lt_of_cell? w _ hw190_0)).trans hw190_0), ((HB.out.cell (World.block_lt_of_cell? w _ hw190_1)).trans hw190_1), ((HB.out.cell (World.block_lt_of_cell? w _ hw192_0)).trans hw192_0), ((HB.out.cell (World.block_lt_of_cell? w _ hw192_1)).trans hw192_1), ((HB.out.cell (World.block_lt_of_cell? w _ hw193_0)).trans hw193_0), ((HB.out.cell (World.block_lt_of_cell? w _ hw193_1)).trans hw193_1), ((HB.out.cell (World.block_lt_of_cell? w _ hw194_0)).trans hw194_0), ((HB.out.cell (World.block_lt_of_cell? w _ hw194_1)).trans hw194_1)⟩ (fun hHeld => ?_)
            clear hK K
            refine norm_ (a' := ?_) ?_ ?_
            rotate_left
            ·show Act.put _ (some 15) _ = _
             simp only [Act.put, List.setIfInBounds_toArray, List.set_cons_zero, List.set_cons_succ, i64_w, i32_w]
             rfl
            refine p_ 6 16 (mk_ 44 0x7f) ?_
            refine p_ 7 17 (mk_ 44 0xff) ?_
            refine p_ 8 18 (mk_ 44 0x1ff) ?_
            refine p_ 9 19 (mk_ 44 0x3ff) ?_
            refine p_ 10 20 (mk_ 44 0x7ff) ?_
            refine p_ 11 21 (mk_ 44 0xfff) ?_
            refine t_ 12 22 (mk_ 44 0x1fff) hHeld ?_
            refine one_ (i := 13) (N := some 23) #[true, true, true, true, true, true, true, true, true, true, true, true, true, true, false, false, false, false, false, false, false, false, false, false, false, false, false, false, false, false, false, false, false, false, false, false, false, false, false, false, false, false, false, false] rfl rfl (one_of HT_.out (by kernel_rfl)) (by decide) (fun K hK => ?_)
            refine goes_ Try.func39 (by kernel_rfl) rfl #[.slice A188_1 ((rd_T25 l0 x3_1).f1).length c188_1] (by rfl) rfl rfl zq11_0 ?_
            with_reducible refine (cenotaphref03_Right.calls k1 _ _ ((rd_T25 l0 x3_1).f1) true _ ?side1 ?side2 A6.out).mono ?_
            (case side1 => repeat (first | exact (Kd.C_below HR190_1.out zq11_1) | (with_reducible refine Kd.C_alloc ?_ _) | (with_reducible refine Kd.C_drewN ?_ _) | (with_reducible refine Kd.C_drew ?_)))
            (case side2 => exact HC190_1.out)
            rintro e w20 ⟨rfl, hb⟩
            refine ⟨_, rfl, ?_⟩
            replace HB := Aside0.mk (below_step zq11_1 hb)
            (try clear hb)
            (try clear hb2)
            (try clear hk)
            (try clear hi)
            refine hK.out _ _ ⟨((HB.out.cell (World.block_lt_of_cell? w _ hw188_0)).trans hw188_0), ((HB.out.cell (World.block_lt_of_cell? w _ hw188_1)).trans hw188_1), ((HB.out.cell (World.block_lt_of_cell? w _ hw190_0)).trans hw190_0), ((HB.out.cell (World.block_lt_of_cell? w _ hw190_1)).trans hw190_1), ((HB.out.cell (World.block_lt_of_cell? w _ hw192_0)).trans hw192_0), ((HB.out.cell (World.block_lt_of_cell? w _ hw192_1)).trans hw192_1), ((HB.out.cell (World.block_lt_of_cell? w _ hw193_0)).trans hw193_0), ((HB.out.cell (World.block_lt_of_cell? w _ hw193_1)).trans hw193_1), ((HB.out.cell (World.block_lt_of_cell? w _ hw194_0)).trans hw194_0), ((HB.out.cell (World.block_lt_of_cell? w _ hw194_1)).trans hw194_1)⟩ (fun hHeld => ?_)
            clear hK K
            refine norm_ (a' := ?_) ?_ ?_
            rotate_left
            ·show Act.put _ (some 23) _ = _
             simp only [Act.put, List.setIfInBounds_toArray, List.set_cons_zero, List.set_cons_succ, i64_w, i32_w]
             rfl
            refine p_ 14 24 (mk_ 44 0x7fff) ?_
            refine p_ 15 25 (mk_ 44 0xffff) ?_
            refine p_ 16 26 (mk_ 44 0x1ffff) ?_
            refine p_ 17 27 (mk_ 44 0x3ffff) ?_
            refine p_ 18 28 (mk_ 44 0x7ffff) ?_
            refine p_ 19 29 (mk_ 44 0xfffff) ?_
            refine p_ 20 30 (mk_ 44 0x1fffff) ?_
            refine t_ 21 31 (mk_ 44 0x3fffff) hHeld ?_
            refine p_ 22 32 (mk_ 44 0x7fffff) ?_
            refine p_ 23 33 (mk_ 44 0xffffff) ?_
            refine p_ 24 34 (mk_ 44 0x1ffffff) ?_
            refine p_ 25 35 (mk_ 44 0x3ffffff) ?_
            refine p_ 26 36 (mk_ 44 0x7ffffff) ?_
            refine p_ 27 37 (mk_ 44 0xfffffff) ?_
            refine p_ 28 38 (mk_ 44 0x1fffffff) ?_
            refine p_ 29 39 (mk_ 44 0x3fffffff) ?_
            refine p_ 30 40 (mk_ 44 0x7fffffff) ?_
            refine p_ 31 41 (mk_ 44 0xffffffff) ?_
            refine p_ 32 42 (mk_ 44 0x1ffffffff) ?_
            refine p_ 33 43 (mk_ 44 0x3ffffffff) ?_
            refine p_ 35 45 (mk_ 44 0xbffffffff) ?_
            refine p_ 36 46 (mk_ 44 0x1bffffffff) ?_
            refine p_ 37 47 (mk_ 44 0x3bffffffff) ?_
            refine p_ 38 48 (mk_ 44 0x7bffffffff) ?_
            refine t_ 34 44 (mk_ 44 0x7fffffffff) hHeld ?_
            refine t_ 39 49 (mk_ 44 0xffffffffff) hHeld ?_
            refine one_ (i := 40) (N := some 50) #[true, true, true, true, true, true, true, true, true, true, true, true, true, true, true, true, true, true, true, true, true, true, true, true, true, true, true, true, true, true, true, true, true, true, true, true, true, true, true, true, true, false, false, false] rfl rfl (one_of HT_.out (by kernel_rfl)) (by decide) (fun K hK => ?_)
            refine goes_ Try.func40 (by kernel_rfl) rfl #[.string ((rd_T25 l0 (ji12)).f0), .string ((rd_T25 l0 x3_1).f0)] (by rfl) rfl rfl (by (try simp only [List.map_toArray, List.map_cons, List.map_nil]); first | done | (simp only [hji12]; rfl) | rfl | (simp only [List.length_drop, List.length_take]; rfl)) ?_
            with_reducible refine (cenotaphref01_Compare.calls k1 ((rd_T25 l0 (ji12)).f0) ((rd_T25 l0 x3_1).f0) t195 _ A15.out).mono ?_
            rintro e w' ⟨rfl, ⟨nd, rfl⟩⟩
            refine ⟨_, rfl, ?_⟩
            refine hK.out _ _ ⟨((HB.out.cell (World.block_lt_of_cell? w _ hw188_0)).trans hw188_0), ((HB.out.cell (World.block_lt_of_cell? w _ hw188_1)).trans hw188_1), ((HB.out.cell (World.block_lt_of_cell? w _ hw190_0)).trans hw190_0), ((HB.out.cell (World.block_lt_of_cell? w _ hw190_1)).trans hw190_1), ((HB.out.cell (World.block_lt_of_cell? w _ hw192_0)).trans hw192_0), ((HB.out.cell (World.block_lt_of_cell? w _ hw192_1)).trans hw192_1), ((HB.out.cell (World.block_lt_of_cell? w _ hw193_0)).trans hw193_0), ((HB.out.cell (World.block_lt_of_cell? w _ hw193_1)).trans hw193_1), ((HB.out.cell (World.block_lt_of_cell? w _ hw194_0)).trans hw194_0), ((HB.out.cell (World.block_lt_of_cell? w _ hw194_1)).trans hw194_1)⟩ (fun hHeld => ?_)
            clear hK K
            refine norm_ (a' := ?_) ?_ ?_
            rotate_left
            ·show Act.put _ (some 50) _ = _
             simp only [Act.put, List.setIfInBounds_toArray, List.set_cons_zero, List.set_cons_succ, i64_w, i32_w]
             rfl
            refine p_ 41 51 (mk_ 44 0x3ffffffffff) ?_
            refine p_ 42 52 (mk_ 44 0x7ffffffffff) ?_
            refine p_ 43 53 (mk_ 44 0xfffffffffff) ?_
            refine done_ (done_of HT_.out (by kernel_rfl)) ?_
            try go_wp2
            go_roundg k1
            case measure => have := HK1.out; omega
            case rel => exact ⟨(wrap64 (x3_1 + 1)), zq11_3, H', ⟨by have := HK1.out; omega⟩, ⟨by repeat (first | (with_reducible first | exact HB.out | apply below_alloc | apply pw_below_drewN | apply below_drew1) | exact HB.out)⟩⟩
          ·rw [if_neg c14] at H
           exact absurd H (by simp)
         ·rw [if_neg c13] at H
          exact absurd H (by simp)
        ·rw [if_neg c11] at H
         have c11b0 : decide (0 < x3_1) = false := decide_eq_false c11
         clear c11
         have H' := Aside0.mk H
         clear H
         try go_wp2
         replace HB := Aside0.mk (below_drew1 HB.out)
         have p188 : 0 ≤ (x3_1 : Int) := of_decide_eq_true zq11_2
         have q188 : x3_1 < (l0.length : Int) := of_decide_eq_true zq11_2
         obtain ⟨ad188, A188_1, c188_1, e188, hx188_0, hx188_1, hl188_1, hi188_1⟩ := at_T25 HR0.out x3_1 p188 q188
         have hw188_1 := hx188_1
         have hw188_0 := hx188_0
         cases e188
         replace hx188_0 := (HB.out.cell (World.block_lt_of_cell? w _ hx188_0)).trans hx188_0
         replace hx188_1 := (HB.out.cell (World.block_lt_of_cell? w _ hx188_1)).trans hx188_1
         have HR188_1 := Aside0.mk hi188_1
         have HC188_1 := Aside0.mk hl188_1
         clear hi188_1 hl188_1
         replace p188 := eq_true p188
         replace q188 := eq_true q188
         have p190 : 0 ≤ (x3_1 : Int) := of_decide_eq_true zq11_2
         have q190 : x3_1 < (l0.length : Int) := of_decide_eq_true zq11_2
         obtain ⟨ad190, A190_1, c190_1, e190, hx190_0, hx190_1, hl190_1, hi190_1⟩ := at_T25 HR0.out x3_1 p190 q190
         have hw190_1 := hx190_1
         have hw190_0 := hx190_0
         obtain rfl : ad188 = ad190 := (by injection e190)
         replace hx190_0 := (HB.out.cell (World.block_lt_of_cell? w _ hx190_0)).trans hx190_0
         replace hx190_1 := (HB.out.cell (World.block_lt_of_cell? w _ hx190_1)).trans hx190_1
         have HR190_1 := Aside0.mk hi190_1
         have HC190_1 := Aside0.mk hl190_1
         clear hi190_1 hl190_1
         replace p190 := eq_true p190
         replace q190 := eq_true q190
         have ea_ := Option.some.inj (hx188_1.symm.trans hx190_1)
         injection ea_ with ea_ en_ ec_
         subst ea_
         subst ec_
         clear en_
         have p192 : 0 ≤ (x3_1 : Int) := of_decide_eq_true zq11_2
         have q192 : x3_1 < (l0.length : Int) := of_decide_eq_true zq11_2
         obtain ⟨ad192, A192_1, c192_1, e192, hx192_0, hx192_1, hl192_1, hi192_1⟩ := at_T25 HR0.out x3_1 p192 q192
         have hw192_1 := hx192_1
         have hw192_0 := hx192_0
         obtain rfl : ad188 = ad192 := (by injection e192)
         replace hx192_0 := (HB.out.cell (World.block_lt_of_cell? w _ hx192_0)).trans hx192_0
         replace hx192_1 := (HB.out.cell (World.block_lt_of_cell? w _ hx192_1)).trans hx192_1
         have HR192_1 := Aside0.mk hi192_1
         have HC192_1 := Aside0.mk hl192_1
         clear hi192_1 hl192_1
         replace p192 := eq_true p192
         replace q192 := eq_true q192
         refine start_ (n := 44) (S := fun w' => w'.cell? (ad188.add ((x3_1).toNat * 2)) = some (.string ((rd_T25 l0 x3_1).f0)) ∧ w'.cell? ⟨(ad188.add ((x3_1).toNat * 2)).block, (ad188.add ((x3_1).toNat * 2)).off + 1, none⟩ = some (.slice A188_1 ((rd_T25 l0 x3_1).f1).length c188_1) ∧ w'.cell? (ad188.add ((x3_1).toNat * 2)) = some (.string ((rd_T25 l0 x3_1).f0)) ∧ w'.cell? ⟨(ad188.add ((x3_1).toNat * 2)).block, (ad188.add ((x3_1).toNat * 2)).off + 1, none⟩ = some (.slice A188_1 ((rd_T25 l0 x3_1).f1).length c188_1) ∧ w'.cell? (ad188.add ((x3_1).toNat * 2)) = some (.string ((rd_T25 l0 x3_1).f0)) ∧ w'.cell? ⟨(ad188.add ((x3_1).toNat * 2)).block, (ad188.add ((x3_1).toNat * 2)).off + 1, none⟩ = some (.slice A192_1 ((rd_T25 l0 x3_1).f1).length c192_1)) (ds := []) #[false, false, false, false, false, false, false, false, false, false, false, false, false, false, false, false, false, false, false, false, false, false, false, false, false, false, false, false, false, false, false, false, false, false, false, false, false, false, false, false, false, false, false, false] (by kernel_rfl) rfl rfl ⟨((HB.out.cell (World.block_lt_of_cell? w _ hw188_0)).trans hw188_0), ((HB.out.cell (World.block_lt_of_cell? w _ hw188_1)).trans hw188_1), ((HB.out.cell (World.block_lt_of_cell? w _ hw190_0)).trans hw190_0), ((HB.out.cell (World.block_lt_of_cell? w _ hw190_1)).trans hw190_1), ((HB.out.cell (World.block_lt_of_cell? w _ hw192_0)).trans hw192_0), ((HB.out.cell (World.block_lt_of_cell? w _ hw192_1)).trans hw192_1)⟩ (fun hHeld => ?_); refine with_tabW cenotaphref10_Right.tab4 cenotaphref10_Right.bits4 (fun HT_ HW_ => ?_)
         generalize wr.drew = w21 at HB HR188_1 HR190_1 HR192_1 hx188_0 hx188_1 hx190_0 hx190_1 hx192_0 hx192_1 hHeld ⊢
         refine p_ 0 10 (mk_ 44 0x1) ?_
         refine p_ 1 11 (mk_ 44 0x3) ?_
         refine p_ 2 12 (mk_ 44 0x7) ?_
         refine p_ 3 13 (mk_ 44 0xf) ?_
         refine t_ 4 14 (mk_ 44 0x1f) hHeld ?_
         refine one_ (i := 5) (N := some 15) #[true, true, true, true, true, true, false, false, false, false, false, false, false, false, false, false, false, false, false, false, false, false, false, false, false, false, false, false, false, false, false, false, false, false, false, false, false, false, false, false, false, false, false, false] rfl rfl (one_of HT_.out (by kernel_rfl)) (by decide) (fun K hK => ?_)
         refine goes_ Try.func38 (by kernel_rfl) rfl #[.string ((rd_T25 l0 x3_1).f0)] (by rfl) rfl rfl zq11_0 ?_
         with_reducible refine (cenotaphref01_Right.calls k1 ((rd_T25 l0 x3_1).f0) true _ A4.out).mono ?_
         rintro e w' ⟨rfl, ⟨nd, rfl⟩⟩
         refine ⟨_, rfl, ?_⟩
         refine hK.out _ _ ⟨((HB.out.cell (World.block_lt_of_cell? w _ hw188_0)).trans hw188_0), ((HB.out.cell (World.block_lt_of_cell? w _ hw188_1)).trans hw188_1), ((HB.out.cell (World.block_lt_of_cell? w _ hw190_0)).trans hw190_0), ((HB.out.cell (World.block_lt_of_cell? w _ hw190_1)).trans hw190_1), ((HB.out.cell (World.block_lt_of_cell? w _ hw192_0)).trans hw192_0), ((HB.out.cell (World.block_lt_of_cell? w _ hw192_1)).trans hw192_1)⟩ (fun hHeld => ?_)
         clear hK K
         refine norm_ (a' := ?_) ?_ ?_
         rotate_left
         ·show Act.put _ (some 15) _ = _
          simp only [Act.put, List.setIfInBounds_toArray, List.set_cons_zero, List.set_cons_succ, i64_w, i32_w]
          rfl
         refine p_ 6 16 (mk_ 44 0x7f) ?_
         refine p_ 7 17 (mk_ 44 0xff) ?_
         refine p_ 8 18 (mk_ 44 0x1ff) ?_
         refine p_ 9 19 (mk_ 44 0x3ff) ?_
         refine p_ 10 20 (mk_ 44 0x7ff) ?_
         refine p_ 11 21 (mk_ 44 0xfff) ?_
         refine t_ 12 22 (mk_ 44 0x1fff) hHeld ?_
         refine one_ (i := 13) (N := some 23) #[true, true, true, true, true, true, true, true, true, true, true, true, true, true, false, false, false, false, false, false, false, false, false, false, false, false, false, false, false, false, false, false, false, false, false, false, false, false, false, false, false, false, false, false] rfl rfl (one_of HT_.out (by kernel_rfl)) (by decide) (fun K hK => ?_)
         refine goes_ Try.func39 (by kernel_rfl) rfl #[.slice A188_1 ((rd_T25 l0 x3_1).f1).length c188_1] (by rfl) rfl rfl zq11_0 ?_
         with_reducible refine (cenotaphref03_Right.calls k1 _ _ ((rd_T25 l0 x3_1).f1) true _ ?side1 ?side2 A6.out).mono ?_
         (case side1 => repeat (first | exact (Kd.C_below HR190_1.out zq11_1) | (with_reducible refine Kd.C_alloc ?_ _) | (with_reducible refine Kd.C_drewN ?_ _) | (with_reducible refine Kd.C_drew ?_)))
         (case side2 => exact HC190_1.out)
         rintro e w22 ⟨rfl, hb⟩
         refine ⟨_, rfl, ?_⟩
         replace HB := Aside0.mk (below_step zq11_1 hb)
         (try clear hb)
         (try clear hb2)
         (try clear hk)
         (try clear hi)
         refine hK.out _ _ ⟨((HB.out.cell (World.block_lt_of_cell? w _ hw188_0)).trans hw188_0), ((HB.out.cell (World.block_lt_of_cell? w _ hw188_1)).trans hw188_1), ((HB.out.cell (World.block_lt_of_cell? w _ hw190_0)).trans hw190_0), ((HB.out.cell (World.block_lt_of_cell? w _ hw190_1)).trans hw190_1), ((HB.out.cell (World.block_lt_of_cell? w _ hw192_0)).trans hw192_0), ((HB.out.cell (World.block_lt_of_cell? w _ hw192_1)).trans hw192_1)⟩ (fun hHeld => ?_)
         clear hK K
         refine norm_ (a' := ?_) ?_ ?_
         rotate_left
         ·show Act.put _ (some 23) _ = _
          simp only [Act.put, List.setIfInBounds_toArray, List.set_cons_zero, List.set_cons_succ, i64_w, i32_w]
          rfl
         refine p_ 14 24 (mk_ 44 0x7fff) ?_
         refine p_ 15 25 (mk_ 44 0xffff) ?_
         refine p_ 16 26 (mk_ 44 0x1ffff) ?_
         refine p_ 17 27 (mk_ 44 0x3ffff) ?_
         refine p_ 18 28 (mk_ 44 0x7ffff) ?_
         refine p_ 19 29 (mk_ 44 0xfffff) ?_
         refine p_ 20 30 (mk_ 44 0x1fffff) ?_
         refine t_ 21 31 (mk_ 44 0x3fffff) hHeld ?_
         refine p_ 22 32 (mk_ 44 0x7fffff) ?_
         refine p_ 23 33 (mk_ 44 0xffffff) ?_
         refine p_ 24 34 (mk_ 44 0x1ffffff) ?_
         refine p_ 25 35 (mk_ 44 0x3ffffff) ?_
         refine p_ 26 36 (mk_ 44 0x7ffffff) ?_
         refine p_ 27 37 (mk_ 44 0xfffffff) ?_
         refine p_ 28 38 (mk_ 44 0x1fffffff) ?_
         refine u_ 29 39 (mk_ 44 0x3fffffff) ?_
         refine u_ 30 40 (mk_ 44 0x7fffffff) ?_
         refine u_ 31 41 (mk_ 44 0xffffffff) ?_
         refine u_ 32 42 (mk_ 44 0x1ffffffff) ?_
         refine u_ 33 43 (mk_ 44 0x3ffffffff) ?_
         refine u_ 34 44 (mk_ 44 0x7ffffffff) ?_
         refine u_ 35 45 (mk_ 44 0xfffffffff) ?_
         refine u_ 36 46 (mk_ 44 0x1fffffffff) ?_
         refine u_ 37 47 (mk_ 44 0x3fffffffff) ?_
         refine u_ 38 48 (mk_ 44 0x7fffffffff) ?_
         refine u_ 39 49 (mk_ 44 0xffffffffff) ?_
         refine u_ 40 50 (mk_ 44 0x1ffffffffff) ?_
         refine u_ 41 51 (mk_ 44 0x3ffffffffff) ?_
         refine p_ 42 52 (mk_ 44 0x7ffffffffff) ?_
         refine p_ 43 53 (mk_ 44 0xfffffffffff) ?_
         refine done_ (done_of HT_.out (by kernel_rfl)) ?_
         try go_wp2
         go_roundg k1
         case measure => have := HK1.out; omega
         case rel => exact ⟨(wrap64 (x3_1 + 1)), zq11_3, H', ⟨by have := HK1.out; omega⟩, ⟨by repeat (first | (with_reducible first | exact HB.out | apply below_alloc | apply pw_below_drewN | apply below_drew1) | exact HB.out)⟩⟩
      ·replace c7 := Bool.eq_false_iff.mpr c7
       subst c7
       have H1 : (some false) = some r := by rw [if_neg (show ¬ (false = true) by decide)] at H; exact H
       clear H
       have H := H1
       clear H1
       obtain rfl := Option.some.inj H
       try go_wp2
       replace HB := Aside0.mk (below_drew1 HB.out)
       have p188 : 0 ≤ (x3_1 : Int) := of_decide_eq_true zq11_2
       have q188 : x3_1 < (l0.length : Int) := of_decide_eq_true zq11_2
       obtain ⟨ad188, A188_1, c188_1, e188, hx188_0, hx188_1, hl188_1, hi188_1⟩ := at_T25 HR0.out x3_1 p188 q188
       have hw188_1 := hx188_1
       have hw188_0 := hx188_0
       cases e188
       replace hx188_0 := (HB.out.cell (World.block_lt_of_cell? w _ hx188_0)).trans hx188_0
       replace hx188_1 := (HB.out.cell (World.block_lt_of_cell? w _ hx188_1)).trans hx188_1
       have HR188_1 := Aside0.mk hi188_1
       have HC188_1 := Aside0.mk hl188_1
       clear hi188_1 hl188_1
       replace p188 := eq_true p188
       replace q188 := eq_true q188
       have p190 : 0 ≤ (x3_1 : Int) := of_decide_eq_true zq11_2
       have q190 : x3_1 < (l0.length : Int) := of_decide_eq_true zq11_2
       obtain ⟨ad190, A190_1, c190_1, e190, hx190_0, hx190_1, hl190_1, hi190_1⟩ := at_T25 HR0.out x3_1 p190 q190
       have hw190_1 := hx190_1
       have hw190_0 := hx190_0
       obtain rfl : ad188 = ad190 := (by injection e190)
       replace hx190_0 := (HB.out.cell (World.block_lt_of_cell? w _ hx190_0)).trans hx190_0
       replace hx190_1 := (HB.out.cell (World.block_lt_of_cell? w _ hx190_1)).trans hx190_1
       have HR190_1 := Aside0.mk hi190_1
       have HC190_1 := Aside0.mk hl190_1
       clear hi190_1 hl190_1
       replace p190 := eq_true p190
       replace q190 := eq_true q190
       have ea_ := Option.some.inj (hx188_1.symm.trans hx190_1)
       injection ea_ with ea_ en_ ec_
       subst ea_
       subst ec_
       clear en_
       refine start_ (n := 44) (S := fun w' => w'.cell? (ad188.add ((x3_1).toNat * 2)) = some (.string ((rd_T25 l0 x3_1).f0)) ∧ w'.cell? ⟨(ad188.add ((x3_1).toNat * 2)).block, (ad188.add ((x3_1).toNat * 2)).off + 1, none⟩ = some (.slice A188_1 ((rd_T25 l0 x3_1).f1).length c188_1) ∧ w'.cell? (ad188.add ((x3_1).toNat * 2)) = some (.string ((rd_T25 l0 x3_1).f0)) ∧ w'.cell? ⟨(ad188.add ((x3_1).toNat * 2)).block, (ad188.add ((x3_1).toNat * 2)).off + 1, none⟩ = some (.slice A188_1 ((rd_T25 l0 x3_1).f1).length c188_1)) (ds := []) #[false, false, false, false, false, false, false, false, false, false, false, false, false, false, false, false, false, false, false, false, false, false, false, false, false, false, false, false, false, false, false, false, false, false, false, false, false, false, false, false, false, false, false, false] (by kernel_rfl) rfl rfl ⟨((HB.out.cell (World.block_lt_of_cell? w _ hw188_0)).trans hw188_0), ((HB.out.cell (World.block_lt_of_cell? w _ hw188_1)).trans hw188_1), ((HB.out.cell (World.block_lt_of_cell? w _ hw190_0)).trans hw190_0), ((HB.out.cell (World.block_lt_of_cell? w _ hw190_1)).trans hw190_1)⟩ (fun hHeld => ?_); refine with_tabW cenotaphref10_Right.tab4 cenotaphref10_Right.bits4 (fun HT_ HW_ => ?_)
       generalize wr.drew = w23 at HB HR188_1 HR190_1 hx188_0 hx188_1 hx190_0 hx190_1 hHeld ⊢
       refine p_ 0 10 (mk_ 44 0x1) ?_
       refine p_ 1 11 (mk_ 44 0x3) ?_
       refine p_ 2 12 (mk_ 44 0x7) ?_
       refine p_ 3 13 (mk_ 44 0xf) ?_
       refine t_ 4 14 (mk_ 44 0x1f) hHeld ?_
       refine one_ (i := 5) (N := some 15) #[true, true, true, true, true, true, false, false, false, false, false, false, false, false, false, false, false, false, false, false, false, false, false, false, false, false, false, false, false, false, false, false, false, false, false, false, false, false, false, false, false, false, false, false] rfl rfl (one_of HT_.out (by kernel_rfl)) (by decide) (fun K hK => ?_)
       refine goes_ Try.func38 (by kernel_rfl) rfl #[.string ((rd_T25 l0 x3_1).f0)] (by rfl) rfl rfl zq11_0 ?_
       with_reducible refine (cenotaphref01_Right.calls k1 ((rd_T25 l0 x3_1).f0) true _ A4.out).mono ?_
       rintro e w' ⟨rfl, ⟨nd, rfl⟩⟩
       refine ⟨_, rfl, ?_⟩
       refine hK.out _ _ ⟨((HB.out.cell (World.block_lt_of_cell? w _ hw188_0)).trans hw188_0), ((HB.out.cell (World.block_lt_of_cell? w _ hw188_1)).trans hw188_1), ((HB.out.cell (World.block_lt_of_cell? w _ hw190_0)).trans hw190_0), ((HB.out.cell (World.block_lt_of_cell? w _ hw190_1)).trans hw190_1)⟩ (fun hHeld => ?_)
       clear hK K
       refine norm_ (a' := ?_) ?_ ?_
       rotate_left
       ·show Act.put _ (some 15) _ = _
        simp only [Act.put, List.setIfInBounds_toArray, List.set_cons_zero, List.set_cons_succ, i64_w, i32_w]
        rfl
       refine p_ 6 16 (mk_ 44 0x7f) ?_
       refine p_ 7 17 (mk_ 44 0xff) ?_
       refine p_ 8 18 (mk_ 44 0x1ff) ?_
       refine p_ 9 19 (mk_ 44 0x3ff) ?_
       refine p_ 10 20 (mk_ 44 0x7ff) ?_
       refine p_ 11 21 (mk_ 44 0xfff) ?_
       refine t_ 12 22 (mk_ 44 0x1fff) hHeld ?_
       refine one_ (i := 13) (N := some 23) #[true, true, true, true, true, true, true, true, true, true, true, true, true, true, false, false, false, false, false, false, false, false, false, false, false, false, false, false, false, false, false, false, false, false, false, false, false, false, false, false, false, false, false, false] rfl rfl (one_of HT_.out (by kernel_rfl)) (by decide) (fun K hK => ?_)
       refine goes_ Try.func39 (by kernel_rfl) rfl #[.slice A188_1 ((rd_T25 l0 x3_1).f1).length c188_1] (by rfl) rfl rfl zq11_0 ?_
       with_reducible refine (cenotaphref03_Right.calls k1 _ _ ((rd_T25 l0 x3_1).f1) false _ ?side1 ?side2 A6.out).mono ?_
       (case side1 => repeat (first | exact (Kd.C_below HR190_1.out zq11_1) | (with_reducible refine Kd.C_alloc ?_ _) | (with_reducible refine Kd.C_drewN ?_ _) | (with_reducible refine Kd.C_drew ?_)))
       (case side2 => exact HC190_1.out)
       rintro e w24 ⟨rfl, hb⟩
       refine ⟨_, rfl, ?_⟩
       replace HB := Aside0.mk (below_step zq11_1 hb)
       (try clear hb)
       (try clear hb2)
       (try clear hk)
       (try clear hi)
       refine hK.out _ _ ⟨((HB.out.cell (World.block_lt_of_cell? w _ hw188_0)).trans hw188_0), ((HB.out.cell (World.block_lt_of_cell? w _ hw188_1)).trans hw188_1), ((HB.out.cell (World.block_lt_of_cell? w _ hw190_0)).trans hw190_0), ((HB.out.cell (World.block_lt_of_cell? w _ hw190_1)).trans hw190_1)⟩ (fun hHeld => ?_)
       clear hK K
       refine norm_ (a' := ?_) ?_ ?_
       rotate_left
       ·show Act.put _ (some 23) _ = _
        simp only [Act.put, List.setIfInBounds_toArray, List.set_cons_zero, List.set_cons_succ, i64_w, i32_w]
        rfl
       refine p_ 14 24 (mk_ 44 0x7fff) ?_
       refine p_ 15 25 (mk_ 44 0xffff) ?_
       refine p_ 16 26 (mk_ 44 0x1ffff) ?_
       refine u_ 17 27 (mk_ 44 0x3ffff) ?_
       refine u_ 18 28 (mk_ 44 0x7ffff) ?_
       refine u_ 19 29 (mk_ 44 0xfffff) ?_
       refine u_ 20 30 (mk_ 44 0x1fffff) ?_
       refine u_ 21 31 (mk_ 44 0x3fffff) ?_
       refine u_ 22 32 (mk_ 44 0x7fffff) ?_
       refine u_ 23 33 (mk_ 44 0xffffff) ?_
       refine p_ 24 34 (mk_ 44 0x1ffffff) ?_
       refine p_ 25 35 (mk_ 44 0x3ffffff) ?_
       refine u_ 26 36 (mk_ 44 0x7ffffff) ?_
       refine u_ 27 37 (mk_ 44 0xfffffff) ?_
       refine u_ 28 38 (mk_ 44 0x1fffffff) ?_
       refine u_ 29 39 (mk_ 44 0x3fffffff) ?_
       refine u_ 30 40 (mk_ 44 0x7fffffff) ?_
       refine u_ 31 41 (mk_ 44 0xffffffff) ?_
       refine u_ 32 42 (mk_ 44 0x1ffffffff) ?_
       refine u_ 33 43 (mk_ 44 0x3ffffffff) ?_
       refine u_ 34 44 (mk_ 44 0x7ffffffff) ?_
       refine u_ 35 45 (mk_ 44 0xfffffffff) ?_
       refine u_ 36 46 (mk_ 44 0x1fffffffff) ?_
       refine u_ 37 47 (mk_ 44 0x3fffffffff) ?_
       refine u_ 38 48 (mk_ 44 0x7fffffffff) ?_
       refine u_ 39 49 (mk_ 44 0xffffffffff) ?_
       refine u_ 40 50 (mk_ 44 0x1ffffffffff) ?_
       refine u_ 41 51 (mk_ 44 0x3ffffffffff) ?_
       refine u_ 42 52 (mk_ 44 0x7ffffffffff) ?_
       refine p_ 43 53 (mk_ 44 0xfffffffffff) ?_
       refine done_ (done_of HT_.out (by kernel_rfl)) ?_
       try go_wp2
       go_ret
       exact ⟨by first | rfl | (simp [errW_none, errW_some] <;> rfl) | (simp [*, errW_none, errW_some] <;> rfl), by repeat (first | (with_reducible first | exact HB.out | apply below_alloc | apply pw_below_drewN | apply below_drew1) | exact HB.out)⟩
     ·replace c5 := Bool.eq_false_iff.mpr c5
      subst c5
      have H1 : (some false) = some r := by rw [if_neg (show ¬ (false = true) by decide)] at H; exact H
      clear H
      have H := H1
      clear H1
      obtain rfl := Option.some.inj H
      try go_wp2
      replace HB := Aside0.mk (below_drew1 HB.out)
      have p188 : 0 ≤ (x3_1 : Int) := of_decide_eq_true zq11_2
      have q188 : x3_1 < (l0.length : Int) := of_decide_eq_true zq11_2
      obtain ⟨ad188, A188_1, c188_1, e188, hx188_0, hx188_1, hl188_1, hi188_1⟩ := at_T25 HR0.out x3_1 p188 q188
      have hw188_1 := hx188_1
      have hw188_0 := hx188_0
      cases e188
      replace hx188_0 := (HB.out.cell (World.block_lt_of_cell? w _ hx188_0)).trans hx188_0
      replace hx188_1 := (HB.out.cell (World.block_lt_of_cell? w _ hx188_1)).trans hx188_1
      have HR188_1 := Aside0.mk hi188_1
      have HC188_1 := Aside0.mk hl188_1
      clear hi188_1 hl188_1
      replace p188 := eq_true p188
      replace q188 := eq_true q188
      refine start_ (n := 44) (S := fun w' => w'.cell? (ad188.add ((x3_1).toNat * 2)) = some (.string ((rd_T25 l0 x3_1).f0)) ∧ w'.cell? ⟨(ad188.add ((x3_1).toNat * 2)).block, (ad188.add ((x3_1).toNat * 2)).off + 1, none⟩ = some (.slice A188_1 ((rd_T25 l0 x3_1).f1).length c188_1)) (ds := []) #[false, false, false, false, false, false, false, false, false, false, false, false, false, false, false, false, false, false, false, false, false, false, false, false, false, false, false, false, false, false, false, false, false, false, false, false, false, false, false, false, false, false, false, false] (by kernel_rfl) rfl rfl ⟨((HB.out.cell (World.block_lt_of_cell? w _ hw188_0)).trans hw188_0), ((HB.out.cell (World.block_lt_of_cell? w _ hw188_1)).trans hw188_1)⟩ (fun hHeld => ?_); refine with_tabW cenotaphref10_Right.tab4 cenotaphref10_Right.bits4 (fun HT_ HW_ => ?_)
      generalize wr.drew = w25 at HB HR188_1 hx188_0 hx188_1 hHeld ⊢
      refine p_ 0 10 (mk_ 44 0x1) ?_
      refine p_ 1 11 (mk_ 44 0x3) ?_
      refine p_ 2 12 (mk_ 44 0x7) ?_
      refine p_ 3 13 (mk_ 44 0xf) ?_
      refine t_ 4 14 (mk_ 44 0x1f) hHeld ?_
      refine one_ (i := 5) (N := some 15) #[true, true, true, true, true, true, false, false, false, false, false, false, false, false, false, false, false, false, false, false, false, false, false, false, false, false, false, false, false, false, false, false, false, false, false, false, false, false, false, false, false, false, false, false] rfl rfl (one_of HT_.out (by kernel_rfl)) (by decide) (fun K hK => ?_)
      refine goes_ Try.func38 (by kernel_rfl) rfl #[.string ((rd_T25 l0 x3_1).f0)] (by rfl) rfl rfl zq11_0 ?_
      with_reducible refine (cenotaphref01_Right.calls k1 ((rd_T25 l0 x3_1).f0) false _ A4.out).mono ?_
      rintro e w' ⟨rfl, ⟨nd, rfl⟩⟩
      refine ⟨_, rfl, ?_⟩
      refine hK.out _ _ ⟨((HB.out.cell (World.block_lt_of_cell? w _ hw188_0)).trans hw188_0), ((HB.out.cell (World.block_lt_of_cell? w _ hw188_1)).trans hw188_1)⟩ (fun hHeld => ?_)
      clear hK K
      refine norm_ (a' := ?_) ?_ ?_
      rotate_left
      ·show Act.put _ (some 15) _ = _
       simp only [Act.put, List.setIfInBounds_toArray, List.set_cons_zero, List.set_cons_succ, i64_w, i32_w]
       rfl
      refine p_ 6 16 (mk_ 44 0x7f) ?_
      refine p_ 7 17 (mk_ 44 0xff) ?_
      refine u_ 8 18 (mk_ 44 0x1ff) ?_
      refine u_ 9 19 (mk_ 44 0x3ff) ?_
      refine u_ 10 20 (mk_ 44 0x7ff) ?_
      refine u_ 11 21 (mk_ 44 0xfff) ?_
      refine u_ 12 22 (mk_ 44 0x1fff) ?_
      refine u_ 13 23 (mk_ 44 0x3fff) ?_
      refine u_ 14 24 (mk_ 44 0x7fff) ?_
      refine p_ 15 25 (mk_ 44 0xffff) ?_
      refine p_ 16 26 (mk_ 44 0x1ffff) ?_
      refine u_ 17 27 (mk_ 44 0x3ffff) ?_
      refine u_ 18 28 (mk_ 44 0x7ffff) ?_
      refine u_ 19 29 (mk_ 44 0xfffff) ?_
      refine u_ 20 30 (mk_ 44 0x1fffff) ?_
      refine u_ 21 31 (mk_ 44 0x3fffff) ?_
      refine u_ 22 32 (mk_ 44 0x7fffff) ?_
      refine u_ 23 33 (mk_ 44 0xffffff) ?_
      refine p_ 24 34 (mk_ 44 0x1ffffff) ?_
      refine p_ 25 35 (mk_ 44 0x3ffffff) ?_
      refine u_ 26 36 (mk_ 44 0x7ffffff) ?_
      refine u_ 27 37 (mk_ 44 0xfffffff) ?_
      refine u_ 28 38 (mk_ 44 0x1fffffff) ?_
      refine u_ 29 39 (mk_ 44 0x3fffffff) ?_
      refine u_ 30 40 (mk_ 44 0x7fffffff) ?_
      refine u_ 31 41 (mk_ 44 0xffffffff) ?_
      refine u_ 32 42 (mk_ 44 0x1ffffffff) ?_
      refine u_ 33 43 (mk_ 44 0x3ffffffff) ?_
      refine u_ 34 44 (mk_ 44 0x7ffffffff) ?_
      refine u_ 35 45 (mk_ 44 0xfffffffff) ?_
      refine u_ 36 46 (mk_ 44 0x1fffffffff) ?_
      refine u_ 37 47 (mk_ 44 0x3fffffffff) ?_
      refine u_ 38 48 (mk_ 44 0x7fffffffff) ?_
      refine u_ 39 49 (mk_ 44 0xffffffffff) ?_
      refine u_ 40 50 (mk_ 44 0x1ffffffffff) ?_
      refine u_ 41 51 (mk_ 44 0x3ffffffffff) ?_
      refine u_ 42 52 (mk_ 44 0x7ffffffffff) ?_
      refine p_ 43 53 (mk_ 44 0xfffffffffff) ?_
      refine done_ (done_of HT_.out (by kernel_rfl)) ?_
      try go_wp2
      go_ret
      exact ⟨by first | rfl | (simp [errW_none, errW_some] <;> rfl) | (simp [*, errW_none, errW_some] <;> rfl), by repeat (first | (with_reducible first | exact HB.out | apply below_alloc | apply pw_below_drewN | apply below_drew1) | exact HB.out)⟩
    ·rw [if_neg c3] at H
     exact absurd H (by simp)
   ·rw [if_neg c2] at H
    have c2b0 : decide (x3_1 < (l0.length : Int)) = false := decide_eq_false c2
    clear c2
    obtain rfl := Option.some.inj H
    go_wp2
    go_ret
    exact ⟨by first | rfl | (simp [errW_none, errW_some] <;> rfl) | (simp [*, errW_none, errW_some] <;> rfl), by repeat (first | (with_reducible first | exact HB.out | apply below_alloc | apply pw_below_drewN | apply below_drew1) | exact HB.out)⟩

end Go.Proofs.Ytoodahceejdbcaa.P
