import Derived.Test.YtkfehkaiifjkmaaGreatP0
import Derived.Test.YtkfehkaiifjkmaaGreatP3
import Derived.Test.YtkfehkaiifjkmaaGreatP4
import Derived.Test.YtkfehkaiifjkmaaGreatP5
import Derived.Test.YtkfehkaiifjkmaaGreatP6
import Derived.Test.YtkfehkaiifjkmaaGreatP7
import Derived.Test.YtkfehkaiifjkmaaGreatP8
import Derived.Test.YtkfehkaiifjkmaaGreatP9
namespace Go.Proofs.YtkfehkaiifjkmaaGreat.P
open Go.RowKit Go.Proofs.YtkfehkaiifjkmaaGreatW.PrintWords Go.Proofs.YtkfehkaiifjkmaaGreatW.PrintLast Go.Proofs.YtkfehkaiifjkmaaGreatW.PrintMore
set_option maxHeartbeats 8000000
set_option maxRecDepth 100000
attribute [local go_sem] max2_int min2_int max_two min_two max_three min_three max_four min_four
set_option linter.unusedVariables false
set_option linter.unusedSimpArgs false
theorem zq15_0 {p_ : Prop} (h_ : p_ := by first | (with_reducible assumption) | assumption) : p_ := h_
def cenotaphref04_Same.l0 : Nat → List (S61) → List (S61) → Int → Option (Bool)
 | 0, _, _, _ => none
 | k + 1, x0, x1, x5 => if x5 < (x0.length : Int) then (if 0 ≤ x5 then (if x5 < (x1.length : Int) then (if ((rd_T61 x0 x5).f0).toList = ((rd_T61 x1 x5).f0).toList then ((cenotaphref02_Same.f k ((rd_T61 x0 x5).f1.f0) ((rd_T61 x0 x5).f1.f1) ((rd_T61 x1 x5).f1.f0) ((rd_T61 x1 x5).f1.f1)).bind fun t364 => (if t364 = true then (cenotaphref04_Same.l0 k x0 x1 (wrap64 (x5 + 1))) else (some false))) else (some false)) else (none)) else (none)) else (some true)
def cenotaphref04_Same.f (k : Nat) (l0 : List (S61)) (l1 : List (S61)) : Option (Bool) := if (l0.length : Int) = (l1.length : Int) then (cenotaphref04_Same.l0 k l0 l1 0) else (some false)
theorem cenotaphref04_Same.mono_l : ∀ k, (∀ y0 y1 y2, LeO (cenotaphref04_Same.l0 k y0 y1 y2) (cenotaphref04_Same.l0 (k + 1) y0 y1 y2))
 | 0 => fun _ _ _ r h => by simp [cenotaphref04_Same.l0] at h
 | k + 1 => by
  have ih0 := cenotaphref04_Same.mono_l k
  ·intro y0 y1 y2
   unfold cenotaphref04_Same.l0
   repeat' first
   | (with_reducible exact ih0 _ _ _)
   | (with_reducible exact cenotaphref02_Same.mono _ _ _ _ _)
   | (with_reducible exact LeO.refl _)
   | (with_reducible exact LeO.none _)
   | (with_reducible refine LeO.ite ?_ ?_)
   | (with_reducible refine LeO.bind ?_ (fun _ => ?_))
   | exact ih0 _ _ _
   | exact cenotaphref02_Same.mono _ _ _ _ _
   | exact LeO.none _
   | refine LeO.ite ?_ ?_
   | refine LeO.bind ?_ (fun _ => ?_)
theorem cenotaphref04_Same.mono : ∀ a0 a1 k, LeO (cenotaphref04_Same.f k a0 a1) (cenotaphref04_Same.f (k + 1) a0 a1) := by
 intro a0 a1 k
 have ih0 := cenotaphref04_Same.mono_l k
 unfold cenotaphref04_Same.f
 repeat' first
   | (with_reducible exact ih0 _ _ _)
   | (with_reducible exact cenotaphref02_Same.mono _ _ _ _ _)
   | (with_reducible exact LeO.refl _)
   | (with_reducible exact LeO.none _)
   | (with_reducible refine LeO.ite ?_ ?_)
   | (with_reducible refine LeO.bind ?_ (fun _ => ?_))
   | exact ih0 _ _ _
   | exact cenotaphref02_Same.mono _ _ _ _ _
   | exact LeO.none _
   | refine LeO.ite ?_ ?_
   | refine LeO.bind ?_ (fun _ => ?_)
def cenotaphref04_Same.T6 : Bool × List (List Nat × List Nat) := (true, [([], []), ([], []), ([0, 1], [0, 1]), ([2], [2]), ([3], [3]), ([], []), ([], []), ([5, 6], [5, 6]), ([7], [7]), ([8], [8]), ([4, 9], [4, 9]), ([10], [10]), ([11], [11]), ([11], [11]), ([12, 13, 11], [11, 12, 13]), ([14, 11], [11, 14]), ([15, 11], [11, 15]), ([11], [11]), ([11], [11]), ([17, 18, 11], [11, 17, 18]), ([19, 11], [11, 19]), ([20, 11], [11, 20]), ([16, 21, 11, 11], [11, 16, 21]), ([22, 11], [11, 22]), ([11, 23], [11, 23])])
def cenotaphref04_Same.B6 : List Nat := [0, 0, 3, 7, 15, 0, 0, 96, 224, 480, 1023, 2047, 4095, 4095, 16383, 32767, 65535, 4095, 4095, 397311, 921599, 1970175, 4194303, 8388607, 16777215]
theorem cenotaphref04_Same.tab6 : rtab .any (opsOf Tryz.f15 6) = cenotaphref04_Same.T6 := by kernel_rfl
theorem cenotaphref04_Same.bits6 : waitsOk cenotaphref04_Same.T6.2 cenotaphref04_Same.B6 = true := by kernel_rfl
theorem cenotaphref04_Same.calls (k : Nat) (A0 : Option Addr) (c0 : Nat) (l0 : List (S61)) (A1 : Option Addr) (c1 : Nat) (l1 : List (S61)) (r : Bool) (w : World) (hr0 : Kd.C k61 w A0 l0.length l0) (hc0 : l0.length ≤ c0) (hr1 : Kd.C k61 w A1 l1.length l1) (hc1 : l1.length ≤ c1) (h : cenotaphref04_Same.f k l0 l1 = some r) :
  Calls Tryz.prog 15 #[.slice A0 l0.length c0, .slice A1 l1.length c1] w fun e w' => e = .returned (.bool r) ∧ Below w.heap.size w w' := by
 have hu59 := Tryz.underlying59
 have HR0 := aK hr0
 have HC0 := aK hc0
 clear hr0 hc0
 have HR1 := aK hr1
 have HC1 := aK hc1
 clear hr1 hc1
 have HB := aK (Below.refl w.heap.size w)
 have H : (if (l0.length : Int) = (l1.length : Int) then (cenotaphref04_Same.l0 k l0 l1 0) else (some false)) = some r := h
 clear h
 by_cases c3 : (l0.length : Int) = (l1.length : Int)
 ·rw [if_pos c3] at H
  have c3b0 : ((l0.length : Int) == (l1.length : Int)) = true := beq_iff_eq.mpr c3
  have c3b1 : ((l0.length : Int) != (l1.length : Int)) = false := bne_eq_false_iff_eq.mpr c3
  have c3b2 : (l0.length == l1.length) = true := by first | simpa using c3 | (simp at c3 ⊢; omega)
  clear c3
  have H' := aK H
  clear H
  go_enter Tryz.func15, Tryz.ntmps15
  go_wp2
  go_loopg [5] k (fun kq v5 w' => ∃ (x5_1 : Int), v5 = .int .i64 x5_1 ∧ Aside0 (cenotaphref04_Same.l0 kq l0 l1 x5_1 = some r) ∧ Aside0 (kq ≤ k) ∧ Aside0 (Below w.heap.size w w'))
  case atStart => exact ⟨(0), (by first | rfl | (simp; done) | (simp [*]; done)), H', ⟨Nat.le_refl _⟩, ⟨by repeat (first | (with_reducible first | exact HB.out | apply bA | apply pB | apply bW) | exact HB.out)⟩⟩
  case round =>
   clear H'
   try clear c1
   try clear p2
   try clear c3
   try clear c3b0
   try clear c3b1
   try clear c3b2
   obtain ⟨x5_1, rfl, HA, HK1, HB⟩ := hrel
   cases gk with
   | zero => exact absurd HA.out (by simp [cenotaphref04_Same.l0])
   | succ k1 =>
    have H := HA.out
    clear HA
    simp only [cenotaphref04_Same.l0] at H
    by_cases c4 : x5_1 < (l0.length : Int)
    ·rw [if_pos c4] at H
     have c4b0 : decide (x5_1 < (l0.length : Int)) = true := dT c4
     clear c4
     by_cases c5 : 0 ≤ x5_1
     ·rw [if_pos c5] at H
      have c5b0 : decide (0 ≤ x5_1) = true := dT c5
      clear c5
      by_cases c6 : x5_1 < (l1.length : Int)
      ·rw [if_pos c6] at H
       have c6b0 : decide (x5_1 < (l1.length : Int)) = true := dT c6
       clear c6
       by_cases c7 : ((rd_T61 l0 x5_1).f0).toList = ((rd_T61 l1 x5_1).f0).toList
       ·rw [if_pos c7] at H
        have c7b0 : (((rd_T61 l0 x5_1).f0).toList == ((rd_T61 l1 x5_1).f0).toList) = true := beq_iff_eq.mpr c7
        have c7b1 : (((rd_T61 l0 x5_1).f0).toList != ((rd_T61 l1 x5_1).f0).toList) = false := bne_eq_false_iff_eq.mpr c7
        clear c7
        replace H := bM H
        obtain ⟨t364, A80, H⟩ := H
        have A8 := aK A80
        clear A80
        by_cases c9 : t364 = true
        ·subst c9
         have H1 : (cenotaphref04_Same.l0 k1 l0 l1 (wrap64 (x5_1 + 1))) = some r := by rw [if_pos rfl] at H; exact H
         clear H
         have H := H1
         clear H1
         have H' := aK H
         clear H
         try go_wp2
         replace HB := aK (bW HB.out)
         have p360 : 0 ≤ (x5_1 : Int) := oD zq15_0
         have q360 : x5_1 < (l0.length : Int) := oD zq15_0
         obtain ⟨ad360, A360_2, c360_2, e360, hx360_0, hx360_1, hx360_2, hl360_2, hi360_2⟩ := at_T61 HR0.out x5_1 p360 q360
         have hw360_2 := hx360_2
         have hw360_1 := hx360_1
         have hw360_0 := hx360_0
         cases e360
         replace hx360_0 := pc_ HB hx360_0
         replace hx360_1 := pc_ HB hx360_1
         replace hx360_2 := pc_ HB hx360_2
         have HR360_2 := aK hi360_2
         have HC360_2 := aK hl360_2
         clear hi360_2 hl360_2
         replace p360 := eT p360
         replace q360 := eT q360
         have p361 : 0 ≤ (x5_1 : Int) := oD zq15_0
         have q361 : x5_1 < (l1.length : Int) := oD zq15_0
         obtain ⟨ad361, A361_2, c361_2, e361, hx361_0, hx361_1, hx361_2, hl361_2, hi361_2⟩ := at_T61 HR1.out x5_1 p361 q361
         have hw361_2 := hx361_2
         have hw361_1 := hx361_1
         have hw361_0 := hx361_0
         cases e361
         replace hx361_0 := pc_ HB hx361_0
         replace hx361_1 := pc_ HB hx361_1
         replace hx361_2 := pc_ HB hx361_2
         have HR361_2 := aK hi361_2
         have HC361_2 := aK hl361_2
         clear hi361_2 hl361_2
         replace p361 := eT p361
         replace q361 := eT q361
         have p362 : 0 ≤ (x5_1 : Int) := oD zq15_0
         have q362 : x5_1 < (l0.length : Int) := oD zq15_0
         obtain ⟨ad362, A362_2, c362_2, e362, hx362_0, hx362_1, hx362_2, hl362_2, hi362_2⟩ := at_T61 HR0.out x5_1 p362 q362
         have hw362_2 := hx362_2
         have hw362_1 := hx362_1
         have hw362_0 := hx362_0
         obtain rfl : ad360 = ad362 := (by injection e362)
         replace hx362_0 := pc_ HB hx362_0
         replace hx362_1 := pc_ HB hx362_1
         replace hx362_2 := pc_ HB hx362_2
         have HR362_2 := aK hi362_2
         have HC362_2 := aK hl362_2
         clear hi362_2 hl362_2
         replace p362 := eT p362
         replace q362 := eT q362
         have ea_ := sI (hx360_2.symm.trans hx362_2)
         injection ea_ with ea_ en_ ec_
         subst ea_
         subst ec_
         clear en_
         have p363 : 0 ≤ (x5_1 : Int) := oD zq15_0
         have q363 : x5_1 < (l1.length : Int) := oD zq15_0
         obtain ⟨ad363, A363_2, c363_2, e363, hx363_0, hx363_1, hx363_2, hl363_2, hi363_2⟩ := at_T61 HR1.out x5_1 p363 q363
         have hw363_2 := hx363_2
         have hw363_1 := hx363_1
         have hw363_0 := hx363_0
         obtain rfl : ad361 = ad363 := (by injection e363)
         replace hx363_0 := pc_ HB hx363_0
         replace hx363_1 := pc_ HB hx363_1
         replace hx363_2 := pc_ HB hx363_2
         have HR363_2 := aK hi363_2
         have HC363_2 := aK hl363_2
         clear hi363_2 hl363_2
         replace p363 := eT p363
         replace q363 := eT q363
         have ea_ := sI (hx361_2.symm.trans hx363_2)
         injection ea_ with ea_ en_ ec_
         subst ea_
         subst ec_
         clear en_
         refine start_ (n := 25) (S := fun w' => w'.cell? (ad360.add ((x5_1).toNat * 3)) = some (.string ((rd_T61 l0 x5_1).f0)) ∧ w'.cell? ⟨(ad360.add ((x5_1).toNat * 3)).block, (ad360.add ((x5_1).toNat * 3)).off + 1, none⟩ = some (.int .i64 ((rd_T61 l0 x5_1).f1.f0)) ∧ w'.cell? ⟨(ad360.add ((x5_1).toNat * 3)).block, (ad360.add ((x5_1).toNat * 3)).off + 2, none⟩ = some (.slice A360_2 ((rd_T61 l0 x5_1).f1.f1).length c360_2) ∧ w'.cell? (ad361.add ((x5_1).toNat * 3)) = some (.string ((rd_T61 l1 x5_1).f0)) ∧ w'.cell? ⟨(ad361.add ((x5_1).toNat * 3)).block, (ad361.add ((x5_1).toNat * 3)).off + 1, none⟩ = some (.int .i64 ((rd_T61 l1 x5_1).f1.f0)) ∧ w'.cell? ⟨(ad361.add ((x5_1).toNat * 3)).block, (ad361.add ((x5_1).toNat * 3)).off + 2, none⟩ = some (.slice A361_2 ((rd_T61 l1 x5_1).f1.f1).length c361_2) ∧ w'.cell? (ad360.add ((x5_1).toNat * 3)) = some (.string ((rd_T61 l0 x5_1).f0)) ∧ w'.cell? ⟨(ad360.add ((x5_1).toNat * 3)).block, (ad360.add ((x5_1).toNat * 3)).off + 1, none⟩ = some (.int .i64 ((rd_T61 l0 x5_1).f1.f0)) ∧ w'.cell? ⟨(ad360.add ((x5_1).toNat * 3)).block, (ad360.add ((x5_1).toNat * 3)).off + 2, none⟩ = some (.slice A360_2 ((rd_T61 l0 x5_1).f1.f1).length c360_2) ∧ w'.cell? (ad361.add ((x5_1).toNat * 3)) = some (.string ((rd_T61 l1 x5_1).f0)) ∧ w'.cell? ⟨(ad361.add ((x5_1).toNat * 3)).block, (ad361.add ((x5_1).toNat * 3)).off + 1, none⟩ = some (.int .i64 ((rd_T61 l1 x5_1).f1.f0)) ∧ w'.cell? ⟨(ad361.add ((x5_1).toNat * 3)).block, (ad361.add ((x5_1).toNat * 3)).off + 2, none⟩ = some (.slice A361_2 ((rd_T61 l1 x5_1).f1.f1).length c361_2)) (ds := []) #[false, false, false, false, false, false, false, false, false, false, false, false, false, false, false, false, false, false, false, false, false, false, false, false, false] (by kernel_rfl) rfl rfl ⟨(pc_ HB hw360_0), (pc_ HB hw360_1), (pc_ HB hw360_2), (pc_ HB hw361_0), (pc_ HB hw361_1), (pc_ HB hw361_2), (pc_ HB hw362_0), (pc_ HB hw362_1), (pc_ HB hw362_2), (pc_ HB hw363_0), (pc_ HB hw363_1), (pc_ HB hw363_2)⟩ (fun hHeld => ?_); refine with_tabW cenotaphref04_Same.tab6 cenotaphref04_Same.bits6 (fun HT_ HW_ => ?_)
         generalize wr.drew = w10 at HB HR360_2 HR361_2 HR362_2 HR363_2 hx360_0 hx360_1 hx360_2 hx361_0 hx361_1 hx361_2 hx362_0 hx362_1 hx362_2 hx363_0 hx363_1 hx363_2 hHeld ⊢
         refine p_ 0 17 (mk_ 25 0x1) ?_
         refine p_ 1 18 (mk_ 25 0x3) ?_
         refine p_ 2 19 (mk_ 25 0x7) ?_
         refine p_ 3 20 (mk_ 25 0xf) ?_
         refine p_ 5 22 (mk_ 25 0x2f) ?_
         refine p_ 6 23 (mk_ 25 0x6f) ?_
         refine p_ 7 24 (mk_ 25 0xef) ?_
         refine p_ 8 25 (mk_ 25 0x1ef) ?_
         refine t_ 4 21 (mk_ 25 0x1ff) hHeld ?_
         refine t_ 9 26 (mk_ 25 0x3ff) hHeld ?_
         refine p_ 10 27 (mk_ 25 0x7ff) ?_
         refine p_ 11 28 (mk_ 25 0xfff) ?_
         refine p_ 12 29 (mk_ 25 0x1fff) ?_
         refine p_ 13 30 (mk_ 25 0x3fff) ?_
         refine p_ 14 31 (mk_ 25 0x7fff) ?_
         refine p_ 15 32 (mk_ 25 0xffff) ?_
         refine p_ 17 34 (mk_ 25 0x2ffff) ?_
         refine p_ 18 35 (mk_ 25 0x6ffff) ?_
         refine p_ 19 36 (mk_ 25 0xeffff) ?_
         refine p_ 20 37 (mk_ 25 0x1effff) ?_
         refine t_ 16 33 (mk_ 25 0x1fffff) hHeld ?_
         refine t_ 21 38 (mk_ 25 0x3fffff) hHeld ?_
         refine one_ (i := 22) (N := some 39) #[true, true, true, true, true, true, true, true, true, true, true, true, true, true, true, true, true, true, true, true, true, true, true, false, false] rfl rfl (one_of HT_.out (by kernel_rfl)) (by decide) (fun K hK => ?_)
         refine goes_ Tryz.func40 (by kernel_rfl) rfl #[.agg #[.int .i64 ((rd_T61 l0 x5_1).f1.f0), .slice A360_2 ((rd_T61 l0 x5_1).f1.f1).length c360_2], .agg #[.int .i64 ((rd_T61 l1 x5_1).f1.f0), .slice A361_2 ((rd_T61 l1 x5_1).f1.f1).length c361_2]] (by rfl) rfl rfl (by (try simp only [List.map_toArray, List.map_cons, List.map_nil]); first | done | rfl | (simp only [List.length_drop, List.length_take]; rfl)) ?_
         with_reducible refine (cenotaphref02_Same.calls k1 ((rd_T61 l0 x5_1).f1.f0) _ _ ((rd_T61 l0 x5_1).f1.f1) ((rd_T61 l1 x5_1).f1.f0) _ _ ((rd_T61 l1 x5_1).f1.f1) true _ ?side1 ?side2 ?side3 ?side4 A8.out).mono ?_
         (case side1 => repeat (first | exact (cB HR362_2.out HB.out) | (with_reducible refine Kd.C_alloc ?_ _) | (with_reducible refine Kd.C_drewN ?_ _) | (with_reducible refine Kd.C_drew ?_)))
         (case side2 => exact HC362_2.out)
         (case side3 => repeat (first | exact (cB HR363_2.out HB.out) | (with_reducible refine Kd.C_alloc ?_ _) | (with_reducible refine Kd.C_drewN ?_ _) | (with_reducible refine Kd.C_drew ?_)))
         (case side4 => exact HC363_2.out)
         rintro e w11 ⟨rfl, hb⟩
         refine ⟨_, rfl, ?_⟩
         replace HB := aK (bS (by repeat (first | (with_reducible first | exact HB.out | apply bA | apply pB | apply bW) | exact HB.out)) hb)
         (try clear hb)
         (try clear hb2)
         (try clear hk)
         (try clear hi)
         refine hK.out _ _ ⟨(pc_ HB hw360_0), (pc_ HB hw360_1), (pc_ HB hw360_2), (pc_ HB hw361_0), (pc_ HB hw361_1), (pc_ HB hw361_2), (pc_ HB hw362_0), (pc_ HB hw362_1), (pc_ HB hw362_2), (pc_ HB hw363_0), (pc_ HB hw363_1), (pc_ HB hw363_2)⟩ (fun hHeld => ?_)
         clear hK K
         refine norm_ (a' := ?_) ?_ ?_
         rotate_left
         ·show Act.put _ (some 39) _ = _
          simp only [Act.put, lA, lB, lC, i64_w, i32_w]
          rfl
         refine p_ 23 40 (mk_ 25 0xffffff) ?_
         refine p_ 24 41 (mk_ 25 0x1ffffff) ?_
         refine done_ (done_of HT_.out (by kernel_rfl)) ?_
         try go_wp2
         go_roundg k1
         case measure => have := HK1.out; omega
         case rel => exact ⟨(wrap64 (x5_1 + 1)), (by first | rfl | (simp; done) | (simp [*]; done)), H', ⟨by have := HK1.out; omega⟩, ⟨by repeat (first | (with_reducible first | exact HB.out | apply bA | apply pB | apply bW) | exact HB.out)⟩⟩
        ·replace c9 := Bool.eq_false_iff.mpr c9
         subst c9
         have H1 : (some false) = some r := by rw [if_neg (show ¬ (false = true) by decide)] at H; exact H
         clear H
         have H := H1
         clear H1
         obtain rfl := sI H
         try go_wp2
         replace HB := aK (bW HB.out)
         have p360 : 0 ≤ (x5_1 : Int) := oD zq15_0
         have q360 : x5_1 < (l0.length : Int) := oD zq15_0
         obtain ⟨ad360, A360_2, c360_2, e360, hx360_0, hx360_1, hx360_2, hl360_2, hi360_2⟩ := at_T61 HR0.out x5_1 p360 q360
         have hw360_2 := hx360_2
         have hw360_1 := hx360_1
         have hw360_0 := hx360_0
         cases e360
         replace hx360_0 := pc_ HB hx360_0
         replace hx360_1 := pc_ HB hx360_1
         replace hx360_2 := pc_ HB hx360_2
         have HR360_2 := aK hi360_2
         have HC360_2 := aK hl360_2
         clear hi360_2 hl360_2
         replace p360 := eT p360
         replace q360 := eT q360
         have p361 : 0 ≤ (x5_1 : Int) := oD zq15_0
         have q361 : x5_1 < (l1.length : Int) := oD zq15_0
         obtain ⟨ad361, A361_2, c361_2, e361, hx361_0, hx361_1, hx361_2, hl361_2, hi361_2⟩ := at_T61 HR1.out x5_1 p361 q361
         have hw361_2 := hx361_2
         have hw361_1 := hx361_1
         have hw361_0 := hx361_0
         cases e361
         replace hx361_0 := pc_ HB hx361_0
         replace hx361_1 := pc_ HB hx361_1
         replace hx361_2 := pc_ HB hx361_2
         have HR361_2 := aK hi361_2
         have HC361_2 := aK hl361_2
         clear hi361_2 hl361_2
         replace p361 := eT p361
         replace q361 := eT q361
         have p362 : 0 ≤ (x5_1 : Int) := oD zq15_0
         have q362 : x5_1 < (l0.length : Int) := oD zq15_0
         obtain ⟨ad362, A362_2, c362_2, e362, hx362_0, hx362_1, hx362_2, hl362_2, hi362_2⟩ := at_T61 HR0.out x5_1 p362 q362
         have hw362_2 := hx362_2
         have hw362_1 := hx362_1
         have hw362_0 := hx362_0
         obtain rfl : ad360 = ad362 := (by injection e362)
         replace hx362_0 := pc_ HB hx362_0
         replace hx362_1 := pc_ HB hx362_1
         replace hx362_2 := pc_ HB hx362_2
         have HR362_2 := aK hi362_2
         have HC362_2 := aK hl362_2
         clear hi362_2 hl362_2
         replace p362 := eT p362
         replace q362 := eT q362
         have ea_ := sI (hx360_2.symm.trans hx362_2)
         injection ea_ with ea_ en_ ec_
         subst ea_
         subst ec_
         clear en_
         have p363 : 0 ≤ (x5_1 : Int) := oD zq15_0
         have q363 : x5_1 < (l1.length : Int) := oD zq15_0
         obtain ⟨ad363, A363_2, c363_2, e363, hx363_0, hx363_1, hx363_2, hl363_2, hi363_2⟩ := at_T61 HR1.out x5_1 p363 q363
         have hw363_2 := hx363_2
         have hw363_1 := hx363_1
         have hw363_0 := hx363_0
         obtain rfl : ad361 = ad363 := (by injection e363)
         replace hx363_0 := pc_ HB hx363_0
         replace hx363_1 := pc_ HB hx363_1
         replace hx363_2 := pc_ HB hx363_2
         have HR363_2 := aK hi363_2
         have HC363_2 := aK hl363_2
         clear hi363_2 hl363_2
         replace p363 := eT p363
         replace q363 := eT q363
         have ea_ := sI (hx361_2.symm.trans hx363_2)
         injection ea_ with ea_ en_ ec_
         subst ea_
         subst ec_
         clear en_
         refine start_ (n := 25) (S := fun w' => w'.cell? (ad360.add ((x5_1).toNat * 3)) = some (.string ((rd_T61 l0 x5_1).f0)) ∧ w'.cell? ⟨(ad360.add ((x5_1).toNat * 3)).block, (ad360.add ((x5_1).toNat * 3)).off + 1, none⟩ = some (.int .i64 ((rd_T61 l0 x5_1).f1.f0)) ∧ w'.cell? ⟨(ad360.add ((x5_1).toNat * 3)).block, (ad360.add ((x5_1).toNat * 3)).off + 2, none⟩ = some (.slice A360_2 ((rd_T61 l0 x5_1).f1.f1).length c360_2) ∧ w'.cell? (ad361.add ((x5_1).toNat * 3)) = some (.string ((rd_T61 l1 x5_1).f0)) ∧ w'.cell? ⟨(ad361.add ((x5_1).toNat * 3)).block, (ad361.add ((x5_1).toNat * 3)).off + 1, none⟩ = some (.int .i64 ((rd_T61 l1 x5_1).f1.f0)) ∧ w'.cell? ⟨(ad361.add ((x5_1).toNat * 3)).block, (ad361.add ((x5_1).toNat * 3)).off + 2, none⟩ = some (.slice A361_2 ((rd_T61 l1 x5_1).f1.f1).length c361_2) ∧ w'.cell? (ad360.add ((x5_1).toNat * 3)) = some (.string ((rd_T61 l0 x5_1).f0)) ∧ w'.cell? ⟨(ad360.add ((x5_1).toNat * 3)).block, (ad360.add ((x5_1).toNat * 3)).off + 1, none⟩ = some (.int .i64 ((rd_T61 l0 x5_1).f1.f0)) ∧ w'.cell? ⟨(ad360.add ((x5_1).toNat * 3)).block, (ad360.add ((x5_1).toNat * 3)).off + 2, none⟩ = some (.slice A360_2 ((rd_T61 l0 x5_1).f1.f1).length c360_2) ∧ w'.cell? (ad361.add ((x5_1).toNat * 3)) = some (.string ((rd_T61 l1 x5_1).f0)) ∧ w'.cell? ⟨(ad361.add ((x5_1).toNat * 3)).block, (ad361.add ((x5_1).toNat * 3)).off + 1, none⟩ = some (.int .i64 ((rd_T61 l1 x5_1).f1.f0)) ∧ w'.cell? ⟨(ad361.add ((x5_1).toNat * 3)).block, (ad361.add ((x5_1).toNat * 3)).off + 2, none⟩ = some (.slice A361_2 ((rd_T61 l1 x5_1).f1.f1).length c361_2)) (ds := []) #[false, false, false, false, false, false, false, false, false, false, false, false, false, false, false, false, false, false, false, false, false, false, false, false, false] (by kernel_rfl) rfl rfl ⟨(pc_ HB hw360_0), (pc_ HB hw360_1), (pc_ HB hw360_2), (pc_ HB hw361_0), (pc_ HB hw361_1), (pc_ HB hw361_2), (pc_ HB hw362_0), (pc_ HB hw362_1), (pc_ HB hw362_2), (pc_ HB hw363_0), (pc_ HB hw363_1), (pc_ HB hw363_2)⟩ (fun hHeld => ?_); refine with_tabW cenotaphref04_Same.tab6 cenotaphref04_Same.bits6 (fun HT_ HW_ => ?_)
         generalize wr.drew = w12 at HB HR360_2 HR361_2 HR362_2 HR363_2 hx360_0 hx360_1 hx360_2 hx361_0 hx361_1 hx361_2 hx362_0 hx362_1 hx362_2 hx363_0 hx363_1 hx363_2 hHeld ⊢
         refine p_ 0 17 (mk_ 25 0x1) ?_
         refine p_ 1 18 (mk_ 25 0x3) ?_
         refine p_ 2 19 (mk_ 25 0x7) ?_
         refine p_ 3 20 (mk_ 25 0xf) ?_
         refine p_ 5 22 (mk_ 25 0x2f) ?_
         refine p_ 6 23 (mk_ 25 0x6f) ?_
         refine p_ 7 24 (mk_ 25 0xef) ?_
         refine p_ 8 25 (mk_ 25 0x1ef) ?_
         refine t_ 4 21 (mk_ 25 0x1ff) hHeld ?_
         refine t_ 9 26 (mk_ 25 0x3ff) hHeld ?_
         refine p_ 10 27 (mk_ 25 0x7ff) ?_
         refine p_ 11 28 (mk_ 25 0xfff) ?_
         refine p_ 12 29 (mk_ 25 0x1fff) ?_
         refine p_ 13 30 (mk_ 25 0x3fff) ?_
         refine p_ 14 31 (mk_ 25 0x7fff) ?_
         refine p_ 15 32 (mk_ 25 0xffff) ?_
         refine p_ 17 34 (mk_ 25 0x2ffff) ?_
         refine p_ 18 35 (mk_ 25 0x6ffff) ?_
         refine p_ 19 36 (mk_ 25 0xeffff) ?_
         refine p_ 20 37 (mk_ 25 0x1effff) ?_
         refine t_ 16 33 (mk_ 25 0x1fffff) hHeld ?_
         refine t_ 21 38 (mk_ 25 0x3fffff) hHeld ?_
         refine one_ (i := 22) (N := some 39) #[true, true, true, true, true, true, true, true, true, true, true, true, true, true, true, true, true, true, true, true, true, true, true, false, false] rfl rfl (one_of HT_.out (by kernel_rfl)) (by decide) (fun K hK => ?_)
         refine goes_ Tryz.func40 (by kernel_rfl) rfl #[.agg #[.int .i64 ((rd_T61 l0 x5_1).f1.f0), .slice A360_2 ((rd_T61 l0 x5_1).f1.f1).length c360_2], .agg #[.int .i64 ((rd_T61 l1 x5_1).f1.f0), .slice A361_2 ((rd_T61 l1 x5_1).f1.f1).length c361_2]] (by rfl) rfl rfl (by (try simp only [List.map_toArray, List.map_cons, List.map_nil]); first | done | rfl | (simp only [List.length_drop, List.length_take]; rfl)) ?_
         with_reducible refine (cenotaphref02_Same.calls k1 ((rd_T61 l0 x5_1).f1.f0) _ _ ((rd_T61 l0 x5_1).f1.f1) ((rd_T61 l1 x5_1).f1.f0) _ _ ((rd_T61 l1 x5_1).f1.f1) false _ ?side1 ?side2 ?side3 ?side4 A8.out).mono ?_
         (case side1 => repeat (first | exact (cB HR362_2.out HB.out) | (with_reducible refine Kd.C_alloc ?_ _) | (with_reducible refine Kd.C_drewN ?_ _) | (with_reducible refine Kd.C_drew ?_)))
         (case side2 => exact HC362_2.out)
         (case side3 => repeat (first | exact (cB HR363_2.out HB.out) | (with_reducible refine Kd.C_alloc ?_ _) | (with_reducible refine Kd.C_drewN ?_ _) | (with_reducible refine Kd.C_drew ?_)))
         (case side4 => exact HC363_2.out)
         rintro e w13 ⟨rfl, hb⟩
         refine ⟨_, rfl, ?_⟩
         replace HB := aK (bS (by repeat (first | (with_reducible first | exact HB.out | apply bA | apply pB | apply bW) | exact HB.out)) hb)
         (try clear hb)
         (try clear hb2)
         (try clear hk)
         (try clear hi)
         refine hK.out _ _ ⟨(pc_ HB hw360_0), (pc_ HB hw360_1), (pc_ HB hw360_2), (pc_ HB hw361_0), (pc_ HB hw361_1), (pc_ HB hw361_2), (pc_ HB hw362_0), (pc_ HB hw362_1), (pc_ HB hw362_2), (pc_ HB hw363_0), (pc_ HB hw363_1), (pc_ HB hw363_2)⟩ (fun hHeld => ?_)
         clear hK K
         refine norm_ (a' := ?_) ?_ ?_
         rotate_left
         ·show Act.put _ (some 39) _ = _
          simp only [Act.put, lA, lB, lC, i64_w, i32_w]
          rfl
         refine p_ 23 40 (mk_ 25 0xffffff) ?_
         refine p_ 24 41 (mk_ 25 0x1ffffff) ?_
         refine done_ (done_of HT_.out (by kernel_rfl)) ?_
         try go_wp2
         go_ret
         exact ⟨by first | rfl | (simp [errW_none, errW_some] <;> rfl) | (simp [*, errW_none, errW_some] <;> rfl), by repeat (first | (with_reducible first | exact HB.out | apply bA | apply pB | apply bW) | exact HB.out)⟩
       ·rw [if_neg c7] at H
        have c7b0 : (((rd_T61 l0 x5_1).f0).toList == ((rd_T61 l1 x5_1).f0).toList) = false := beq_eq_false_iff_ne.mpr c7
        have c7b1 : (((rd_T61 l0 x5_1).f0).toList != ((rd_T61 l1 x5_1).f0).toList) = true := bne_iff_ne.mpr c7
        obtain rfl := sI H
        try go_wp2
        replace HB := aK (bW HB.out)
        have p360 : 0 ≤ (x5_1 : Int) := oD zq15_0
        have q360 : x5_1 < (l0.length : Int) := oD zq15_0
        obtain ⟨ad360, A360_2, c360_2, e360, hx360_0, hx360_1, hx360_2, hl360_2, hi360_2⟩ := at_T61 HR0.out x5_1 p360 q360
        have hw360_2 := hx360_2
        have hw360_1 := hx360_1
        have hw360_0 := hx360_0
        cases e360
        replace hx360_0 := pc_ HB hx360_0
        replace hx360_1 := pc_ HB hx360_1
        replace hx360_2 := pc_ HB hx360_2
        have HR360_2 := aK hi360_2
        have HC360_2 := aK hl360_2
        clear hi360_2 hl360_2
        replace p360 := eT p360
        replace q360 := eT q360
        have p361 : 0 ≤ (x5_1 : Int) := oD zq15_0
        have q361 : x5_1 < (l1.length : Int) := oD zq15_0
        obtain ⟨ad361, A361_2, c361_2, e361, hx361_0, hx361_1, hx361_2, hl361_2, hi361_2⟩ := at_T61 HR1.out x5_1 p361 q361
        have hw361_2 := hx361_2
        have hw361_1 := hx361_1
        have hw361_0 := hx361_0
        cases e361
        replace hx361_0 := pc_ HB hx361_0
        replace hx361_1 := pc_ HB hx361_1
        replace hx361_2 := pc_ HB hx361_2
        have HR361_2 := aK hi361_2
        have HC361_2 := aK hl361_2
        clear hi361_2 hl361_2
        replace p361 := eT p361
        replace q361 := eT q361
        refine start_ (n := 25) (S := fun w' => w'.cell? (ad360.add ((x5_1).toNat * 3)) = some (.string ((rd_T61 l0 x5_1).f0)) ∧ w'.cell? ⟨(ad360.add ((x5_1).toNat * 3)).block, (ad360.add ((x5_1).toNat * 3)).off + 1, none⟩ = some (.int .i64 ((rd_T61 l0 x5_1).f1.f0)) ∧ w'.cell? ⟨(ad360.add ((x5_1).toNat * 3)).block, (ad360.add ((x5_1).toNat * 3)).off + 2, none⟩ = some (.slice A360_2 ((rd_T61 l0 x5_1).f1.f1).length c360_2) ∧ w'.cell? (ad361.add ((x5_1).toNat * 3)) = some (.string ((rd_T61 l1 x5_1).f0)) ∧ w'.cell? ⟨(ad361.add ((x5_1).toNat * 3)).block, (ad361.add ((x5_1).toNat * 3)).off + 1, none⟩ = some (.int .i64 ((rd_T61 l1 x5_1).f1.f0)) ∧ w'.cell? ⟨(ad361.add ((x5_1).toNat * 3)).block, (ad361.add ((x5_1).toNat * 3)).off + 2, none⟩ = some (.slice A361_2 ((rd_T61 l1 x5_1).f1.f1).length c361_2)) (ds := []) #[false, false, false, false, false, false, false, false, false, false, false, false, false, false, false, false, false, false, false, false, false, false, false, false, false] (by kernel_rfl) rfl rfl ⟨(pc_ HB hw360_0), (pc_ HB hw360_1), (pc_ HB hw360_2), (pc_ HB hw361_0), (pc_ HB hw361_1), (pc_ HB hw361_2)⟩ (fun hHeld => ?_); refine with_tabW cenotaphref04_Same.tab6 cenotaphref04_Same.bits6 (fun HT_ HW_ => ?_)
        generalize wr.drew = w14 at HB HR360_2 HR361_2 hx360_0 hx360_1 hx360_2 hx361_0 hx361_1 hx361_2 hHeld ⊢
        refine p_ 0 17 (mk_ 25 0x1) ?_
        refine p_ 1 18 (mk_ 25 0x3) ?_
        refine p_ 2 19 (mk_ 25 0x7) ?_
        refine p_ 3 20 (mk_ 25 0xf) ?_
        refine p_ 5 22 (mk_ 25 0x2f) ?_
        refine p_ 6 23 (mk_ 25 0x6f) ?_
        refine p_ 7 24 (mk_ 25 0xef) ?_
        refine p_ 8 25 (mk_ 25 0x1ef) ?_
        refine t_ 4 21 (mk_ 25 0x1ff) hHeld ?_
        refine t_ 9 26 (mk_ 25 0x3ff) hHeld ?_
        refine p_ 10 27 (mk_ 25 0x7ff) ?_
        refine p_ 11 28 (mk_ 25 0xfff) ?_
        refine u_ 12 29 (mk_ 25 0x1fff) ?_
        refine u_ 13 30 (mk_ 25 0x3fff) ?_
        refine u_ 14 31 (mk_ 25 0x7fff) ?_
        refine u_ 15 32 (mk_ 25 0xffff) ?_
        refine u_ 16 33 (mk_ 25 0x1ffff) ?_
        refine u_ 17 34 (mk_ 25 0x3ffff) ?_
        refine u_ 18 35 (mk_ 25 0x7ffff) ?_
        refine u_ 19 36 (mk_ 25 0xfffff) ?_
        refine u_ 20 37 (mk_ 25 0x1fffff) ?_
        refine u_ 21 38 (mk_ 25 0x3fffff) ?_
        refine u_ 22 39 (mk_ 25 0x7fffff) ?_
        refine u_ 23 40 (mk_ 25 0xffffff) ?_
        refine p_ 24 41 (mk_ 25 0x1ffffff) ?_
        refine done_ (done_of HT_.out (by kernel_rfl)) ?_
        try go_wp2
        go_ret
        exact ⟨by first | rfl | (simp [errW_none, errW_some] <;> rfl) | (simp [*, errW_none, errW_some] <;> rfl), by repeat (first | (with_reducible first | exact HB.out | apply bA | apply pB | apply bW) | exact HB.out)⟩
      ·rw [if_neg c6] at H
       exact absurd H (by simp)
     ·rw [if_neg c5] at H
      exact absurd H (by simp)
    ·rw [if_neg c4] at H
     have c4b0 : decide (x5_1 < (l0.length : Int)) = false := decide_eq_false c4
     clear c4
     obtain rfl := sI H
     go_wp2
     go_ret
     exact ⟨by first | rfl | (simp [errW_none, errW_some] <;> rfl) | (simp [*, errW_none, errW_some] <;> rfl), by repeat (first | (with_reducible first | exact HB.out | apply bA | apply pB | apply bW) | exact HB.out)⟩
 ·rw [if_neg c3] at H
  have c3b0 : ((l0.length : Int) == (l1.length : Int)) = false := beq_eq_false_iff_ne.mpr c3
  have c3b1 : ((l0.length : Int) != (l1.length : Int)) = true := bne_iff_ne.mpr c3
  have c3b2 : (l0.length == l1.length) = false := by first | simpa using c3 | (simp at c3 ⊢; omega)
  obtain rfl := sI H
  go_enter Tryz.func15, Tryz.ntmps15
  go_wp2
  go_ret
  exact ⟨by first | rfl | (simp [errW_none, errW_some] <;> rfl) | (simp [*, errW_none, errW_some] <;> rfl), by repeat (first | (with_reducible first | exact HB.out | apply bA | apply pB | apply bW) | exact HB.out)⟩
theorem zq41_0 {p_ : Prop} (h_ : p_ := by repeat (first | (with_reducible first | exact HB.out | apply bA | apply pB | apply bW | refine below_set ?_ GE365.out | refine below_set ?_ GE366.out) | exact HB.out)) : p_ := h_
theorem zq41_1 {p_ : Prop} (h_ : p_ := by repeat (first | (with_reducible first | exact HB.out | apply bA | apply pB | apply bW | refine below_set ?_ GE365.out) | exact HB.out)) : p_ := h_
theorem zq41_2 {p_ : Prop} (h_ : p_ := by repeat (first | (with_reducible first | exact HB.out | apply bA | apply pB | apply bW) | exact HB.out)) : p_ := h_
theorem zq41_3 {p_ : Prop} (h_ : p_ := by (with_reducible repeat (first | refine blk_drewN ?_ _ | refine blk_drew ?_ | refine blk_alloc ?_ _)); exact BK365.out) : p_ := h_
def cenotaphlaw02_From.f (a0_0 : Int) (l0_1 : List Int) : Option (Int × List Int) := (some (([] : List Int) : List Int)).bind fun y367 => (if y367.length + l0_1.length < 17592186044416 then (some (a0_0, (y367 ++ l0_1))) else (none))
def cenotaphlaw02_From.T1 : Bool × List (List Nat × List Nat) := (true, [([], []), ([0], [0]), ([], []), ([], []), ([3], [3]), ([2, 4], [2, 4]), ([1, 5], [1, 5]), ([6, 5, 0, 1, 2, 3, 4, 5, 6], [6])])
def cenotaphlaw02_From.B1 : List Nat := [0, 1, 0, 0, 8, 28, 63, 127]
theorem cenotaphlaw02_From.tab1 : rtab .any (opsOf Tryz.f41 1) = cenotaphlaw02_From.T1 := by kernel_rfl
theorem cenotaphlaw02_From.bits1 : waitsOk cenotaphlaw02_From.T1.2 cenotaphlaw02_From.B1 = true := by kernel_rfl
theorem cenotaphlaw02_From.calls (a0_0 : Int) (A0_1 : Option Addr) (c0_1 : Nat) (l0_1 : List Int) (r1 : Int) (r2 : List Int) (w : World) (hr0_1 : Kd.C (Kd.int .i64) w A0_1 l0_1.length l0_1) (hc0_1 : l0_1.length ≤ c0_1) (h : cenotaphlaw02_From.f a0_0 l0_1 = some (r1, r2)) :
  Calls Tryz.prog 41 #[.agg #[.int .i64 a0_0, .slice A0_1 l0_1.length c0_1]] w fun e w' => ∃ v1_ : Value, e = .returned (.agg #[.int .i64 r1, v1_]) ∧ Kd.R (Kd.int .i64) 3 w' w.heap.size (fun _ => True) v1_ r2 ∧ Below w.heap.size w w' := by
 have hu69 := Tryz.underlying69
 have hu59 := Tryz.underlying59
 have HR0_1 := aK hr0_1
 have HC0_1 := aK hc0_1
 clear hr0_1 hc0_1
 have HB := aK (Below.refl w.heap.size w)
 have H : ((some (([] : List Int) : List Int)).bind fun y367 => (if y367.length + l0_1.length < 17592186044416 then (some (a0_0, (y367 ++ l0_1))) else (none))) = some (r1, r2) := h
 clear h
 obtain ⟨y367, hy367⟩ : ∃ y_ : List Int, y_ = (([] : List Int)) := ⟨_, rfl⟩
 replace H : (if y367.length + l0_1.length < 17592186044416 then (some (a0_0, (y367 ++ l0_1))) else (none)) = some (r1, r2) := by first | (rw [hy367]; with_reducible exact H) | (have H2_ := (Option.bind_some _ _).symm.trans H; rw [hy367]; with_reducible exact H2_) | (have H2_ := (Option.bind_some _ _).symm.trans H; with_reducible exact H2_) | with_reducible exact H | (rw [hy367]; exact H) | exact H
 have Ny367 := aK hy367
 clear hy367
 by_cases c2 : y367.length + l0_1.length < 17592186044416
 ·rw [if_pos c2] at H
  have LMc2 := aK c2
  clear c2
  obtain ⟨y370, hy370⟩ : ∃ y_ : List Int, y_ = (y367 ++ l0_1) := ⟨_, rfl⟩
  replace H : (some (a0_0, y370)) = some (r1, r2) := by first | (rw [hy370]; with_reducible exact H) | (have H2_ := (Option.bind_some _ _).symm.trans H; rw [hy370]; with_reducible exact H2_) | (have H2_ := (Option.bind_some _ _).symm.trans H; with_reducible exact H2_) | with_reducible exact H | (rw [hy370]; exact H) | exact H
  have Ny370 := aK hy370
  clear hy370
  simp only [Option.some.injEq, Prod.mk.injEq] at H
  obtain ⟨rfl, rfl⟩ := H
  go_enter Tryz.func41, Tryz.ntmps41
  try go_wp2_with (first | ((with_reducible refine gate_dst (N := 1) rfl ?_); refine box_event ?hg (N := 1) ?hd (cs := #[.int .i64 a0_0, .slice A0_1 l0_1.length c0_1]) (t := 69) ?hr ?_; (case hd => rfl); (case hg => rfl); (case hr => first | (go_simp; done) | (go_simp; rfl)); intro gb365 hg w3 hbox hb; have BK365 := aK (hbox); have GW365 := aK (((by rw [hg]; exact (below_size zq41_2)) : w.heap.size ≤ gb365)); have GE365 := aK (((by rw [hg]; exact (below_size zq41_2)) : w.heap.size ≤ gb365)); replace HB := aK (bS zq41_2 hb); clear hb hbox hg) | ((with_reducible refine gate_dst (N := 2) rfl ?_); refine box_event ?hg (N := 2) ?hd (cs := #[.int .i64 0, .slice none 0 0]) (t := 59) ?hr ?_; (case hd => rfl); (case hg => rfl); (case hr => first | (go_simp; done) | (go_simp; rfl)); intro gb366 hg w4 hbox hb; have BK366 := aK (hbox); have GW366 := aK (((by rw [hg]; exact (below_size zq41_1)) : w.heap.size ≤ gb366)); have GE366 := aK (((by rw [hg]; exact (below_size zq41_1)) : w.heap.size ≤ gb366)); replace HB := aK (bS zq41_1 hb); have NB365_366 := aK (((by rw [hg]; exact Nat.ne_of_lt (blk_lt (g := gb365) (o := .cells #[.int .i64 a0_0, .slice A0_1 l0_1.length c0_1] 69 (0, 0)) zq41_3)) : gb365 ≠ gb366)); have NB366_365 := aK (((by rw [hg]; exact Nat.ne_of_gt (blk_lt (g := gb365) (o := .cells #[.int .i64 a0_0, .slice A0_1 l0_1.length c0_1] 69 (0, 0)) zq41_3)) : gb366 ≠ gb365)); replace BK365 := aK (bB (g := gb365) (o := .cells #[.int .i64 a0_0, .slice A0_1 l0_1.length c0_1] 69 (0, 0)) zq41_3 hb); clear hb hbox hg))
  replace BK365 := aK (blk_drew BK365.out)
  replace BK366 := aK (blk_drew BK366.out)
  replace HB := aK (bW HB.out)
  refine start_ (n := 8) (S := fun w' => w'.cell? ⟨gb365, 0, none⟩ = some (.int .i64 a0_0) ∧ w'.cell? ⟨gb365, 1, none⟩ = some (.slice A0_1 l0_1.length c0_1)) (ds := []) #[false, false, false, false, false, false, false, false] (by kernel_rfl) rfl rfl ⟨(bC BK365.out 0).trans rfl, (bC BK365.out 1).trans rfl⟩ (fun hHeld => ?_); refine with_tabW cenotaphlaw02_From.tab1 cenotaphlaw02_From.bits1 (fun HT_ HW_ => ?_)
  generalize w4.drew = w5 at BK365 BK366 HB hHeld ⊢
  refine p_ 0 3 (mk_ 8 0x1) ?_
  refine p_ 3 6 (mk_ 8 0x9) ?_
  refine t_ 1 4 (mk_ 8 0xb) hHeld ?_
  refine t_ 4 7 (mk_ 8 0x1b) hHeld ?_
  refine one_ (i := 2) (N := some 5) #[true, true, true, true, true, false, false, false] rfl rfl (one_of HT_.out (by kernel_rfl)) (by decide) (fun K hK => ?_)
  refine Kd.R_lit_step (Kd.int .i64) _ 3 ?hg (N := 5) ?hd (xs := ([] : List Int)) (inner := []) (ok := fun _ => True) (okp := fun _ => True) ?hr ?hp (fun _ hk => hk) trivial (Below.refl _ _) (Nat.le_refl _) (by simp) ?_; (case hd => rfl); (case hg => rfl); (case hr => first | (go_simp; done) | (go_simp; rfl)); (case hp => exact (Reps.none _ _))
  intro v368 w6 ho7 hb hg_ hnew_
  clear hg_ hnew_
  (first | rw [← Ny367.out] at ho7 | (simp only [Int.reduceToNat] at ho7; rw [← Ny367.out] at ho7))
  have HO369 := aK (Kd.R_lower ho7 (below_size zq41_0))
  replace BK365 := aK (bB (g := gb365) (o := .cells #[.int .i64 a0_0, .slice A0_1 l0_1.length c0_1] 69 (0, 0)) zq41_3 hb)
  replace BK366 := aK (bB (g := gb366) (o := .cells #[.int .i64 0, .slice none 0 0] 59 (0, 0)) (by (with_reducible repeat (first | refine blk_drewN ?_ _ | refine blk_drew ?_ | refine blk_alloc ?_ _)); exact BK366.out) hb)
  replace HB := aK (bS zq41_0 hb)
  clear hb ho7
  refine hK.out _ _ ⟨(bC BK365.out 0).trans rfl, (bC BK365.out 1).trans rfl⟩ (fun hHeld => ?_)
  clear hK K
  refine norm_ (a' := ?_) ?_ ?_
  rotate_left
  ·show Act.put _ (some 5) _ = _
   simp only [Act.put, lA, lB, lC, i64_w, i32_w]
   rfl
  refine one_ (i := 5) (N := some 8) #[true, true, true, true, true, true, false, false] rfl rfl (one_of HT_.out (by kernel_rfl)) (by decide) (fun K hK => ?_)
  refine Kd.R_append_rows_step (Kd.int .i64) (w0 := w) w.heap.size (by rfl) (.tmp 5) (.tmp 7) 57 3 (.int .i64 0) 8 rfl Tryz.underlying57 info3 rfl (by decide) (by omega) v368 y367 l0_1 _ _ _ (fun _ => True) (fun _ => False) rfl rfl ?aO ?aR (fun _ _ h => h) (fun _ h => h.elim) ?aF ?aB ?aS ?aL ?_
  (case aR => repeat (first | exact (cB HR0_1.out HB.out) | (with_reducible refine Kd.C_alloc ?_ _) | (with_reducible refine Kd.C_drewN ?_ _) | (with_reducible refine Kd.C_drew ?_)))
  (case aB => exact zq41_0)
  (case aF => exact (fun _ _ => trivial))
  (case aO => exact (by (with_reducible repeat (first | apply Kd.R_alloc | apply Kd.R_drewN | apply Kd.R_drew)); exact HO369.out))
  (case aS => exact (below_size zq41_0))
  (case aL => have := LMc2.out; omega)
  intro v371 w8 ho hb hg hat
  rw [← Ny370.out] at ho
  replace BK365 := aK (blk_grown (g := gb365) (o := .cells #[.int .i64 a0_0, .slice A0_1 l0_1.length c0_1] 69 (0, 0)) zq41_3 hg (Kd.R_ne HO369.out BK365.out (by decide)))
  replace BK366 := aK (blk_grown (g := gb366) (o := .cells #[.int .i64 0, .slice none 0 0] 59 (0, 0)) (by (with_reducible repeat (first | refine blk_drewN ?_ _ | refine blk_drew ?_ | refine blk_alloc ?_ _)); exact BK366.out) hg (Kd.R_ne HO369.out BK366.out (by decide)))
  replace HB := aK (hb)
  have HO372 := aK (ho)
  clear HO369
  clear ho hb hg hat
  obtain ⟨Ao9, co9, eo9⟩ := Kd.R_slice HO372.out
  (first | subst eo9 | (injection eo9 with f1_ f2_ f3_; have f4_ := f1_.symm; have f5_ := f3_.symm; clear f1_ f2_ f3_; subst f4_; subst f5_))
  refine hK.out _ _ ⟨(bC BK365.out 0).trans rfl, (bC BK365.out 1).trans rfl⟩ (fun hHeld => ?_)
  clear hK K
  refine norm_ (a' := ?_) ?_ ?_
  rotate_left
  ·show Act.put _ (some 8) _ = _
   simp only [Act.put, lA, lB, lC, i64_w, i32_w]
   rfl
  refine p_ 6 9 (mk_ 8 0x7f) ?_
  refine one_ (i := 7) (N := none) #[true, true, true, true, true, true, true, true] rfl rfl (one_of HT_.out (by kernel_rfl)) (by decide) (fun K hK => ?_)
  have hs10 : w8.cell? ⟨gb366, 0, none⟩ = some (.int .i64 0) := (bC BK366.out 0).trans rfl
  have hfs10 := bF_ BK366.out 0
  have hns10_0 := NB365_366.out
  have hms10_0 := NB366_365.out
  have hs11 : w8.cell? ⟨gb366, 1, none⟩ = some (.slice none 0 0) := (bC BK366.out 1).trans rfl
  have hfs11 := bF_ BK366.out 1
  have hns11_0 := NB365_366.out
  have hms11_0 := NB366_365.out
  refine skip_ (w1 := ?_) (by rfl) rfl ?_ ?_
  rotate_left
  ·go_simp
   rfl
  refine hK.out _ _ ⟨((cell_far (p := ⟨gb366, _, none⟩) NB365_366.out _).trans (((cell_far (p := ⟨gb366, _, none⟩) NB365_366.out _).trans (hHeld.1)))), ((cell_far (p := ⟨gb366, _, none⟩) NB365_366.out _).trans (((cell_far (p := ⟨gb366, _, none⟩) NB365_366.out _).trans (hHeld.2))))⟩ (fun hHeld => ?_)
  clear hK K
  refine done_ (done_of HT_.out (by kernel_rfl)) ?_
  try go_wp2
  refine bodyPost_ret (results_cell_row rfl _ _ gb366 59 #[.int .i64 a0_0, .slice Ao9 y370.length co9] (0, 0) _ rfl (by (with_reducible repeat (first | refine blk_drewN ?_ _ | refine blk_drew ?_ | refine blk_alloc ?_ _)); refine blk_put (cs := #[.int .i64 a0_0, .slice none 0 0]) ?_ 1 _ rfl; (with_reducible repeat (first | refine blk_drewN ?_ _ | refine blk_drew ?_ | refine blk_alloc ?_ _)); refine blk_put (cs := #[.int .i64 0, .slice none 0 0]) ?_ 0 _ rfl; (with_reducible repeat (first | refine blk_drewN ?_ _ | refine blk_drew ?_ | refine blk_alloc ?_ _)); exact BK366.out) Tryz.underlying59 rfl (by kernel_rfl)) rfl ?_
  exact ⟨_, by first | rfl | (simp [errW_none, errW_some] <;> rfl) | (simp [*, errW_none, errW_some] <;> rfl), by (with_reducible repeat (first | apply Kd.R_alloc | apply Kd.R_drewN | apply Kd.R_drew)); exact Kd.R_mono (Kd.R_far (p := ⟨gb366, 1, none⟩) (Kd.R_far (p := ⟨gb366, 0, none⟩) (Kd.R_types HO372.out BK366.out (by decide)) (fun _ hk => hk.2) (.int .i64 a0_0)) (fun _ hk => hk.2) (.slice Ao9 y370.length co9)) (fun _ hk => trivial), by repeat (first | (with_reducible first | exact HB.out | apply bA | apply pB | apply bW | refine below_set ?_ GE365.out | refine below_set ?_ GE366.out) | exact HB.out)⟩
 ·rw [if_neg c2] at H
  exact absurd H (by simp)
theorem zq16_0 {p_ : Prop} (h_ : p_ := by repeat (first | (with_reducible first | exact HB.out | apply bA | apply pB | apply bW) | exact HB.out)) : p_ := h_
theorem zq16_1 {p_ : Prop} (h_ : p_ := by first | (with_reducible assumption) | assumption) : p_ := h_
def cenotaphlaw04_From.l0 : Nat → List (S72) → List (S61) → Int → Option ((List (S61)))
 | 0, _, _, _ => none
 | k + 1, x0, x3, x4 => if x4 < (x0.length : Int) then (if 0 ≤ x4 then ((cenotaphlaw02_From.f ((rd_T72 x0 x4).f1.f0) ((rd_T72 x0 x4).f1.f1)).bind fun bt375 => (if x3.length < 2932031007402 then (cenotaphlaw04_From.l0 k x0 (x3 ++ [(⟨(rd_T72 x0 x4).f0, (⟨bt375.1, bt375.2⟩ : S59)⟩ : S61)]) (wrap64 (x4 + 1))) else (none))) else (none)) else (some x3)
def cenotaphlaw04_From.f (k : Nat) (l0 : List (S72)) : Option ((List (S61))) := cenotaphlaw04_From.l0 k l0 ([] : List (S61)) 0
theorem cenotaphlaw04_From.mono_l : ∀ k, (∀ y0 y1 y2, LeO (cenotaphlaw04_From.l0 k y0 y1 y2) (cenotaphlaw04_From.l0 (k + 1) y0 y1 y2))
 | 0 => fun _ _ _ r h => by simp [cenotaphlaw04_From.l0] at h
 | k + 1 => by
  have ih0 := cenotaphlaw04_From.mono_l k
  ·intro y0 y1 y2
   unfold cenotaphlaw04_From.l0
   repeat' first
   | (with_reducible exact ih0 _ _ _)
   | (with_reducible exact LeO.refl _)
   | (with_reducible exact LeO.none _)
   | (with_reducible refine LeO.ite ?_ ?_)
   | (with_reducible refine LeO.bind ?_ (fun _ => ?_))
   | exact ih0 _ _ _
   | exact LeO.none _
   | refine LeO.ite ?_ ?_
   | refine LeO.bind ?_ (fun _ => ?_)
theorem cenotaphlaw04_From.mono : ∀ a0 k, LeO (cenotaphlaw04_From.f k a0) (cenotaphlaw04_From.f (k + 1) a0) := by
 intro a0 k
 have ih0 := cenotaphlaw04_From.mono_l k
 unfold cenotaphlaw04_From.f
 repeat' first
   | (with_reducible exact ih0 _ _ _)
   | (with_reducible exact LeO.refl _)
   | (with_reducible exact LeO.none _)
   | (with_reducible refine LeO.ite ?_ ?_)
   | (with_reducible refine LeO.bind ?_ (fun _ => ?_))
   | exact ih0 _ _ _
   | exact LeO.none _
   | refine LeO.ite ?_ ?_
   | refine LeO.bind ?_ (fun _ => ?_)
def cenotaphlaw04_From.T5 : Bool × List (List Nat × List Nat) := (true, [([], []), ([], []), ([], []), ([1, 2], [1, 2]), ([3], [3]), ([4], [4]), ([], []), ([], []), ([6, 7], [6, 7]), ([8], [8]), ([9], [9]), ([10], [10]), ([5, 11], [5, 11]), ([12], [12]), ([0, 13, 11], [0, 13]), ([14, 14, 0, 1, 2, 3, 4, 5, 6, 7, 8, 9, 10, 11, 12, 13, 14], [0, 14])])
def cenotaphlaw04_From.B5 : List Nat := [0, 0, 0, 6, 14, 30, 0, 0, 192, 448, 960, 1984, 4094, 8190, 16383, 32767]
theorem cenotaphlaw04_From.tab5 : rtab .any (opsOf Tryz.f16 5) = cenotaphlaw04_From.T5 := by kernel_rfl
theorem cenotaphlaw04_From.bits5 : waitsOk cenotaphlaw04_From.T5.2 cenotaphlaw04_From.B5 = true := by kernel_rfl
theorem cenotaphlaw04_From.calls (k : Nat) (A0 : Option Addr) (c0 : Nat) (l0 : List (S72)) (r : List (S61)) (w : World) (hr0 : Kd.C k72 w A0 l0.length l0) (hc0 : l0.length ≤ c0) (h : cenotaphlaw04_From.f k l0 = some r) :
  Calls Tryz.prog 16 #[.slice A0 l0.length c0] w fun e w' => ∃ v0_ : Value, e = .returned (v0_) ∧ Kd.S k61 61 w' w.heap.size (fun _ => True) v0_ r ∧ Below w.heap.size w w' := by
 have hu69 := Tryz.underlying69
 have hu61 := Tryz.underlying61
 have HR0 := aK hr0
 have HC0 := aK hc0
 clear hr0 hc0
 have HB := aK (Below.refl w.heap.size w)
 have H : (cenotaphlaw04_From.l0 k l0 ([] : List (S61)) 0) = some r := h
 clear h
 have H' := aK H
 clear H
 go_enter Tryz.func16, Tryz.ntmps16
 go_wp2
 go_loopg [3, 4] k (fun kq v3 v4 w' => ∃ (x3_1 : List (S61)) (x4_1 : Int), v4 = .int .i64 x4_1 ∧ Aside0 (cenotaphlaw04_From.l0 kq l0 x3_1 x4_1 = some r) ∧ Aside0 (kq ≤ k) ∧ Aside0 (Kd.S k61 61 w' w.heap.size (fun _ => True) v3 x3_1) ∧ Aside0 (Below w.heap.size w w'))
 case atStart => exact ⟨(([] : List (S61))), (0), (by first | rfl | (simp; done) | (simp [*]; done)), H', ⟨Nat.le_refl _⟩, ⟨by first | exact Kd.S_nil _ _ _ _ _ | exact Kd.N_nil _ _ _ _ _ | exact Kd.V_nil _ _ _ _ _ | exact Kd.Q_nil _ _ _ _ _ | exact Kd.R_nil _ _ _ _ _⟩, ⟨by repeat (first | (with_reducible first | exact HB.out | apply bA | apply pB | apply bW) | exact HB.out)⟩⟩
 case round =>
  clear H'
  try clear c1
  obtain ⟨x3_1, x4_1, rfl, HA, HK1, HO_3, HB⟩ := hrel
  cases gk with
  | zero => exact absurd HA.out (by simp [cenotaphlaw04_From.l0])
  | succ k1 =>
   have H := HA.out
   clear HA
   simp only [cenotaphlaw04_From.l0] at H
   by_cases c2 : x4_1 < (l0.length : Int)
   ·rw [if_pos c2] at H
    have c2b0 : decide (x4_1 < (l0.length : Int)) = true := dT c2
    clear c2
    by_cases c3 : 0 ≤ x4_1
    ·rw [if_pos c3] at H
     have c3b0 : decide (0 ≤ x4_1) = true := dT c3
     clear c3
     replace H := bM H
     obtain ⟨⟨t375, t376⟩, A40, H⟩ := H
     have A4 := aK A40
     clear A40
     by_cases c5 : x3_1.length < 2932031007402
     ·rw [if_pos c5] at H
      have LMc5 := aK c5
      clear c5
      obtain ⟨y379, hy379⟩ : ∃ y_ : List (S61), y_ = (x3_1 ++ [(⟨(rd_T72 l0 x4_1).f0, (⟨t375, t376⟩ : S59)⟩ : S61)]) := ⟨_, rfl⟩
      replace H : (cenotaphlaw04_From.l0 k1 l0 y379 (wrap64 (x4_1 + 1))) = some r := by first | (rw [hy379]; with_reducible exact H) | (have H2_ := (Option.bind_some _ _).symm.trans H; rw [hy379]; with_reducible exact H2_) | (have H2_ := (Option.bind_some _ _).symm.trans H; with_reducible exact H2_) | with_reducible exact H | (rw [hy379]; exact H) | exact H
      have Ny379 := aK hy379
      clear hy379
      have H' := aK H
      clear H
      try go_wp2
      replace HO_3 := aK (Kd.S_drew HO_3.out)
      replace HB := aK (bW HB.out)
      have p373 : 0 ≤ (x4_1 : Int) := oD zq16_1
      have q373 : x4_1 < (l0.length : Int) := oD zq16_1
      obtain ⟨ad373, A373_2, c373_2, e373, hx373_0, hx373_1, hx373_2, hl373_2, hi373_2⟩ := at_T72 HR0.out x4_1 p373 q373
      have hw373_2 := hx373_2
      have hw373_1 := hx373_1
      have hw373_0 := hx373_0
      cases e373
      replace hx373_0 := pc_ HB hx373_0
      replace hx373_1 := pc_ HB hx373_1
      replace hx373_2 := pc_ HB hx373_2
      have HR373_2 := aK hi373_2
      have HC373_2 := aK hl373_2
      clear hi373_2 hl373_2
      replace p373 := eT p373
      replace q373 := eT q373
      have p374 : 0 ≤ (x4_1 : Int) := oD zq16_1
      have q374 : x4_1 < (l0.length : Int) := oD zq16_1
      obtain ⟨ad374, A374_2, c374_2, e374, hx374_0, hx374_1, hx374_2, hl374_2, hi374_2⟩ := at_T72 HR0.out x4_1 p374 q374
      have hw374_2 := hx374_2
      have hw374_1 := hx374_1
      have hw374_0 := hx374_0
      obtain rfl : ad373 = ad374 := (by injection e374)
      replace hx374_0 := pc_ HB hx374_0
      replace hx374_1 := pc_ HB hx374_1
      replace hx374_2 := pc_ HB hx374_2
      have HR374_2 := aK hi374_2
      have HC374_2 := aK hl374_2
      clear hi374_2 hl374_2
      replace p374 := eT p374
      replace q374 := eT q374
      have ea_ := sI (hx373_2.symm.trans hx374_2)
      injection ea_ with ea_ en_ ec_
      subst ea_
      subst ec_
      clear en_
      refine start_ (n := 16) (S := fun w' => w'.cell? (ad373.add ((x4_1).toNat * 3)) = some (.string ((rd_T72 l0 x4_1).f0)) ∧ w'.cell? ⟨(ad373.add ((x4_1).toNat * 3)).block, (ad373.add ((x4_1).toNat * 3)).off + 1, none⟩ = some (.int .i64 ((rd_T72 l0 x4_1).f1.f0)) ∧ w'.cell? ⟨(ad373.add ((x4_1).toNat * 3)).block, (ad373.add ((x4_1).toNat * 3)).off + 2, none⟩ = some (.slice A373_2 ((rd_T72 l0 x4_1).f1.f1).length c373_2) ∧ w'.cell? (ad373.add ((x4_1).toNat * 3)) = some (.string ((rd_T72 l0 x4_1).f0)) ∧ w'.cell? ⟨(ad373.add ((x4_1).toNat * 3)).block, (ad373.add ((x4_1).toNat * 3)).off + 1, none⟩ = some (.int .i64 ((rd_T72 l0 x4_1).f1.f0)) ∧ w'.cell? ⟨(ad373.add ((x4_1).toNat * 3)).block, (ad373.add ((x4_1).toNat * 3)).off + 2, none⟩ = some (.slice A373_2 ((rd_T72 l0 x4_1).f1.f1).length c373_2)) (ds := []) #[false, false, false, false, false, false, false, false, false, false, false, false, false, false, false, false] (by kernel_rfl) rfl rfl ⟨(pc_ HB hw373_0), (pc_ HB hw373_1), (pc_ HB hw373_2), (pc_ HB hw374_0), (pc_ HB hw374_1), (pc_ HB hw374_2)⟩ (fun hHeld => ?_); refine with_tabW cenotaphlaw04_From.tab5 cenotaphlaw04_From.bits5 (fun HT_ HW_ => ?_)
      generalize wr.drew = w6 at HO_3 HB HR373_2 HR374_2 hx373_0 hx373_1 hx373_2 hx374_0 hx374_1 hx374_2 hHeld ⊢
      refine p_ 0 11 (mk_ 16 0x1) ?_
      refine p_ 1 12 (mk_ 16 0x3) ?_
      refine p_ 2 13 (mk_ 16 0x7) ?_
      refine p_ 3 14 (mk_ 16 0xf) ?_
      refine p_ 4 15 (mk_ 16 0x1f) ?_
      refine p_ 6 17 (mk_ 16 0x5f) ?_
      refine p_ 7 18 (mk_ 16 0xdf) ?_
      refine p_ 8 19 (mk_ 16 0x1df) ?_
      refine p_ 9 20 (mk_ 16 0x3df) ?_
      refine t_ 5 16 (mk_ 16 0x3ff) hHeld ?_
      refine t_ 10 21 (mk_ 16 0x7ff) hHeld ?_
      refine one_ (i := 11) (N := some 22) #[true, true, true, true, true, true, true, true, true, true, true, true, false, false, false, false] rfl rfl (one_of HT_.out (by kernel_rfl)) (by decide) (fun K hK => ?_)
      refine goes_ Tryz.func41 (by kernel_rfl) rfl #[.agg #[.int .i64 ((rd_T72 l0 x4_1).f1.f0), .slice A373_2 ((rd_T72 l0 x4_1).f1.f1).length c373_2]] (by rfl) rfl rfl (by (try simp only [List.map_toArray, List.map_cons, List.map_nil]); first | done | rfl | (simp only [List.length_drop, List.length_take]; rfl)) ?_
      with_reducible refine (cenotaphlaw02_From.calls ((rd_T72 l0 x4_1).f1.f0) _ _ ((rd_T72 l0 x4_1).f1.f1) t375 t376 _ ?side1 ?side2 A4.out).mono ?_
      (case side1 => repeat (first | exact (cB HR374_2.out HB.out) | (with_reducible refine Kd.C_alloc ?_ _) | (with_reducible refine Kd.C_drewN ?_ _) | (with_reducible refine Kd.C_drew ?_)))
      (case side2 => exact HC374_2.out)
      rintro e w7 ⟨v377, rfl, ho0, hb⟩
      refine ⟨_, rfl, ?_⟩
      replace HO_3 := aK (Kd.S_elder' (by (with_reducible repeat (first | apply Kd.S_alloc | apply Kd.S_drewN | apply Kd.S_drew)); exact HO_3.out) (Kd.R_base ho0) hb)
      have HO378 := aK (Kd.R_lower ho0 (below_size zq16_0))
      replace HB := aK (bS zq16_0 hb)
      (try clear hb)
      (try clear hb2)
      (try clear hk)
      (try clear hi)
      (try clear ho0)
      obtain ⟨Ao8, co8, eo8⟩ := Kd.R_slice HO378.out
      (first | subst eo8 | (injection eo8 with f1_ f2_ f3_; have f4_ := f1_.symm; have f5_ := f3_.symm; clear f1_ f2_ f3_; subst f4_; subst f5_))
      refine hK.out _ _ ⟨(pc_ HB hw373_0), (pc_ HB hw373_1), (pc_ HB hw373_2), (pc_ HB hw374_0), (pc_ HB hw374_1), (pc_ HB hw374_2)⟩ (fun hHeld => ?_)
      clear hK K
      refine norm_ (a' := ?_) ?_ ?_
      rotate_left
      ·show Act.put _ (some 22) _ = _
       simp only [Act.put, lA, lB, lC, i64_w, i32_w]
       rfl
      refine p_ 12 23 (mk_ 16 0x1fff) ?_
      refine one_ (i := 13) (N := some 24) #[true, true, true, true, true, true, true, true, true, true, true, true, true, true, false, false] rfl rfl (one_of HT_.out (by kernel_rfl)) (by decide) (fun K hK => ?_)
      refine value_ (w1 := ?_) (v := ?_) (by rfl) rfl ?_ ?_
      rotate_left 2
      ·go_simp
       constructor
       ·rfl
       ·rfl
      refine hK.out _ _ ⟨(World.cell?_alloc_lt _ _ _ (wl_ _ _ ((pc_ HB hw373_0)))).trans ((pc_ HB hw373_0)), (World.cell?_alloc_lt _ _ _ (wl_ _ _ ((pc_ HB hw373_1)))).trans ((pc_ HB hw373_1)), (World.cell?_alloc_lt _ _ _ (wl_ _ _ ((pc_ HB hw373_2)))).trans ((pc_ HB hw373_2)), (World.cell?_alloc_lt _ _ _ (wl_ _ _ ((pc_ HB hw374_0)))).trans ((pc_ HB hw374_0)), (World.cell?_alloc_lt _ _ _ (wl_ _ _ ((pc_ HB hw374_1)))).trans ((pc_ HB hw374_1)), (World.cell?_alloc_lt _ _ _ (wl_ _ _ ((pc_ HB hw374_2)))).trans ((pc_ HB hw374_2))⟩ (fun hHeld => ?_)
      clear hK K
      refine norm_ (a' := ?_) ?_ ?_
      rotate_left
      ·show Act.put _ (some 24) _ = _
       simp only [Act.put, lA, lB, lC, i64_w, i32_w]
       rfl
      refine one_ (i := 14) (N := some 25) #[true, true, true, true, true, true, true, true, true, true, true, true, true, true, true, false] rfl rfl (one_of HT_.out (by kernel_rfl)) (by decide) (fun K hK => ?_)
      refine Kd.S_append_step k61 (w0 := w) w.heap.size (by rfl) (.tmp 11) (.tmp 24) 22 61 (.agg #[(.string ⟨#[]⟩), (.int .i64 0), (.slice none 0 0)]) 48 rfl Tryz.underlying22 info61 rfl (by decide) (by omega) u3 x3_1 (⟨(rd_T72 l0 x4_1).f0, (⟨t375, t376⟩ : S59)⟩ : S61) [.string ((rd_T72 l0 x4_1).f0), .int .i64 t375, .slice Ao8 t376.length co8] (fun _ => True) (fun k_ => some k_ = (.slice Ao8 t376.length co8 : Value).ownBlock) rfl rfl ?aP (fun k_ hk_ => ((Kd.R_mono (ok' := fun k_ => ((fun _ => True)) k_ ∧ some k_ ≠ (u3 : Value).ownBlock) (Kd.R_apart' (HO378.out) (Kd.S_typed HO_3.out) (by decide)) (fun k_ hk => ⟨trivial, hk.2⟩))).1 k_ hk_.symm) ?aF ?aO ?aB ?aS ?aL ?_
      (case aP => exact k61_mkM _ _ _ (⟨(rd_T72 l0 x4_1).f0, (⟨t375, t376⟩ : S59)⟩ : S61) (Kd.R_mono (Kd.R_tight rfl (Kd.R_mono (ok' := fun k_ => ((fun _ => True)) k_ ∧ some k_ ≠ (u3 : Value).ownBlock) (Kd.R_apart' (HO378.out) (Kd.S_typed HO_3.out) (by decide)) (fun k_ hk => ⟨trivial, hk.2⟩))) (fun _ h_ => h_)))
      (case aB => exact zq16_0)
      (case aF => exact (fun _ _ => trivial))
      (case aO => exact (by (with_reducible repeat (first | apply Kd.S_alloc | apply Kd.S_drewN | apply Kd.S_drew)); exact Kd.S_mono HO_3.out (fun k_ hk => ⟨trivial, fun e_ => hk.2 e_⟩)))
      (case aS => exact (below_size zq16_0))
      (case aL => have := LMc5.out; omega)
      intro v380 w9 ho hb hg hat
      rw [← Ny379.out] at ho
      replace HB := aK (hb)
      have HO381 := aK (ho)
      clear HO_3 HO378
      clear ho hb hg hat
      refine hK.out _ _ ⟨(pc_ HB hw373_0), (pc_ HB hw373_1), (pc_ HB hw373_2), (pc_ HB hw374_0), (pc_ HB hw374_1), (pc_ HB hw374_2)⟩ (fun hHeld => ?_)
      clear hK K
      refine norm_ (a' := ?_) ?_ ?_
      rotate_left
      ·show Act.put _ (some 25) _ = _
       simp only [Act.put, lA, lB, lC, i64_w, i32_w]
       rfl
      refine p_ 15 3 (mk_ 16 0xffff) ?_
      refine done_ (done_of HT_.out (by kernel_rfl)) ?_
      try go_wp2
      go_roundg k1
      case measure => have := HK1.out; omega
      case rel => exact ⟨(y379), (wrap64 (x4_1 + 1)), (by first | rfl | (simp; done) | (simp [*]; done)), H', ⟨by have := HK1.out; omega⟩, ⟨by (with_reducible repeat (first | apply Kd.S_alloc | apply Kd.S_drewN | apply Kd.S_drew)); exact HO381.out⟩, ⟨by repeat (first | (with_reducible first | exact HB.out | apply bA | apply pB | apply bW) | exact HB.out)⟩⟩
     ·rw [if_neg c5] at H
      exact absurd H (by simp)
    ·rw [if_neg c3] at H
     exact absurd H (by simp)
   ·rw [if_neg c2] at H
    have c2b0 : decide (x4_1 < (l0.length : Int)) = false := decide_eq_false c2
    clear c2
    obtain rfl := sI H
    go_wp2
    go_ret
    exact ⟨_, by first | rfl | (simp [errW_none, errW_some] <;> rfl) | (simp [*, errW_none, errW_some] <;> rfl), by (with_reducible repeat (first | apply Kd.S_alloc | apply Kd.S_drewN | apply Kd.S_drew)); exact HO_3.out, by repeat (first | (with_reducible first | exact HB.out | apply bA | apply pB | apply bW) | exact HB.out)⟩
theorem zq17_0 {p_ : Prop} (h_ : p_ := by first | (with_reducible assumption) | assumption) : p_ := h_
def cenotaphlaw03_To.l0 : Nat → List (S65) → List (S75) → Int → Option ((List (S75)))
 | 0, _, _, _ => none
 | k + 1, x0, x3, x4 => if x4 < (x0.length : Int) then (if 0 ≤ x4 then (if x3.length < 5864062014805 then (cenotaphlaw03_To.l0 k x0 (x3 ++ [(⟨(rd_T65 x0 x4).f0, (rd_T65 x0 x4).f1⟩ : S75)]) (wrap64 (x4 + 1))) else (none)) else (none)) else (some x3)
def cenotaphlaw03_To.f (k : Nat) (l0 : List (S65)) : Option ((List (S75))) := cenotaphlaw03_To.l0 k l0 ([] : List (S75)) 0
theorem cenotaphlaw03_To.mono_l : ∀ k, (∀ y0 y1 y2, LeO (cenotaphlaw03_To.l0 k y0 y1 y2) (cenotaphlaw03_To.l0 (k + 1) y0 y1 y2))
 | 0 => fun _ _ _ r h => by simp [cenotaphlaw03_To.l0] at h
 | k + 1 => by
  have ih0 := cenotaphlaw03_To.mono_l k
  ·intro y0 y1 y2
   unfold cenotaphlaw03_To.l0
   repeat' first
   | (with_reducible exact ih0 _ _ _)
   | (with_reducible exact LeO.refl _)
   | (with_reducible exact LeO.none _)
   | (with_reducible refine LeO.ite ?_ ?_)
   | (with_reducible refine LeO.bind ?_ (fun _ => ?_))
   | exact ih0 _ _ _
   | exact LeO.none _
   | refine LeO.ite ?_ ?_
   | refine LeO.bind ?_ (fun _ => ?_)
theorem cenotaphlaw03_To.mono : ∀ a0 k, LeO (cenotaphlaw03_To.f k a0) (cenotaphlaw03_To.f (k + 1) a0) := by
 intro a0 k
 have ih0 := cenotaphlaw03_To.mono_l k
 unfold cenotaphlaw03_To.f
 repeat' first
   | (with_reducible exact ih0 _ _ _)
   | (with_reducible exact LeO.refl _)
   | (with_reducible exact LeO.none _)
   | (with_reducible refine LeO.ite ?_ ?_)
   | (with_reducible refine LeO.bind ?_ (fun _ => ?_))
   | exact ih0 _ _ _
   | exact LeO.none _
   | refine LeO.ite ?_ ?_
   | refine LeO.bind ?_ (fun _ => ?_)
def cenotaphlaw03_To.T5 : Bool × List (List Nat × List Nat) := (true, [([], []), ([], []), ([], []), ([1, 2], [1, 2]), ([3], [3]), ([4], [4]), ([], []), ([], []), ([6, 7], [6, 7]), ([8], [8]), ([9], [9]), ([5, 10], [5, 10]), ([11], [11]), ([0, 12], [0, 12]), ([13, 13, 0, 1, 2, 3, 4, 5, 6, 7, 8, 9, 10, 11, 12, 13], [0, 13])])
def cenotaphlaw03_To.B5 : List Nat := [0, 0, 0, 6, 14, 30, 0, 0, 192, 448, 960, 2046, 4094, 8191, 16383]
theorem cenotaphlaw03_To.tab5 : rtab .any (opsOf Tryz.f17 5) = cenotaphlaw03_To.T5 := by kernel_rfl
theorem cenotaphlaw03_To.bits5 : waitsOk cenotaphlaw03_To.T5.2 cenotaphlaw03_To.B5 = true := by kernel_rfl
theorem cenotaphlaw03_To.calls (k : Nat) (A0 : Option Addr) (c0 : Nat) (l0 : List (S65)) (r : List (S75)) (w : World) (hr0 : Kd.C k65 w A0 l0.length l0) (hc0 : l0.length ≤ c0) (h : cenotaphlaw03_To.f k l0 = some r) :
  Calls Tryz.prog 17 #[.slice A0 l0.length c0] w fun e w' => ∃ v0_ : Value, e = .returned (v0_) ∧ Kd.R k75 75 w' w.heap.size (fun _ => True) v0_ r ∧ Below w.heap.size w w' := by
 have hu75 := Tryz.underlying75
 have HR0 := aK hr0
 have HC0 := aK hc0
 clear hr0 hc0
 have HB := aK (Below.refl w.heap.size w)
 have H : (cenotaphlaw03_To.l0 k l0 ([] : List (S75)) 0) = some r := h
 clear h
 have H' := aK H
 clear H
 go_enter Tryz.func17, Tryz.ntmps17
 go_wp2
 go_loopg [3, 4] k (fun kq v3 v4 w' => ∃ (x3_1 : List (S75)) (x4_1 : Int), v4 = .int .i64 x4_1 ∧ Aside0 (cenotaphlaw03_To.l0 kq l0 x3_1 x4_1 = some r) ∧ Aside0 (kq ≤ k) ∧ Aside0 (Kd.R k75 75 w' w.heap.size (fun _ => True) v3 x3_1) ∧ Aside0 (Below w.heap.size w w'))
 case atStart => exact ⟨(([] : List (S75))), (0), (by first | rfl | (simp; done) | (simp [*]; done)), H', ⟨Nat.le_refl _⟩, ⟨by first | exact Kd.R_nil _ _ _ _ _ | exact Kd.N_nil _ _ _ _ _ | exact Kd.V_nil _ _ _ _ _ | exact Kd.Q_nil _ _ _ _ _ | exact Kd.S_nil _ _ _ _ _⟩, ⟨by repeat (first | (with_reducible first | exact HB.out | apply bA | apply pB | apply bW) | exact HB.out)⟩⟩
 case round =>
  clear H'
  try clear c1
  obtain ⟨x3_1, x4_1, rfl, HA, HK1, HO_3, HB⟩ := hrel
  cases gk with
  | zero => exact absurd HA.out (by simp [cenotaphlaw03_To.l0])
  | succ k1 =>
   have H := HA.out
   clear HA
   simp only [cenotaphlaw03_To.l0] at H
   by_cases c2 : x4_1 < (l0.length : Int)
   ·rw [if_pos c2] at H
    have c2b0 : decide (x4_1 < (l0.length : Int)) = true := dT c2
    clear c2
    by_cases c3 : 0 ≤ x4_1
    ·rw [if_pos c3] at H
     have c3b0 : decide (0 ≤ x4_1) = true := dT c3
     clear c3
     by_cases c4 : x3_1.length < 5864062014805
     ·rw [if_pos c4] at H
      have LMc4 := aK c4
      clear c4
      obtain ⟨y384, hy384⟩ : ∃ y_ : List (S75), y_ = (x3_1 ++ [(⟨(rd_T65 l0 x4_1).f0, (rd_T65 l0 x4_1).f1⟩ : S75)]) := ⟨_, rfl⟩
      replace H : (cenotaphlaw03_To.l0 k1 l0 y384 (wrap64 (x4_1 + 1))) = some r := by first | (rw [hy384]; with_reducible exact H) | (have H2_ := (Option.bind_some _ _).symm.trans H; rw [hy384]; with_reducible exact H2_) | (have H2_ := (Option.bind_some _ _).symm.trans H; with_reducible exact H2_) | with_reducible exact H | (rw [hy384]; exact H) | exact H
      have Ny384 := aK hy384
      clear hy384
      have H' := aK H
      clear H
      try go_wp2
      replace HO_3 := aK (Kd.R_drew HO_3.out)
      replace HB := aK (bW HB.out)
      have p382 : 0 ≤ (x4_1 : Int) := oD zq17_0
      have q382 : x4_1 < (l0.length : Int) := oD zq17_0
      obtain ⟨ad382, e382, hx382_0, hx382_1⟩ := at_T65 HR0.out x4_1 p382 q382
      have hw382_1 := hx382_1
      have hw382_0 := hx382_0
      cases e382
      replace hx382_0 := pc_ HB hx382_0
      replace hx382_1 := pc_ HB hx382_1
      replace p382 := eT p382
      replace q382 := eT q382
      have p383 : 0 ≤ (x4_1 : Int) := oD zq17_0
      have q383 : x4_1 < (l0.length : Int) := oD zq17_0
      obtain ⟨ad383, e383, hx383_0, hx383_1⟩ := at_T65 HR0.out x4_1 p383 q383
      have hw383_1 := hx383_1
      have hw383_0 := hx383_0
      obtain rfl : ad382 = ad383 := (by injection e383)
      replace hx383_0 := pc_ HB hx383_0
      replace hx383_1 := pc_ HB hx383_1
      replace p383 := eT p383
      replace q383 := eT q383
      refine start_ (n := 15) (S := fun w' => w'.cell? (ad382.add ((x4_1).toNat * 2)) = some (.string ((rd_T65 l0 x4_1).f0)) ∧ w'.cell? ⟨(ad382.add ((x4_1).toNat * 2)).block, (ad382.add ((x4_1).toNat * 2)).off + 1, none⟩ = some (.int .i64 ((rd_T65 l0 x4_1).f1)) ∧ w'.cell? (ad382.add ((x4_1).toNat * 2)) = some (.string ((rd_T65 l0 x4_1).f0)) ∧ w'.cell? ⟨(ad382.add ((x4_1).toNat * 2)).block, (ad382.add ((x4_1).toNat * 2)).off + 1, none⟩ = some (.int .i64 ((rd_T65 l0 x4_1).f1))) (ds := []) #[false, false, false, false, false, false, false, false, false, false, false, false, false, false, false] (by kernel_rfl) rfl rfl ⟨(pc_ HB hw382_0), (pc_ HB hw382_1), (pc_ HB hw383_0), (pc_ HB hw383_1)⟩ (fun hHeld => ?_); refine with_tabW cenotaphlaw03_To.tab5 cenotaphlaw03_To.bits5 (fun HT_ HW_ => ?_)
      generalize wr.drew = w5 at HO_3 HB hx382_0 hx382_1 hx383_0 hx383_1 hHeld ⊢
      refine p_ 0 11 (mk_ 15 0x1) ?_
      refine p_ 1 12 (mk_ 15 0x3) ?_
      refine p_ 2 13 (mk_ 15 0x7) ?_
      refine p_ 3 14 (mk_ 15 0xf) ?_
      refine p_ 4 15 (mk_ 15 0x1f) ?_
      refine p_ 6 17 (mk_ 15 0x5f) ?_
      refine p_ 7 18 (mk_ 15 0xdf) ?_
      refine p_ 8 19 (mk_ 15 0x1df) ?_
      refine p_ 9 20 (mk_ 15 0x3df) ?_
      refine t_ 5 16 (mk_ 15 0x3ff) hHeld ?_
      refine t_ 10 21 (mk_ 15 0x7ff) hHeld ?_
      refine p_ 11 22 (mk_ 15 0xfff) ?_
      refine one_ (i := 12) (N := some 23) #[true, true, true, true, true, true, true, true, true, true, true, true, true, false, false] rfl rfl (one_of HT_.out (by kernel_rfl)) (by decide) (fun K hK => ?_)
      refine value_ (w1 := ?_) (v := ?_) (by rfl) rfl ?_ ?_
      rotate_left 2
      ·go_simp
       constructor
       ·rfl
       ·rfl
      refine hK.out _ _ ⟨(World.cell?_alloc_lt _ _ _ (wl_ _ _ ((pc_ HB hw382_0)))).trans ((pc_ HB hw382_0)), (World.cell?_alloc_lt _ _ _ (wl_ _ _ ((pc_ HB hw382_1)))).trans ((pc_ HB hw382_1)), (World.cell?_alloc_lt _ _ _ (wl_ _ _ ((pc_ HB hw383_0)))).trans ((pc_ HB hw383_0)), (World.cell?_alloc_lt _ _ _ (wl_ _ _ ((pc_ HB hw383_1)))).trans ((pc_ HB hw383_1))⟩ (fun hHeld => ?_)
      clear hK K
      refine norm_ (a' := ?_) ?_ ?_
      rotate_left
      ·show Act.put _ (some 23) _ = _
       simp only [Act.put, lA, lB, lC, i64_w, i32_w]
       rfl
      refine one_ (i := 13) (N := some 24) #[true, true, true, true, true, true, true, true, true, true, true, true, true, true, false] rfl rfl (one_of HT_.out (by kernel_rfl)) (by decide) (fun K hK => ?_)
      refine Kd.R_append_step k75 (w0 := w) w.heap.size (by rfl) (.tmp 11) (.tmp 23) 32 75 (.agg #[(.string ⟨#[]⟩), (.int .i64 0)]) 24 rfl Tryz.underlying32 info75 rfl (by decide) (by omega) u3 x3_1 (⟨(rd_T65 l0 x4_1).f0, (rd_T65 l0 x4_1).f1⟩ : S75) [.string ((rd_T65 l0 x4_1).f0), .int .i64 ((rd_T65 l0 x4_1).f1)] (fun _ => True) (fun _ => False) rfl rfl ?aP (fun _ hk => hk.elim) ?aF ?aO ?aB ?aS ?aL ?_
      (case aP => exact k75_mkM _ _ _ (⟨(rd_T65 l0 x4_1).f0, (rd_T65 l0 x4_1).f1⟩ : S75))
      (case aB => exact (by repeat (first | (with_reducible first | exact HB.out | apply bA | apply pB | apply bW) | exact HB.out)))
      (case aF => exact (fun _ _ => trivial))
      (case aO => exact (by (with_reducible repeat (first | apply Kd.R_alloc | apply Kd.R_drewN | apply Kd.R_drew)); exact HO_3.out))
      (case aS => exact (below_size (by repeat (first | (with_reducible first | exact HB.out | apply bA | apply pB | apply bW) | exact HB.out))))
      (case aL => have := LMc4.out; omega)
      intro v385 w6 ho hb hg hat
      rw [← Ny384.out] at ho
      replace HB := aK (hb)
      have HO386 := aK (ho)
      clear HO_3
      clear ho hb hg hat
      refine hK.out _ _ ⟨(pc_ HB hw382_0), (pc_ HB hw382_1), (pc_ HB hw383_0), (pc_ HB hw383_1)⟩ (fun hHeld => ?_)
      clear hK K
      refine norm_ (a' := ?_) ?_ ?_
      rotate_left
      ·show Act.put _ (some 24) _ = _
       simp only [Act.put, lA, lB, lC, i64_w, i32_w]
       rfl
      refine p_ 14 3 (mk_ 15 0x7fff) ?_
      refine done_ (done_of HT_.out (by kernel_rfl)) ?_
      try go_wp2
      go_roundg k1
      case measure => have := HK1.out; omega
      case rel => exact ⟨(y384), (wrap64 (x4_1 + 1)), (by first | rfl | (simp; done) | (simp [*]; done)), H', ⟨by have := HK1.out; omega⟩, ⟨by (with_reducible repeat (first | apply Kd.R_alloc | apply Kd.R_drewN | apply Kd.R_drew)); exact HO386.out⟩, ⟨by repeat (first | (with_reducible first | exact HB.out | apply bA | apply pB | apply bW) | exact HB.out)⟩⟩
     ·rw [if_neg c4] at H
      exact absurd H (by simp)
    ·rw [if_neg c3] at H
     exact absurd H (by simp)
   ·rw [if_neg c2] at H
    have c2b0 : decide (x4_1 < (l0.length : Int)) = false := decide_eq_false c2
    clear c2
    obtain rfl := sI H
    go_wp2
    go_ret
    exact ⟨_, by first | rfl | (simp [errW_none, errW_some] <;> rfl) | (simp [*, errW_none, errW_some] <;> rfl), by (with_reducible repeat (first | apply Kd.R_alloc | apply Kd.R_drewN | apply Kd.R_drew)); exact HO_3.out, by repeat (first | (with_reducible first | exact HB.out | apply bA | apply pB | apply bW) | exact HB.out)⟩
theorem zq18_0 {p_ : Prop} (h_ : p_ := by first | (with_reducible assumption) | assumption) : p_ := h_
def cenotaphref04_From.l0 : Nat → List (S65) → List (S61) → Int → Option ((List (S61)))
 | 0, _, _, _ => none
 | k + 1, x0, x3, x4 => if x4 < (x0.length : Int) then (if 0 ≤ x4 then (if x3.length < 2932031007402 then (cenotaphref04_From.l0 k x0 (x3 ++ [(⟨(rd_T65 x0 x4).f0, (⟨(rd_T65 x0 x4).f1, ([] : List Int)⟩ : S59)⟩ : S61)]) (wrap64 (x4 + 1))) else (none)) else (none)) else (some x3)
def cenotaphref04_From.f (k : Nat) (l0 : List (S65)) : Option ((List (S61))) := cenotaphref04_From.l0 k l0 ([] : List (S61)) 0
theorem cenotaphref04_From.mono_l : ∀ k, (∀ y0 y1 y2, LeO (cenotaphref04_From.l0 k y0 y1 y2) (cenotaphref04_From.l0 (k + 1) y0 y1 y2))
 | 0 => fun _ _ _ r h => by simp [cenotaphref04_From.l0] at h
 | k + 1 => by
  have ih0 := cenotaphref04_From.mono_l k
  ·intro y0 y1 y2
   unfold cenotaphref04_From.l0
   repeat' first
   | (with_reducible exact ih0 _ _ _)
   | (with_reducible exact LeO.refl _)
   | (with_reducible exact LeO.none _)
   | (with_reducible refine LeO.ite ?_ ?_)
   | (with_reducible refine LeO.bind ?_ (fun _ => ?_))
   | exact ih0 _ _ _
   | exact LeO.none _
   | refine LeO.ite ?_ ?_
   | refine LeO.bind ?_ (fun _ => ?_)
theorem cenotaphref04_From.mono : ∀ a0 k, LeO (cenotaphref04_From.f k a0) (cenotaphref04_From.f (k + 1) a0) := by
 intro a0 k
 have ih0 := cenotaphref04_From.mono_l k
 unfold cenotaphref04_From.f
 repeat' first
   | (with_reducible exact ih0 _ _ _)
   | (with_reducible exact LeO.refl _)
   | (with_reducible exact LeO.none _)
   | (with_reducible refine LeO.ite ?_ ?_)
   | (with_reducible refine LeO.bind ?_ (fun _ => ?_))
   | exact ih0 _ _ _
   | exact LeO.none _
   | refine LeO.ite ?_ ?_
   | refine LeO.bind ?_ (fun _ => ?_)
def cenotaphref04_From.T5 : Bool × List (List Nat × List Nat) := (true, [([], []), ([], []), ([], []), ([1, 2], [1, 2]), ([3], [3]), ([4], [4]), ([], []), ([], []), ([6, 7], [6, 7]), ([8], [8]), ([9], [9]), ([10], [10]), ([5, 11], [5, 11]), ([12], [12]), ([0, 13], [0, 13]), ([14, 14, 0, 1, 2, 3, 4, 5, 6, 7, 8, 9, 10, 11, 12, 13, 14], [0, 14])])
def cenotaphref04_From.B5 : List Nat := [0, 0, 0, 6, 14, 30, 0, 0, 192, 448, 960, 1984, 4094, 8190, 16383, 32767]
theorem cenotaphref04_From.tab5 : rtab .any (opsOf Tryz.f18 5) = cenotaphref04_From.T5 := by kernel_rfl
theorem cenotaphref04_From.bits5 : waitsOk cenotaphref04_From.T5.2 cenotaphref04_From.B5 = true := by kernel_rfl
theorem cenotaphref04_From.calls (k : Nat) (A0 : Option Addr) (c0 : Nat) (l0 : List (S65)) (r : List (S61)) (w : World) (hr0 : Kd.C k65 w A0 l0.length l0) (hc0 : l0.length ≤ c0) (h : cenotaphref04_From.f k l0 = some r) :
  Calls Tryz.prog 18 #[.slice A0 l0.length c0] w fun e w' => ∃ v0_ : Value, e = .returned (v0_) ∧ Kd.S k61 61 w' w.heap.size (fun _ => True) v0_ r ∧ Below w.heap.size w w' := by
 have hu59 := Tryz.underlying59
 have hu61 := Tryz.underlying61
 have HR0 := aK hr0
 have HC0 := aK hc0
 clear hr0 hc0
 have HB := aK (Below.refl w.heap.size w)
 have H : (cenotaphref04_From.l0 k l0 ([] : List (S61)) 0) = some r := h
 clear h
 have H' := aK H
 clear H
 go_enter Tryz.func18, Tryz.ntmps18
 go_wp2
 go_loopg [3, 4] k (fun kq v3 v4 w' => ∃ (x3_1 : List (S61)) (x4_1 : Int), v4 = .int .i64 x4_1 ∧ Aside0 (cenotaphref04_From.l0 kq l0 x3_1 x4_1 = some r) ∧ Aside0 (kq ≤ k) ∧ Aside0 (Kd.S k61 61 w' w.heap.size (fun _ => True) v3 x3_1) ∧ Aside0 (Below w.heap.size w w'))
 case atStart => exact ⟨(([] : List (S61))), (0), (by first | rfl | (simp; done) | (simp [*]; done)), H', ⟨Nat.le_refl _⟩, ⟨by first | exact Kd.S_nil _ _ _ _ _ | exact Kd.N_nil _ _ _ _ _ | exact Kd.V_nil _ _ _ _ _ | exact Kd.Q_nil _ _ _ _ _ | exact Kd.R_nil _ _ _ _ _⟩, ⟨by repeat (first | (with_reducible first | exact HB.out | apply bA | apply pB | apply bW) | exact HB.out)⟩⟩
 case round =>
  clear H'
  try clear c1
  obtain ⟨x3_1, x4_1, rfl, HA, HK1, HO_3, HB⟩ := hrel
  cases gk with
  | zero => exact absurd HA.out (by simp [cenotaphref04_From.l0])
  | succ k1 =>
   have H := HA.out
   clear HA
   simp only [cenotaphref04_From.l0] at H
   by_cases c2 : x4_1 < (l0.length : Int)
   ·rw [if_pos c2] at H
    have c2b0 : decide (x4_1 < (l0.length : Int)) = true := dT c2
    clear c2
    by_cases c3 : 0 ≤ x4_1
    ·rw [if_pos c3] at H
     have c3b0 : decide (0 ≤ x4_1) = true := dT c3
     clear c3
     by_cases c4 : x3_1.length < 2932031007402
     ·rw [if_pos c4] at H
      have LMc4 := aK c4
      clear c4
      obtain ⟨y389, hy389⟩ : ∃ y_ : List (S61), y_ = (x3_1 ++ [(⟨(rd_T65 l0 x4_1).f0, (⟨(rd_T65 l0 x4_1).f1, ([] : List Int)⟩ : S59)⟩ : S61)]) := ⟨_, rfl⟩
      replace H : (cenotaphref04_From.l0 k1 l0 y389 (wrap64 (x4_1 + 1))) = some r := by first | (rw [hy389]; with_reducible exact H) | (have H2_ := (Option.bind_some _ _).symm.trans H; rw [hy389]; with_reducible exact H2_) | (have H2_ := (Option.bind_some _ _).symm.trans H; with_reducible exact H2_) | with_reducible exact H | (rw [hy389]; exact H) | exact H
      have Ny389 := aK hy389
      clear hy389
      have H' := aK H
      clear H
      try go_wp2
      replace HO_3 := aK (Kd.S_drew HO_3.out)
      replace HB := aK (bW HB.out)
      have p387 : 0 ≤ (x4_1 : Int) := oD zq18_0
      have q387 : x4_1 < (l0.length : Int) := oD zq18_0
      obtain ⟨ad387, e387, hx387_0, hx387_1⟩ := at_T65 HR0.out x4_1 p387 q387
      have hw387_1 := hx387_1
      have hw387_0 := hx387_0
      cases e387
      replace hx387_0 := pc_ HB hx387_0
      replace hx387_1 := pc_ HB hx387_1
      replace p387 := eT p387
      replace q387 := eT q387
      have p388 : 0 ≤ (x4_1 : Int) := oD zq18_0
      have q388 : x4_1 < (l0.length : Int) := oD zq18_0
      obtain ⟨ad388, e388, hx388_0, hx388_1⟩ := at_T65 HR0.out x4_1 p388 q388
      have hw388_1 := hx388_1
      have hw388_0 := hx388_0
      obtain rfl : ad387 = ad388 := (by injection e388)
      replace hx388_0 := pc_ HB hx388_0
      replace hx388_1 := pc_ HB hx388_1
      replace p388 := eT p388
      replace q388 := eT q388
      refine start_ (n := 16) (S := fun w' => w'.cell? (ad387.add ((x4_1).toNat * 2)) = some (.string ((rd_T65 l0 x4_1).f0)) ∧ w'.cell? ⟨(ad387.add ((x4_1).toNat * 2)).block, (ad387.add ((x4_1).toNat * 2)).off + 1, none⟩ = some (.int .i64 ((rd_T65 l0 x4_1).f1)) ∧ w'.cell? (ad387.add ((x4_1).toNat * 2)) = some (.string ((rd_T65 l0 x4_1).f0)) ∧ w'.cell? ⟨(ad387.add ((x4_1).toNat * 2)).block, (ad387.add ((x4_1).toNat * 2)).off + 1, none⟩ = some (.int .i64 ((rd_T65 l0 x4_1).f1))) (ds := []) #[false, false, false, false, false, false, false, false, false, false, false, false, false, false, false, false] (by kernel_rfl) rfl rfl ⟨(pc_ HB hw387_0), (pc_ HB hw387_1), (pc_ HB hw388_0), (pc_ HB hw388_1)⟩ (fun hHeld => ?_); refine with_tabW cenotaphref04_From.tab5 cenotaphref04_From.bits5 (fun HT_ HW_ => ?_)
      generalize wr.drew = w5 at HO_3 HB hx387_0 hx387_1 hx388_0 hx388_1 hHeld ⊢
      refine p_ 0 11 (mk_ 16 0x1) ?_
      refine p_ 1 12 (mk_ 16 0x3) ?_
      refine p_ 2 13 (mk_ 16 0x7) ?_
      refine p_ 3 14 (mk_ 16 0xf) ?_
      refine p_ 4 15 (mk_ 16 0x1f) ?_
      refine p_ 6 17 (mk_ 16 0x5f) ?_
      refine p_ 7 18 (mk_ 16 0xdf) ?_
      refine p_ 8 19 (mk_ 16 0x1df) ?_
      refine p_ 9 20 (mk_ 16 0x3df) ?_
      refine t_ 5 16 (mk_ 16 0x3ff) hHeld ?_
      refine t_ 10 21 (mk_ 16 0x7ff) hHeld ?_
      refine p_ 11 22 (mk_ 16 0xfff) ?_
      refine p_ 12 23 (mk_ 16 0x1fff) ?_
      refine one_ (i := 13) (N := some 24) #[true, true, true, true, true, true, true, true, true, true, true, true, true, true, false, false] rfl rfl (one_of HT_.out (by kernel_rfl)) (by decide) (fun K hK => ?_)
      refine value_ (w1 := ?_) (v := ?_) (by rfl) rfl ?_ ?_
      rotate_left 2
      ·go_simp
       constructor
       ·rfl
       ·rfl
      refine hK.out _ _ ⟨(World.cell?_alloc_lt _ _ _ (wl_ _ _ ((pc_ HB hw387_0)))).trans ((pc_ HB hw387_0)), (World.cell?_alloc_lt _ _ _ (wl_ _ _ ((pc_ HB hw387_1)))).trans ((pc_ HB hw387_1)), (World.cell?_alloc_lt _ _ _ (wl_ _ _ ((pc_ HB hw388_0)))).trans ((pc_ HB hw388_0)), (World.cell?_alloc_lt _ _ _ (wl_ _ _ ((pc_ HB hw388_1)))).trans ((pc_ HB hw388_1))⟩ (fun hHeld => ?_)
      clear hK K
      refine norm_ (a' := ?_) ?_ ?_
      rotate_left
      ·show Act.put _ (some 24) _ = _
       simp only [Act.put, lA, lB, lC, i64_w, i32_w]
       rfl
      refine one_ (i := 14) (N := some 25) #[true, true, true, true, true, true, true, true, true, true, true, true, true, true, true, false] rfl rfl (one_of HT_.out (by kernel_rfl)) (by decide) (fun K hK => ?_)
      refine Kd.S_append_step k61 (w0 := w) w.heap.size (by rfl) (.tmp 11) (.tmp 24) 22 61 (.agg #[(.string ⟨#[]⟩), (.int .i64 0), (.slice none 0 0)]) 48 rfl Tryz.underlying22 info61 rfl (by decide) (by omega) u3 x3_1 (⟨(rd_T65 l0 x4_1).f0, (⟨(rd_T65 l0 x4_1).f1, ([] : List Int)⟩ : S59)⟩ : S61) [.string ((rd_T65 l0 x4_1).f0), .int .i64 ((rd_T65 l0 x4_1).f1), .slice none 0 0] (fun _ => True) (fun _ => False) rfl rfl ?aP (fun k_ hk_ => hk_.elim) ?aF ?aO ?aB ?aS ?aL ?_
      (case aP => exact k61_mkM _ _ _ (⟨(rd_T65 l0 x4_1).f0, (⟨(rd_T65 l0 x4_1).f1, ([] : List Int)⟩ : S59)⟩ : S61) (Kd.R_nil _ _ _ _ _))
      (case aB => exact (by repeat (first | (with_reducible first | exact HB.out | apply bA | apply pB | apply bW) | exact HB.out)))
      (case aF => exact (fun _ _ => trivial))
      (case aO => exact (by (with_reducible repeat (first | apply Kd.S_alloc | apply Kd.S_drewN | apply Kd.S_drew)); exact Kd.S_mono HO_3.out (fun k_ hk => ⟨trivial, fun e_ => e_⟩)))
      (case aS => exact (below_size (by repeat (first | (with_reducible first | exact HB.out | apply bA | apply pB | apply bW) | exact HB.out))))
      (case aL => have := LMc4.out; omega)
      intro v390 w6 ho hb hg hat
      rw [← Ny389.out] at ho
      replace HB := aK (hb)
      have HO391 := aK (ho)
      clear HO_3
      clear ho hb hg hat
      refine hK.out _ _ ⟨(pc_ HB hw387_0), (pc_ HB hw387_1), (pc_ HB hw388_0), (pc_ HB hw388_1)⟩ (fun hHeld => ?_)
      clear hK K
      refine norm_ (a' := ?_) ?_ ?_
      rotate_left
      ·show Act.put _ (some 25) _ = _
       simp only [Act.put, lA, lB, lC, i64_w, i32_w]
       rfl
      refine p_ 15 3 (mk_ 16 0xffff) ?_
      refine done_ (done_of HT_.out (by kernel_rfl)) ?_
      try go_wp2
      go_roundg k1
      case measure => have := HK1.out; omega
      case rel => exact ⟨(y389), (wrap64 (x4_1 + 1)), (by first | rfl | (simp; done) | (simp [*]; done)), H', ⟨by have := HK1.out; omega⟩, ⟨by (with_reducible repeat (first | apply Kd.S_alloc | apply Kd.S_drewN | apply Kd.S_drew)); exact HO391.out⟩, ⟨by repeat (first | (with_reducible first | exact HB.out | apply bA | apply pB | apply bW) | exact HB.out)⟩⟩
     ·rw [if_neg c4] at H
      exact absurd H (by simp)
    ·rw [if_neg c3] at H
     exact absurd H (by simp)
   ·rw [if_neg c2] at H
    have c2b0 : decide (x4_1 < (l0.length : Int)) = false := decide_eq_false c2
    clear c2
    obtain rfl := sI H
    go_wp2
    go_ret
    exact ⟨_, by first | rfl | (simp [errW_none, errW_some] <;> rfl) | (simp [*, errW_none, errW_some] <;> rfl), by (with_reducible repeat (first | apply Kd.S_alloc | apply Kd.S_drewN | apply Kd.S_drew)); exact HO_3.out, by repeat (first | (with_reducible first | exact HB.out | apply bA | apply pB | apply bW) | exact HB.out)⟩
theorem zq21_0 {p_ : Prop} (h_ : p_ := by repeat (first | (with_reducible first | exact HB.out | apply bA | apply pB | apply bW) | exact HB.out)) : p_ := h_
theorem zq21_1 {p_ : Prop} (h_ : p_ := by first | (with_reducible assumption) | assumption) : p_ := h_
theorem zq21_2 {p_ : Prop} (h_ : p_ := by first | rfl | (simp; done) | (simp [*]; done)) : p_ := h_
def cenotaphref04_Only.l0 : Nat → List (S61) → List ByteArray → List (S61) → Int → Option ((List (S61)))
 | 0, _, _, _, _ => none
 | k + 1, x0, x1, x5, x6 => if x6 < (x0.length : Int) then (if 0 ≤ x6 then ((cenotaphref01_Has.f k x1 ((rd_T61 x0 x6).f0)).bind fun t397 => (if t397 = true then (if x5.length < 2932031007402 then (cenotaphref04_Only.l0 k x0 x1 (x5 ++ [(⟨(rd_T61 x0 x6).f0, (⟨(rd_T61 x0 x6).f1.f0, (rd_T61 x0 x6).f1.f1⟩ : S59)⟩ : S61)]) (wrap64 (x6 + 1))) else (none)) else (cenotaphref04_Only.l0 k x0 x1 x5 (wrap64 (x6 + 1))))) else (none)) else (some x5)
def cenotaphref04_Only.f (k : Nat) (l0 : List (S61)) (l1 : List ByteArray) : Option ((List (S61))) := cenotaphref04_Only.l0 k l0 l1 ([] : List (S61)) 0
theorem cenotaphref04_Only.mono_l : ∀ k, (∀ y0 y1 y2 y3, LeO (cenotaphref04_Only.l0 k y0 y1 y2 y3) (cenotaphref04_Only.l0 (k + 1) y0 y1 y2 y3))
 | 0 => fun _ _ _ _ r h => by simp [cenotaphref04_Only.l0] at h
 | k + 1 => by
  have ih0 := cenotaphref04_Only.mono_l k
  ·intro y0 y1 y2 y3
   unfold cenotaphref04_Only.l0
   repeat' first
   | (with_reducible exact ih0 _ _ _ _)
   | (with_reducible exact cenotaphref01_Has.mono _ _ _)
   | (with_reducible exact LeO.refl _)
   | (with_reducible exact LeO.none _)
   | (with_reducible refine LeO.ite ?_ ?_)
   | (with_reducible refine LeO.bind ?_ (fun _ => ?_))
   | exact ih0 _ _ _ _
   | exact cenotaphref01_Has.mono _ _ _
   | exact LeO.none _
   | refine LeO.ite ?_ ?_
   | refine LeO.bind ?_ (fun _ => ?_)
theorem cenotaphref04_Only.mono : ∀ a0 a1 k, LeO (cenotaphref04_Only.f k a0 a1) (cenotaphref04_Only.f (k + 1) a0 a1) := by
 intro a0 a1 k
 have ih0 := cenotaphref04_Only.mono_l k
 unfold cenotaphref04_Only.f
 repeat' first
   | (with_reducible exact ih0 _ _ _ _)
   | (with_reducible exact cenotaphref01_Has.mono _ _ _)
   | (with_reducible exact LeO.refl _)
   | (with_reducible exact LeO.none _)
   | (with_reducible refine LeO.ite ?_ ?_)
   | (with_reducible refine LeO.bind ?_ (fun _ => ?_))
   | exact ih0 _ _ _ _
   | exact cenotaphref01_Has.mono _ _ _
   | exact LeO.none _
   | refine LeO.ite ?_ ?_
   | refine LeO.bind ?_ (fun _ => ?_)
theorem cenotaphref04_Only.calls (k : Nat) (P0_ : Nat → Prop) (A0 : Option Addr) (c0 : Nat) (l0 : List (S61)) (A1 : Option Addr) (c1 : Nat) (l1 : List ByteArray) (r : List (S61)) (w : World) (hs0 : Kd.V k61 61 w w.heap.size (fun k_ => P0_ k_) (.slice A0 l0.length c0) l0) (hr1 : Kd.C Kd.string w A1 l1.length l1) (hc1 : l1.length ≤ c1) (h : cenotaphref04_Only.f k l0 l1 = some r) :
  Calls Tryz.prog 21 #[.slice A0 l0.length c0, .slice A1 l1.length c1] w fun e w' => ∃ v0_ : Value, e = .returned (v0_) ∧ Kd.N k61 61 w' w.heap.size (fun k_ => (P0_ k_ ∨ w.heap.size ≤ k_)) v0_ r ∧ Below w.heap.size w w' := by
 have hu61 := Tryz.underlying61
 have HO0 := aK (show Kd.V k61 61 w w.heap.size (fun k_ => (P0_ k_ ∨ w.heap.size ≤ k_)) (.slice A0 l0.length c0) l0 from Kd.V_mono hs0 (fun k_ hk => .inl hk))
 have HR1 := aK hr1
 have HC1 := aK hc1
 clear hr1 hc1
 have HB := aK (Below.refl w.heap.size w)
 have H : (cenotaphref04_Only.l0 k l0 l1 ([] : List (S61)) 0) = some r := h
 clear h
 have H' := aK H
 clear H
 go_enter Tryz.func21, Tryz.ntmps21
 go_wp2
 go_loopg [5, 6] k (fun kq v5 v6 w' => ∃ (x5_1 : List (S61)) (x6_1 : Int), v6 = .int .i64 x6_1 ∧ Aside0 (cenotaphref04_Only.l0 kq l0 l1 x5_1 x6_1 = some r) ∧ Aside0 (kq ≤ k) ∧ Aside0 (Kd.V k61 61 w' w.heap.size (fun k_ => (P0_ k_ ∨ w.heap.size ≤ k_) ∧ some k_ ≠ (v5 : Value).ownBlock) (.slice A0 l0.length c0) l0) ∧ Aside0 (Kd.N k61 61 w' w.heap.size (fun k_ => (P0_ k_ ∨ w.heap.size ≤ k_)) v5 x5_1) ∧ Aside0 (Below w.heap.size w w'))
 case atStart => exact ⟨(([] : List (S61))), (0), zq21_2, H', ⟨Nat.le_refl _⟩, ⟨by (with_reducible repeat (first | apply Kd.V_alloc | apply Kd.V_drewN | apply Kd.V_drew)); exact Kd.V_mono HO0.out (fun _ hk => ⟨hk, (by simp [Value.ownBlock])⟩)⟩, ⟨by first | exact Kd.S_nil _ _ _ _ _ | exact Kd.N_nil _ _ _ _ _ | exact Kd.V_nil _ _ _ _ _ | exact Kd.Q_nil _ _ _ _ _ | exact Kd.R_nil _ _ _ _ _⟩, ⟨by repeat (first | (with_reducible first | exact HB.out | apply bA | apply pB | apply bW) | exact HB.out)⟩⟩
 case round =>
  clear H'
  try clear c1
  try clear c2
  try clear p2
  obtain ⟨x5_1, x6_1, rfl, HA, HK1, HO_0, HO_5, HB⟩ := hrel
  cases gk with
  | zero => exact absurd HA.out (by simp [cenotaphref04_Only.l0])
  | succ k1 =>
   have H := HA.out
   clear HA
   simp only [cenotaphref04_Only.l0] at H
   by_cases c3 : x6_1 < (l0.length : Int)
   ·rw [if_pos c3] at H
    have c3b0 : decide (x6_1 < (l0.length : Int)) = true := dT c3
    clear c3
    by_cases c4 : 0 ≤ x6_1
    ·rw [if_pos c4] at H
     have c4b0 : decide (0 ≤ x6_1) = true := dT c4
     clear c4
     replace H := bM H
     obtain ⟨t397, A50, H⟩ := H
     have A5 := aK A50
     clear A50
     by_cases c6 : t397 = true
     ·subst c6
      have H1 : (if x5_1.length < 2932031007402 then (cenotaphref04_Only.l0 k1 l0 l1 (x5_1 ++ [(⟨(rd_T61 l0 x6_1).f0, (⟨(rd_T61 l0 x6_1).f1.f0, (rd_T61 l0 x6_1).f1.f1⟩ : S59)⟩ : S61)]) (wrap64 (x6_1 + 1))) else (none)) = some r := by rw [if_pos rfl] at H; exact H
      clear H
      have H := H1
      clear H1
      by_cases c7 : x5_1.length < 2932031007402
      ·rw [if_pos c7] at H
       have LMc7 := aK c7
       clear c7
       obtain ⟨y399, hy399⟩ : ∃ y_ : List (S61), y_ = (x5_1 ++ [(⟨(rd_T61 l0 x6_1).f0, (⟨(rd_T61 l0 x6_1).f1.f0, (rd_T61 l0 x6_1).f1.f1⟩ : S59)⟩ : S61)]) := ⟨_, rfl⟩
       replace H : (cenotaphref04_Only.l0 k1 l0 l1 y399 (wrap64 (x6_1 + 1))) = some r := by first | (rw [hy399]; with_reducible exact H) | (have H2_ := (Option.bind_some _ _).symm.trans H; rw [hy399]; with_reducible exact H2_) | (have H2_ := (Option.bind_some _ _).symm.trans H; with_reducible exact H2_) | with_reducible exact H | (rw [hy399]; exact H) | exact H
       have Ny399 := aK hy399
       clear hy399
       have H' := aK H
       clear H
       have p396 : 0 ≤ (x6_1 : Int) := oD zq21_1
       have q396 : x6_1 < (l0.length : Int) := oD zq21_1
       obtain ⟨ad396, A396_2, c396_2, e396, hx396_0, hx396_1, hx396_2, hl396_2, hi396_2⟩ := at_T61 (Kd.V_reads' HO_0.out).2.2 x6_1 p396 q396
       cases e396
       obtain ⟨ce396, hce396, hMe396, hcc396⟩ := Kd.V_get HO_0.out z61 x6_1 p396 (by first | exact q396 | exact oD zq21_1 | (have e_ := (Kd.V_reads' HO_0.out).1; omega))
       obtain ⟨ua396_2, uc396_2, rfl, ul396_2, ge396_2⟩ := k61_openF hMe396
       have hv396_2 := hcc396 2 _ rfl
       rw [add_field _ _ 2 (by omega)] at hv396_2
       replace hv396_2 := sI (hv396_2.symm.trans hx396_2)
       injection hv396_2 with hva_ hvn_ hvc_
       rw [hva_] at ge396_2
       rw [hvc_] at ul396_2
       have HL396_2 := aK (show Kd.V (Kd.int .i64) 3 _ w.heap.size _ _ ((rd_T61 l0 x6_1).f1.f1) from Kd.V_mk ul396_2 ge396_2)
       clear hva_ hvn_ hvc_ ge396_2 ul396_2
       clear hcc396 hce396
       have HR396_2 := aK hi396_2
       have HC396_2 := aK hl396_2
       clear hi396_2 hl396_2
       replace p396 := eT p396
       replace q396 := eT q396
       go_wp2_with (first | ((with_reducible refine gate_callee (f := 33) rfl ?_); refine goesL_ (some 19) rfl rfl Tryz.func33 (by kernel_rfl) rfl #[.slice A1 l1.length c1, .string ((rd_T61 l0 x6_1).f0)] rfl (by (try simp only [List.map_toArray, List.map_cons, List.map_nil]); first | done | rfl | (simp only [List.length_drop, List.length_take]; rfl)) ?_; (with_reducible refine (cenotaphref01_Has.calls k1 _ _ l1 ((rd_T61 l0 x6_1).f0) true _ ?side1 ?side2 A5.out).mono ?_); (case side1 => repeat (first | exact (cB HR1.out HB.out) | (with_reducible refine Kd.C_alloc ?_ _) | (with_reducible refine Kd.C_drewN ?_ _) | (with_reducible refine Kd.C_drew ?_))); (case side2 => exact HC1.out); rintro e w' ⟨rfl, ⟨nd, rfl⟩⟩; refine ⟨_, rfl, ?_⟩; have p398 : 0 ≤ (x6_1 : Int) := oD zq21_1; have q398 : x6_1 < (l0.length : Int) := oD zq21_1; obtain ⟨ad398, A398_2, c398_2, e398, hx398_0, hx398_1, hx398_2, hl398_2, hi398_2⟩ := at_T61 (Kd.V_reads' HO_0.out).2.2 x6_1 p398 q398; obtain rfl : ad396 = ad398 := (by injection e398); obtain ⟨ce398, hce398, hMe398, hcc398⟩ := Kd.V_get HO_0.out z61 x6_1 p398 (by first | exact q398 | exact oD zq21_1 | (have e_ := (Kd.V_reads' HO_0.out).1; omega)); obtain ⟨ua398_2, uc398_2, rfl, ul398_2, ge398_2⟩ := k61_openF hMe398; have hv398_2 := hcc398 2 _ rfl; rw [add_field _ _ 2 (by omega)] at hv398_2; replace hv398_2 := sI (hv398_2.symm.trans hx398_2); injection hv398_2 with hva_ hvn_ hvc_; rw [hva_] at ge398_2; rw [hvc_] at ul398_2; have HL398_2 := aK (show Kd.V (Kd.int .i64) 3 _ w.heap.size _ _ ((rd_T61 l0 x6_1).f1.f1) from Kd.V_mk ul398_2 ge398_2); clear hva_ hvn_ hvc_ ge398_2 ul398_2; clear hcc398 hce398; have HR398_2 := aK hi398_2; have HC398_2 := aK hl398_2; clear hi398_2 hl398_2; replace p398 := eT p398; replace q398 := eT q398; have ea_ := sI (hx396_2.symm.trans hx398_2); injection ea_ with ea_ en_ ec_; subst ea_; subst ec_; clear en_) | ((with_reducible refine gate_builtin (b := .append) (xs := #[.tmp 20, .tmp 25]) rfl ?_); at_builtin; refine Kd.N_append k61 (w0 := w) w.heap.size rfl (.tmp 20) (.tmp 25) 22 61 (.agg #[(.string ⟨#[]⟩), (.int .i64 0), (.slice none 0 0)]) 48 rfl Tryz.underlying22 info61 rfl (by decide) (by omega) u5 x5_1 (⟨(rd_T61 l0 x6_1).f0, (⟨(rd_T61 l0 x6_1).f1.f0, (rd_T61 l0 x6_1).f1.f1⟩ : S59)⟩ : S61) [.string ((rd_T61 l0 x6_1).f0), .int .i64 ((rd_T61 l0 x6_1).f1.f0), .slice A396_2 ((rd_T61 l0 x6_1).f1.f1).length c396_2] (fun k_ => (P0_ k_ ∨ w.heap.size ≤ k_)) (fun k_ => ((fun k_ => (P0_ k_ ∨ w.heap.size ≤ k_))) k_ ∧ some k_ ≠ (u5 : Value).ownBlock) rfl rfl ?aP (fun _ hk => hk) ?aF ?aO ?aB ?aS ?aL ?_; (case aP => exact (k61_mkF _ _ (⟨(rd_T61 l0 x6_1).f0, (⟨(rd_T61 l0 x6_1).f1.f0, (rd_T61 l0 x6_1).f1.f1⟩ : S59)⟩ : S61) (Kd.V_reads' (Kd.V_mono (ok' := (fun k_ => ((fun k_ => (P0_ k_ ∨ w.heap.size ≤ k_))) k_ ∧ some k_ ≠ (u5 : Value).ownBlock)) (HL398_2.out) (fun k_ hk => ⟨hk.1, hk.2⟩))).2.1 (Kd.V_F (Kd.V_mono (ok' := (fun k_ => ((fun k_ => (P0_ k_ ∨ w.heap.size ≤ k_))) k_ ∧ some k_ ≠ (u5 : Value).ownBlock)) (Kd.V_drewN HL398_2.out _) (fun k_ hk => ⟨hk.1, hk.2⟩))))); (case aB => exact zq21_0); (case aF => exact (fun k_ hk => (.inr (Nat.le_trans (below_size zq21_0) hk)))); (case aO => exact (by (with_reducible repeat (first | apply Kd.N_alloc | apply Kd.N_drewN | apply Kd.N_drew)); exact HO_5.out)); (case aS => exact (below_size zq21_0)); (case aL => have := LMc7.out; omega); intro v400 w8 ho hb hg hat; rw [← Ny399.out] at ho; replace HO_0 := aK (Kd.V_afterv (ok := (fun k_ => (P0_ k_ ∨ w.heap.size ≤ k_))) (by (with_reducible repeat (first | apply Kd.V_alloc | apply Kd.V_drewN | apply Kd.V_drew)); exact HO_0.out) hg hat); replace HL396_2 := aK (Kd.V_afterv (ok := (fun k_ => (P0_ k_ ∨ w.heap.size ≤ k_))) (by (with_reducible repeat (first | apply Kd.V_alloc | apply Kd.V_drewN | apply Kd.V_drew)); exact HL396_2.out) hg hat); replace HL398_2 := aK (Kd.V_afterv (ok := (fun k_ => (P0_ k_ ∨ w.heap.size ≤ k_))) (by (with_reducible repeat (first | apply Kd.V_alloc | apply Kd.V_drewN | apply Kd.V_drew)); exact HL398_2.out) hg hat); replace HB := aK (hb); have HO401 := aK (ho); clear HO_5; clear ho hb hg hat))
       go_roundg k1
       case measure => have := HK1.out; omega
       case rel => exact ⟨(y399), (wrap64 (x6_1 + 1)), zq21_2, H', ⟨by have := HK1.out; omega⟩, ⟨by (with_reducible repeat (first | apply Kd.V_alloc | apply Kd.V_drewN | apply Kd.V_drew)); exact HO_0.out⟩, ⟨by (with_reducible repeat (first | apply Kd.N_alloc | apply Kd.N_drewN | apply Kd.N_drew)); exact HO401.out⟩, ⟨by repeat (first | (with_reducible first | exact HB.out | apply bA | apply pB | apply bW) | exact HB.out)⟩⟩
      ·rw [if_neg c7] at H
       exact absurd H (by simp)
     ·replace c6 := Bool.eq_false_iff.mpr c6
      subst c6
      have H1 : (cenotaphref04_Only.l0 k1 l0 l1 x5_1 (wrap64 (x6_1 + 1))) = some r := by rw [if_neg (show ¬ (false = true) by decide)] at H; exact H
      clear H
      have H := H1
      clear H1
      have H' := aK H
      clear H
      have p396 : 0 ≤ (x6_1 : Int) := oD zq21_1
      have q396 : x6_1 < (l0.length : Int) := oD zq21_1
      obtain ⟨ad396, A396_2, c396_2, e396, hx396_0, hx396_1, hx396_2, hl396_2, hi396_2⟩ := at_T61 (Kd.V_reads' HO_0.out).2.2 x6_1 p396 q396
      cases e396
      obtain ⟨ce396, hce396, hMe396, hcc396⟩ := Kd.V_get HO_0.out z61 x6_1 p396 (by first | exact q396 | exact oD zq21_1 | (have e_ := (Kd.V_reads' HO_0.out).1; omega))
      obtain ⟨ua396_2, uc396_2, rfl, ul396_2, ge396_2⟩ := k61_openF hMe396
      have hv396_2 := hcc396 2 _ rfl
      rw [add_field _ _ 2 (by omega)] at hv396_2
      replace hv396_2 := sI (hv396_2.symm.trans hx396_2)
      injection hv396_2 with hva_ hvn_ hvc_
      rw [hva_] at ge396_2
      rw [hvc_] at ul396_2
      have HL396_2 := aK (show Kd.V (Kd.int .i64) 3 _ w.heap.size _ _ ((rd_T61 l0 x6_1).f1.f1) from Kd.V_mk ul396_2 ge396_2)
      clear hva_ hvn_ hvc_ ge396_2 ul396_2
      clear hcc396 hce396
      have HR396_2 := aK hi396_2
      have HC396_2 := aK hl396_2
      clear hi396_2 hl396_2
      replace p396 := eT p396
      replace q396 := eT q396
      go_wp2_with (first | ((with_reducible refine gate_callee (f := 33) rfl ?_); refine goesL_ (some 19) rfl rfl Tryz.func33 (by kernel_rfl) rfl #[.slice A1 l1.length c1, .string ((rd_T61 l0 x6_1).f0)] rfl (by (try simp only [List.map_toArray, List.map_cons, List.map_nil]); first | done | rfl | (simp only [List.length_drop, List.length_take]; rfl)) ?_; (with_reducible refine (cenotaphref01_Has.calls k1 _ _ l1 ((rd_T61 l0 x6_1).f0) false _ ?side1 ?side2 A5.out).mono ?_); (case side1 => repeat (first | exact (cB HR1.out HB.out) | (with_reducible refine Kd.C_alloc ?_ _) | (with_reducible refine Kd.C_drewN ?_ _) | (with_reducible refine Kd.C_drew ?_))); (case side2 => exact HC1.out); rintro e w' ⟨rfl, ⟨nd, rfl⟩⟩; refine ⟨_, rfl, ?_⟩))
      go_roundg k1
      case measure => have := HK1.out; omega
      case rel => exact ⟨(x5_1), (wrap64 (x6_1 + 1)), zq21_2, H', ⟨by have := HK1.out; omega⟩, ⟨by (with_reducible repeat (first | apply Kd.V_alloc | apply Kd.V_drewN | apply Kd.V_drew)); exact HO_0.out⟩, ⟨by (with_reducible repeat (first | apply Kd.N_alloc | apply Kd.N_drewN | apply Kd.N_drew)); exact HO_5.out⟩, ⟨by repeat (first | (with_reducible first | exact HB.out | apply bA | apply pB | apply bW) | exact HB.out)⟩⟩
    ·rw [if_neg c4] at H
     exact absurd H (by simp)
   ·rw [if_neg c3] at H
    have c3b0 : decide (x6_1 < (l0.length : Int)) = false := decide_eq_false c3
    clear c3
    obtain rfl := sI H
    go_wp2
    go_ret
    exact ⟨_, by first | rfl | (simp [errW_none, errW_some] <;> rfl) | (simp [*, errW_none, errW_some] <;> rfl), by (with_reducible repeat (first | apply Kd.N_alloc | apply Kd.N_drewN | apply Kd.N_drew)); exact HO_5.out, by repeat (first | (with_reducible first | exact HB.out | apply bA | apply pB | apply bW) | exact HB.out)⟩
def cenotaphlaw04_KnowFirsts.f (k : Nat) (l0 : List S61) (l1 : List S65) (l2 : List ByteArray) : Option Bool := (cenotaphref04_Fix.f k l0).bind fun m => (cenotaphref03_Fix.f k l1).bind fun v1 => (cenotaphref01_Union.f k (l2.take (min l2.length 12)) []).bind fun L1 => (cenotaphlaw04_To.f k m).bind fun x => (know_Firsts.f k x).bind fun f1 => (know_From.f k f1).bind fun b1 => (cenotaphlaw03_From.f k f1).bind fun ff => (cenotaphref04_Firsts.f k m).bind fun rf => (cenotaphlaw03_To.f k v1).bind fun tv => (know_From.f k tv).bind fun fv => (cenotaphlaw04_From.f k fv).bind fun lf => (cenotaphref04_From.f k v1).bind fun rv => (cenotaphlaw01_To.f k L1).bind fun tl => (know_Only.f x tl).bind fun on => (cenotaphlaw04_From.f k on).bind fun lo => (cenotaphref04_Only.f k m L1).bind fun ro => (know_Same.f k b1 x).bind fun sm => (know_Extras.f k x).bind fun ex => (know_Firsts.f k b1).bind fun f2 => (cenotaphlaw03_From.f k f2).bind fun fg =>
 if cenotaphlaw04_told.f k = some true ∧ cenotaphref03_Same.f k ff rf = some true ∧ cenotaphref04_Same.f k lf rv = some true ∧ cenotaphref04_Same.f k lo ro = some true ∧ know_Within.f k b1 x = some true ∧ cenotaphref03_Same.f k fg ff = some true ∧ sm = (ex == 0) then some true else none
theorem cenotaphlaw04_KnowFirsts.calls (k : Nat) (A0 : Option Addr) (c0 : Nat) (l0 : List S61) (A1 : Option Addr) (c1 : Nat) (l1 : List S65) (A2 : Option Addr) (c2 : Nat) (l2 : List ByteArray) (r : Bool) (w : World) (hr0 : Kd.C k61 w A0 l0.length l0) (hc0 : l0.length ≤ c0) (hr1 : Kd.C k65 w A1 l1.length l1) (hc1 : l1.length ≤ c1) (hr2 : Kd.C Kd.string w A2 l2.length l2) (hc2 : l2.length ≤ c2) (h : cenotaphlaw04_KnowFirsts.f k l0 l1 l2 = some r) :
  Calls Tryz.prog 3 #[.slice A0 l0.length c0, .slice A1 l1.length c1, .slice A2 l2.length c2] w fun e w' => e = .returned (.bool r) ∧ Below w.heap.size w w' := by
 unfold cenotaphlaw04_KnowFirsts.f at h
 obtain ⟨m, g_m, h⟩ := bM h
 replace g_m := aK g_m
 obtain ⟨v1, g_v1, h⟩ := bM h
 replace g_v1 := aK g_v1
 obtain ⟨L1, g_L1, h⟩ := bM h
 replace g_L1 := aK g_L1
 obtain ⟨x, g_x, h⟩ := bM h
 replace g_x := aK g_x
 obtain ⟨f1, g_f1, h⟩ := bM h
 replace g_f1 := aK g_f1
 obtain ⟨b1, g_b1, h⟩ := bM h
 replace g_b1 := aK g_b1
 obtain ⟨ff, g_ff, h⟩ := bM h
 replace g_ff := aK g_ff
 obtain ⟨rf, g_rf, h⟩ := bM h
 replace g_rf := aK g_rf
 obtain ⟨tv, g_tv, h⟩ := bM h
 replace g_tv := aK g_tv
 obtain ⟨fv, g_fv, h⟩ := bM h
 replace g_fv := aK g_fv
 obtain ⟨lf, g_lf, h⟩ := bM h
 replace g_lf := aK g_lf
 obtain ⟨rv, g_rv, h⟩ := bM h
 replace g_rv := aK g_rv
 obtain ⟨tl, g_tl, h⟩ := bM h
 replace g_tl := aK g_tl
 obtain ⟨on, g_on, h⟩ := bM h
 replace g_on := aK g_on
 obtain ⟨lo, g_lo, h⟩ := bM h
 replace g_lo := aK g_lo
 obtain ⟨ro, g_ro, h⟩ := bM h
 replace g_ro := aK g_ro
 obtain ⟨sm, g_sm, h⟩ := bM h
 replace g_sm := aK g_sm
 obtain ⟨ex, g_ex, h⟩ := bM h
 replace g_ex := aK g_ex
 obtain ⟨f2, g_f2, h⟩ := bM h
 replace g_f2 := aK g_f2
 obtain ⟨fg, g_fg, h⟩ := bM h
 replace g_fg := aK g_fg
 split at h
 rotate_left
 ·cases h
 rename_i hc
 obtain rfl := sI h
 clear h
 obtain ⟨d0, d1, d2, d3, d4, d5, e0⟩ := hc
 replace d0 := aK d0
 replace d1 := aK d1
 replace d2 := aK d2
 replace d3 := aK d3
 replace d4 := aK d4
 replace d5 := aK d5
 replace e0 := aK e0
 have hsm : (sm == (ex == 0)) = true := by rw [e0.out]; simp
 clear e0
 obtain ⟨i1, hi1, hz1, hsz1, hby1⟩ := info_parts info9
 have Hl0 := aK (And.intro hc0 hr0)
 clear hc0 hr0
 have Hl1 := aK (And.intro hc1 hr1)
 clear hc1 hr1
 have Hl2 := aK (And.intro hc2 hr2)
 clear hc2 hr2
 have HB := aK (Below.refl w.heap.size w)
 go_enter Tryz.func3, Tryz.ntmps3
 go_wp2_with fail
 refine (cenotaphref04_Fix.calls k A0 c0 l0 m w Hl0.out.2 Hl0.out.1 g_m.out).mono ?_
 rintro e w1 ⟨v, rfl, ho, hq⟩
 replace Hl0 := aK (And.intro Hl0.out.1 (cB Hl0.out.2 hq))
 replace Hl1 := aK (And.intro Hl1.out.1 (cB Hl1.out.2 hq))
 replace Hl2 := aK (And.intro Hl2.out.1 (cB Hl2.out.2 hq))
 replace HB := aK (bS HB.out hq)
 replace ho : Kd.V k61 61 w1 0 (fun _ => True) v m := Kd.V_mono ho (fun _ _ => trivial)
 obtain ⟨A_m, c_m, rfl⟩ := Kd.V_slice ho
 have Hm := aK ho
 clear ho
 clear hq
 clear Hl0
 go_wp2_with fail
 refine (cenotaphref03_Fix.calls k A1 c1 l1 v1 w1 Hl1.out.2 Hl1.out.1 g_v1.out).mono ?_
 rintro e w2 ⟨v, rfl, ho, hq⟩
 replace Hl1 := aK (And.intro Hl1.out.1 (cB Hl1.out.2 hq))
 replace Hl2 := aK (And.intro Hl2.out.1 (cB Hl2.out.2 hq))
 replace Hm := aK (Kd.V_below Hm.out hq)
 replace HB := aK (bS HB.out hq)
 replace ho : Kd.V k65 65 w2 0 (fun _ => True) v v1 := Kd.V_mono (Kd.R_V ho) (fun _ _ => trivial)
 obtain ⟨A_v1, c_v1, rfl⟩ := Kd.V_slice ho
 have Hv1 := aK ho
 clear ho
 clear hq
 clear Hl1
 by_cases h12 : 12 < l2.length
 ·have q1 := eT (show (12 : Int) < (l2.length : Int) by omega)
  have q2 := eT h12
  rw [show min l2.length 12 = 12 by omega] at g_L1
  have hcut := cut_to (P := Tryz.prog) 24 9 .i64 Tryz.underlying24 hi1 A2 l2.length c2 (12 : Int) (by omega) (by omega) Hl2.out.1
  rw [show (12 : Int).toNat = 12 from rfl] at hcut
  have hct := Kd.C_take Hl2.out.2 (show 12 ≤ l2.length by omega)
  have hctl : (l2.take 12).length = 12 := by rw [List.length_take]; omega
  rw [hctl] at hct
  have HCT := aK hct
  have HCL := aK hctl
  clear hct hctl
  go_wp2_with fail
  rw [show (Value.slice A2 12 c2) = .slice A2 (l2.take 12).length c2 by rw [HCL.out]]
  refine (cenotaphref01_Union.calls k A2 c2 (l2.take 12) none 0 [] L1 w2 (by rw [HCL.out]; exact HCT.out) (by rw [HCL.out]; have := Hl2.out.1; omega) (Kd.C_nil _ _) (Nat.le_refl _) g_L1.out).mono ?_
  rintro e w3 ⟨v, rfl, ho, hq⟩
  clear HCT hcut
  clear Hl2
  replace Hm := aK (Kd.V_below Hm.out hq)
  replace Hv1 := aK (Kd.V_below Hv1.out hq)
  replace HB := aK (bS HB.out hq)
  replace ho : Kd.V Kd.string 9 w3 0 (fun _ => True) v L1 := Kd.V_mono (Kd.R_V ho) (fun _ _ => trivial)
  obtain ⟨A_L1, c_L1, rfl⟩ := Kd.V_slice ho
  have HL1 := aK ho
  clear ho hq
  go_wp2_with fail
  refine (cenotaphlaw04_To.calls k A_m c_m m x w3 (Kd.V_reads' Hm.out).2.2 (Kd.V_reads' Hm.out).2.1 g_x.out).mono ?_
  rintro e w4 ⟨v, rfl, ho, hq⟩
  replace Hm := aK (Kd.V_below Hm.out hq)
  replace Hv1 := aK (Kd.V_below Hv1.out hq)
  replace HL1 := aK (Kd.V_below HL1.out hq)
  replace HB := aK (bS HB.out hq)
  replace ho : Kd.V k72 72 w4 0 (fun _ => True) v x := Kd.V_mono (Kd.S_V ho) (fun _ _ => trivial)
  obtain ⟨A_x, c_x, rfl⟩ := Kd.V_slice ho
  have Hx := aK ho
  clear ho
  clear hq
  go_wp2_with fail
  refine (know_Firsts.calls k A_x c_x x f1 w4 (Kd.V_reads' Hx.out).2.2 (Kd.V_reads' Hx.out).2.1 g_f1.out).mono ?_
  rintro e w5 ⟨v, rfl, ho, hq⟩
  replace Hm := aK (Kd.V_below Hm.out hq)
  replace Hv1 := aK (Kd.V_below Hv1.out hq)
  replace HL1 := aK (Kd.V_below HL1.out hq)
  replace Hx := aK (Kd.V_below Hx.out hq)
  replace HB := aK (bS HB.out hq)
  replace ho : Kd.V k75 75 w5 0 (fun _ => True) v f1 := Kd.V_mono (Kd.R_V ho) (fun _ _ => trivial)
  obtain ⟨A_f1, c_f1, rfl⟩ := Kd.V_slice ho
  have Hf1 := aK ho
  clear ho
  clear hq
  go_wp2_with fail
  refine (know_From.calls k A_f1 c_f1 f1 b1 w5 (Kd.V_reads' Hf1.out).2.2 (Kd.V_reads' Hf1.out).2.1 g_b1.out).mono ?_
  rintro e w6 ⟨v, rfl, ho, hq⟩
  replace Hm := aK (Kd.V_below Hm.out hq)
  replace Hv1 := aK (Kd.V_below Hv1.out hq)
  replace HL1 := aK (Kd.V_below HL1.out hq)
  replace Hx := aK (Kd.V_below Hx.out hq)
  replace Hf1 := aK (Kd.V_below Hf1.out hq)
  replace HB := aK (bS HB.out hq)
  replace ho : Kd.V k72 72 w6 0 (fun _ => True) v b1 := Kd.V_mono (Kd.S_V ho) (fun _ _ => trivial)
  obtain ⟨A_b1, c_b1, rfl⟩ := Kd.V_slice ho
  have Hb1 := aK ho
  clear ho
  clear hq
  go_wp2_with fail
  refine (cenotaphlaw04_told.calls k  true w6  d0.out).mono ?_
  rintro e w7 ⟨rfl, hq⟩
  replace Hm := aK (Kd.V_below Hm.out hq)
  replace Hv1 := aK (Kd.V_below Hv1.out hq)
  replace HL1 := aK (Kd.V_below HL1.out hq)
  replace Hx := aK (Kd.V_below Hx.out hq)
  replace Hf1 := aK (Kd.V_below Hf1.out hq)
  replace Hb1 := aK (Kd.V_below Hb1.out hq)
  replace HB := aK (bS HB.out hq)
  clear hq
  go_wp2_with fail
  refine (cenotaphlaw03_From.calls k A_f1 c_f1 f1 ff w7 (Kd.V_reads' Hf1.out).2.2 (Kd.V_reads' Hf1.out).2.1 g_ff.out).mono ?_
  rintro e w8 ⟨v, rfl, ho, hq⟩
  replace Hm := aK (Kd.V_below Hm.out hq)
  replace Hv1 := aK (Kd.V_below Hv1.out hq)
  replace HL1 := aK (Kd.V_below HL1.out hq)
  replace Hx := aK (Kd.V_below Hx.out hq)
  replace Hf1 := aK (Kd.V_below Hf1.out hq)
  replace Hb1 := aK (Kd.V_below Hb1.out hq)
  replace HB := aK (bS HB.out hq)
  replace ho : Kd.V k65 65 w8 0 (fun _ => True) v ff := Kd.V_mono (Kd.R_V ho) (fun _ _ => trivial)
  obtain ⟨A_ff, c_ff, rfl⟩ := Kd.V_slice ho
  have Hff := aK ho
  clear ho
  clear hq
  go_wp2_with fail
  refine (cenotaphref04_Firsts.calls k A_m c_m m rf w8 (Kd.V_reads' Hm.out).2.2 (Kd.V_reads' Hm.out).2.1 g_rf.out).mono ?_
  rintro e w9 ⟨v, rfl, ho, hq⟩
  replace Hm := aK (Kd.V_below Hm.out hq)
  replace Hv1 := aK (Kd.V_below Hv1.out hq)
  replace HL1 := aK (Kd.V_below HL1.out hq)
  replace Hx := aK (Kd.V_below Hx.out hq)
  replace Hf1 := aK (Kd.V_below Hf1.out hq)
  replace Hb1 := aK (Kd.V_below Hb1.out hq)
  replace Hff := aK (Kd.V_below Hff.out hq)
  replace HB := aK (bS HB.out hq)
  replace ho : Kd.V k65 65 w9 0 (fun _ => True) v rf := Kd.V_mono (Kd.R_V ho) (fun _ _ => trivial)
  obtain ⟨A_rf, c_rf, rfl⟩ := Kd.V_slice ho
  have Hrf := aK ho
  clear ho
  clear hq
  go_wp2_with fail
  refine (cenotaphref03_Same.calls k A_ff c_ff ff A_rf c_rf rf true w9 (Kd.V_reads' Hff.out).2.2 (Kd.V_reads' Hff.out).2.1 (Kd.V_reads' Hrf.out).2.2 (Kd.V_reads' Hrf.out).2.1 d1.out).mono ?_
  rintro e w10 ⟨rfl, hq⟩
  replace hq := hq.below
  replace Hm := aK (Kd.V_below Hm.out hq)
  replace Hv1 := aK (Kd.V_below Hv1.out hq)
  replace HL1 := aK (Kd.V_below HL1.out hq)
  replace Hx := aK (Kd.V_below Hx.out hq)
  replace Hf1 := aK (Kd.V_below Hf1.out hq)
  replace Hb1 := aK (Kd.V_below Hb1.out hq)
  replace Hff := aK (Kd.V_below Hff.out hq)
  replace Hrf := aK (Kd.V_below Hrf.out hq)
  replace HB := aK (bS HB.out hq)
  clear hq
  clear Hff
  clear Hrf
  go_wp2_with fail
  refine (cenotaphlaw03_To.calls k A_v1 c_v1 v1 tv w10 (Kd.V_reads' Hv1.out).2.2 (Kd.V_reads' Hv1.out).2.1 g_tv.out).mono ?_
  rintro e w11 ⟨v, rfl, ho, hq⟩
  replace Hm := aK (Kd.V_below Hm.out hq)
  replace Hv1 := aK (Kd.V_below Hv1.out hq)
  replace HL1 := aK (Kd.V_below HL1.out hq)
  replace Hx := aK (Kd.V_below Hx.out hq)
  replace Hf1 := aK (Kd.V_below Hf1.out hq)
  replace Hb1 := aK (Kd.V_below Hb1.out hq)
  replace HB := aK (bS HB.out hq)
  replace ho : Kd.V k75 75 w11 0 (fun _ => True) v tv := Kd.V_mono (Kd.R_V ho) (fun _ _ => trivial)
  obtain ⟨A_tv, c_tv, rfl⟩ := Kd.V_slice ho
  have Htv := aK ho
  clear ho
  clear hq
  go_wp2_with fail
  refine (know_From.calls k A_tv c_tv tv fv w11 (Kd.V_reads' Htv.out).2.2 (Kd.V_reads' Htv.out).2.1 g_fv.out).mono ?_
  rintro e w12 ⟨v, rfl, ho, hq⟩
  replace Hm := aK (Kd.V_below Hm.out hq)
  replace Hv1 := aK (Kd.V_below Hv1.out hq)
  replace HL1 := aK (Kd.V_below HL1.out hq)
  replace Hx := aK (Kd.V_below Hx.out hq)
  replace Hf1 := aK (Kd.V_below Hf1.out hq)
  replace Hb1 := aK (Kd.V_below Hb1.out hq)
  replace Htv := aK (Kd.V_below Htv.out hq)
  replace HB := aK (bS HB.out hq)
  replace ho : Kd.V k72 72 w12 0 (fun _ => True) v fv := Kd.V_mono (Kd.S_V ho) (fun _ _ => trivial)
  obtain ⟨A_fv, c_fv, rfl⟩ := Kd.V_slice ho
  have Hfv := aK ho
  clear ho
  clear hq
  clear Htv
  go_wp2_with fail
  refine (cenotaphlaw04_From.calls k A_fv c_fv fv lf w12 (Kd.V_reads' Hfv.out).2.2 (Kd.V_reads' Hfv.out).2.1 g_lf.out).mono ?_
  rintro e w13 ⟨v, rfl, ho, hq⟩
  replace Hm := aK (Kd.V_below Hm.out hq)
  replace Hv1 := aK (Kd.V_below Hv1.out hq)
  replace HL1 := aK (Kd.V_below HL1.out hq)
  replace Hx := aK (Kd.V_below Hx.out hq)
  replace Hf1 := aK (Kd.V_below Hf1.out hq)
  replace Hb1 := aK (Kd.V_below Hb1.out hq)
  replace Hfv := aK (Kd.V_below Hfv.out hq)
  replace HB := aK (bS HB.out hq)
  replace ho : Kd.V k61 61 w13 0 (fun _ => True) v lf := Kd.V_mono (Kd.S_V ho) (fun _ _ => trivial)
  obtain ⟨A_lf, c_lf, rfl⟩ := Kd.V_slice ho
  have Hlf := aK ho
  clear ho
  clear hq
  clear Hfv
  go_wp2_with fail
  refine (cenotaphref04_From.calls k A_v1 c_v1 v1 rv w13 (Kd.V_reads' Hv1.out).2.2 (Kd.V_reads' Hv1.out).2.1 g_rv.out).mono ?_
  rintro e w14 ⟨v, rfl, ho, hq⟩
  replace Hm := aK (Kd.V_below Hm.out hq)
  replace Hv1 := aK (Kd.V_below Hv1.out hq)
  replace HL1 := aK (Kd.V_below HL1.out hq)
  replace Hx := aK (Kd.V_below Hx.out hq)
  replace Hf1 := aK (Kd.V_below Hf1.out hq)
  replace Hb1 := aK (Kd.V_below Hb1.out hq)
  replace Hlf := aK (Kd.V_below Hlf.out hq)
  replace HB := aK (bS HB.out hq)
  replace ho : Kd.V k61 61 w14 0 (fun _ => True) v rv := Kd.V_mono (Kd.S_V ho) (fun _ _ => trivial)
  obtain ⟨A_rv, c_rv, rfl⟩ := Kd.V_slice ho
  have Hrv := aK ho
  clear ho
  clear hq
  clear Hv1
  go_wp2_with fail
  refine (cenotaphref04_Same.calls k A_lf c_lf lf A_rv c_rv rv true w14 (Kd.V_reads' Hlf.out).2.2 (Kd.V_reads' Hlf.out).2.1 (Kd.V_reads' Hrv.out).2.2 (Kd.V_reads' Hrv.out).2.1 d2.out).mono ?_
  rintro e w15 ⟨rfl, hq⟩
  replace Hm := aK (Kd.V_below Hm.out hq)
  replace HL1 := aK (Kd.V_below HL1.out hq)
  replace Hx := aK (Kd.V_below Hx.out hq)
  replace Hf1 := aK (Kd.V_below Hf1.out hq)
  replace Hb1 := aK (Kd.V_below Hb1.out hq)
  replace Hlf := aK (Kd.V_below Hlf.out hq)
  replace Hrv := aK (Kd.V_below Hrv.out hq)
  replace HB := aK (bS HB.out hq)
  clear hq
  clear Hlf
  clear Hrv
  go_wp2_with fail
  refine (cenotaphlaw01_To.calls k A_L1 c_L1 L1 tl w15 (Kd.V_reads' HL1.out).2.2 (Kd.V_reads' HL1.out).2.1 g_tl.out).mono ?_
  rintro e w16 ⟨v, rfl, ho, hq⟩
  replace Hm := aK (Kd.V_below Hm.out hq)
  replace HL1 := aK (Kd.V_below HL1.out hq)
  replace Hx := aK (Kd.V_below Hx.out hq)
  replace Hf1 := aK (Kd.V_below Hf1.out hq)
  replace Hb1 := aK (Kd.V_below Hb1.out hq)
  replace HB := aK (bS HB.out hq)
  replace ho : Kd.V Kd.string 51 w16 0 (fun _ => True) v tl := Kd.V_mono (Kd.R_V ho) (fun _ _ => trivial)
  obtain ⟨A_tl, c_tl, rfl⟩ := Kd.V_slice ho
  have Htl := aK ho
  clear ho
  clear hq
  go_wp2_with fail
  refine (know_Only.calls A_x c_x x A_tl c_tl tl on w16 (Kd.V_reads' Hx.out).2.2 (Kd.V_reads' Hx.out).2.1 (Kd.V_reads' Htl.out).2.2 (Kd.V_reads' Htl.out).2.1 g_on.out).mono ?_
  rintro e w17 ⟨v, rfl, ho, hq⟩
  replace Hm := aK (Kd.V_below Hm.out hq)
  replace HL1 := aK (Kd.V_below HL1.out hq)
  replace Hx := aK (Kd.V_below Hx.out hq)
  replace Hf1 := aK (Kd.V_below Hf1.out hq)
  replace Hb1 := aK (Kd.V_below Hb1.out hq)
  replace Htl := aK (Kd.V_below Htl.out hq)
  replace HB := aK (bS HB.out hq)
  replace ho : Kd.V k72 72 w17 0 (fun _ => True) v on := Kd.V_mono ho (fun _ _ => trivial)
  obtain ⟨A_on, c_on, rfl⟩ := Kd.V_slice ho
  have Hon := aK ho
  clear ho
  clear hq
  clear Htl
  go_wp2_with fail
  refine (cenotaphlaw04_From.calls k A_on c_on on lo w17 (Kd.V_reads' Hon.out).2.2 (Kd.V_reads' Hon.out).2.1 g_lo.out).mono ?_
  rintro e w18 ⟨v, rfl, ho, hq⟩
  replace Hm := aK (Kd.V_below Hm.out hq)
  replace HL1 := aK (Kd.V_below HL1.out hq)
  replace Hx := aK (Kd.V_below Hx.out hq)
  replace Hf1 := aK (Kd.V_below Hf1.out hq)
  replace Hb1 := aK (Kd.V_below Hb1.out hq)
  replace Hon := aK (Kd.V_below Hon.out hq)
  replace HB := aK (bS HB.out hq)
  replace ho : Kd.V k61 61 w18 0 (fun _ => True) v lo := Kd.V_mono (Kd.S_V ho) (fun _ _ => trivial)
  obtain ⟨A_lo, c_lo, rfl⟩ := Kd.V_slice ho
  have Hlo := aK ho
  clear ho
  clear hq
  clear Hon
  go_wp2_with fail
  refine (cenotaphref04_Only.calls k (fun _ => True) A_m c_m m A_L1 c_L1 L1 ro w18 Hm.out (Kd.V_reads' HL1.out).2.2 (Kd.V_reads' HL1.out).2.1 g_ro.out).mono ?_
  rintro e w19 ⟨v, rfl, ho, hq⟩
  replace Hm := aK (Kd.V_below Hm.out hq)
  replace HL1 := aK (Kd.V_below HL1.out hq)
  replace Hx := aK (Kd.V_below Hx.out hq)
  replace Hf1 := aK (Kd.V_below Hf1.out hq)
  replace Hb1 := aK (Kd.V_below Hb1.out hq)
  replace Hlo := aK (Kd.V_below Hlo.out hq)
  replace HB := aK (bS HB.out hq)
  replace ho : Kd.V k61 61 w19 0 (fun _ => True) v ro := Kd.V_mono (Kd.N_V ho) (fun _ _ => trivial)
  obtain ⟨A_ro, c_ro, rfl⟩ := Kd.V_slice ho
  have Hro := aK ho
  clear ho
  clear hq
  clear Hm
  clear HL1
  go_wp2_with fail
  refine (cenotaphref04_Same.calls k A_lo c_lo lo A_ro c_ro ro true w19 (Kd.V_reads' Hlo.out).2.2 (Kd.V_reads' Hlo.out).2.1 (Kd.V_reads' Hro.out).2.2 (Kd.V_reads' Hro.out).2.1 d3.out).mono ?_
  rintro e w20 ⟨rfl, hq⟩
  replace Hx := aK (Kd.V_below Hx.out hq)
  replace Hf1 := aK (Kd.V_below Hf1.out hq)
  replace Hb1 := aK (Kd.V_below Hb1.out hq)
  replace Hlo := aK (Kd.V_below Hlo.out hq)
  replace Hro := aK (Kd.V_below Hro.out hq)
  replace HB := aK (bS HB.out hq)
  clear hq
  clear Hlo
  clear Hro
  go_wp2_with fail
  refine (know_Within.calls k A_b1 c_b1 b1 A_x c_x x true w20 (Kd.V_reads' Hb1.out).2.2 (Kd.V_reads' Hb1.out).2.1 (Kd.V_reads' Hx.out).2.2 (Kd.V_reads' Hx.out).2.1 d4.out).mono ?_
  rintro e w21 ⟨rfl, hq⟩
  replace Hx := aK (Kd.V_below Hx.out hq)
  replace Hf1 := aK (Kd.V_below Hf1.out hq)
  replace Hb1 := aK (Kd.V_below Hb1.out hq)
  replace HB := aK (bS HB.out hq)
  clear hq
  go_wp2_with fail
  refine (know_Same.calls k A_b1 c_b1 b1 A_x c_x x sm w21 (Kd.V_reads' Hb1.out).2.2 (Kd.V_reads' Hb1.out).2.1 (Kd.V_reads' Hx.out).2.2 (Kd.V_reads' Hx.out).2.1 g_sm.out).mono ?_
  rintro e w22 ⟨rfl, hq⟩
  replace Hx := aK (Kd.V_below Hx.out hq)
  replace Hf1 := aK (Kd.V_below Hf1.out hq)
  replace Hb1 := aK (Kd.V_below Hb1.out hq)
  replace HB := aK (bS HB.out hq)
  clear hq
  go_wp2_with fail
  refine (know_Extras.calls k A_x c_x x ex w22 (Kd.V_reads' Hx.out).2.2 (Kd.V_reads' Hx.out).2.1 g_ex.out).mono ?_
  rintro e w23 ⟨rfl, hq⟩
  replace Hx := aK (Kd.V_below Hx.out hq)
  replace Hf1 := aK (Kd.V_below Hf1.out hq)
  replace Hb1 := aK (Kd.V_below Hb1.out hq)
  replace HB := aK (bS HB.out hq)
  clear hq
  clear Hx
  go_wp2_with fail
  refine (know_Firsts.calls k A_b1 c_b1 b1 f2 w23 (Kd.V_reads' Hb1.out).2.2 (Kd.V_reads' Hb1.out).2.1 g_f2.out).mono ?_
  rintro e w24 ⟨v, rfl, ho, hq⟩
  replace Hf1 := aK (Kd.V_below Hf1.out hq)
  replace Hb1 := aK (Kd.V_below Hb1.out hq)
  replace HB := aK (bS HB.out hq)
  replace ho : Kd.V k75 75 w24 0 (fun _ => True) v f2 := Kd.V_mono (Kd.R_V ho) (fun _ _ => trivial)
  obtain ⟨A_f2, c_f2, rfl⟩ := Kd.V_slice ho
  have Hf2 := aK ho
  clear ho
  clear hq
  clear Hb1
  go_wp2_with fail
  refine (cenotaphlaw03_From.calls k A_f2 c_f2 f2 fg w24 (Kd.V_reads' Hf2.out).2.2 (Kd.V_reads' Hf2.out).2.1 g_fg.out).mono ?_
  rintro e w25 ⟨v, rfl, ho, hq⟩
  replace Hf1 := aK (Kd.V_below Hf1.out hq)
  replace Hf2 := aK (Kd.V_below Hf2.out hq)
  replace HB := aK (bS HB.out hq)
  replace ho : Kd.V k65 65 w25 0 (fun _ => True) v fg := Kd.V_mono (Kd.R_V ho) (fun _ _ => trivial)
  obtain ⟨A_fg, c_fg, rfl⟩ := Kd.V_slice ho
  have Hfg := aK ho
  clear ho
  clear hq
  clear Hf2
  go_wp2_with fail
  refine (cenotaphlaw03_From.calls k A_f1 c_f1 f1 ff w25 (Kd.V_reads' Hf1.out).2.2 (Kd.V_reads' Hf1.out).2.1 g_ff.out).mono ?_
  rintro e w26 ⟨v, rfl, ho, hq⟩
  replace Hf1 := aK (Kd.V_below Hf1.out hq)
  replace Hfg := aK (Kd.V_below Hfg.out hq)
  replace HB := aK (bS HB.out hq)
  replace ho : Kd.V k65 65 w26 0 (fun _ => True) v ff := Kd.V_mono (Kd.R_V ho) (fun _ _ => trivial)
  obtain ⟨A_ff, c_ff, rfl⟩ := Kd.V_slice ho
  have Hff := aK ho
  clear ho
  clear hq
  clear Hf1
  go_wp2_with fail
  refine (cenotaphref03_Same.calls k A_fg c_fg fg A_ff c_ff ff true w26 (Kd.V_reads' Hfg.out).2.2 (Kd.V_reads' Hfg.out).2.1 (Kd.V_reads' Hff.out).2.2 (Kd.V_reads' Hff.out).2.1 d5.out).mono ?_
  rintro e w27 ⟨rfl, hq⟩
  replace hq := hq.below
  replace Hfg := aK (Kd.V_below Hfg.out hq)
  replace Hff := aK (Kd.V_below Hff.out hq)
  replace HB := aK (bS HB.out hq)
  clear hq
  go_wp2_with fail
  all_goals (go_ret; exact ⟨rfl, HB.out⟩)
 ·have q1 := eq_false (show ¬ (12 : Int) < (l2.length : Int) by omega)
  have q2 := eq_false h12
  rw [show min l2.length 12 = l2.length by omega] at g_L1
  have hcut := cut_to (P := Tryz.prog) 24 9 .i64 Tryz.underlying24 hi1 A2 l2.length c2 ((l2.length : Int) : Int) (by omega) (by omega) Hl2.out.1
  rw [show ((l2.length : Int) : Int).toNat = l2.length from Int.toNat_natCast _] at hcut
  have hct := Kd.C_take Hl2.out.2 (show l2.length ≤ l2.length by omega)
  have hctl : (l2.take l2.length).length = l2.length := by rw [List.length_take]; omega
  rw [hctl] at hct
  have HCT := aK hct
  have HCL := aK hctl
  clear hct hctl
  go_wp2_with fail
  rw [show (Value.slice A2 l2.length c2) = .slice A2 (l2.take l2.length).length c2 by rw [HCL.out]]
  refine (cenotaphref01_Union.calls k A2 c2 (l2.take l2.length) none 0 [] L1 w2 (by rw [HCL.out]; exact HCT.out) (by rw [HCL.out]; have := Hl2.out.1; omega) (Kd.C_nil _ _) (Nat.le_refl _) g_L1.out).mono ?_
  rintro e w3 ⟨v, rfl, ho, hq⟩
  clear HCT hcut
  clear Hl2
  replace Hm := aK (Kd.V_below Hm.out hq)
  replace Hv1 := aK (Kd.V_below Hv1.out hq)
  replace HB := aK (bS HB.out hq)
  replace ho : Kd.V Kd.string 9 w3 0 (fun _ => True) v L1 := Kd.V_mono (Kd.R_V ho) (fun _ _ => trivial)
  obtain ⟨A_L1, c_L1, rfl⟩ := Kd.V_slice ho
  have HL1 := aK ho
  clear ho hq
  go_wp2_with fail
  refine (cenotaphlaw04_To.calls k A_m c_m m x w3 (Kd.V_reads' Hm.out).2.2 (Kd.V_reads' Hm.out).2.1 g_x.out).mono ?_
  rintro e w4 ⟨v, rfl, ho, hq⟩
  replace Hm := aK (Kd.V_below Hm.out hq)
  replace Hv1 := aK (Kd.V_below Hv1.out hq)
  replace HL1 := aK (Kd.V_below HL1.out hq)
  replace HB := aK (bS HB.out hq)
  replace ho : Kd.V k72 72 w4 0 (fun _ => True) v x := Kd.V_mono (Kd.S_V ho) (fun _ _ => trivial)
  obtain ⟨A_x, c_x, rfl⟩ := Kd.V_slice ho
  have Hx := aK ho
  clear ho
  clear hq
  go_wp2_with fail
  refine (know_Firsts.calls k A_x c_x x f1 w4 (Kd.V_reads' Hx.out).2.2 (Kd.V_reads' Hx.out).2.1 g_f1.out).mono ?_
  rintro e w5 ⟨v, rfl, ho, hq⟩
  replace Hm := aK (Kd.V_below Hm.out hq)
  replace Hv1 := aK (Kd.V_below Hv1.out hq)
  replace HL1 := aK (Kd.V_below HL1.out hq)
  replace Hx := aK (Kd.V_below Hx.out hq)
  replace HB := aK (bS HB.out hq)
  replace ho : Kd.V k75 75 w5 0 (fun _ => True) v f1 := Kd.V_mono (Kd.R_V ho) (fun _ _ => trivial)
  obtain ⟨A_f1, c_f1, rfl⟩ := Kd.V_slice ho
  have Hf1 := aK ho
  clear ho
  clear hq
  go_wp2_with fail
  refine (know_From.calls k A_f1 c_f1 f1 b1 w5 (Kd.V_reads' Hf1.out).2.2 (Kd.V_reads' Hf1.out).2.1 g_b1.out).mono ?_
  rintro e w6 ⟨v, rfl, ho, hq⟩
  replace Hm := aK (Kd.V_below Hm.out hq)
  replace Hv1 := aK (Kd.V_below Hv1.out hq)
  replace HL1 := aK (Kd.V_below HL1.out hq)
  replace Hx := aK (Kd.V_below Hx.out hq)
  replace Hf1 := aK (Kd.V_below Hf1.out hq)
  replace HB := aK (bS HB.out hq)
  replace ho : Kd.V k72 72 w6 0 (fun _ => True) v b1 := Kd.V_mono (Kd.S_V ho) (fun _ _ => trivial)
  obtain ⟨A_b1, c_b1, rfl⟩ := Kd.V_slice ho
  have Hb1 := aK ho
  clear ho
  clear hq
  go_wp2_with fail
  refine (cenotaphlaw04_told.calls k  true w6  d0.out).mono ?_
  rintro e w7 ⟨rfl, hq⟩
  replace Hm := aK (Kd.V_below Hm.out hq)
  replace Hv1 := aK (Kd.V_below Hv1.out hq)
  replace HL1 := aK (Kd.V_below HL1.out hq)
  replace Hx := aK (Kd.V_below Hx.out hq)
  replace Hf1 := aK (Kd.V_below Hf1.out hq)
  replace Hb1 := aK (Kd.V_below Hb1.out hq)
  replace HB := aK (bS HB.out hq)
  clear hq
  go_wp2_with fail
  refine (cenotaphlaw03_From.calls k A_f1 c_f1 f1 ff w7 (Kd.V_reads' Hf1.out).2.2 (Kd.V_reads' Hf1.out).2.1 g_ff.out).mono ?_
  rintro e w8 ⟨v, rfl, ho, hq⟩
  replace Hm := aK (Kd.V_below Hm.out hq)
  replace Hv1 := aK (Kd.V_below Hv1.out hq)
  replace HL1 := aK (Kd.V_below HL1.out hq)
  replace Hx := aK (Kd.V_below Hx.out hq)
  replace Hf1 := aK (Kd.V_below Hf1.out hq)
  replace Hb1 := aK (Kd.V_below Hb1.out hq)
  replace HB := aK (bS HB.out hq)
  replace ho : Kd.V k65 65 w8 0 (fun _ => True) v ff := Kd.V_mono (Kd.R_V ho) (fun _ _ => trivial)
  obtain ⟨A_ff, c_ff, rfl⟩ := Kd.V_slice ho
  have Hff := aK ho
  clear ho
  clear hq
  go_wp2_with fail
  refine (cenotaphref04_Firsts.calls k A_m c_m m rf w8 (Kd.V_reads' Hm.out).2.2 (Kd.V_reads' Hm.out).2.1 g_rf.out).mono ?_
  rintro e w9 ⟨v, rfl, ho, hq⟩
  replace Hm := aK (Kd.V_below Hm.out hq)
  replace Hv1 := aK (Kd.V_below Hv1.out hq)
  replace HL1 := aK (Kd.V_below HL1.out hq)
  replace Hx := aK (Kd.V_below Hx.out hq)
  replace Hf1 := aK (Kd.V_below Hf1.out hq)
  replace Hb1 := aK (Kd.V_below Hb1.out hq)
  replace Hff := aK (Kd.V_below Hff.out hq)
  replace HB := aK (bS HB.out hq)
  replace ho : Kd.V k65 65 w9 0 (fun _ => True) v rf := Kd.V_mono (Kd.R_V ho) (fun _ _ => trivial)
  obtain ⟨A_rf, c_rf, rfl⟩ := Kd.V_slice ho
  have Hrf := aK ho
  clear ho
  clear hq
  go_wp2_with fail
  refine (cenotaphref03_Same.calls k A_ff c_ff ff A_rf c_rf rf true w9 (Kd.V_reads' Hff.out).2.2 (Kd.V_reads' Hff.out).2.1 (Kd.V_reads' Hrf.out).2.2 (Kd.V_reads' Hrf.out).2.1 d1.out).mono ?_
  rintro e w10 ⟨rfl, hq⟩
  replace hq := hq.below
  replace Hm := aK (Kd.V_below Hm.out hq)
  replace Hv1 := aK (Kd.V_below Hv1.out hq)
  replace HL1 := aK (Kd.V_below HL1.out hq)
  replace Hx := aK (Kd.V_below Hx.out hq)
  replace Hf1 := aK (Kd.V_below Hf1.out hq)
  replace Hb1 := aK (Kd.V_below Hb1.out hq)
  replace Hff := aK (Kd.V_below Hff.out hq)
  replace Hrf := aK (Kd.V_below Hrf.out hq)
  replace HB := aK (bS HB.out hq)
  clear hq
  clear Hff
  clear Hrf
  go_wp2_with fail
  refine (cenotaphlaw03_To.calls k A_v1 c_v1 v1 tv w10 (Kd.V_reads' Hv1.out).2.2 (Kd.V_reads' Hv1.out).2.1 g_tv.out).mono ?_
  rintro e w11 ⟨v, rfl, ho, hq⟩
  replace Hm := aK (Kd.V_below Hm.out hq)
  replace Hv1 := aK (Kd.V_below Hv1.out hq)
  replace HL1 := aK (Kd.V_below HL1.out hq)
  replace Hx := aK (Kd.V_below Hx.out hq)
  replace Hf1 := aK (Kd.V_below Hf1.out hq)
  replace Hb1 := aK (Kd.V_below Hb1.out hq)
  replace HB := aK (bS HB.out hq)
  replace ho : Kd.V k75 75 w11 0 (fun _ => True) v tv := Kd.V_mono (Kd.R_V ho) (fun _ _ => trivial)
  obtain ⟨A_tv, c_tv, rfl⟩ := Kd.V_slice ho
  have Htv := aK ho
  clear ho
  clear hq
  go_wp2_with fail
  refine (know_From.calls k A_tv c_tv tv fv w11 (Kd.V_reads' Htv.out).2.2 (Kd.V_reads' Htv.out).2.1 g_fv.out).mono ?_
  rintro e w12 ⟨v, rfl, ho, hq⟩
  replace Hm := aK (Kd.V_below Hm.out hq)
  replace Hv1 := aK (Kd.V_below Hv1.out hq)
  replace HL1 := aK (Kd.V_below HL1.out hq)
  replace Hx := aK (Kd.V_below Hx.out hq)
  replace Hf1 := aK (Kd.V_below Hf1.out hq)
  replace Hb1 := aK (Kd.V_below Hb1.out hq)
  replace Htv := aK (Kd.V_below Htv.out hq)
  replace HB := aK (bS HB.out hq)
  replace ho : Kd.V k72 72 w12 0 (fun _ => True) v fv := Kd.V_mono (Kd.S_V ho) (fun _ _ => trivial)
  obtain ⟨A_fv, c_fv, rfl⟩ := Kd.V_slice ho
  have Hfv := aK ho
  clear ho
  clear hq
  clear Htv
  go_wp2_with fail
  refine (cenotaphlaw04_From.calls k A_fv c_fv fv lf w12 (Kd.V_reads' Hfv.out).2.2 (Kd.V_reads' Hfv.out).2.1 g_lf.out).mono ?_
  rintro e w13 ⟨v, rfl, ho, hq⟩
  replace Hm := aK (Kd.V_below Hm.out hq)
  replace Hv1 := aK (Kd.V_below Hv1.out hq)
  replace HL1 := aK (Kd.V_below HL1.out hq)
  replace Hx := aK (Kd.V_below Hx.out hq)
  replace Hf1 := aK (Kd.V_below Hf1.out hq)
  replace Hb1 := aK (Kd.V_below Hb1.out hq)
  replace Hfv := aK (Kd.V_below Hfv.out hq)
  replace HB := aK (bS HB.out hq)
  replace ho : Kd.V k61 61 w13 0 (fun _ => True) v lf := Kd.V_mono (Kd.S_V ho) (fun _ _ => trivial)
  obtain ⟨A_lf, c_lf, rfl⟩ := Kd.V_slice ho
  have Hlf := aK ho
  clear ho
  clear hq
  clear Hfv
  go_wp2_with fail
  refine (cenotaphref04_From.calls k A_v1 c_v1 v1 rv w13 (Kd.V_reads' Hv1.out).2.2 (Kd.V_reads' Hv1.out).2.1 g_rv.out).mono ?_
  rintro e w14 ⟨v, rfl, ho, hq⟩
  replace Hm := aK (Kd.V_below Hm.out hq)
  replace Hv1 := aK (Kd.V_below Hv1.out hq)
  replace HL1 := aK (Kd.V_below HL1.out hq)
  replace Hx := aK (Kd.V_below Hx.out hq)
  replace Hf1 := aK (Kd.V_below Hf1.out hq)
  replace Hb1 := aK (Kd.V_below Hb1.out hq)
  replace Hlf := aK (Kd.V_below Hlf.out hq)
  replace HB := aK (bS HB.out hq)
  replace ho : Kd.V k61 61 w14 0 (fun _ => True) v rv := Kd.V_mono (Kd.S_V ho) (fun _ _ => trivial)
  obtain ⟨A_rv, c_rv, rfl⟩ := Kd.V_slice ho
  have Hrv := aK ho
  clear ho
  clear hq
  clear Hv1
  go_wp2_with fail
  refine (cenotaphref04_Same.calls k A_lf c_lf lf A_rv c_rv rv true w14 (Kd.V_reads' Hlf.out).2.2 (Kd.V_reads' Hlf.out).2.1 (Kd.V_reads' Hrv.out).2.2 (Kd.V_reads' Hrv.out).2.1 d2.out).mono ?_
  rintro e w15 ⟨rfl, hq⟩
  replace Hm := aK (Kd.V_below Hm.out hq)
  replace HL1 := aK (Kd.V_below HL1.out hq)
  replace Hx := aK (Kd.V_below Hx.out hq)
  replace Hf1 := aK (Kd.V_below Hf1.out hq)
  replace Hb1 := aK (Kd.V_below Hb1.out hq)
  replace Hlf := aK (Kd.V_below Hlf.out hq)
  replace Hrv := aK (Kd.V_below Hrv.out hq)
  replace HB := aK (bS HB.out hq)
  clear hq
  clear Hlf
  clear Hrv
  go_wp2_with fail
  refine (cenotaphlaw01_To.calls k A_L1 c_L1 L1 tl w15 (Kd.V_reads' HL1.out).2.2 (Kd.V_reads' HL1.out).2.1 g_tl.out).mono ?_
  rintro e w16 ⟨v, rfl, ho, hq⟩
  replace Hm := aK (Kd.V_below Hm.out hq)
  replace HL1 := aK (Kd.V_below HL1.out hq)
  replace Hx := aK (Kd.V_below Hx.out hq)
  replace Hf1 := aK (Kd.V_below Hf1.out hq)
  replace Hb1 := aK (Kd.V_below Hb1.out hq)
  replace HB := aK (bS HB.out hq)
  replace ho : Kd.V Kd.string 51 w16 0 (fun _ => True) v tl := Kd.V_mono (Kd.R_V ho) (fun _ _ => trivial)
  obtain ⟨A_tl, c_tl, rfl⟩ := Kd.V_slice ho
  have Htl := aK ho
  clear ho
  clear hq
  go_wp2_with fail
  refine (know_Only.calls A_x c_x x A_tl c_tl tl on w16 (Kd.V_reads' Hx.out).2.2 (Kd.V_reads' Hx.out).2.1 (Kd.V_reads' Htl.out).2.2 (Kd.V_reads' Htl.out).2.1 g_on.out).mono ?_
  rintro e w17 ⟨v, rfl, ho, hq⟩
  replace Hm := aK (Kd.V_below Hm.out hq)
  replace HL1 := aK (Kd.V_below HL1.out hq)
  replace Hx := aK (Kd.V_below Hx.out hq)
  replace Hf1 := aK (Kd.V_below Hf1.out hq)
  replace Hb1 := aK (Kd.V_below Hb1.out hq)
  replace Htl := aK (Kd.V_below Htl.out hq)
  replace HB := aK (bS HB.out hq)
  replace ho : Kd.V k72 72 w17 0 (fun _ => True) v on := Kd.V_mono ho (fun _ _ => trivial)
  obtain ⟨A_on, c_on, rfl⟩ := Kd.V_slice ho
  have Hon := aK ho
  clear ho
  clear hq
  clear Htl
  go_wp2_with fail
  refine (cenotaphlaw04_From.calls k A_on c_on on lo w17 (Kd.V_reads' Hon.out).2.2 (Kd.V_reads' Hon.out).2.1 g_lo.out).mono ?_
  rintro e w18 ⟨v, rfl, ho, hq⟩
  replace Hm := aK (Kd.V_below Hm.out hq)
  replace HL1 := aK (Kd.V_below HL1.out hq)
  replace Hx := aK (Kd.V_below Hx.out hq)
  replace Hf1 := aK (Kd.V_below Hf1.out hq)
  replace Hb1 := aK (Kd.V_below Hb1.out hq)
  replace Hon := aK (Kd.V_below Hon.out hq)
  replace HB := aK (bS HB.out hq)
  replace ho : Kd.V k61 61 w18 0 (fun _ => True) v lo := Kd.V_mono (Kd.S_V ho) (fun _ _ => trivial)
  obtain ⟨A_lo, c_lo, rfl⟩ := Kd.V_slice ho
  have Hlo := aK ho
  clear ho
  clear hq
  clear Hon
  go_wp2_with fail
  refine (cenotaphref04_Only.calls k (fun _ => True) A_m c_m m A_L1 c_L1 L1 ro w18 Hm.out (Kd.V_reads' HL1.out).2.2 (Kd.V_reads' HL1.out).2.1 g_ro.out).mono ?_
  rintro e w19 ⟨v, rfl, ho, hq⟩
  replace Hm := aK (Kd.V_below Hm.out hq)
  replace HL1 := aK (Kd.V_below HL1.out hq)
  replace Hx := aK (Kd.V_below Hx.out hq)
  replace Hf1 := aK (Kd.V_below Hf1.out hq)
  replace Hb1 := aK (Kd.V_below Hb1.out hq)
  replace Hlo := aK (Kd.V_below Hlo.out hq)
  replace HB := aK (bS HB.out hq)
  replace ho : Kd.V k61 61 w19 0 (fun _ => True) v ro := Kd.V_mono (Kd.N_V ho) (fun _ _ => trivial)
  obtain ⟨A_ro, c_ro, rfl⟩ := Kd.V_slice ho
  have Hro := aK ho
  clear ho
  clear hq
  clear Hm
  clear HL1
  go_wp2_with fail
  refine (cenotaphref04_Same.calls k A_lo c_lo lo A_ro c_ro ro true w19 (Kd.V_reads' Hlo.out).2.2 (Kd.V_reads' Hlo.out).2.1 (Kd.V_reads' Hro.out).2.2 (Kd.V_reads' Hro.out).2.1 d3.out).mono ?_
  rintro e w20 ⟨rfl, hq⟩
  replace Hx := aK (Kd.V_below Hx.out hq)
  replace Hf1 := aK (Kd.V_below Hf1.out hq)
  replace Hb1 := aK (Kd.V_below Hb1.out hq)
  replace Hlo := aK (Kd.V_below Hlo.out hq)
  replace Hro := aK (Kd.V_below Hro.out hq)
  replace HB := aK (bS HB.out hq)
  clear hq
  clear Hlo
  clear Hro
  go_wp2_with fail
  refine (know_Within.calls k A_b1 c_b1 b1 A_x c_x x true w20 (Kd.V_reads' Hb1.out).2.2 (Kd.V_reads' Hb1.out).2.1 (Kd.V_reads' Hx.out).2.2 (Kd.V_reads' Hx.out).2.1 d4.out).mono ?_
  rintro e w21 ⟨rfl, hq⟩
  replace Hx := aK (Kd.V_below Hx.out hq)
  replace Hf1 := aK (Kd.V_below Hf1.out hq)
  replace Hb1 := aK (Kd.V_below Hb1.out hq)
  replace HB := aK (bS HB.out hq)
  clear hq
  go_wp2_with fail
  refine (know_Same.calls k A_b1 c_b1 b1 A_x c_x x sm w21 (Kd.V_reads' Hb1.out).2.2 (Kd.V_reads' Hb1.out).2.1 (Kd.V_reads' Hx.out).2.2 (Kd.V_reads' Hx.out).2.1 g_sm.out).mono ?_
  rintro e w22 ⟨rfl, hq⟩
  replace Hx := aK (Kd.V_below Hx.out hq)
  replace Hf1 := aK (Kd.V_below Hf1.out hq)
  replace Hb1 := aK (Kd.V_below Hb1.out hq)
  replace HB := aK (bS HB.out hq)
  clear hq
  go_wp2_with fail
  refine (know_Extras.calls k A_x c_x x ex w22 (Kd.V_reads' Hx.out).2.2 (Kd.V_reads' Hx.out).2.1 g_ex.out).mono ?_
  rintro e w23 ⟨rfl, hq⟩
  replace Hx := aK (Kd.V_below Hx.out hq)
  replace Hf1 := aK (Kd.V_below Hf1.out hq)
  replace Hb1 := aK (Kd.V_below Hb1.out hq)
  replace HB := aK (bS HB.out hq)
  clear hq
  clear Hx
  go_wp2_with fail
  refine (know_Firsts.calls k A_b1 c_b1 b1 f2 w23 (Kd.V_reads' Hb1.out).2.2 (Kd.V_reads' Hb1.out).2.1 g_f2.out).mono ?_
  rintro e w24 ⟨v, rfl, ho, hq⟩
  replace Hf1 := aK (Kd.V_below Hf1.out hq)
  replace Hb1 := aK (Kd.V_below Hb1.out hq)
  replace HB := aK (bS HB.out hq)
  replace ho : Kd.V k75 75 w24 0 (fun _ => True) v f2 := Kd.V_mono (Kd.R_V ho) (fun _ _ => trivial)
  obtain ⟨A_f2, c_f2, rfl⟩ := Kd.V_slice ho
  have Hf2 := aK ho
  clear ho
  clear hq
  clear Hb1
  go_wp2_with fail
  refine (cenotaphlaw03_From.calls k A_f2 c_f2 f2 fg w24 (Kd.V_reads' Hf2.out).2.2 (Kd.V_reads' Hf2.out).2.1 g_fg.out).mono ?_
  rintro e w25 ⟨v, rfl, ho, hq⟩
  replace Hf1 := aK (Kd.V_below Hf1.out hq)
  replace Hf2 := aK (Kd.V_below Hf2.out hq)
  replace HB := aK (bS HB.out hq)
  replace ho : Kd.V k65 65 w25 0 (fun _ => True) v fg := Kd.V_mono (Kd.R_V ho) (fun _ _ => trivial)
  obtain ⟨A_fg, c_fg, rfl⟩ := Kd.V_slice ho
  have Hfg := aK ho
  clear ho
  clear hq
  clear Hf2
  go_wp2_with fail
  refine (cenotaphlaw03_From.calls k A_f1 c_f1 f1 ff w25 (Kd.V_reads' Hf1.out).2.2 (Kd.V_reads' Hf1.out).2.1 g_ff.out).mono ?_
  rintro e w26 ⟨v, rfl, ho, hq⟩
  replace Hf1 := aK (Kd.V_below Hf1.out hq)
  replace Hfg := aK (Kd.V_below Hfg.out hq)
  replace HB := aK (bS HB.out hq)
  replace ho : Kd.V k65 65 w26 0 (fun _ => True) v ff := Kd.V_mono (Kd.R_V ho) (fun _ _ => trivial)
  obtain ⟨A_ff, c_ff, rfl⟩ := Kd.V_slice ho
  have Hff := aK ho
  clear ho
  clear hq
  clear Hf1
  go_wp2_with fail
  refine (cenotaphref03_Same.calls k A_fg c_fg fg A_ff c_ff ff true w26 (Kd.V_reads' Hfg.out).2.2 (Kd.V_reads' Hfg.out).2.1 (Kd.V_reads' Hff.out).2.2 (Kd.V_reads' Hff.out).2.1 d5.out).mono ?_
  rintro e w27 ⟨rfl, hq⟩
  replace hq := hq.below
  replace Hfg := aK (Kd.V_below Hfg.out hq)
  replace Hff := aK (Kd.V_below Hff.out hq)
  replace HB := aK (bS HB.out hq)
  clear hq
  go_wp2_with fail
  all_goals (go_ret; exact ⟨rfl, HB.out⟩)
end Go.Proofs.YtkfehkaiifjkmaaGreat.P
