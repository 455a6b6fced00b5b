import Derived.Test.YtkfehkaiifjkmaaGreatP0
import Derived.Test.YtkfehkaiifjkmaaGreatP2
import Derived.Test.YtkfehkaiifjkmaaGreatP3
namespace Go.Proofs.YtkfehkaiifjkmaaGreat.P
open Go.RowKit Go.Proofs.YtkfehkaiifjkmaaGreatW.PrintWords Go.Proofs.YtkfehkaiifjkmaaGreatW.PrintLast Go.Proofs.YtkfehkaiifjkmaaGreatW.PrintMore
set_option maxHeartbeats 8000000
set_option maxRecDepth 100000
attribute [local go_sem] max2_int min2_int max_two min_two max_three min_three max_four min_four
set_option linter.unusedVariables false
set_option linter.unusedSimpArgs false
theorem zq7_0 {p_ : Prop} (h_ : p_ := by repeat (first | (with_reducible first | exact HB.out | apply bA | apply pB | apply bW) | exact HB.out)) : p_ := h_
theorem zq7_1 {p_ : Prop} (h_ : p_ := by first | (with_reducible assumption) | assumption) : p_ := h_
theorem zq7_2 {p_ : Prop} (h_ : p_ := by first | rfl | (simp; done) | (simp [*]; done)) : p_ := h_
mutual
def cenotaphref01_Union.l0 : Nat → List ByteArray → List ByteArray → Int → Option (List ByteArray)
 | 0, _, _, _ => none
 | k + 1, x5, x6, x7 => if x7 < (x6.length : Int) then (if 0 ≤ x7 then ((cenotaphref01_Has.f k x5 (rdOf ByteArray.empty x6 x7)).bind fun t206 => (if t206 = true then (cenotaphref01_Union.l0 k x5 x6 (wrap64 (x7 + 1))) else (if x5.length < 8796093022208 then ((some (x5 ++ [rdOf ByteArray.empty x6 x7] : List ByteArray)).bind fun y208 => (cenotaphref01_Union.l1 k y208 x6 x7 (wrap64 ((y208.length : Int) - 1)))) else (none)))) else (none)) else (some x5)
def cenotaphref01_Union.l1 : Nat → List ByteArray → List ByteArray → Int → Int → Option (List ByteArray)
 | 0, _, _, _, _ => none
 | k + 1, x5, x6, x7, x8 => if x8 > 0 then (if 0 ≤ (wrap64 (x8 - 1)) then (if (wrap64 (x8 - 1)) < (x5.length : Int) then (if 0 ≤ x8 then (if x8 < (x5.length : Int) then ((cenotaphref01_Compare.f k (rdOf ByteArray.empty x5 (wrap64 (x8 - 1))) (rdOf ByteArray.empty x5 x8)).bind fun t213 => (if t213 > 0 then (cenotaphref01_Union.l1 k ((x5.set ((wrap64 (x8 - 1)) : Int).toNat (rdOf ByteArray.empty x5 x8)).set (x8 : Int).toNat (rdOf ByteArray.empty x5 (wrap64 (x8 - 1)))) x6 x7 (wrap64 (x8 - 1))) else (cenotaphref01_Union.l0 k x5 x6 (wrap64 (x7 + 1))))) else (none)) else (none)) else (none)) else (none)) else (cenotaphref01_Union.l0 k x5 x6 (wrap64 (x7 + 1)))
end
def cenotaphref01_Union.f (k : Nat) (l0 : List ByteArray) (l1 : List ByteArray) : Option (List ByteArray) := (some (([] : List ByteArray) : List ByteArray)).bind fun y196 => (if y196.length + l0.length < 8796093022208 then ((some (y196 ++ l0 : List ByteArray)).bind fun y199 => (if y199.length + l1.length < 8796093022208 then (cenotaphref01_Union.l0 k ([] : List ByteArray) (y199 ++ l1) 0) else (none))) else (none))
theorem cenotaphref01_Union.mono_l : ∀ k, (∀ y0 y1 y2, LeO (cenotaphref01_Union.l0 k y0 y1 y2) (cenotaphref01_Union.l0 (k + 1) y0 y1 y2)) ∧ (∀ y0 y1 y2 y3, LeO (cenotaphref01_Union.l1 k y0 y1 y2 y3) (cenotaphref01_Union.l1 (k + 1) y0 y1 y2 y3))
 | 0 => ⟨fun _ _ _ r h => by simp [cenotaphref01_Union.l0] at h, fun _ _ _ _ r h => by simp [cenotaphref01_Union.l1] at h⟩
 | k + 1 => by
  obtain ⟨ih0, ih1⟩ := cenotaphref01_Union.mono_l k
  refine ⟨?_, ?_⟩
  ·intro y0 y1 y2
   unfold cenotaphref01_Union.l0
   repeat' first
   | (with_reducible exact ih0 _ _ _)
   | (with_reducible exact ih1 _ _ _ _)
   | (with_reducible exact cenotaphref01_Compare.mono _ _ _)
   | (with_reducible exact cenotaphref01_Has.mono _ _ _)
   | (with_reducible exact LeO.refl _)
   | (with_reducible exact LeO.none _)
   | (with_reducible refine LeO.ite ?_ ?_)
   | (with_reducible refine LeO.bind ?_ (fun _ => ?_))
   | exact ih0 _ _ _
   | exact ih1 _ _ _ _
   | exact cenotaphref01_Compare.mono _ _ _
   | exact cenotaphref01_Has.mono _ _ _
   | exact LeO.none _
   | refine LeO.ite ?_ ?_
   | refine LeO.bind ?_ (fun _ => ?_)
  ·intro y0 y1 y2 y3
   unfold cenotaphref01_Union.l1
   repeat' first
   | (with_reducible exact ih0 _ _ _)
   | (with_reducible exact ih1 _ _ _ _)
   | (with_reducible exact cenotaphref01_Compare.mono _ _ _)
   | (with_reducible exact cenotaphref01_Has.mono _ _ _)
   | (with_reducible exact LeO.refl _)
   | (with_reducible exact LeO.none _)
   | (with_reducible refine LeO.ite ?_ ?_)
   | (with_reducible refine LeO.bind ?_ (fun _ => ?_))
   | exact ih0 _ _ _
   | exact ih1 _ _ _ _
   | exact cenotaphref01_Compare.mono _ _ _
   | exact cenotaphref01_Has.mono _ _ _
   | exact LeO.none _
   | refine LeO.ite ?_ ?_
   | refine LeO.bind ?_ (fun _ => ?_)
theorem cenotaphref01_Union.mono : ∀ a0 a1 k, LeO (cenotaphref01_Union.f k a0 a1) (cenotaphref01_Union.f (k + 1) a0 a1) := by
 intro a0 a1 k
 obtain ⟨ih0, ih1⟩ := cenotaphref01_Union.mono_l k
 unfold cenotaphref01_Union.f
 repeat' first
   | (with_reducible exact ih0 _ _ _)
   | (with_reducible exact ih1 _ _ _ _)
   | (with_reducible exact cenotaphref01_Compare.mono _ _ _)
   | (with_reducible exact cenotaphref01_Has.mono _ _ _)
   | (with_reducible exact LeO.refl _)
   | (with_reducible exact LeO.none _)
   | (with_reducible refine LeO.ite ?_ ?_)
   | (with_reducible refine LeO.bind ?_ (fun _ => ?_))
   | exact ih0 _ _ _
   | exact ih1 _ _ _ _
   | exact cenotaphref01_Compare.mono _ _ _
   | exact cenotaphref01_Has.mono _ _ _
   | exact LeO.none _
   | refine LeO.ite ?_ ?_
   | refine LeO.bind ?_ (fun _ => ?_)
def cenotaphref01_Union.T9 : Bool × List (List Nat × List Nat) := (true, [([], []), ([0], [0]), ([1], [1]), ([2], [2]), ([2], [2]), ([4, 2], [2, 4]), ([3, 5, 2], [2, 3, 5]), ([6, 2], [2, 6]), ([2], [2]), ([2], [2]), ([8, 9, 2], [2, 8, 9]), ([10, 2], [2, 10]), ([7, 11, 2, 2], [2, 7, 11]), ([12, 2], [2, 12]), ([2, 13], [2, 13])])
def cenotaphref01_Union.B9 : List Nat := [0, 1, 3, 7, 7, 23, 63, 127, 7, 7, 775, 1799, 4095, 8191, 16383]
theorem cenotaphref01_Union.tab9 : rtab .any (opsOf Tryz.f7 9) = cenotaphref01_Union.T9 := by kernel_rfl
theorem cenotaphref01_Union.bits9 : waitsOk cenotaphref01_Union.T9.2 cenotaphref01_Union.B9 = true := by kernel_rfl
def cenotaphref01_Union.T11 : Bool × List (List Nat × List Nat) := (true, [([], []), ([], []), ([1], [1]), ([], []), ([], []), ([], []), ([], []), ([5, 6], [5, 6]), ([7], [7]), ([], []), ([], []), ([10], [10]), ([9, 11], [9, 11]), ([12], [12]), ([0, 2, 0, 1, 2, 5, 6, 7, 8, 13], [0, 2]), ([14, 8, 0, 1, 2, 5, 6, 7, 8, 13], [8, 14]), ([3, 4, 0, 1, 2, 3, 4, 5, 6, 7, 8, 9, 10, 11, 12, 13, 14, 15], [3, 4]), ([16, 13, 15, 0, 1, 2, 3, 4, 5, 6, 7, 8, 9, 10, 11, 12, 13, 14, 15], [13, 16])])
def cenotaphref01_Union.B11 : List Nat := [0, 0, 2, 0, 0, 0, 0, 96, 224, 0, 0, 1024, 3584, 7680, 16359, 32743, 65535, 131071]
theorem cenotaphref01_Union.tab11 : rtab .any (opsOf Tryz.f7 11) = cenotaphref01_Union.T11 := by kernel_rfl
theorem cenotaphref01_Union.bits11 : waitsOk cenotaphref01_Union.T11.2 cenotaphref01_Union.B11 = true := by kernel_rfl
theorem cenotaphref01_Union.calls (k : Nat) (A0 : Option Addr) (c0 : Nat) (l0 : List ByteArray) (A1 : Option Addr) (c1 : Nat) (l1 : List ByteArray) (r : List ByteArray) (w : World) (hr0 : Kd.C Kd.string w A0 l0.length l0) (hc0 : l0.length ≤ c0) (hr1 : Kd.C Kd.string w A1 l1.length l1) (hc1 : l1.length ≤ c1) (h : cenotaphref01_Union.f k l0 l1 = some r) :
  Calls Tryz.prog 7 #[.slice A0 l0.length c0, .slice A1 l1.length c1] w fun e w' => ∃ v0_ : Value, e = .returned (v0_) ∧ Kd.R Kd.string 9 w' w.heap.size (fun _ => True) v0_ r ∧ Below w.heap.size w w' := by
 have HR0 := aK hr0
 have HC0 := aK hc0
 clear hr0 hc0
 have HR1 := aK hr1
 have HC1 := aK hc1
 clear hr1 hc1
 have HB := aK (Below.refl w.heap.size w)
 have H := h
 unfold cenotaphref01_Union.f at H
 clear h
 obtain ⟨y196, hy196⟩ : ∃ y_ : List ByteArray, y_ = (([] : List ByteArray)) := ⟨_, rfl⟩
 replace H : (if y196.length + l0.length < 8796093022208 then ((some (y196 ++ l0 : List ByteArray)).bind fun y199 => (if y199.length + l1.length < 8796093022208 then (cenotaphref01_Union.l0 k ([] : List ByteArray) (y199 ++ l1) 0) else (none))) else (none)) = some r := by first | (rw [hy196]; with_reducible exact H) | (have H2_ := (Option.bind_some _ _).symm.trans H; rw [hy196]; with_reducible exact H2_) | (have H2_ := (Option.bind_some _ _).symm.trans H; with_reducible exact H2_) | with_reducible exact H | (rw [hy196]; exact H) | exact H
 have Ny196 := aK hy196
 clear hy196
 by_cases c3 : y196.length + l0.length < 8796093022208
 ·rw [if_pos c3] at H
  have LMc3 := aK c3
  clear c3
  obtain ⟨y199, hy199⟩ : ∃ y_ : List ByteArray, y_ = (y196 ++ l0) := ⟨_, rfl⟩
  replace H : (if y199.length + l1.length < 8796093022208 then (cenotaphref01_Union.l0 k ([] : List ByteArray) (y199 ++ l1) 0) else (none)) = some r := by first | (rw [hy199]; with_reducible exact H) | (have H2_ := (Option.bind_some _ _).symm.trans H; rw [hy199]; with_reducible exact H2_) | (have H2_ := (Option.bind_some _ _).symm.trans H; with_reducible exact H2_) | with_reducible exact H | (rw [hy199]; exact H) | exact H
  have Ny199 := aK hy199
  clear hy199
  by_cases c4 : y199.length + l1.length < 8796093022208
  ·rw [if_pos c4] at H
   have LMc4 := aK c4
   clear c4
   obtain ⟨y202, hy202⟩ : ∃ y_ : List ByteArray, y_ = (y199 ++ l1) := ⟨_, rfl⟩
   replace H : (cenotaphref01_Union.l0 k ([] : List ByteArray) y202 0) = some r := by first | (rw [hy202]; with_reducible exact H) | (have H2_ := (Option.bind_some _ _).symm.trans H; rw [hy202]; with_reducible exact H2_) | (have H2_ := (Option.bind_some _ _).symm.trans H; with_reducible exact H2_) | with_reducible exact H | (rw [hy202]; exact H) | exact H
   have Ny202 := aK hy202
   clear hy202
   have H' := aK H
   clear H
   go_enter Tryz.func7, Tryz.ntmps7
   go_wp2_with (first | ((with_reducible refine gate_dst (N := 9) rfl ?_); refine Kd.R_lit Kd.string _ 9 ?hg (N := 9) ?hd (xs := ([] : List ByteArray)) (inner := []) (ok := fun _ => True) (okp := fun _ => True) ?hr ?hp (fun _ hk => hk) trivial (Below.refl _ _) (Nat.le_refl _) (by simp) ?_; (case hd => rfl); (case hg => rfl); (case hr => first | (go_simp; done) | (go_simp; rfl)); (case hp => exact (Reps.none _ _)); intro v197 w5 ho6 hb hg_ hnew_; clear hg_ hnew_; (first | rw [← Ny196.out] at ho6 | (simp only [Int.reduceToNat] at ho6; rw [← Ny196.out] at ho6)); have HO198 := aK (Kd.R_lower ho6 (below_size zq7_0)); replace HB := aK (bS zq7_0 hb); clear hb ho6) | ((with_reducible refine gate_builtin (b := .append) (xs := #[.tmp 9, .tmp 10]) rfl ?_); at_builtin; refine Kd.R_append_rows Kd.string (w0 := w) w.heap.size rfl (.tmp 9) (.tmp 10) 24 9 (.string ⟨#[]⟩) 16 rfl Tryz.underlying24 info9 rfl (by decide) (by omega) v197 y196 l0 _ _ _ (fun _ => True) (fun _ => False) rfl rfl ?aO ?aR (fun _ _ h => h) (fun _ h => h.elim) ?aF ?aB ?aS ?aL ?_; (case aR => repeat (first | exact (cB HR0.out HB.out) | (with_reducible refine Kd.C_alloc ?_ _) | (with_reducible refine Kd.C_drewN ?_ _) | (with_reducible refine Kd.C_drew ?_))); (case aB => exact zq7_0); (case aF => exact (fun _ _ => trivial)); (case aO => exact (by (with_reducible repeat (first | apply Kd.R_alloc | apply Kd.R_drewN | apply Kd.R_drew)); exact HO198.out)); (case aS => exact (below_size zq7_0)); (case aL => have := LMc3.out; omega); intro v200 w7 ho hb hg hat; rw [← Ny199.out] at ho; replace HB := aK (hb); have HO201 := aK (ho); clear HO198; clear ho hb hg hat) | ((with_reducible refine gate_builtin (b := .append) (xs := #[.tmp 11, .tmp 12]) rfl ?_); at_builtin; refine Kd.R_append_rows Kd.string (w0 := w) w.heap.size rfl (.tmp 11) (.tmp 12) 24 9 (.string ⟨#[]⟩) 16 rfl Tryz.underlying24 info9 rfl (by decide) (by omega) v200 y199 l1 _ _ _ (fun _ => True) (fun _ => False) rfl rfl ?aO ?aR (fun _ _ h => h) (fun _ h => h.elim) ?aF ?aB ?aS ?aL ?_; (case aR => repeat (first | exact (cB HR1.out HB.out) | (with_reducible refine Kd.C_alloc ?_ _) | (with_reducible refine Kd.C_drewN ?_ _) | (with_reducible refine Kd.C_drew ?_))); (case aB => exact zq7_0); (case aF => exact (fun _ _ => trivial)); (case aO => exact (by (with_reducible repeat (first | apply Kd.R_alloc | apply Kd.R_drewN | apply Kd.R_drew)); exact HO201.out)); (case aS => exact (below_size zq7_0)); (case aL => have := LMc4.out; omega); intro v203 w8 ho hb hg hat; rw [← Ny202.out] at ho; replace HB := aK (hb); have HO204 := aK (ho); clear HO201; clear ho hb hg hat))
   go_loopg [5, 7] k (fun kq v5 v7 w' => ∃ (x5_1 : List ByteArray) (x6_1 : List ByteArray) (x7_1 : Int), v7 = .int .i64 x7_1 ∧ Aside0 (cenotaphref01_Union.l0 kq x5_1 x6_1 x7_1 = some r) ∧ Aside0 (kq ≤ k) ∧ Aside0 (Kd.R Kd.string 9 w' w.heap.size (fun k_ => some k_ ≠ (v203 : Value).ownBlock) v5 x5_1) ∧ Aside0 (Kd.R Kd.string 9 w' w.heap.size (fun k_ => some k_ ≠ (v5 : Value).ownBlock) v203 x6_1) ∧ Aside0 (Below w.heap.size w w'))
   case atStart => exact ⟨(([] : List ByteArray)), (y202), (0), zq7_2, H', ⟨Nat.le_refl _⟩, ⟨by first | exact Kd.R_nil _ _ _ _ _ | exact Kd.N_nil _ _ _ _ _ | exact Kd.V_nil _ _ _ _ _ | exact Kd.Q_nil _ _ _ _ _ | exact Kd.S_nil _ _ _ _ _⟩, ⟨by (with_reducible repeat (first | apply Kd.R_alloc | apply Kd.R_drewN | apply Kd.R_drew)); exact Kd.R_mono HO204.out (fun _ hk => (by simp [Value.ownBlock]))⟩, ⟨by repeat (first | (with_reducible first | exact HB.out | apply bA | apply pB | apply bW) | exact HB.out)⟩⟩
   case round =>
    clear H'
    try clear c1
    try clear p2
    try clear c3
    try clear c4
    try clear c7
    obtain ⟨x5_1, x6_1, x7_1, rfl, HA, HK1, HO_5, HO_6, HB⟩ := hrel
    cases gk with
    | zero => exact absurd HA.out (by simp [cenotaphref01_Union.l0])
    | succ k1 =>
     have H := HA.out
     clear HA
     simp only [cenotaphref01_Union.l0] at H
     by_cases c9 : x7_1 < (x6_1.length : Int)
     ·rw [if_pos c9] at H
      have c9b0 : decide (x7_1 < (x6_1.length : Int)) = true := dT c9
      clear c9
      by_cases c10 : 0 ≤ x7_1
      ·rw [if_pos c10] at H
       have c10b0 : decide (0 ≤ x7_1) = true := dT c10
       clear c10
       replace H := bM H
       obtain ⟨t206, A110, H⟩ := H
       have A11 := aK A110
       clear A110
       by_cases c12 : t206 = true
       ·subst c12
        have H1 : (cenotaphref01_Union.l0 k1 x5_1 x6_1 (wrap64 (x7_1 + 1))) = some r := by rw [if_pos rfl] at H; exact H
        clear H
        have H := H1
        clear H1
        have H' := aK H
        clear H
        obtain ⟨Ao13, co13, eo13⟩ := Kd.R_slice HO_6.out
        subst eo13
        have p205 : 0 ≤ (x7_1 : Int) := oD zq7_1
        have q205 : x7_1 < (x6_1.length : Int) := oD zq7_1
        obtain ⟨ad205, e205, hx205_0⟩ := Kd.at_string (Kd.R_reads' HO_6.out).2.2 x7_1 p205 q205
        cases e205
        replace p205 := eT p205
        replace q205 := eT q205
        obtain ⟨Ao14, co14, eo14⟩ := Kd.R_slice HO_5.out
        subst eo14
        go_wp2_with (first | ((with_reducible refine gate_callee (f := 33) rfl ?_); refine goesL_ (some 25) rfl rfl Tryz.func33 (by kernel_rfl) rfl #[.slice Ao14 x5_1.length co14, .string (rdOf ByteArray.empty x6_1 x7_1)] rfl (by (try simp only [List.map_toArray, List.map_cons, List.map_nil]); first | done | rfl | (simp only [List.length_drop, List.length_take]; rfl)) ?_; (with_reducible refine (cenotaphref01_Has.calls k1 _ _ x5_1 (rdOf ByteArray.empty x6_1 x7_1) true _ ?side1 ?side2 A11.out).mono ?_); (case side1 => repeat (first | exact (Kd.R_reads' HO_5.out).2.2 | (with_reducible refine Kd.C_alloc ?_ _) | (with_reducible refine Kd.C_drewN ?_ _) | (with_reducible refine Kd.C_drew ?_))); (case side2 => exact (Kd.R_reads' HO_5.out).2.1); rintro e w' ⟨rfl, ⟨nd, rfl⟩⟩; refine ⟨_, rfl, ?_⟩))
        go_roundg k1
        case measure => have := HK1.out; omega
        case rel => exact ⟨(x5_1), (x6_1), (wrap64 (x7_1 + 1)), zq7_2, H', ⟨by have := HK1.out; omega⟩, ⟨by (with_reducible repeat (first | apply Kd.R_alloc | apply Kd.R_drewN | apply Kd.R_drew)); exact HO_5.out⟩, ⟨by (with_reducible repeat (first | apply Kd.R_alloc | apply Kd.R_drewN | apply Kd.R_drew)); exact HO_6.out⟩, ⟨by repeat (first | (with_reducible first | exact HB.out | apply bA | apply pB | apply bW) | exact HB.out)⟩⟩
       ·replace c12 := Bool.eq_false_iff.mpr c12
        subst c12
        have H1 : (if x5_1.length < 8796093022208 then ((some (x5_1 ++ [rdOf ByteArray.empty x6_1 x7_1] : List ByteArray)).bind fun y208 => (cenotaphref01_Union.l1 k1 y208 x6_1 x7_1 (wrap64 ((y208.length : Int) - 1)))) else (none)) = some r := by rw [if_neg (show ¬ (false = true) by decide)] at H; exact H
        clear H
        have H := H1
        clear H1
        by_cases c15 : x5_1.length < 8796093022208
        ·rw [if_pos c15] at H
         have LMc15 := aK c15
         clear c15
         obtain ⟨y208, hy208⟩ : ∃ y_ : List ByteArray, y_ = (x5_1 ++ [rdOf ByteArray.empty x6_1 x7_1]) := ⟨_, rfl⟩
         replace H : (cenotaphref01_Union.l1 k1 y208 x6_1 x7_1 (wrap64 ((y208.length : Int) - 1))) = some r := by first | (rw [hy208]; with_reducible exact H) | (have H2_ := (Option.bind_some _ _).symm.trans H; rw [hy208]; with_reducible exact H2_) | (have H2_ := (Option.bind_some _ _).symm.trans H; with_reducible exact H2_) | with_reducible exact H | (rw [hy208]; exact H) | exact H
         have Ny208 := aK hy208
         clear hy208
         have H' := aK H
         clear H
         obtain ⟨Ao16, co16, eo16⟩ := Kd.R_slice HO_6.out
         subst eo16
         have p205 : 0 ≤ (x7_1 : Int) := oD zq7_1
         have q205 : x7_1 < (x6_1.length : Int) := oD zq7_1
         obtain ⟨ad205, e205, hx205_0⟩ := Kd.at_string (Kd.R_reads' HO_6.out).2.2 x7_1 p205 q205
         cases e205
         replace p205 := eT p205
         replace q205 := eT q205
         obtain ⟨Ao17, co17, eo17⟩ := Kd.R_slice HO_5.out
         subst eo17
         go_wp2_with (first | ((with_reducible refine gate_callee (f := 33) rfl ?_); refine goesL_ (some 25) rfl rfl Tryz.func33 (by kernel_rfl) rfl #[.slice Ao17 x5_1.length co17, .string (rdOf ByteArray.empty x6_1 x7_1)] rfl (by (try simp only [List.map_toArray, List.map_cons, List.map_nil]); first | done | rfl | (simp only [List.length_drop, List.length_take]; rfl)) ?_; (with_reducible refine (cenotaphref01_Has.calls k1 _ _ x5_1 (rdOf ByteArray.empty x6_1 x7_1) false _ ?side1 ?side2 A11.out).mono ?_); (case side1 => repeat (first | exact (Kd.R_reads' HO_5.out).2.2 | (with_reducible refine Kd.C_alloc ?_ _) | (with_reducible refine Kd.C_drewN ?_ _) | (with_reducible refine Kd.C_drew ?_))); (case side2 => exact (Kd.R_reads' HO_5.out).2.1); rintro e w' ⟨rfl, ⟨nd, rfl⟩⟩; refine ⟨_, rfl, ?_⟩; have p207 : 0 ≤ (x7_1 : Int) := oD zq7_1; have q207 : x7_1 < (x6_1.length : Int) := oD zq7_1; obtain ⟨ad207, e207, hx207_0⟩ := Kd.at_string (Kd.R_reads' HO_6.out).2.2 x7_1 p207 q207; obtain rfl : ad205 = ad207 := (by injection e207); replace p207 := eT p207; replace q207 := eT q207) | ((with_reducible refine gate_builtin (b := .append) (xs := #[.tmp 26, .tmp 31]) rfl ?_); at_builtin; refine Kd.R_append Kd.string (w0 := w) w.heap.size rfl (.tmp 26) (.tmp 31) 24 9 (.string ⟨#[]⟩) 16 rfl Tryz.underlying24 info9 rfl (by decide) (by omega) (.slice Ao17 x5_1.length co17) x5_1 (rdOf ByteArray.empty x6_1 x7_1) [.string (rdOf ByteArray.empty x6_1 x7_1)] (fun k_ => some k_ ≠ (.slice (some ad205) x6_1.length co16 : Value).ownBlock) (fun _ => False) rfl rfl ?aP (fun _ hk => hk.elim) ?aF ?aO ?aB ?aS ?aL ?_; (case aP => exact rfl); (case aB => exact zq7_0); (case aF => exact (fun k_ hk => Kd.fresh' (Kd.R_lt (by (with_reducible repeat (first | apply Kd.R_alloc | apply Kd.R_drewN | apply Kd.R_drew)); exact HO_6.out)) k_ hk)); (case aO => exact (by (with_reducible repeat (first | apply Kd.R_alloc | apply Kd.R_drewN | apply Kd.R_drew)); exact HO_5.out)); (case aS => exact (below_size zq7_0)); (case aL => have := LMc15.out; omega); intro v209 w18 ho hb hg hat; rw [← Ny208.out] at ho; replace HO_6 := aK (Kd.R_after (ok := (fun _ => True)) (by (with_reducible repeat (first | apply Kd.R_alloc | apply Kd.R_drewN | apply Kd.R_drew)); exact Kd.R_mono HO_6.out (fun _ hk => ⟨trivial, hk⟩)) hg hat); replace HB := aK (hb); have HO210 := aK (ho); clear HO_5; clear ho hb hg hat; obtain ⟨Ao19, co19, eo19⟩ := Kd.R_slice HO210.out; subst eo19))
         go_loopg [8] k1 (fun kq v8 w' => ∃ (x5_2 : List ByteArray) (x8_2 : Int), v8 = .int .i64 x8_2 ∧ Aside0 (cenotaphref01_Union.l1 kq x5_2 x6_1 x7_1 x8_2 = some r) ∧ Aside0 (kq ≤ k1) ∧ Aside0 (Kd.R Kd.string 9 w' w.heap.size (fun k_ => some k_ ≠ ((.slice (some ad205) x6_1.length co16) : Value).ownBlock) (.slice Ao19 y208.length co19) x5_2) ∧ Aside0 (Kd.R Kd.string 9 w' w.heap.size (fun k_ => some k_ ≠ ((.slice Ao19 y208.length co19) : Value).ownBlock) (.slice (some ad205) x6_1.length co16) x6_1) ∧ Aside0 (Below w.heap.size w w'))
         case atStart => exact ⟨(y208), (wrap64 ((y208.length : Int) - 1)), zq7_2, H', ⟨Nat.le_refl _⟩, ⟨by (with_reducible repeat (first | apply Kd.R_alloc | apply Kd.R_drewN | apply Kd.R_drew)); exact HO210.out⟩, ⟨by (with_reducible repeat (first | apply Kd.R_alloc | apply Kd.R_drewN | apply Kd.R_drew)); exact Kd.R_mono HO_6.out (fun _ hk => hk.2)⟩, ⟨by repeat (first | (with_reducible first | exact HB.out | apply bA | apply pB | apply bW) | exact HB.out)⟩⟩
         case round =>
          clear H'
          try clear c1
          try clear p2
          try clear q2
          try clear hx2
          try clear c3
          try clear c4
          try clear p6
          try clear c7
          try clear c9
          try clear c9b0
          try clear c10
          try clear c10b0
          try clear c12
          try clear c15
          try clear hx205_0
          try clear hx207_0
          try clear p2
          try clear p205
          try clear p207
          try clear q205
          try clear q207
          obtain ⟨x5_2, x8_2, rfl, HA, HK2, HO_5, HO_6, HB⟩ := hrel
          have hl5_2 := (Kd.R_reads' HO_5.out).1
          rw [hl5_2] at HO_5
          (try simp only [hl5_2])
          (try simp only [hl5_2] at HO_6)
          cases gk with
          | zero => exact absurd HA.out (by simp [cenotaphref01_Union.l1])
          | succ k2 =>
           have H := HA.out
           clear HA
           simp only [cenotaphref01_Union.l1] at H
           by_cases c20 : x8_2 > 0
           ·rw [if_pos c20] at H
            have c20b0 : decide (0 < x8_2) = true := dT c20
            clear c20
            obtain ⟨ji21, hji21⟩ : ∃ j_ : Int, (wrap64 (x8_2 - 1)) = j_ := ⟨_, rfl⟩
            replace H : (if 0 ≤ (ji21) then (if (ji21) < (x5_2.length : Int) then (if 0 ≤ x8_2 then (if x8_2 < (x5_2.length : Int) then ((cenotaphref01_Compare.f k2 (rdOf ByteArray.empty x5_2 (ji21)) (rdOf ByteArray.empty x5_2 x8_2)).bind fun t213 => (if t213 > 0 then (cenotaphref01_Union.l1 k2 ((x5_2.set ((ji21) : Int).toNat (rdOf ByteArray.empty x5_2 x8_2)).set (x8_2 : Int).toNat (rdOf ByteArray.empty x5_2 (ji21))) x6_1 x7_1 ji21) else (cenotaphref01_Union.l0 k2 x5_2 x6_1 (wrap64 (x7_1 + 1))))) else (none)) else (none)) else (none)) else (none)) = some r := by first | (rw [hji21] at H; exact H) | (simp only [hji21] at H ⊢; exact H)
            have hji21w : (IntKind.i64.wrap (x8_2 - 1)) = ji21 := (i64_w _).trans hji21
            by_cases c22 : 0 ≤ (ji21)
            ·rw [if_pos c22] at H
             have c22b0 : decide (0 ≤ (ji21)) = true := dT c22
             clear c22
             by_cases c23 : (ji21) < (x5_2.length : Int)
             ·rw [if_pos c23] at H
              have c23b0 : decide ((ji21) < (x5_2.length : Int)) = true := dT c23
              clear c23
              by_cases c24 : 0 ≤ x8_2
              ·rw [if_pos c24] at H
               have c24b0 : decide (0 ≤ x8_2) = true := dT c24
               clear c24
               by_cases c25 : x8_2 < (x5_2.length : Int)
               ·rw [if_pos c25] at H
                have c25b0 : decide (x8_2 < (x5_2.length : Int)) = true := dT c25
                clear c25
                replace H := bM H
                obtain ⟨t213, A260, H⟩ := H
                have A26 := aK A260
                clear A260
                by_cases c27 : t213 > 0
                ·rw [if_pos c27] at H
                 have c27b0 : decide (0 < t213) = true := dT c27
                 clear c27
                 obtain ⟨y216, hy216⟩ : ∃ y_ : List ByteArray, y_ = (x5_2.set ((ji21) : Int).toNat (rdOf ByteArray.empty x5_2 x8_2)) := ⟨_, rfl⟩
                 replace H : (cenotaphref01_Union.l1 k2 (y216.set (x8_2 : Int).toNat (rdOf ByteArray.empty x5_2 (ji21))) x6_1 x7_1 ji21) = some r := by first | (rw [hy216]; with_reducible exact H) | (have H2_ := (Option.bind_some _ _).symm.trans H; rw [hy216]; with_reducible exact H2_) | (have H2_ := (Option.bind_some _ _).symm.trans H; with_reducible exact H2_) | with_reducible exact H | (rw [hy216]; exact H) | exact H
                 have Ny216 := aK hy216
                 clear hy216
                 obtain ⟨y217, hy217⟩ : ∃ y_ : List ByteArray, y_ = (y216.set (x8_2 : Int).toNat (rdOf ByteArray.empty x5_2 (ji21))) := ⟨_, rfl⟩
                 replace H : (cenotaphref01_Union.l1 k2 y217 x6_1 x7_1 ji21) = some r := by first | (rw [hy217]; with_reducible exact H) | (have H2_ := (Option.bind_some _ _).symm.trans H; rw [hy217]; with_reducible exact H2_) | (have H2_ := (Option.bind_some _ _).symm.trans H; with_reducible exact H2_) | with_reducible exact H | (rw [hy217]; exact H) | exact H
                 have Ny217 := aK hy217
                 clear hy217
                 have H' := aK H
                 clear H
                 try go_wp2
                 replace HO_5 := aK (Kd.R_drew HO_5.out)
                 replace HO_6 := aK (Kd.R_drew HO_6.out)
                 replace HB := aK (bW HB.out)
                 have p211 : 0 ≤ ((ji21) : Int) := oD zq7_1
                 have q211 : (ji21) < (x5_2.length : Int) := oD zq7_1
                 obtain ⟨ad211, e211, hx211_0⟩ := Kd.at_string (Kd.R_reads' HO_5.out).2.2 (ji21) p211 q211
                 cases e211
                 replace p211 := eT p211
                 replace q211 := eT q211
                 have p212 : 0 ≤ (x8_2 : Int) := oD zq7_1
                 have q212 : x8_2 < (x5_2.length : Int) := oD zq7_1
                 obtain ⟨ad212, e212, hx212_0⟩ := Kd.at_string (Kd.R_reads' HO_5.out).2.2 x8_2 p212 q212
                 obtain rfl : ad211 = ad212 := (by injection e212)
                 replace p212 := eT p212
                 replace q212 := eT q212
                 refine start_ (n := 15) (S := fun w' => w'.cell? (ad211.add ((ji21)).toNat) = some (.string (rdOf ByteArray.empty x5_2 (ji21))) ∧ w'.cell? (ad211.add (x8_2).toNat) = some (.string (rdOf ByteArray.empty x5_2 x8_2))) (ds := []) #[false, false, false, false, false, false, false, false, false, false, false, false, false, false, false] (by kernel_rfl) rfl rfl ⟨hx211_0, hx212_0⟩ (fun hHeld => ?_); refine with_tabW cenotaphref01_Union.tab9 cenotaphref01_Union.bits9 (fun HT_ HW_ => ?_)
                 generalize wr.drew = w30 at HO_5 HO_6 HB hx211_0 hx212_0 hHeld ⊢
                 refine p_ 0 36 (mk_ 15 0x1) ?_
                 refine p_ 1 37 (mk_ 15 0x3) ?_
                 refine p_ 2 38 (mk_ 15 0x7) ?_
                 refine p_ 3 39 (mk_ 15 0xf) ?_
                 refine p_ 4 40 (mk_ 15 0x1f) ?_
                 refine p_ 5 41 (mk_ 15 0x3f) ?_
                 refine p_ 6 42 (mk_ 15 0x7f) ?_
                 refine p_ 8 44 (mk_ 15 0x17f) ?_
                 refine p_ 9 45 (mk_ 15 0x37f) ?_
                 refine p_ 10 46 (mk_ 15 0x77f) ?_
                 refine t_ 7 43 (mk_ 15 0x7ff) hHeld ?_
                 refine t_ 11 47 (mk_ 15 0xfff) hHeld ?_
                 refine one_ (i := 12) (N := some 48) #[true, true, true, true, true, true, true, true, true, true, true, true, true, false, false] rfl rfl (one_of HT_.out (by kernel_rfl)) (by decide) (fun K hK => ?_)
                 refine goes_ Tryz.func34 (by kernel_rfl) rfl #[.string (rdOf ByteArray.empty x5_2 (ji21)), .string (rdOf ByteArray.empty x5_2 x8_2)] (by rfl) rfl rfl (by (try simp only [List.map_toArray, List.map_cons, List.map_nil]); first | done | (simp only [hji21]; rfl) | rfl | (simp only [List.length_drop, List.length_take]; rfl)) ?_
                 with_reducible refine (cenotaphref01_Compare.calls k2 (rdOf ByteArray.empty x5_2 (ji21)) (rdOf ByteArray.empty x5_2 x8_2) t213 _ A26.out).mono ?_
                 rintro e w' ⟨rfl, ⟨nd, rfl⟩⟩
                 refine ⟨_, rfl, ?_⟩
                 refine hK.out _ _ ⟨hHeld.1, hHeld.2⟩ (fun hHeld => ?_)
                 clear hK K
                 refine norm_ (a' := ?_) ?_ ?_
                 rotate_left
                 ·show Act.put _ (some 48) _ = _
                  simp only [Act.put, lA, lB, lC, i64_w, i32_w]
                  rfl
                 refine p_ 13 49 (mk_ 15 0x3fff) ?_
                 refine p_ 14 50 (mk_ 15 0x7fff) ?_
                 refine done_ (done_of HT_.out (by kernel_rfl)) ?_
                 try go_wp2
                 (try (rw [drewN_self w30]; generalize hq_ : World.drewN w30 _ = w30; have n0_ : Aside0 (Kd.R Kd.string 9 w30 w.heap.size (fun k_ => some k_ ≠ (.slice (some ad205) x6_1.length co16 : Value).ownBlock) (.slice (some ad211) x5_2.length co19) x5_2) := ⟨by rw [← hq_]; exact (by (with_reducible repeat (first | apply Kd.R_alloc | apply Kd.R_drewN | apply Kd.R_drew)); exact HO_5.out)⟩; have n1_ : Aside0 (Kd.R Kd.string 9 w30 w.heap.size (fun k_ => some k_ ≠ (.slice (some ad211) x5_2.length co19 : Value).ownBlock) (.slice (some ad205) x6_1.length co16) x6_1) := ⟨by rw [← hq_]; exact (by (with_reducible repeat (first | apply Kd.R_alloc | apply Kd.R_drewN | apply Kd.R_drew)); exact HO_6.out)⟩; have n2_ : Aside0 (Below w.heap.size w w30) := ⟨by rw [← hq_]; exact zq7_0⟩; clear HO_5 HO_6 HB hq_; have HO_5 := n0_; have HO_6 := n1_; have HB := n2_; clear n0_ n1_ n2_))
                 replace HO_5 := aK (Kd.R_drew HO_5.out)
                 replace HO_6 := aK (Kd.R_drew HO_6.out)
                 replace HB := aK (bW HB.out)
                 have p214 : 0 ≤ (x8_2 : Int) := oD zq7_1
                 have q214 : x8_2 < (x5_2.length : Int) := oD zq7_1
                 obtain ⟨ad214, e214, hx214_0⟩ := Kd.at_string (Kd.R_reads' HO_5.out).2.2 x8_2 p214 q214
                 obtain rfl : ad211 = ad214 := (by injection e214)
                 replace p214 := eT p214
                 replace q214 := eT q214
                 have p215 : 0 ≤ ((ji21) : Int) := oD zq7_1
                 have q215 : (ji21) < (x5_2.length : Int) := oD zq7_1
                 obtain ⟨ad215, e215, hx215_0⟩ := Kd.at_string (Kd.R_reads' HO_5.out).2.2 (ji21) p215 q215
                 obtain rfl : ad211 = ad215 := (by injection e215)
                 replace p215 := eT p215
                 replace q215 := eT q215
                 have p28 : 0 ≤ ((ji21) : Int) := oD zq7_1
                 have q28 : ((ji21) : Int) < ((x5_2.length : Int) : Int) := oD zq7_1
                 obtain ⟨go28, co28, eo28, gb28, gl28, cl28, HG28⟩ := Kd.R_form HO_5.out (by omega)
                 (first | cases eo28 | (injection eo28 with ea_ en_ ec_; (first | subst ea_ | (injection ea_ with ea_; subst ea_)); subst ec_; clear en_))
                 have GB28 := aK gb28
                 have GG28 := aK HG28
                 clear gb28 gl28 HG28
                 (first | simp only [add_plain] at hx211_0 | skip)
                 (first | simp only [add_plain] at hx212_0 | skip)
                 (first | simp only [add_plain] at hx214_0 | skip)
                 (first | simp only [add_plain] at hx215_0 | skip)
                 obtain ⟨hx28_0, hf28_0⟩ := Kd.R_celln (⟨#[]⟩ : ByteArray) HO_5.out ((ji21) : Int) p28 q28
                 replace p28 := eT p28
                 replace q28 := eT q28
                 have HP32 := Kd.R_putn HO_5.out ((ji21) : Int) (rdOf ByteArray.empty x5_2 x8_2)
                 rw [← Ny216.out] at HP32
                 have HQ32 := aK HP32
                 clear HP32
                 have p29 : 0 ≤ (x8_2 : Int) := oD zq7_1
                 have q29 : (x8_2 : Int) < ((x5_2.length : Int) : Int) := oD zq7_1
                 obtain ⟨hx29_0, hf29_0⟩ := Kd.R_celln (⟨#[]⟩ : ByteArray) HQ32.out (x8_2 : Int) p29 q29
                 replace p29 := eT p29
                 replace q29 := eT q29
                 have HP33 := Kd.R_putn HQ32.out (x8_2 : Int) (rdOf ByteArray.empty x5_2 (ji21))
                 rw [← Ny217.out] at HP33
                 have HQ33 := aK HP33
                 clear HP33
                 refine start_ (n := 18) (S := fun w' => w'.cell? ⟨go28, (x8_2).toNat, none⟩ = some (.string (rdOf ByteArray.empty x5_2 x8_2)) ∧ w'.cell? ⟨go28, ((ji21)).toNat, none⟩ = some (.string (rdOf ByteArray.empty x5_2 (ji21)))) (ds := [15, 17]) #[false, false, false, false, false, false, false, false, false, false, false, false, false, false, false, false, false, false] (by kernel_rfl) rfl rfl ⟨hx214_0, hx215_0⟩ (fun hHeld => ?_); refine with_tabW cenotaphref01_Union.tab11 cenotaphref01_Union.bits11 (fun HT_ HW_ => ?_)
                 generalize w30.drew = w31 at HO_5 HO_6 HB GG28 HQ32 HQ33 hf28_0 hf29_0 hx211_0 hx212_0 hx214_0 hx215_0 hx28_0 hx29_0 hHeld ⊢
                 refine p_ 0 53 (mk_ 18 0x1) ?_
                 refine p_ 1 54 (mk_ 18 0x3) ?_
                 refine p_ 2 55 (mk_ 18 0x7) ?_
                 refine p_ 3 56 (mk_ 18 0xf) ?_
                 refine p_ 4 57 (mk_ 18 0x1f) ?_
                 refine p_ 5 58 (mk_ 18 0x3f) ?_
                 refine p_ 6 59 (mk_ 18 0x7f) ?_
                 refine p_ 7 60 (mk_ 18 0xff) ?_
                 refine p_ 9 62 (mk_ 18 0x2ff) ?_
                 refine p_ 10 63 (mk_ 18 0x6ff) ?_
                 refine p_ 11 64 (mk_ 18 0xeff) ?_
                 refine p_ 12 65 (mk_ 18 0x1eff) ?_
                 refine t_ 8 61 (mk_ 18 0x1fff) hHeld ?_
                 refine t_ 13 66 (mk_ 18 0x3fff) hHeld ?_
                 refine p_ 14 67 (mk_ 18 0x7fff) ?_
                 refine last_ (i := 15) (N := none) #[true, true, true, true, true, true, true, true, true, true, true, true, true, true, true, true, false, false] rfl rfl (one_of HT_.out (by kernel_rfl)) (by decide) (fun K hK => ?_)
                 refine skip_ (w1 := ?_) (by rfl) rfl ?_ ?_
                 rotate_left
                 ·go_simp
                  rfl
                 refine hK.out _ _ ?_
                 clear hK K
                 refine p_ 16 68 (mk_ 18 0x1ffff) ?_
                 refine last_ (i := 17) (N := none) #[true, true, true, true, true, true, true, true, true, true, true, true, true, true, true, true, true, true] rfl rfl (one_of HT_.out (by kernel_rfl)) (by decide) (fun K hK => ?_)
                 refine skip_ (w1 := ?_) (by rfl) rfl ?_ ?_
                 rotate_left
                 ·go_simp
                  rfl
                 refine hK.out _ _ ?_
                 clear hK K
                 refine done_ (done_of HT_.out (by kernel_rfl)) ?_
                 try go_wp2
                 (try simp only [← hl5_2])
                 go_roundg k2
                 case measure => have := HK1.out; have := HK2.out; omega
                 case rel => exact ⟨(y217), (ji21), (by first | rfl | (simp; done) | (simp only [← hji21] <;> (first | rfl | simp)) | (simp [*]; done)), H', ⟨by have := HK1.out; have := HK2.out; omega⟩, ⟨by (try simp only [hl5_2]); (with_reducible repeat (first | apply Kd.R_alloc | apply Kd.R_drewN | apply Kd.R_drew)); exact HQ33.out⟩, ⟨by (try simp only [hl5_2]); (with_reducible repeat (first | apply Kd.R_alloc | apply Kd.R_drewN | apply Kd.R_drew)); exact Kd.R_mono (Kd.R_far (p := ⟨go28, (x8_2 : Int).toNat, none⟩) (Kd.R_far (p := ⟨go28, ((ji21) : Int).toNat, none⟩) (Kd.R_mono HO_6.out (fun k_ hk => (⟨hk, fun e_ => hk (by rw [e_]; rfl)⟩ : _ ∧ k_ ≠ go28))) (fun _ hk => hk.2) (.string (rdOf ByteArray.empty x5_2 x8_2))) (fun _ hk => hk.2) (.string (rdOf ByteArray.empty x5_2 (ji21)))) (fun _ hk => hk.1)⟩, ⟨by repeat (first | (with_reducible first | exact HB.out | apply bA | apply pB | apply bW | refine below_set ?_ GB28.out | refine below_set ?_ GB28.out) | exact HB.out)⟩⟩
                ·rw [if_neg c27] at H
                 have c27b0 : decide (0 < t213) = false := decide_eq_false c27
                 clear c27
                 have H' := aK H
                 clear H
                 try go_wp2
                 replace HO_5 := aK (Kd.R_drew HO_5.out)
                 replace HO_6 := aK (Kd.R_drew HO_6.out)
                 replace HB := aK (bW HB.out)
                 have p211 : 0 ≤ ((ji21) : Int) := oD zq7_1
                 have q211 : (ji21) < (x5_2.length : Int) := oD zq7_1
                 obtain ⟨ad211, e211, hx211_0⟩ := Kd.at_string (Kd.R_reads' HO_5.out).2.2 (ji21) p211 q211
                 cases e211
                 replace p211 := eT p211
                 replace q211 := eT q211
                 have p212 : 0 ≤ (x8_2 : Int) := oD zq7_1
                 have q212 : x8_2 < (x5_2.length : Int) := oD zq7_1
                 obtain ⟨ad212, e212, hx212_0⟩ := Kd.at_string (Kd.R_reads' HO_5.out).2.2 x8_2 p212 q212
                 obtain rfl : ad211 = ad212 := (by injection e212)
                 replace p212 := eT p212
                 replace q212 := eT q212
                 refine start_ (n := 15) (S := fun w' => w'.cell? (ad211.add ((ji21)).toNat) = some (.string (rdOf ByteArray.empty x5_2 (ji21))) ∧ w'.cell? (ad211.add (x8_2).toNat) = some (.string (rdOf ByteArray.empty x5_2 x8_2))) (ds := []) #[false, false, false, false, false, false, false, false, false, false, false, false, false, false, false] (by kernel_rfl) rfl rfl ⟨hx211_0, hx212_0⟩ (fun hHeld => ?_); refine with_tabW cenotaphref01_Union.tab9 cenotaphref01_Union.bits9 (fun HT_ HW_ => ?_)
                 generalize wr.drew = w34 at HO_5 HO_6 HB hx211_0 hx212_0 hHeld ⊢
                 refine p_ 0 36 (mk_ 15 0x1) ?_
                 refine p_ 1 37 (mk_ 15 0x3) ?_
                 refine p_ 2 38 (mk_ 15 0x7) ?_
                 refine p_ 3 39 (mk_ 15 0xf) ?_
                 refine p_ 4 40 (mk_ 15 0x1f) ?_
                 refine p_ 5 41 (mk_ 15 0x3f) ?_
                 refine p_ 6 42 (mk_ 15 0x7f) ?_
                 refine p_ 8 44 (mk_ 15 0x17f) ?_
                 refine p_ 9 45 (mk_ 15 0x37f) ?_
                 refine p_ 10 46 (mk_ 15 0x77f) ?_
                 refine t_ 7 43 (mk_ 15 0x7ff) hHeld ?_
                 refine t_ 11 47 (mk_ 15 0xfff) hHeld ?_
                 refine one_ (i := 12) (N := some 48) #[true, true, true, true, true, true, true, true, true, true, true, true, true, false, false] rfl rfl (one_of HT_.out (by kernel_rfl)) (by decide) (fun K hK => ?_)
                 refine goes_ Tryz.func34 (by kernel_rfl) rfl #[.string (rdOf ByteArray.empty x5_2 (ji21)), .string (rdOf ByteArray.empty x5_2 x8_2)] (by rfl) rfl rfl (by (try simp only [List.map_toArray, List.map_cons, List.map_nil]); first | done | (simp only [hji21]; rfl) | rfl | (simp only [List.length_drop, List.length_take]; rfl)) ?_
                 with_reducible refine (cenotaphref01_Compare.calls k2 (rdOf ByteArray.empty x5_2 (ji21)) (rdOf ByteArray.empty x5_2 x8_2) t213 _ A26.out).mono ?_
                 rintro e w' ⟨rfl, ⟨nd, rfl⟩⟩
                 refine ⟨_, rfl, ?_⟩
                 refine hK.out _ _ ⟨hHeld.1, hHeld.2⟩ (fun hHeld => ?_)
                 clear hK K
                 refine norm_ (a' := ?_) ?_ ?_
                 rotate_left
                 ·show Act.put _ (some 48) _ = _
                  simp only [Act.put, lA, lB, lC, i64_w, i32_w]
                  rfl
                 refine p_ 13 49 (mk_ 15 0x3fff) ?_
                 refine p_ 14 50 (mk_ 15 0x7fff) ?_
                 refine done_ (done_of HT_.out (by kernel_rfl)) ?_
                 try go_wp2
                 (try simp only [← hl5_2])
                 go_roundg k2
                 case measure => have := HK1.out; have := HK2.out; omega
                 case rel => exact ⟨(x5_2), (x6_1), (wrap64 (x7_1 + 1)), zq7_2, H', ⟨by have := HK1.out; have := HK2.out; omega⟩, ⟨by (try simp only [hl5_2]); (with_reducible repeat (first | apply Kd.R_alloc | apply Kd.R_drewN | apply Kd.R_drew)); exact HO_5.out⟩, ⟨by (try simp only [hl5_2]); (with_reducible repeat (first | apply Kd.R_alloc | apply Kd.R_drewN | apply Kd.R_drew)); exact HO_6.out⟩, ⟨by repeat (first | (with_reducible first | exact HB.out | apply bA | apply pB | apply bW) | exact HB.out)⟩⟩
               ·rw [if_neg c25] at H
                exact absurd H (by simp)
              ·rw [if_neg c24] at H
               exact absurd H (by simp)
             ·rw [if_neg c23] at H
              exact absurd H (by simp)
            ·rw [if_neg c22] at H
             exact absurd H (by simp)
           ·rw [if_neg c20] at H
            have c20b0 : decide (0 < x8_2) = false := decide_eq_false c20
            clear c20
            have H' := aK H
            clear H
            try go_wp2
            replace HO_5 := aK (Kd.R_drew HO_5.out)
            replace HO_6 := aK (Kd.R_drew HO_6.out)
            replace HB := aK (bW HB.out)
            refine start_ (n := 15) (S := fun w' => True) (ds := []) #[false, false, false, false, false, false, false, false, false, false, false, false, false, false, false] (by kernel_rfl) rfl rfl trivial (fun hHeld => ?_); refine with_tabW cenotaphref01_Union.tab9 cenotaphref01_Union.bits9 (fun HT_ HW_ => ?_)
            generalize wr.drew = w35 at HO_5 HO_6 HB hHeld ⊢
            refine p_ 0 36 (mk_ 15 0x1) ?_
            refine p_ 1 37 (mk_ 15 0x3) ?_
            refine p_ 2 38 (mk_ 15 0x7) ?_
            refine u_ 3 39 (mk_ 15 0xf) ?_
            refine u_ 4 40 (mk_ 15 0x1f) ?_
            refine u_ 5 41 (mk_ 15 0x3f) ?_
            refine u_ 6 42 (mk_ 15 0x7f) ?_
            refine u_ 7 43 (mk_ 15 0xff) ?_
            refine u_ 8 44 (mk_ 15 0x1ff) ?_
            refine u_ 9 45 (mk_ 15 0x3ff) ?_
            refine u_ 10 46 (mk_ 15 0x7ff) ?_
            refine u_ 11 47 (mk_ 15 0xfff) ?_
            refine u_ 12 48 (mk_ 15 0x1fff) ?_
            refine u_ 13 49 (mk_ 15 0x3fff) ?_
            refine p_ 14 50 (mk_ 15 0x7fff) ?_
            refine done_ (done_of HT_.out (by kernel_rfl)) ?_
            try go_wp2
            (try simp only [← hl5_2])
            go_roundg k2
            case measure => have := HK1.out; have := HK2.out; omega
            case rel => exact ⟨(x5_2), (x6_1), (wrap64 (x7_1 + 1)), zq7_2, H', ⟨by have := HK1.out; have := HK2.out; omega⟩, ⟨by (try simp only [hl5_2]); (with_reducible repeat (first | apply Kd.R_alloc | apply Kd.R_drewN | apply Kd.R_drew)); exact HO_5.out⟩, ⟨by (try simp only [hl5_2]); (with_reducible repeat (first | apply Kd.R_alloc | apply Kd.R_drewN | apply Kd.R_drew)); exact HO_6.out⟩, ⟨by repeat (first | (with_reducible first | exact HB.out | apply bA | apply pB | apply bW) | exact HB.out)⟩⟩
        ·rw [if_neg c15] at H
         exact absurd H (by simp)
      ·rw [if_neg c10] at H
       exact absurd H (by simp)
     ·rw [if_neg c9] at H
      have c9b0 : decide (x7_1 < (x6_1.length : Int)) = false := decide_eq_false c9
      clear c9
      obtain rfl := sI H
      obtain ⟨Ao36, co36, eo36⟩ := Kd.R_slice HO_6.out
      subst eo36
      go_wp2
      go_ret
      exact ⟨_, by first | rfl | (simp [errW_none, errW_some] <;> rfl) | (simp [*, errW_none, errW_some] <;> rfl), by (with_reducible repeat (first | apply Kd.R_alloc | apply Kd.R_drewN | apply Kd.R_drew)); exact Kd.R_mono HO_5.out (fun _ hk => trivial), by repeat (first | (with_reducible first | exact HB.out | apply bA | apply pB | apply bW) | exact HB.out)⟩
  ·rw [if_neg c4] at H
   exact absurd H (by simp)
 ·rw [if_neg c3] at H
  exact absurd H (by simp)
theorem zq35_0 {p_ : Prop} (h_ : p_ := by repeat (first | (with_reducible first | exact HB.out | apply bA | apply pB | apply bW | refine below_set ?_ GE218.out | refine below_set ?_ GE219.out) | exact HB.out)) : p_ := h_
theorem zq35_1 {p_ : Prop} (h_ : p_ := by repeat (first | (with_reducible first | exact HB.out | apply bA | apply pB | apply bW | refine below_set ?_ GE218.out) | exact HB.out)) : p_ := h_
theorem zq35_2 {p_ : Prop} (h_ : p_ := by repeat (first | (with_reducible first | exact HB.out | apply bA | apply pB | apply bW) | exact HB.out)) : p_ := h_
theorem zq35_3 {p_ : Prop} (h_ : p_ := by (with_reducible repeat (first | refine blk_drewN ?_ _ | refine blk_drew ?_ | refine blk_alloc ?_ _)); exact BK218.out) : p_ := h_
def cenotaphlaw02_To.f (a0_0 : Int) (l0_1 : List Int) : Option (Int × List Int) := (some (([] : List Int) : List Int)).bind fun y220 => (if y220.length + l0_1.length < 17592186044416 then (some (a0_0, (y220 ++ l0_1))) else (none))
def cenotaphlaw02_To.T1 : Bool × List (List Nat × List Nat) := (true, [([], []), ([0], [0]), ([], []), ([], []), ([3], [3]), ([2, 4], [2, 4]), ([1, 5], [1, 5]), ([6, 5, 0, 1, 2, 3, 4, 5, 6], [6])])
def cenotaphlaw02_To.B1 : List Nat := [0, 1, 0, 0, 8, 28, 63, 127]
theorem cenotaphlaw02_To.tab1 : rtab .any (opsOf Tryz.f35 1) = cenotaphlaw02_To.T1 := by kernel_rfl
theorem cenotaphlaw02_To.bits1 : waitsOk cenotaphlaw02_To.T1.2 cenotaphlaw02_To.B1 = true := by kernel_rfl
theorem cenotaphlaw02_To.calls (a0_0 : Int) (A0_1 : Option Addr) (c0_1 : Nat) (l0_1 : List Int) (r1 : Int) (r2 : List Int) (w : World) (hr0_1 : Kd.C (Kd.int .i64) w A0_1 l0_1.length l0_1) (hc0_1 : l0_1.length ≤ c0_1) (h : cenotaphlaw02_To.f a0_0 l0_1 = some (r1, r2)) :
  Calls Tryz.prog 35 #[.agg #[.int .i64 a0_0, .slice A0_1 l0_1.length c0_1]] w fun e w' => ∃ v1_ : Value, e = .returned (.agg #[.int .i64 r1, v1_]) ∧ Kd.R (Kd.int .i64) 3 w' w.heap.size (fun _ => True) v1_ r2 ∧ Below w.heap.size w w' := by
 have hu59 := Tryz.underlying59
 have hu69 := Tryz.underlying69
 have HR0_1 := aK hr0_1
 have HC0_1 := aK hc0_1
 clear hr0_1 hc0_1
 have HB := aK (Below.refl w.heap.size w)
 have H : ((some (([] : List Int) : List Int)).bind fun y220 => (if y220.length + l0_1.length < 17592186044416 then (some (a0_0, (y220 ++ l0_1))) else (none))) = some (r1, r2) := h
 clear h
 obtain ⟨y220, hy220⟩ : ∃ y_ : List Int, y_ = (([] : List Int)) := ⟨_, rfl⟩
 replace H : (if y220.length + l0_1.length < 17592186044416 then (some (a0_0, (y220 ++ l0_1))) else (none)) = some (r1, r2) := by first | (rw [hy220]; with_reducible exact H) | (have H2_ := (Option.bind_some _ _).symm.trans H; rw [hy220]; with_reducible exact H2_) | (have H2_ := (Option.bind_some _ _).symm.trans H; with_reducible exact H2_) | with_reducible exact H | (rw [hy220]; exact H) | exact H
 have Ny220 := aK hy220
 clear hy220
 by_cases c2 : y220.length + l0_1.length < 17592186044416
 ·rw [if_pos c2] at H
  have LMc2 := aK c2
  clear c2
  obtain ⟨y223, hy223⟩ : ∃ y_ : List Int, y_ = (y220 ++ l0_1) := ⟨_, rfl⟩
  replace H : (some (a0_0, y223)) = some (r1, r2) := by first | (rw [hy223]; with_reducible exact H) | (have H2_ := (Option.bind_some _ _).symm.trans H; rw [hy223]; with_reducible exact H2_) | (have H2_ := (Option.bind_some _ _).symm.trans H; with_reducible exact H2_) | with_reducible exact H | (rw [hy223]; exact H) | exact H
  have Ny223 := aK hy223
  clear hy223
  simp only [Option.some.injEq, Prod.mk.injEq] at H
  obtain ⟨rfl, rfl⟩ := H
  go_enter Tryz.func35, Tryz.ntmps35
  try go_wp2_with (first | ((with_reducible refine gate_dst (N := 1) rfl ?_); refine box_event ?hg (N := 1) ?hd (cs := #[.int .i64 a0_0, .slice A0_1 l0_1.length c0_1]) (t := 59) ?hr ?_; (case hd => rfl); (case hg => rfl); (case hr => first | (go_simp; done) | (go_simp; rfl)); intro gb218 hg w3 hbox hb; have BK218 := aK (hbox); have GW218 := aK (((by rw [hg]; exact (below_size zq35_2)) : w.heap.size ≤ gb218)); have GE218 := aK (((by rw [hg]; exact (below_size zq35_2)) : w.heap.size ≤ gb218)); replace HB := aK (bS zq35_2 hb); clear hb hbox hg) | ((with_reducible refine gate_dst (N := 2) rfl ?_); refine box_event ?hg (N := 2) ?hd (cs := #[.int .i64 0, .slice none 0 0]) (t := 69) ?hr ?_; (case hd => rfl); (case hg => rfl); (case hr => first | (go_simp; done) | (go_simp; rfl)); intro gb219 hg w4 hbox hb; have BK219 := aK (hbox); have GW219 := aK (((by rw [hg]; exact (below_size zq35_1)) : w.heap.size ≤ gb219)); have GE219 := aK (((by rw [hg]; exact (below_size zq35_1)) : w.heap.size ≤ gb219)); replace HB := aK (bS zq35_1 hb); have NB218_219 := aK (((by rw [hg]; exact Nat.ne_of_lt (blk_lt (g := gb218) (o := .cells #[.int .i64 a0_0, .slice A0_1 l0_1.length c0_1] 59 (0, 0)) zq35_3)) : gb218 ≠ gb219)); have NB219_218 := aK (((by rw [hg]; exact Nat.ne_of_gt (blk_lt (g := gb218) (o := .cells #[.int .i64 a0_0, .slice A0_1 l0_1.length c0_1] 59 (0, 0)) zq35_3)) : gb219 ≠ gb218)); replace BK218 := aK (bB (g := gb218) (o := .cells #[.int .i64 a0_0, .slice A0_1 l0_1.length c0_1] 59 (0, 0)) zq35_3 hb); clear hb hbox hg))
  replace BK218 := aK (blk_drew BK218.out)
  replace BK219 := aK (blk_drew BK219.out)
  replace HB := aK (bW HB.out)
  refine start_ (n := 8) (S := fun w' => w'.cell? ⟨gb218, 0, none⟩ = some (.int .i64 a0_0) ∧ w'.cell? ⟨gb218, 1, none⟩ = some (.slice A0_1 l0_1.length c0_1)) (ds := []) #[false, false, false, false, false, false, false, false] (by kernel_rfl) rfl rfl ⟨(bC BK218.out 0).trans rfl, (bC BK218.out 1).trans rfl⟩ (fun hHeld => ?_); refine with_tabW cenotaphlaw02_To.tab1 cenotaphlaw02_To.bits1 (fun HT_ HW_ => ?_)
  generalize w4.drew = w5 at BK218 BK219 HB hHeld ⊢
  refine p_ 0 3 (mk_ 8 0x1) ?_
  refine p_ 3 6 (mk_ 8 0x9) ?_
  refine t_ 1 4 (mk_ 8 0xb) hHeld ?_
  refine t_ 4 7 (mk_ 8 0x1b) hHeld ?_
  refine one_ (i := 2) (N := some 5) #[true, true, true, true, true, false, false, false] rfl rfl (one_of HT_.out (by kernel_rfl)) (by decide) (fun K hK => ?_)
  refine Kd.R_lit_step (Kd.int .i64) _ 3 ?hg (N := 5) ?hd (xs := ([] : List Int)) (inner := []) (ok := fun _ => True) (okp := fun _ => True) ?hr ?hp (fun _ hk => hk) trivial (Below.refl _ _) (Nat.le_refl _) (by simp) ?_; (case hd => rfl); (case hg => rfl); (case hr => first | (go_simp; done) | (go_simp; rfl)); (case hp => exact (Reps.none _ _))
  intro v221 w6 ho7 hb hg_ hnew_
  clear hg_ hnew_
  (first | rw [← Ny220.out] at ho7 | (simp only [Int.reduceToNat] at ho7; rw [← Ny220.out] at ho7))
  have HO222 := aK (Kd.R_lower ho7 (below_size zq35_0))
  replace BK218 := aK (bB (g := gb218) (o := .cells #[.int .i64 a0_0, .slice A0_1 l0_1.length c0_1] 59 (0, 0)) zq35_3 hb)
  replace BK219 := aK (bB (g := gb219) (o := .cells #[.int .i64 0, .slice none 0 0] 69 (0, 0)) (by (with_reducible repeat (first | refine blk_drewN ?_ _ | refine blk_drew ?_ | refine blk_alloc ?_ _)); exact BK219.out) hb)
  replace HB := aK (bS zq35_0 hb)
  clear hb ho7
  refine hK.out _ _ ⟨(bC BK218.out 0).trans rfl, (bC BK218.out 1).trans rfl⟩ (fun hHeld => ?_)
  clear hK K
  refine norm_ (a' := ?_) ?_ ?_
  rotate_left
  ·show Act.put _ (some 5) _ = _
   simp only [Act.put, lA, lB, lC, i64_w, i32_w]
   rfl
  refine one_ (i := 5) (N := some 8) #[true, true, true, true, true, true, false, false] rfl rfl (one_of HT_.out (by kernel_rfl)) (by decide) (fun K hK => ?_)
  refine Kd.R_append_rows_step (Kd.int .i64) (w0 := w) w.heap.size (by rfl) (.tmp 5) (.tmp 7) 57 3 (.int .i64 0) 8 rfl Tryz.underlying57 info3 rfl (by decide) (by omega) v221 y220 l0_1 _ _ _ (fun _ => True) (fun _ => False) rfl rfl ?aO ?aR (fun _ _ h => h) (fun _ h => h.elim) ?aF ?aB ?aS ?aL ?_
  (case aR => repeat (first | exact (cB HR0_1.out HB.out) | (with_reducible refine Kd.C_alloc ?_ _) | (with_reducible refine Kd.C_drewN ?_ _) | (with_reducible refine Kd.C_drew ?_)))
  (case aB => exact zq35_0)
  (case aF => exact (fun _ _ => trivial))
  (case aO => exact (by (with_reducible repeat (first | apply Kd.R_alloc | apply Kd.R_drewN | apply Kd.R_drew)); exact HO222.out))
  (case aS => exact (below_size zq35_0))
  (case aL => have := LMc2.out; omega)
  intro v224 w8 ho hb hg hat
  rw [← Ny223.out] at ho
  replace BK218 := aK (blk_grown (g := gb218) (o := .cells #[.int .i64 a0_0, .slice A0_1 l0_1.length c0_1] 59 (0, 0)) zq35_3 hg (Kd.R_ne HO222.out BK218.out (by decide)))
  replace BK219 := aK (blk_grown (g := gb219) (o := .cells #[.int .i64 0, .slice none 0 0] 69 (0, 0)) (by (with_reducible repeat (first | refine blk_drewN ?_ _ | refine blk_drew ?_ | refine blk_alloc ?_ _)); exact BK219.out) hg (Kd.R_ne HO222.out BK219.out (by decide)))
  replace HB := aK (hb)
  have HO225 := aK (ho)
  clear HO222
  clear ho hb hg hat
  obtain ⟨Ao9, co9, eo9⟩ := Kd.R_slice HO225.out
  (first | subst eo9 | (injection eo9 with f1_ f2_ f3_; have f4_ := f1_.symm; have f5_ := f3_.symm; clear f1_ f2_ f3_; subst f4_; subst f5_))
  refine hK.out _ _ ⟨(bC BK218.out 0).trans rfl, (bC BK218.out 1).trans rfl⟩ (fun hHeld => ?_)
  clear hK K
  refine norm_ (a' := ?_) ?_ ?_
  rotate_left
  ·show Act.put _ (some 8) _ = _
   simp only [Act.put, lA, lB, lC, i64_w, i32_w]
   rfl
  refine p_ 6 9 (mk_ 8 0x7f) ?_
  refine one_ (i := 7) (N := none) #[true, true, true, true, true, true, true, true] rfl rfl (one_of HT_.out (by kernel_rfl)) (by decide) (fun K hK => ?_)
  have hs10 : w8.cell? ⟨gb219, 0, none⟩ = some (.int .i64 0) := (bC BK219.out 0).trans rfl
  have hfs10 := bF_ BK219.out 0
  have hns10_0 := NB218_219.out
  have hms10_0 := NB219_218.out
  have hs11 : w8.cell? ⟨gb219, 1, none⟩ = some (.slice none 0 0) := (bC BK219.out 1).trans rfl
  have hfs11 := bF_ BK219.out 1
  have hns11_0 := NB218_219.out
  have hms11_0 := NB219_218.out
  refine skip_ (w1 := ?_) (by rfl) rfl ?_ ?_
  rotate_left
  ·go_simp
   rfl
  refine hK.out _ _ ⟨((cell_far (p := ⟨gb219, _, none⟩) NB218_219.out _).trans (((cell_far (p := ⟨gb219, _, none⟩) NB218_219.out _).trans (hHeld.1)))), ((cell_far (p := ⟨gb219, _, none⟩) NB218_219.out _).trans (((cell_far (p := ⟨gb219, _, none⟩) NB218_219.out _).trans (hHeld.2))))⟩ (fun hHeld => ?_)
  clear hK K
  refine done_ (done_of HT_.out (by kernel_rfl)) ?_
  try go_wp2
  refine bodyPost_ret (results_cell_row rfl _ _ gb219 69 #[.int .i64 a0_0, .slice Ao9 y223.length co9] (0, 0) _ rfl (by (with_reducible repeat (first | refine blk_drewN ?_ _ | refine blk_drew ?_ | refine blk_alloc ?_ _)); refine blk_put (cs := #[.int .i64 a0_0, .slice none 0 0]) ?_ 1 _ rfl; (with_reducible repeat (first | refine blk_drewN ?_ _ | refine blk_drew ?_ | refine blk_alloc ?_ _)); refine blk_put (cs := #[.int .i64 0, .slice none 0 0]) ?_ 0 _ rfl; (with_reducible repeat (first | refine blk_drewN ?_ _ | refine blk_drew ?_ | refine blk_alloc ?_ _)); exact BK219.out) Tryz.underlying69 rfl (by kernel_rfl)) rfl ?_
  exact ⟨_, by first | rfl | (simp [errW_none, errW_some] <;> rfl) | (simp [*, errW_none, errW_some] <;> rfl), by (with_reducible repeat (first | apply Kd.R_alloc | apply Kd.R_drewN | apply Kd.R_drew)); exact Kd.R_mono (Kd.R_far (p := ⟨gb219, 1, none⟩) (Kd.R_far (p := ⟨gb219, 0, none⟩) (Kd.R_types HO225.out BK219.out (by decide)) (fun _ hk => hk.2) (.int .i64 a0_0)) (fun _ hk => hk.2) (.slice Ao9 y223.length co9)) (fun _ hk => trivial), by repeat (first | (with_reducible first | exact HB.out | apply bA | apply pB | apply bW | refine below_set ?_ GE218.out | refine below_set ?_ GE219.out) | exact HB.out)⟩
 ·rw [if_neg c2] at H
  exact absurd H (by simp)
theorem zq8_0 {p_ : Prop} (h_ : p_ := by repeat (first | (with_reducible first | exact HB.out | apply bA | apply pB | apply bW) | exact HB.out)) : p_ := h_
theorem zq8_1 {p_ : Prop} (h_ : p_ := by first | (with_reducible assumption) | assumption) : p_ := h_
def cenotaphlaw04_To.l0 : Nat → List (S61) → List (S72) → Int → Option ((List (S72)))
 | 0, _, _, _ => none
 | k + 1, x0, x3, x4 => if x4 < (x0.length : Int) then (if 0 ≤ x4 then ((cenotaphlaw02_To.f ((rd_T61 x0 x4).f1.f0) ((rd_T61 x0 x4).f1.f1)).bind fun bt228 => (if x3.length < 2932031007402 then (cenotaphlaw04_To.l0 k x0 (x3 ++ [(⟨(rd_T61 x0 x4).f0, (⟨bt228.1, bt228.2⟩ : S69)⟩ : S72)]) (wrap64 (x4 + 1))) else (none))) else (none)) else (some x3)
def cenotaphlaw04_To.f (k : Nat) (l0 : List (S61)) : Option ((List (S72))) := cenotaphlaw04_To.l0 k l0 ([] : List (S72)) 0
theorem cenotaphlaw04_To.mono_l : ∀ k, (∀ y0 y1 y2, LeO (cenotaphlaw04_To.l0 k y0 y1 y2) (cenotaphlaw04_To.l0 (k + 1) y0 y1 y2))
 | 0 => fun _ _ _ r h => by simp [cenotaphlaw04_To.l0] at h
 | k + 1 => by
  have ih0 := cenotaphlaw04_To.mono_l k
  ·intro y0 y1 y2
   unfold cenotaphlaw04_To.l0
   repeat' first
   | (with_reducible exact ih0 _ _ _)
   | (with_reducible exact LeO.refl _)
   | (with_reducible exact LeO.none _)
   | (with_reducible refine LeO.ite ?_ ?_)
   | (with_reducible refine LeO.bind ?_ (fun _ => ?_))
   | exact ih0 _ _ _
   | exact LeO.none _
   | refine LeO.ite ?_ ?_
   | refine LeO.bind ?_ (fun _ => ?_)
theorem cenotaphlaw04_To.mono : ∀ a0 k, LeO (cenotaphlaw04_To.f k a0) (cenotaphlaw04_To.f (k + 1) a0) := by
 intro a0 k
 have ih0 := cenotaphlaw04_To.mono_l k
 unfold cenotaphlaw04_To.f
 repeat' first
   | (with_reducible exact ih0 _ _ _)
   | (with_reducible exact LeO.refl _)
   | (with_reducible exact LeO.none _)
   | (with_reducible refine LeO.ite ?_ ?_)
   | (with_reducible refine LeO.bind ?_ (fun _ => ?_))
   | exact ih0 _ _ _
   | exact LeO.none _
   | refine LeO.ite ?_ ?_
   | refine LeO.bind ?_ (fun _ => ?_)
def cenotaphlaw04_To.T5 : Bool × List (List Nat × List Nat) := (true, [([], []), ([], []), ([], []), ([1, 2], [1, 2]), ([3], [3]), ([4], [4]), ([], []), ([], []), ([6, 7], [6, 7]), ([8], [8]), ([9], [9]), ([10], [10]), ([5, 11], [5, 11]), ([12], [12]), ([0, 13, 11], [0, 13]), ([14, 14, 0, 1, 2, 3, 4, 5, 6, 7, 8, 9, 10, 11, 12, 13, 14], [0, 14])])
def cenotaphlaw04_To.B5 : List Nat := [0, 0, 0, 6, 14, 30, 0, 0, 192, 448, 960, 1984, 4094, 8190, 16383, 32767]
theorem cenotaphlaw04_To.tab5 : rtab .any (opsOf Tryz.f8 5) = cenotaphlaw04_To.T5 := by kernel_rfl
theorem cenotaphlaw04_To.bits5 : waitsOk cenotaphlaw04_To.T5.2 cenotaphlaw04_To.B5 = true := by kernel_rfl
theorem cenotaphlaw04_To.calls (k : Nat) (A0 : Option Addr) (c0 : Nat) (l0 : List (S61)) (r : List (S72)) (w : World) (hr0 : Kd.C k61 w A0 l0.length l0) (hc0 : l0.length ≤ c0) (h : cenotaphlaw04_To.f k l0 = some r) :
  Calls Tryz.prog 8 #[.slice A0 l0.length c0] w fun e w' => ∃ v0_ : Value, e = .returned (v0_) ∧ Kd.S k72 72 w' w.heap.size (fun _ => True) v0_ r ∧ Below w.heap.size w w' := by
 have hu59 := Tryz.underlying59
 have hu72 := Tryz.underlying72
 have HR0 := aK hr0
 have HC0 := aK hc0
 clear hr0 hc0
 have HB := aK (Below.refl w.heap.size w)
 have H : (cenotaphlaw04_To.l0 k l0 ([] : List (S72)) 0) = some r := h
 clear h
 have H' := aK H
 clear H
 go_enter Tryz.func8, Tryz.ntmps8
 go_wp2
 go_loopg [3, 4] k (fun kq v3 v4 w' => ∃ (x3_1 : List (S72)) (x4_1 : Int), v4 = .int .i64 x4_1 ∧ Aside0 (cenotaphlaw04_To.l0 kq l0 x3_1 x4_1 = some r) ∧ Aside0 (kq ≤ k) ∧ Aside0 (Kd.S k72 72 w' w.heap.size (fun _ => True) v3 x3_1) ∧ Aside0 (Below w.heap.size w w'))
 case atStart => exact ⟨(([] : List (S72))), (0), (by first | rfl | (simp; done) | (simp [*]; done)), H', ⟨Nat.le_refl _⟩, ⟨by first | exact Kd.S_nil _ _ _ _ _ | exact Kd.N_nil _ _ _ _ _ | exact Kd.V_nil _ _ _ _ _ | exact Kd.Q_nil _ _ _ _ _ | exact Kd.R_nil _ _ _ _ _⟩, ⟨by repeat (first | (with_reducible first | exact HB.out | apply bA | apply pB | apply bW) | exact HB.out)⟩⟩
 case round =>
  clear H'
  obtain ⟨x3_1, x4_1, rfl, HA, HK1, HO_3, HB⟩ := hrel
  cases gk with
  | zero => exact absurd HA.out (by simp [cenotaphlaw04_To.l0])
  | succ k1 =>
   have H := HA.out
   clear HA
   simp only [cenotaphlaw04_To.l0] at H
   by_cases c2 : x4_1 < (l0.length : Int)
   ·rw [if_pos c2] at H
    have c2b0 : decide (x4_1 < (l0.length : Int)) = true := dT c2
    clear c2
    by_cases c3 : 0 ≤ x4_1
    ·rw [if_pos c3] at H
     have c3b0 : decide (0 ≤ x4_1) = true := dT c3
     clear c3
     replace H := bM H
     obtain ⟨⟨t228, t229⟩, A40, H⟩ := H
     have A4 := aK A40
     clear A40
     by_cases c5 : x3_1.length < 2932031007402
     ·rw [if_pos c5] at H
      have LMc5 := aK c5
      clear c5
      obtain ⟨y232, hy232⟩ : ∃ y_ : List (S72), y_ = (x3_1 ++ [(⟨(rd_T61 l0 x4_1).f0, (⟨t228, t229⟩ : S69)⟩ : S72)]) := ⟨_, rfl⟩
      replace H : (cenotaphlaw04_To.l0 k1 l0 y232 (wrap64 (x4_1 + 1))) = some r := by first | (rw [hy232]; with_reducible exact H) | (have H2_ := (Option.bind_some _ _).symm.trans H; rw [hy232]; with_reducible exact H2_) | (have H2_ := (Option.bind_some _ _).symm.trans H; with_reducible exact H2_) | with_reducible exact H | (rw [hy232]; exact H) | exact H
      have Ny232 := aK hy232
      clear hy232
      have H' := aK H
      clear H
      try go_wp2
      replace HO_3 := aK (Kd.S_drew HO_3.out)
      replace HB := aK (bW HB.out)
      have p226 : 0 ≤ (x4_1 : Int) := oD zq8_1
      have q226 : x4_1 < (l0.length : Int) := oD zq8_1
      obtain ⟨ad226, A226_2, c226_2, e226, hx226_0, hx226_1, hx226_2, hl226_2, hi226_2⟩ := at_T61 HR0.out x4_1 p226 q226
      have hw226_2 := hx226_2
      have hw226_1 := hx226_1
      have hw226_0 := hx226_0
      cases e226
      replace hx226_0 := pc_ HB hx226_0
      replace hx226_1 := pc_ HB hx226_1
      replace hx226_2 := pc_ HB hx226_2
      have HR226_2 := aK hi226_2
      have HC226_2 := aK hl226_2
      clear hi226_2 hl226_2
      replace p226 := eT p226
      replace q226 := eT q226
      have p227 : 0 ≤ (x4_1 : Int) := oD zq8_1
      have q227 : x4_1 < (l0.length : Int) := oD zq8_1
      obtain ⟨ad227, A227_2, c227_2, e227, hx227_0, hx227_1, hx227_2, hl227_2, hi227_2⟩ := at_T61 HR0.out x4_1 p227 q227
      have hw227_2 := hx227_2
      have hw227_1 := hx227_1
      have hw227_0 := hx227_0
      obtain rfl : ad226 = ad227 := (by injection e227)
      replace hx227_0 := pc_ HB hx227_0
      replace hx227_1 := pc_ HB hx227_1
      replace hx227_2 := pc_ HB hx227_2
      have HR227_2 := aK hi227_2
      have HC227_2 := aK hl227_2
      clear hi227_2 hl227_2
      replace p227 := eT p227
      replace q227 := eT q227
      have ea_ := sI (hx226_2.symm.trans hx227_2)
      injection ea_ with ea_ en_ ec_
      subst ea_
      subst ec_
      clear en_
      refine start_ (n := 16) (S := fun w' => w'.cell? (ad226.add ((x4_1).toNat * 3)) = some (.string ((rd_T61 l0 x4_1).f0)) ∧ w'.cell? ⟨(ad226.add ((x4_1).toNat * 3)).block, (ad226.add ((x4_1).toNat * 3)).off + 1, none⟩ = some (.int .i64 ((rd_T61 l0 x4_1).f1.f0)) ∧ w'.cell? ⟨(ad226.add ((x4_1).toNat * 3)).block, (ad226.add ((x4_1).toNat * 3)).off + 2, none⟩ = some (.slice A226_2 ((rd_T61 l0 x4_1).f1.f1).length c226_2) ∧ w'.cell? (ad226.add ((x4_1).toNat * 3)) = some (.string ((rd_T61 l0 x4_1).f0)) ∧ w'.cell? ⟨(ad226.add ((x4_1).toNat * 3)).block, (ad226.add ((x4_1).toNat * 3)).off + 1, none⟩ = some (.int .i64 ((rd_T61 l0 x4_1).f1.f0)) ∧ w'.cell? ⟨(ad226.add ((x4_1).toNat * 3)).block, (ad226.add ((x4_1).toNat * 3)).off + 2, none⟩ = some (.slice A226_2 ((rd_T61 l0 x4_1).f1.f1).length c226_2)) (ds := []) #[false, false, false, false, false, false, false, false, false, false, false, false, false, false, false, false] (by kernel_rfl) rfl rfl ⟨(pc_ HB hw226_0), (pc_ HB hw226_1), (pc_ HB hw226_2), (pc_ HB hw227_0), (pc_ HB hw227_1), (pc_ HB hw227_2)⟩ (fun hHeld => ?_); refine with_tabW cenotaphlaw04_To.tab5 cenotaphlaw04_To.bits5 (fun HT_ HW_ => ?_)
      generalize wr.drew = w6 at HO_3 HB HR226_2 HR227_2 hx226_0 hx226_1 hx226_2 hx227_0 hx227_1 hx227_2 hHeld ⊢
      refine p_ 0 11 (mk_ 16 0x1) ?_
      refine p_ 1 12 (mk_ 16 0x3) ?_
      refine p_ 2 13 (mk_ 16 0x7) ?_
      refine p_ 3 14 (mk_ 16 0xf) ?_
      refine p_ 4 15 (mk_ 16 0x1f) ?_
      refine p_ 6 17 (mk_ 16 0x5f) ?_
      refine p_ 7 18 (mk_ 16 0xdf) ?_
      refine p_ 8 19 (mk_ 16 0x1df) ?_
      refine p_ 9 20 (mk_ 16 0x3df) ?_
      refine t_ 5 16 (mk_ 16 0x3ff) hHeld ?_
      refine t_ 10 21 (mk_ 16 0x7ff) hHeld ?_
      refine one_ (i := 11) (N := some 22) #[true, true, true, true, true, true, true, true, true, true, true, true, false, false, false, false] rfl rfl (one_of HT_.out (by kernel_rfl)) (by decide) (fun K hK => ?_)
      refine goes_ Tryz.func35 (by kernel_rfl) rfl #[.agg #[.int .i64 ((rd_T61 l0 x4_1).f1.f0), .slice A226_2 ((rd_T61 l0 x4_1).f1.f1).length c226_2]] (by rfl) rfl rfl (by (try simp only [List.map_toArray, List.map_cons, List.map_nil]); first | done | rfl | (simp only [List.length_drop, List.length_take]; rfl)) ?_
      with_reducible refine (cenotaphlaw02_To.calls ((rd_T61 l0 x4_1).f1.f0) _ _ ((rd_T61 l0 x4_1).f1.f1) t228 t229 _ ?side1 ?side2 A4.out).mono ?_
      (case side1 => repeat (first | exact (cB HR227_2.out HB.out) | (with_reducible refine Kd.C_alloc ?_ _) | (with_reducible refine Kd.C_drewN ?_ _) | (with_reducible refine Kd.C_drew ?_)))
      (case side2 => exact HC227_2.out)
      rintro e w7 ⟨v230, rfl, ho0, hb⟩
      refine ⟨_, rfl, ?_⟩
      replace HO_3 := aK (Kd.S_elder' (by (with_reducible repeat (first | apply Kd.S_alloc | apply Kd.S_drewN | apply Kd.S_drew)); exact HO_3.out) (Kd.R_base ho0) hb)
      have HO231 := aK (Kd.R_lower ho0 (below_size zq8_0))
      replace HB := aK (bS zq8_0 hb)
      (try clear hb)
      (try clear hb2)
      (try clear hk)
      (try clear hi)
      (try clear ho0)
      obtain ⟨Ao8, co8, eo8⟩ := Kd.R_slice HO231.out
      (first | subst eo8 | (injection eo8 with f1_ f2_ f3_; have f4_ := f1_.symm; have f5_ := f3_.symm; clear f1_ f2_ f3_; subst f4_; subst f5_))
      refine hK.out _ _ ⟨(pc_ HB hw226_0), (pc_ HB hw226_1), (pc_ HB hw226_2), (pc_ HB hw227_0), (pc_ HB hw227_1), (pc_ HB hw227_2)⟩ (fun hHeld => ?_)
      clear hK K
      refine norm_ (a' := ?_) ?_ ?_
      rotate_left
      ·show Act.put _ (some 22) _ = _
       simp only [Act.put, lA, lB, lC, i64_w, i32_w]
       rfl
      refine p_ 12 23 (mk_ 16 0x1fff) ?_
      refine one_ (i := 13) (N := some 24) #[true, true, true, true, true, true, true, true, true, true, true, true, true, true, false, false] rfl rfl (one_of HT_.out (by kernel_rfl)) (by decide) (fun K hK => ?_)
      refine value_ (w1 := ?_) (v := ?_) (by rfl) rfl ?_ ?_
      rotate_left 2
      ·go_simp
       constructor
       ·rfl
       ·rfl
      refine hK.out _ _ ⟨(World.cell?_alloc_lt _ _ _ (wl_ _ _ ((pc_ HB hw226_0)))).trans ((pc_ HB hw226_0)), (World.cell?_alloc_lt _ _ _ (wl_ _ _ ((pc_ HB hw226_1)))).trans ((pc_ HB hw226_1)), (World.cell?_alloc_lt _ _ _ (wl_ _ _ ((pc_ HB hw226_2)))).trans ((pc_ HB hw226_2)), (World.cell?_alloc_lt _ _ _ (wl_ _ _ ((pc_ HB hw227_0)))).trans ((pc_ HB hw227_0)), (World.cell?_alloc_lt _ _ _ (wl_ _ _ ((pc_ HB hw227_1)))).trans ((pc_ HB hw227_1)), (World.cell?_alloc_lt _ _ _ (wl_ _ _ ((pc_ HB hw227_2)))).trans ((pc_ HB hw227_2))⟩ (fun hHeld => ?_)
      clear hK K
      refine norm_ (a' := ?_) ?_ ?_
      rotate_left
      ·show Act.put _ (some 24) _ = _
       simp only [Act.put, lA, lB, lC, i64_w, i32_w]
       rfl
      refine one_ (i := 14) (N := some 25) #[true, true, true, true, true, true, true, true, true, true, true, true, true, true, true, false] rfl rfl (one_of HT_.out (by kernel_rfl)) (by decide) (fun K hK => ?_)
      refine Kd.S_append_step k72 (w0 := w) w.heap.size (by rfl) (.tmp 11) (.tmp 24) 29 72 (.agg #[(.string ⟨#[]⟩), (.int .i64 0), (.slice none 0 0)]) 48 rfl Tryz.underlying29 info72 rfl (by decide) (by omega) u3 x3_1 (⟨(rd_T61 l0 x4_1).f0, (⟨t228, t229⟩ : S69)⟩ : S72) [.string ((rd_T61 l0 x4_1).f0), .int .i64 t228, .slice Ao8 t229.length co8] (fun _ => True) (fun k_ => some k_ = (.slice Ao8 t229.length co8 : Value).ownBlock) rfl rfl ?aP (fun k_ hk_ => ((Kd.R_mono (ok' := fun k_ => ((fun _ => True)) k_ ∧ some k_ ≠ (u3 : Value).ownBlock) (Kd.R_apart' (HO231.out) (Kd.S_typed HO_3.out) (by decide)) (fun k_ hk => ⟨trivial, hk.2⟩))).1 k_ hk_.symm) ?aF ?aO ?aB ?aS ?aL ?_
      (case aP => exact k72_mkM _ _ _ (⟨(rd_T61 l0 x4_1).f0, (⟨t228, t229⟩ : S69)⟩ : S72) (Kd.R_mono (Kd.R_tight rfl (Kd.R_mono (ok' := fun k_ => ((fun _ => True)) k_ ∧ some k_ ≠ (u3 : Value).ownBlock) (Kd.R_apart' (HO231.out) (Kd.S_typed HO_3.out) (by decide)) (fun k_ hk => ⟨trivial, hk.2⟩))) (fun _ h_ => h_)))
      (case aB => exact zq8_0)
      (case aF => exact (fun _ _ => trivial))
      (case aO => exact (by (with_reducible repeat (first | apply Kd.S_alloc | apply Kd.S_drewN | apply Kd.S_drew)); exact Kd.S_mono HO_3.out (fun k_ hk => ⟨trivial, fun e_ => hk.2 e_⟩)))
      (case aS => exact (below_size zq8_0))
      (case aL => have := LMc5.out; omega)
      intro v233 w9 ho hb hg hat
      rw [← Ny232.out] at ho
      replace HB := aK (hb)
      have HO234 := aK (ho)
      clear HO_3 HO231
      clear ho hb hg hat
      refine hK.out _ _ ⟨(pc_ HB hw226_0), (pc_ HB hw226_1), (pc_ HB hw226_2), (pc_ HB hw227_0), (pc_ HB hw227_1), (pc_ HB hw227_2)⟩ (fun hHeld => ?_)
      clear hK K
      refine norm_ (a' := ?_) ?_ ?_
      rotate_left
      ·show Act.put _ (some 25) _ = _
       simp only [Act.put, lA, lB, lC, i64_w, i32_w]
       rfl
      refine p_ 15 3 (mk_ 16 0xffff) ?_
      refine done_ (done_of HT_.out (by kernel_rfl)) ?_
      try go_wp2
      go_roundg k1
      case measure => have := HK1.out; omega
      case rel => exact ⟨(y232), (wrap64 (x4_1 + 1)), (by first | rfl | (simp; done) | (simp [*]; done)), H', ⟨by have := HK1.out; omega⟩, ⟨by (with_reducible repeat (first | apply Kd.S_alloc | apply Kd.S_drewN | apply Kd.S_drew)); exact HO234.out⟩, ⟨by repeat (first | (with_reducible first | exact HB.out | apply bA | apply pB | apply bW) | exact HB.out)⟩⟩
     ·rw [if_neg c5] at H
      exact absurd H (by simp)
    ·rw [if_neg c3] at H
     exact absurd H (by simp)
   ·rw [if_neg c2] at H
    have c2b0 : decide (x4_1 < (l0.length : Int)) = false := decide_eq_false c2
    clear c2
    obtain rfl := sI H
    go_wp2
    go_ret
    exact ⟨_, by first | rfl | (simp [errW_none, errW_some] <;> rfl) | (simp [*, errW_none, errW_some] <;> rfl), by (with_reducible repeat (first | apply Kd.S_alloc | apply Kd.S_drewN | apply Kd.S_drew)); exact HO_3.out, by repeat (first | (with_reducible first | exact HB.out | apply bA | apply pB | apply bW) | exact HB.out)⟩
def strings_HasPrefix.f (a0 : ByteArray) (a1 : ByteArray) : Option Bool := some (a1.data.toList.isPrefixOf a0.data.toList)
theorem strings_HasPrefix.calls (a0 : ByteArray) (a1 : ByteArray) (r : Bool) (w : World) (h : strings_HasPrefix.f a0 a1 = some r) :
  Calls Tryz.prog 77 #[.string a0, .string a1] w fun e w' => e = .returned (.bool r) ∧ Drawn0 w w' := by
 have hr : r = (decide (a1.size ≤ a0.size) && ((a0.extract 0 a1.size).toList == a1.toList)) := by
  rw [Lib.hasPrefix_raw]; exact (sI h).symm
 have HR := aK hr
 clear hr h
 go_enter Tryz.func77, Tryz.ntmps77
 go_wp2
 ·rename_i h
  go_ret
  refine ⟨?_, Drawn0.refl _⟩
  have h2 : decide (a1.size ≤ a0.size) = true := by simpa using h
  rw [HR.out, h2, Bool.true_and]; rfl
 ·rename_i h
  go_ret
  refine ⟨?_, Drawn0.refl _⟩
  have h2 : decide (a1.size ≤ a0.size) = false := by simpa using h
  rw [HR.out, h2, Bool.false_and]; rfl
def id_Right.f (a0 : ByteArray) : Option Bool := some (rightB a0)
theorem id_Right.mid (a0 : ByteArray) (r : Bool) (w : World) (hp1 : (({ data := #[48] } : ByteArray).data.toList.isPrefixOf a0.data.toList) = true) (h1 : 1 ≤ a0.size) (h6 : a0.size ≤ 6) (hr : Aside0 ((a0.extract 1 a0.size).data.toList.all okDigit = r)) :
  Calls Tryz.prog 56 #[.string a0] w fun e w' => e = .returned (.bool r) ∧ Below w.heap.size w w' := by
 have hc0 : decide (6 < (a0.size : Int)) = false := by simp; omega
 have hcv := fun W => Lib.run_convert_string_bytes (P := Tryz.prog) W 51 114 5 (a0.extract 1 a0.size) Tryz.underlying51 Tryz.underlying114 Tryz.underlying5
 have hes : (a0.extract 1 a0.size).size = a0.size - 1 := by simp [ByteArray.size_extract]
 have hx : (a0.extract 1 a0.size).size ≤ 5 := by omega
 have hpre : strings_HasPrefix.f a0 ⟨#[48]⟩ = some true := congrArg some hp1
 generalize hs : a0.extract 1 a0.size = s at hcv hes hx hr ⊢
 have HP := aK hpre
 clear hpre
 go_enter Tryz.func56, Tryz.ntmps56
 go_wp2_with (first | (go_at_call 77; refine (strings_HasPrefix.calls _ _ true _ HP.out).mono ?_; rintro e w' ⟨rfl, ⟨nd, rfl⟩⟩))
 have HC := aK (show ∀ j, j < s.size → (Lib.bytesWorld (w.drewN nd) 5 s).cell? ⟨w.heap.size, j, none⟩ = some (.int .u8 (s.data.toList.getD j 0).toNat) from fun j hj => Lib.bytesWorld_cell (w.drewN nd) 5 s j hj)
 have HB := aK (below_bytesWorldN w nd 5 s)
 clear hcv
 generalize Lib.bytesWorld (w.drewN nd) 5 s = W at HB HC ⊢
 have HL := aK (show s.data.toList.length = s.size by simp)
 clear hs
 go_loop [4, 17] (fun _ i => ∃ k : Nat, k ≤ s.size ∧ i = .int .i64 k ∧ Aside0 ((s.data.toList.take k).all okDigit = true)) (fun _ i => s.size - (intOf i).toNat)
 case atStart => exact ⟨0, Nat.zero_le _, rfl, ⟨by simp⟩⟩
 case round =>
  obtain ⟨k, hk, rfl, HA⟩ := hrel
  by_cases hlt : k < s.size
  ·have hc := HC.out k hlt
   have hks : s.data.toList.getD k 0 = s.data.toList[k]'(by simpa using hlt) := by simp [List.getD, hlt]
   have hsn : (s.data.toList.take (k + 1)).all okDigit = okDigit (s.data.toList.getD k 0) := by
    rw [List.take_succ_eq_append_getElem (by simpa using hlt), List.all_append, HA.out, hks]; simp
   have hno : okDigit (s.data.toList.getD k 0) = false → s.data.toList.all okDigit = false := by
    intro h; rw [hks] at h
    rw [List.all_eq_false]; exact ⟨s.data.toList[k]'(by simpa using hlt), List.getElem_mem _, by rw [h]; decide⟩
   generalize s.data.toList.getD k 0 = c at hc hsn hks hno
   by_cases hd : okDigit c = true
   ·obtain ⟨h48, h57⟩ := u8_digit hd
    rw [hd] at hsn
    have HN := aK hsn
    clear hsn hd hks hno
    go_wp2
    go_round
    case rel => exact ⟨k + 1, by omega, by go_num, HN⟩
    case measure => simp [intOf]; omega
   ·have HN := aK (hno (by simpa using hd))
    have hdd := u8_nodigit hd
    clear hsn hks hno hd
    have fin : r = false := by rw [← hr.out, HN.out]
    subst fin
    rcases hdd with hdd | hdd
    ·have hdd' : decide ((c.toNat : Int) ≤ 48) = true := dT hdd
     clear hdd
     go_wp2
     go_ret
     exact ⟨rfl, HB.out⟩
    ·have hdd' : decide ((57 : Int) < c.toNat) = true := dT hdd
     clear hdd
     go_wp2
     all_goals (go_ret; exact ⟨rfl, HB.out⟩)
  ·have e : k = s.size := by omega
   have hall : s.data.toList.all okDigit = true := by
    have := HA.out; rwa [e, ← HL.out, List.take_length] at this
   have fin : r = true := by rw [← hr.out, hall]
   clear hall e
   subst fin
   have hge : decide ((k : Int) < (s.size : Int)) = false := by simp; omega
   go_wp2
   go_ret
   exact ⟨rfl, HB.out⟩
theorem id_Right.calls (a0 : ByteArray) (r : Bool) (w : World) (h : id_Right.f a0 = some r) :
  Calls Tryz.prog 56 #[.string a0] w fun e w' => e = .returned (.bool r) ∧ Below w.heap.size w w' := by
 have hr : rightB a0 = r := sI h
 clear h
 unfold rightB at hr
 by_cases hp1 : (({ data := #[48] } : ByteArray).data.toList.isPrefixOf a0.data.toList) = true
 ·have h1 : 1 ≤ a0.size := by
   cases e : a0.data.toList with
   | nil => rw [e] at hp1; simp [List.isPrefixOf] at hp1
   | cons c t =>
    have : a0.data.toList.length = t.length + 1 := by rw [e]; rfl
    have h2 : a0.data.toList.length = a0.size := by simp
    omega
  by_cases h6 : a0.size ≤ 6
  ·exact id_Right.mid a0 r w hp1 h1 h6 ⟨by rw [← hr, hp1, dT h6]; simp⟩
  ·have fin : r = false := by rw [← hr, decide_eq_false h6]; simp
   subst fin
   clear hr
   have HP := aK (show strings_HasPrefix.f a0 ⟨#[48]⟩ = some true from congrArg some hp1)
   clear hp1
   have hc0 : decide (6 < (a0.size : Int)) = true := by simp; omega
   go_enter Tryz.func56, Tryz.ntmps56
   go_wp2_with (first | (go_at_call 77; refine (strings_HasPrefix.calls _ _ true _ HP.out).mono ?_; rintro e w' ⟨rfl, ⟨nd, rfl⟩⟩))
   go_ret
   exact ⟨rfl, pB (Below.refl _ _) _⟩
 ·have hpf : (({ data := #[48] } : ByteArray).data.toList.isPrefixOf a0.data.toList) = false := (Bool.not_eq_true _).mp hp1
  have fin : r = false := by rw [← hr, hpf]; rfl
  subst fin
  clear hr
  have HP := aK (show strings_HasPrefix.f a0 ⟨#[48]⟩ = some false from congrArg some hpf)
  clear hp1 hpf
  go_enter Tryz.func56, Tryz.ntmps56
  go_wp2_with (first | (go_at_call 77; refine (strings_HasPrefix.calls _ _ false _ HP.out).mono ?_; rintro e w' ⟨rfl, ⟨nd, rfl⟩⟩))
  go_ret
  exact ⟨rfl, pB (Below.refl _ _) _⟩
def vec_At.f (l0 : List (S75)) : Option ((List (S75))) := (some (([] : List (S75)) : List (S75))).bind fun y235 => (if y235.length + l0.length < 5864062014805 then (some (y235 ++ l0)) else (none))
theorem vec_At.calls_some (ad0 : Addr) (c0 : Nat) (l0 : List (S75)) (r : List (S75)) (w : World) (hr0 : Kd.C k75 w (some ad0) l0.length l0) (hc0 : l0.length ≤ c0) (h : vec_At.f l0 = some r) :
  Calls Tryz.prog 63 #[.slice (some ad0) l0.length c0] w fun e w' => ∃ v0_ : Value, e = .returned (v0_) ∧ Kd.R k75 75 w' w.heap.size (fun _ => True) v0_ r ∧ Below w.heap.size w w' := by
 have HR0 := aK hr0
 have HC0 := aK hc0
 clear hr0 hc0
 have HB := aK (Below.refl w.heap.size w)
 have H : ((some (([] : List (S75)) : List (S75))).bind fun y235 => (if y235.length + l0.length < 5864062014805 then (some (y235 ++ l0)) else (none))) = some r := h
 clear h
 obtain ⟨y235, hy235⟩ : ∃ y_ : List (S75), y_ = (([] : List (S75))) := ⟨_, rfl⟩
 replace H : (if y235.length + l0.length < 5864062014805 then (some (y235 ++ l0)) else (none)) = some r := by first | (rw [hy235]; with_reducible exact H) | (have H2_ := (Option.bind_some _ _).symm.trans H; rw [hy235]; with_reducible exact H2_) | (have H2_ := (Option.bind_some _ _).symm.trans H; with_reducible exact H2_) | with_reducible exact H | (rw [hy235]; exact H) | exact H
 have Ny235 := aK hy235
 clear hy235
 by_cases c2 : y235.length + l0.length < 5864062014805
 ·rw [if_pos c2] at H
  have LMc2 := aK c2
  clear c2
  obtain ⟨y238, hy238⟩ : ∃ y_ : List (S75), y_ = (y235 ++ l0) := ⟨_, rfl⟩
  replace H : (some y238) = some r := by first | (rw [hy238]; with_reducible exact H) | (have H2_ := (Option.bind_some _ _).symm.trans H; rw [hy238]; with_reducible exact H2_) | (have H2_ := (Option.bind_some _ _).symm.trans H; with_reducible exact H2_) | with_reducible exact H | (rw [hy238]; exact H) | exact H
  have Ny238 := aK hy238
  clear hy238
  obtain rfl := sI H
  have hnq_ : ∀ W : World, (binOp .eql 32 (.slice (some ad0) l0.length c0) (.slice none 0 0)).run Tryz.prog W = .ok (.bool ((some ad0) : Option Addr).isNone) W := fun W => by first | exact Lib.run_eql_slice_nil W 32 75 _ _ _ 0 0 Tryz.underlying32 | exact Lib.run_eql_slice_nil W 32 75 _ _ _ Tryz.underlying32
  go_enter Tryz.func63, Tryz.ntmps63
  go_wp2_with (first | ((with_reducible refine gate_dst (N := 5) rfl ?_); refine Kd.R_lit k75 _ 75 ?hg (N := 5) ?hd (xs := ([] : List (S75))) (inner := []) (ok := fun _ => True) (okp := fun _ => True) ?hr ?hp (fun _ hk => hk) trivial (Below.refl _ _) (Nat.le_refl _) (by simp) ?_; (case hd => rfl); (case hg => rfl); (case hr => first | (go_simp; done) | (go_simp; rfl)); (case hp => exact (Reps.none _ _)); intro v236 w3 ho4 hb hg_ hnew_; clear hg_ hnew_; (first | rw [← Ny235.out] at ho4 | (simp only [Int.reduceToNat] at ho4; rw [← Ny235.out] at ho4)); have HO237 := aK (Kd.R_lower ho4 (below_size (by repeat (first | (with_reducible first | exact HB.out | apply bA | apply pB | apply bW) | exact HB.out)))); replace HB := aK (bS (by repeat (first | (with_reducible first | exact HB.out | apply bA | apply pB | apply bW) | exact HB.out)) hb); clear hb ho4) | ((with_reducible refine gate_builtin (b := .append) (xs := #[.tmp 5, .tmp 6]) rfl ?_); at_builtin; refine Kd.R_append_rows k75 (w0 := w) w.heap.size rfl (.tmp 5) (.tmp 6) 32 75 (.agg #[(.string ⟨#[]⟩), (.int .i64 0)]) 24 rfl Tryz.underlying32 info75 rfl (by decide) (by omega) v236 y235 l0 _ _ _ (fun _ => True) (fun _ => False) rfl rfl ?aO ?aR (fun _ _ h => h) (fun _ h => h.elim) ?aF ?aB ?aS ?aL ?_; (case aR => repeat (first | exact (cB HR0.out HB.out) | (with_reducible refine Kd.C_alloc ?_ _) | (with_reducible refine Kd.C_drewN ?_ _) | (with_reducible refine Kd.C_drew ?_))); (case aB => exact (by repeat (first | (with_reducible first | exact HB.out | apply bA | apply pB | apply bW) | exact HB.out))); (case aF => exact (fun _ _ => trivial)); (case aO => exact (by (with_reducible repeat (first | apply Kd.R_alloc | apply Kd.R_drewN | apply Kd.R_drew)); exact HO237.out)); (case aS => exact (below_size (by repeat (first | (with_reducible first | exact HB.out | apply bA | apply pB | apply bW) | exact HB.out)))); (case aL => have := LMc2.out; omega); intro v239 w5 ho hb hg hat; rw [← Ny238.out] at ho; replace HB := aK (hb); have HO240 := aK (ho); clear HO237; clear ho hb hg hat))
  go_ret
  exact ⟨_, by first | rfl | (simp [errW_none, errW_some] <;> rfl) | (simp [*, errW_none, errW_some] <;> rfl), by (with_reducible repeat (first | apply Kd.R_alloc | apply Kd.R_drewN | apply Kd.R_drew)); exact HO240.out, by repeat (first | (with_reducible first | exact HB.out | apply bA | apply pB | apply bW) | exact HB.out)⟩
 ·rw [if_neg c2] at H
  exact absurd H (by simp)
theorem vec_At.calls (A0 : Option Addr) (c0 : Nat) (l0 : List (S75)) (r : List (S75)) (w : World) (hr0 : Kd.C k75 w A0 l0.length l0) (hc0 : l0.length ≤ c0) (h : vec_At.f l0 = some r) :
  Calls Tryz.prog 63 #[.slice A0 l0.length c0] w fun e w' => ∃ v0_ : Value, e = .returned (v0_) ∧ Kd.R k75 75 w' w.heap.size (fun _ => True) v0_ r ∧ Below w.heap.size w w' := by
 cases A0 with
 | some ad0 => exact vec_At.calls_some ad0 c0 l0 r w hr0 hc0 h
 | none =>
  have hl : l0 = [] := by
   cases l0 with
   | nil => rfl
   | cons x t => obtain ⟨ad, e, _⟩ := hr0.2.2 (by simp); cases e
  subst hl
  have hr : r = [] := by simpa [vec_At.f] using h.symm
  subst hr
  clear h hr0
  have hnq_ : ∀ W : World, (binOp .eql 32 (.slice none 0 c0) (.slice none 0 0)).run Tryz.prog W = .ok (.bool (none : Option Addr).isNone) W := fun W => by first | exact Lib.run_eql_slice_nil W 32 75 _ _ _ 0 0 Tryz.underlying32 | exact Lib.run_eql_slice_nil W 32 75 _ _ _ Tryz.underlying32
  simp only [List.length_nil]
  go_enter Tryz.func63, Tryz.ntmps63
  go_wp2
  go_ret
  exact ⟨_, rfl, Kd.R_nil _ _ _ _ _, Below.refl _ _⟩
def bytealg_CompareString.f (a0 : ByteArray) (a1 : ByteArray) : Option Int := some (Lib.compareBytes a0.data.toList a1.data.toList)
theorem bytealg_CompareString.calls (a0 : ByteArray) (a1 : ByteArray) (r : Int) (w : World) (h : bytealg_CompareString.f a0 a1 = some r) :
  Calls Tryz.prog 96 #[.string a0, .string a1] w fun e w' => e = .returned (.int .i64 r) ∧ Drawn0 w w' := by
 have HR := aK (show Lib.compareBytes a0.data.toList a1.data.toList = r from sI h)
 clear h
 go_enter Tryz.func96, Tryz.ntmps96
 go_wp2
 rw [run_callFunc_extern Tryz.func103 (by kernel_rfl) (by kernel_rfl) (by kernel_rfl) (e := Extern.BytealgCompare.compare) (by kernel_rfl), Lib.run_compareString, HR.out]
 simp only [Result.andThen]
 rw [Oper.upon_value]
 go_wp2
 go_ret
 exact ⟨rfl, Drawn0.refl _⟩
def strings_Compare.f (a0 : ByteArray) (a1 : ByteArray) : Option (Int) := (bytealg_CompareString.f a0 a1).bind fun t241 => (some t241)
theorem strings_Compare.calls (a0 : ByteArray) (a1 : ByteArray) (r : Int) (w : World) (h : strings_Compare.f a0 a1 = some r) :
  Calls Tryz.prog 85 #[.string a0, .string a1] w fun e w' => e = .returned (.int .i64 r) ∧ Drawn0 w w' := by
 have H : ((bytealg_CompareString.f a0 a1).bind fun t241 => (some t241)) = some r := h
 clear h
 replace H := bM H
 obtain ⟨t241, A30, H⟩ := H
 have A3 := aK A30
 clear A30
 obtain rfl := sI H
 go_enter Tryz.func85, Tryz.ntmps85
 go_wp2_with (first | ((with_reducible refine gate_callee (f := 96) rfl ?_); refine goesL_ (some 7) rfl rfl Tryz.func96 (by kernel_rfl) rfl #[.string a0, .string a1] rfl (by (try simp only [List.map_toArray, List.map_cons, List.map_nil]); first | done | rfl | (simp only [List.length_drop, List.length_take]; rfl)) ?_; (with_reducible refine (bytealg_CompareString.calls a0 a1 t241 _ A3.out).mono ?_); rintro e w' ⟨rfl, ⟨nd, rfl⟩⟩; refine ⟨_, rfl, ?_⟩))
 go_ret
 exact ⟨by first | rfl | (simp; done) | (simp [*]; done), by repeat (first | exact Drawn0.refl _ | apply Drawn0.step)⟩
def id_Compare.f (a0 : ByteArray) (a1 : ByteArray) : Option (Int) := (strings_Compare.f a0 a1).bind fun t242 => (some t242)
theorem id_Compare.calls (a0 : ByteArray) (a1 : ByteArray) (r : Int) (w : World) (h : id_Compare.f a0 a1 = some r) :
  Calls Tryz.prog 73 #[.string a0, .string a1] w fun e w' => e = .returned (.int .i64 r) ∧ Drawn0 w w' := by
 have H : ((strings_Compare.f a0 a1).bind fun t242 => (some t242)) = some r := h
 clear h
 replace H := bM H
 obtain ⟨t242, A30, H⟩ := H
 have A3 := aK A30
 clear A30
 obtain rfl := sI H
 go_enter Tryz.func73, Tryz.ntmps73
 go_wp2_with (first | ((with_reducible refine gate_callee (f := 85) rfl ?_); refine goesL_ (some 7) rfl rfl Tryz.func85 (by kernel_rfl) rfl #[.string a0, .string a1] rfl (by (try simp only [List.map_toArray, List.map_cons, List.map_nil]); first | done | rfl | (simp only [List.length_drop, List.length_take]; rfl)) ?_; (with_reducible refine (strings_Compare.calls a0 a1 t242 _ A3.out).mono ?_); rintro e w' ⟨rfl, ⟨nd, rfl⟩⟩; refine ⟨_, rfl, ?_⟩))
 go_ret
 exact ⟨by first | rfl | (simp; done) | (simp [*]; done), by repeat (first | exact Drawn0.refl _ | apply Drawn0.step)⟩
theorem zq80_0 {p_ : Prop} (h_ : p_ := by repeat (first | (with_reducible first | exact HB.out | apply bA | apply pB | apply bW | refine below_set ?_ GE243.out) | exact HB.out)) : p_ := h_
theorem zq80_1 {p_ : Prop} (h_ : p_ := by repeat (first | (with_reducible first | exact HB.out | apply bA | apply pB | apply bW) | exact HB.out)) : p_ := h_
theorem zq80_2 {p_ : Prop} (h_ : p_ := by (with_reducible repeat (first | refine blk_drewN ?_ _ | refine blk_drew ?_ | refine blk_alloc ?_ _)); exact BK243.out) : p_ := h_
def vec_order.f (a0_0 : ByteArray) (a0_1 : Int) (a1_0 : ByteArray) (a1_1 : Int) : Option (Int) := (id_Compare.f a0_0 a1_0).bind fun t245 => (some t245)
theorem vec_order.calls (a0_0 : ByteArray) (a0_1 : Int) (a1_0 : ByteArray) (a1_1 : Int) (r : Int) (w : World) (h : vec_order.f a0_0 a0_1 a1_0 a1_1 = some r) :
  Calls Tryz.prog 80 #[.agg #[.string a0_0, .int .i64 a0_1], .agg #[.string a1_0, .int .i64 a1_1]] w fun e w' => e = .returned (.int .i64 r) ∧ Below w.heap.size w w' := by
 have hu75 := Tryz.underlying75
 have HB := aK (Below.refl w.heap.size w)
 have H : ((id_Compare.f a0_0 a1_0).bind fun t245 => (some t245)) = some r := h
 clear h
 replace H := bM H
 obtain ⟨t245, A30, H⟩ := H
 have A3 := aK A30
 clear A30
 obtain rfl := sI H
 go_enter Tryz.func80, Tryz.ntmps80
 go_wp2_with (first | ((with_reducible refine gate_dst (N := 2) rfl ?_); refine box_event ?hg (N := 2) ?hd (cs := #[.string a0_0, .int .i64 a0_1]) (t := 75) ?hr ?_; (case hd => rfl); (case hg => rfl); (case hr => first | (go_simp; done) | (go_simp; rfl)); intro gb243 hg w4 hbox hb; have BK243 := aK (hbox); have GW243 := aK (((by rw [hg]; exact (below_size zq80_1)) : w.heap.size ≤ gb243)); have GE243 := aK (((by rw [hg]; exact (below_size zq80_1)) : w.heap.size ≤ gb243)); replace HB := aK (bS zq80_1 hb); clear hb hbox hg) | ((with_reducible refine gate_dst (N := 3) rfl ?_); refine box_event ?hg (N := 3) ?hd (cs := #[.string a1_0, .int .i64 a1_1]) (t := 75) ?hr ?_; (case hd => rfl); (case hg => rfl); (case hr => first | (go_simp; done) | (go_simp; rfl)); intro gb244 hg w5 hbox hb; have BK244 := aK (hbox); have GW244 := aK (((by rw [hg]; exact (below_size zq80_0)) : w.heap.size ≤ gb244)); have GE244 := aK (((by rw [hg]; exact (below_size zq80_0)) : w.heap.size ≤ gb244)); replace HB := aK (bS zq80_0 hb); have NB243_244 := aK (((by rw [hg]; exact Nat.ne_of_lt (blk_lt (g := gb243) (o := .cells #[.string a0_0, .int .i64 a0_1] 75 (0, 0)) zq80_2)) : gb243 ≠ gb244)); have NB244_243 := aK (((by rw [hg]; exact Nat.ne_of_gt (blk_lt (g := gb243) (o := .cells #[.string a0_0, .int .i64 a0_1] 75 (0, 0)) zq80_2)) : gb244 ≠ gb243)); replace BK243 := aK (bB (g := gb243) (o := .cells #[.string a0_0, .int .i64 a0_1] 75 (0, 0)) zq80_2 hb); clear hb hbox hg; have hnb6 := NB243_244.out; have hnc6 := NB244_243.out; have hcz7_0 : w5.cell? ⟨gb243, 0, none⟩ = some (.string a0_0) := (bC BK243.out 0).trans rfl; have hcz7_1 : w5.cell? ⟨gb243, 1, none⟩ = some (.int .i64 a0_1) := (bC BK243.out 1).trans rfl; have hfz7_0 := bF_ BK243.out 0; have hfz7_1 := bF_ BK243.out 1; have hcz8_0 : w5.cell? ⟨gb244, 0, none⟩ = some (.string a1_0) := (bC BK244.out 0).trans rfl; have hcz8_1 : w5.cell? ⟨gb244, 1, none⟩ = some (.int .i64 a1_1) := (bC BK244.out 1).trans rfl; have hfz8_0 := bF_ BK244.out 0; have hfz8_1 := bF_ BK244.out 1) | ((with_reducible refine gate_callee (f := 73) rfl ?_); refine goesL_ (some 9) rfl rfl Tryz.func73 (by kernel_rfl) rfl #[.string a0_0, .string a1_0] rfl (by (try simp only [List.map_toArray, List.map_cons, List.map_nil]); first | done | rfl | (simp only [List.length_drop, List.length_take]; rfl)) ?_; (with_reducible refine (id_Compare.calls a0_0 a1_0 t245 _ A3.out).mono ?_); rintro e w' ⟨rfl, ⟨nd, rfl⟩⟩; refine ⟨_, rfl, ?_⟩))
 go_ret
 exact ⟨by first | rfl | (simp [errW_none, errW_some] <;> rfl) | (simp [*, errW_none, errW_some] <;> rfl), by repeat (first | (with_reducible first | exact HB.out | apply bA | apply pB | apply bW | refine below_set ?_ GE243.out | refine below_set ?_ GE244.out) | exact HB.out)⟩
theorem vecf_bsearch (A0 : Option Addr) (c0 : Nat) (l0 : List S75) (a1 : ByteArray) (w : World) (hr0 : Kd.C k75 w A0 l0.length l0) (hlim : l0.length ≤ 140737488355328) :
  Calls Tryz.prog 79 #[.slice A0 l0.length c0, .agg #[.string a1, .int .i64 0], .func (.func 80) #[] #[]] w fun e w' => e = .returned (.tuple #[.int .i64 (bsN (fun i => cmpB (l0.getD i z75).f0 a1) l0.length : Nat), .bool (bsB (fun i => cmpB (l0.getD i z75).f0 a1) l0.length)]) ∧ Below w.heap.size w w' := by
 have hlen := hr0.2.1
 have HR0 := aK hr0
 clear hr0
 generalize hc : (fun i => cmpB (l0.getD i z75).f0 a1) = c
 have HCC := aK (show ∀ i, cmpB (l0.getD i z75).f0 a1 = c i from fun i => by rw [← hc])
 clear hc
 generalize hn : l0.length = n at *
 have HR := aK (show bsN c n = bsI c (n + 1) 0 n from rfl)
 clear hn
 have HB := aK (bA (Below.refl w.heap.size w) (.cells #[.string a1, .int .i64 0] 75))
 have BK := aK (blk_new w (.cells #[.string a1, .int .i64 0] 75))
 have hut := Tryz.underlying75
 go_enter Tryz.func79, Tryz.ntmps79
 go_wp2
 go_loopw [9, 10, 11] (fun vi vj _ wr => ∃ i j fu : Nat, vi = .int .i64 i ∧ vj = .int .i64 j ∧ i ≤ j ∧ j ≤ n ∧ j - i < fu ∧ Aside0 (bsI c fu i j = bsN c n) ∧ Aside0 (Below w.heap.size w wr) ∧ Aside0 (wr.heap[w.heap.size]? = some (.cells #[.string a1, .int .i64 0] 75 (0, 0)))) (fun vi vj _ _ => ((intOf vj).toNat - (intOf vi).toNat))
 case atStart => exact ⟨0, n, n + 1, rfl, rfl, Nat.zero_le _, Nat.le_refl _, by omega, ⟨HR.out.symm⟩, HB, BK⟩
 case round =>
  clear HB BK
  obtain ⟨i, j, fu, rfl, rfl, hij, hjn, hfu, HI, HB, BK⟩ := hrel
  by_cases hlt : i < j
  ·obtain ⟨ad, hA, hx0, hx1⟩ := at_T75 HR0.out (((i : Int) + (j : Int)) / 2) (by omega) (by omega)
   obtain rfl := hA
   have hw0 := hx0; have hw1 := hx1; replace hx0 := pc_ HB hx0; replace hx1 := pc_ HB hx1
   have hm : (((i : Int) + (j : Int)) / 2).toNat = (i + j) / 2 := by omega
   have e2 : cmpB (l0.getD (((i : Int) + (j : Int)) / 2).toNat z75).f0 a1 = c ((i + j) / 2) := by rw [hm]; exact HCC.out _
   have pm := eT (show (0 : Int) ≤ ((i : Int) + (j : Int)) / 2 by omega)
   have qm := eT (show ((i : Int) + (j : Int)) / 2 < (n : Int) by omega)
   clear hm
   have hub : bsI c (fu - 1 + 1) i j = if c ((i + j) / 2) < 0 then bsI c (fu - 1) ((i + j) / 2 + 1) j else bsI c (fu - 1) i ((i + j) / 2) := by
    simp only [bsI]; rw [if_pos hlt]
   have HU := aK hub
   have hcalls := fun W => vec_order.calls (rd_T75 l0 (((i : Int) + (j : Int)) / 2)).f0 (rd_T75 l0 (((i : Int) + (j : Int)) / 2)).f1 a1 0 (c ((i + j) / 2)) W (by rw [← e2]; rfl)
   clear hub e2
   have HK := aK hcalls
   clear hcalls
   have hfu1 : fu - 1 + 1 = fu := by omega
   have HF := aK hfu1
   clear hfu1
   by_cases hneg : c ((i + j) / 2) < 0
   ·have HN := aK hneg
    have hdn : decide (c ((i + j) / 2) < 0) = true := dT hneg
    generalize hq : c ((i + j) / 2) = q at hdn HK hneg
    have HQ := aK hq
    clear hq
    go_wp2_with fail
    refine start_ (n := 8) (S := fun w' => w'.cell? (ad.add ((((i : Int) + (j : Int)) / 2).toNat * 2)) = some (.string (rd_T75 l0 (((i : Int) + (j : Int)) / 2)).f0) ∧ w'.cell? ⟨(ad.add ((((i : Int) + (j : Int)) / 2).toNat * 2)).block, (ad.add ((((i : Int) + (j : Int)) / 2).toNat * 2)).off + 1, none⟩ = some (.int .i64 (rd_T75 l0 (((i : Int) + (j : Int)) / 2)).f1) ∧ w'.cell? ⟨w.heap.size, 0, none⟩ = some (.string a1) ∧ w'.cell? ⟨w.heap.size, 1, none⟩ = some (.int .i64 0)) (ds := []) #[false, false, false, false, false, false, false, false] (by kernel_rfl) rfl rfl ⟨hx0, hx1, (bC (blk_drew BK.out) 0).trans rfl, (bC (blk_drew BK.out) 1).trans rfl⟩ (fun hHeld => ?_)
    refine p_ 0 24 (mk_ 8 0x1) ?_
    refine p_ 1 25 (mk_ 8 0x3) ?_
    refine p_ 2 26 (mk_ 8 0x7) ?_
    refine p_ 3 27 (mk_ 8 0xf) ?_
    refine t_ 4 28 (mk_ 8 0x1f) hHeld ?_
    refine t_ 5 29 (mk_ 8 0x3f) hHeld ?_
    refine one_ (i := 6) (N := some 30) #[true, true, true, true, true, true, true, false] rfl rfl (by kernel_rfl) (by decide) (fun K hK => ?_)
    refine goesV_ Tryz.func80 (by kernel_rfl) rfl #[.agg #[.string (rd_T75 l0 (((i : Int) + (j : Int)) / 2)).f0, .int .i64 (rd_T75 l0 (((i : Int) + (j : Int)) / 2)).f1], .agg #[.string a1, .int .i64 0]] (by rfl) rfl rfl rfl (by (try simp only [List.map_toArray, List.map_cons, List.map_nil]); first | done | rfl) ?_
    refine (HK.out _).mono ?_
    rintro e w' ⟨rfl, hb1⟩
    refine ⟨_, rfl, ?_⟩
    have HB1 := aK (bS (bW HB.out) hb1)
    have BK1 := aK (bB (blk_drew BK.out) hb1)
    clear hb1
    refine hK.out _ _ ⟨pc_ HB1 hw0, pc_ HB1 hw1, (bC BK1.out 0).trans rfl, (bC BK1.out 1).trans rfl⟩ (fun hHeld => ?_)
    clear hK K
    refine norm_ (a' := ?_) ?_ ?_
    rotate_left
    ·show Act.put _ (some 30) _ = _
     simp only [Act.put, lA, lB, lC, i64_w, i32_w]
     rfl
    refine p_ 7 31 (mk_ 8 0xff) ?_
    refine done_ (by kernel_rfl) ?_
    go_wp2_with fail
    go_roundw
    case rel => exact ⟨(i + j) / 2 + 1, j, fu - 1, by go_num, rfl, by omega, hjn, by omega, ⟨by have := HU.out; rw [HF.out, HI.out, if_pos HN.out] at this; exact this.symm⟩, HB1, BK1⟩
    case measure => simp [intOf]; omega
   ·have HN := aK hneg
    have hdn : decide (c ((i + j) / 2) < 0) = false := decide_eq_false hneg
    generalize hq : c ((i + j) / 2) = q at hdn HK hneg
    have HQ := aK hq
    clear hq
    go_wp2_with fail
    refine start_ (n := 8) (S := fun w' => w'.cell? (ad.add ((((i : Int) + (j : Int)) / 2).toNat * 2)) = some (.string (rd_T75 l0 (((i : Int) + (j : Int)) / 2)).f0) ∧ w'.cell? ⟨(ad.add ((((i : Int) + (j : Int)) / 2).toNat * 2)).block, (ad.add ((((i : Int) + (j : Int)) / 2).toNat * 2)).off + 1, none⟩ = some (.int .i64 (rd_T75 l0 (((i : Int) + (j : Int)) / 2)).f1) ∧ w'.cell? ⟨w.heap.size, 0, none⟩ = some (.string a1) ∧ w'.cell? ⟨w.heap.size, 1, none⟩ = some (.int .i64 0)) (ds := []) #[false, false, false, false, false, false, false, false] (by kernel_rfl) rfl rfl ⟨hx0, hx1, (bC (blk_drew BK.out) 0).trans rfl, (bC (blk_drew BK.out) 1).trans rfl⟩ (fun hHeld => ?_)
    refine p_ 0 24 (mk_ 8 0x1) ?_
    refine p_ 1 25 (mk_ 8 0x3) ?_
    refine p_ 2 26 (mk_ 8 0x7) ?_
    refine p_ 3 27 (mk_ 8 0xf) ?_
    refine t_ 4 28 (mk_ 8 0x1f) hHeld ?_
    refine t_ 5 29 (mk_ 8 0x3f) hHeld ?_
    refine one_ (i := 6) (N := some 30) #[true, true, true, true, true, true, true, false] rfl rfl (by kernel_rfl) (by decide) (fun K hK => ?_)
    refine goesV_ Tryz.func80 (by kernel_rfl) rfl #[.agg #[.string (rd_T75 l0 (((i : Int) + (j : Int)) / 2)).f0, .int .i64 (rd_T75 l0 (((i : Int) + (j : Int)) / 2)).f1], .agg #[.string a1, .int .i64 0]] (by rfl) rfl rfl rfl (by (try simp only [List.map_toArray, List.map_cons, List.map_nil]); first | done | rfl) ?_
    refine (HK.out _).mono ?_
    rintro e w' ⟨rfl, hb1⟩
    refine ⟨_, rfl, ?_⟩
    have HB1 := aK (bS (bW HB.out) hb1)
    have BK1 := aK (bB (blk_drew BK.out) hb1)
    clear hb1
    refine hK.out _ _ ⟨pc_ HB1 hw0, pc_ HB1 hw1, (bC BK1.out 0).trans rfl, (bC BK1.out 1).trans rfl⟩ (fun hHeld => ?_)
    clear hK K
    refine norm_ (a' := ?_) ?_ ?_
    rotate_left
    ·show Act.put _ (some 30) _ = _
     simp only [Act.put, lA, lB, lC, i64_w, i32_w]
     rfl
    refine p_ 7 31 (mk_ 8 0xff) ?_
    refine done_ (by kernel_rfl) ?_
    go_wp2_with fail
    go_roundw
    case rel => exact ⟨i, (i + j) / 2, fu - 1, rfl, by go_num, by omega, by omega, by omega, ⟨by have := HU.out; rw [HF.out, HI.out, if_neg (by have := HN.out; omega)] at this; exact this.symm⟩, HB1, BK1⟩
    case measure => simp [intOf]; omega
  ·have hres : bsN c n = i := by
    rw [← HI.out]
    obtain ⟨f, rfl⟩ : ∃ f, fu = f + 1 := ⟨fu - 1, by omega⟩
    simp only [bsI]; rw [if_neg hlt]
   have HRS := aK hres
   clear hres
   have hge : decide ((i : Int) < (j : Int)) = false := by simp; omega
   by_cases hin : i < n
   ·obtain ⟨ad, hA, hx0, hx1⟩ := at_T75 HR0.out (i : Int) (by omega) (by omega)
    obtain rfl := hA
    have pm := eT (show (0 : Int) ≤ (i : Int) by omega)
    have qm := eT (show (i : Int) < (n : Int) by omega)
    have hw0 := hx0; have hw1 := hx1; replace hx0 := pc_ HB hx0; replace hx1 := pc_ HB hx1
    have hcalls := fun W => vec_order.calls (rd_T75 l0 (i : Int)).f0 (rd_T75 l0 (i : Int)).f1 a1 0 (c i) W (by rw [← HCC.out i]; rfl)
    have HK := aK hcalls
    clear hcalls
    have hbb : bsB c n = decide (c i = 0) := by unfold bsB; rw [HRS.out, dT hin, Bool.true_and]
    have HBB := aK hbb
    clear hbb
    have hin2 : decide ((i : Int) < (n : Int)) = true := by simp; omega
    generalize hq : c i = q at HK HBB
    have HQ := aK hq
    clear hq
    go_wp2_with fail
    refine start_ (n := 16) (S := fun w' => w'.cell? (ad.add (i * 2)) = some (.string (rd_T75 l0 (i : Int)).f0) ∧ w'.cell? ⟨(ad.add (i * 2)).block, (ad.add (i * 2)).off + 1, none⟩ = some (.int .i64 (rd_T75 l0 (i : Int)).f1) ∧ w'.cell? ⟨w.heap.size, 0, none⟩ = some (.string a1) ∧ w'.cell? ⟨w.heap.size, 1, none⟩ = some (.int .i64 0)) (ds := []) #[false, false, false, false, false, false, false, false, false, false, false, false, false, false, false, false] (by kernel_rfl) rfl rfl ⟨hx0, hx1, (bC (blk_drew BK.out) 0).trans rfl, (bC (blk_drew BK.out) 1).trans rfl⟩ (fun hHeld => ?_)
    refine p_ 0 35 (mk_ 16 0x1) ?_
    refine p_ 1 36 (mk_ 16 0x3) ?_
    refine p_ 2 37 (mk_ 16 0x7) ?_
    refine p_ 3 38 (mk_ 16 0xf) ?_
    refine p_ 4 39 (mk_ 16 0x1f) ?_
    refine p_ 5 40 (mk_ 16 0x3f) ?_
    refine p_ 6 41 (mk_ 16 0x7f) ?_
    refine p_ 7 42 (mk_ 16 0xff) ?_
    refine p_ 8 43 (mk_ 16 0x1ff) ?_
    refine t_ 9 44 (mk_ 16 0x3ff) hHeld ?_
    refine t_ 10 45 (mk_ 16 0x7ff) hHeld ?_
    refine one_ (i := 11) (N := some 46) #[true, true, true, true, true, true, true, true, true, true, true, true, false, false, false, false] rfl rfl (by kernel_rfl) (by decide) (fun K hK => ?_)
    refine goesV_ Tryz.func80 (by kernel_rfl) rfl #[.agg #[.string (rd_T75 l0 (i : Int)).f0, .int .i64 (rd_T75 l0 (i : Int)).f1], .agg #[.string a1, .int .i64 0]] (by rfl) rfl rfl rfl (by (try simp only [List.map_toArray, List.map_cons, List.map_nil]); first | done | rfl) ?_
    refine (HK.out _).mono ?_
    rintro e w' ⟨rfl, hb1⟩
    refine ⟨_, rfl, ?_⟩
    have HB1 := aK (bS (bW HB.out) hb1)
    have BK1 := aK (bB (blk_drew BK.out) hb1)
    clear hb1
    refine hK.out _ _ ⟨pc_ HB1 hw0, pc_ HB1 hw1, (bC BK1.out 0).trans rfl, (bC BK1.out 1).trans rfl⟩ (fun hHeld => ?_)
    clear hK K
    refine norm_ (a' := ?_) ?_ ?_
    rotate_left
    ·show Act.put _ (some 46) _ = _
     simp only [Act.put, lA, lB, lC, i64_w, i32_w]
     rfl
    refine p_ 12 47 (mk_ 16 0x1fff) ?_
    refine p_ 13 48 (mk_ 16 0x3fff) ?_
    refine p_ 14 6 (mk_ 16 0x7fff) ?_
    refine p_ 15 7 (mk_ 16 0xffff) ?_
    refine done_ (by kernel_rfl) ?_
    go_wp2_with fail
    go_ret2
    exact ⟨by rw [HRS.out, HBB.out]; rfl, HB1.out⟩
   ·have hbb : bsB c n = false := by unfold bsB; rw [HRS.out, decide_eq_false hin, Bool.false_and]
    have HBB := aK hbb
    clear hbb
    have hin2 : decide ((i : Int) < (n : Int)) = false := by simp; omega
    go_wp2_with fail
    go_quiet (fail)
    try go_wp2
    go_ret2
    exact ⟨by rw [HRS.out, HBB.out]; rfl, pB HB.out _⟩
def vec_find.f (l0 : List S75) (a1 : ByteArray) : Option (Int × Bool) := if l0.length < 8796093022208 then some ((bsN (fun i => cmpB (l0.getD i z75).f0 a1) l0.length : Nat), bsB (fun i => cmpB (l0.getD i z75).f0 a1) l0.length) else none
theorem vec_find.calls (A0 : Option Addr) (c0 : Nat) (l0 : List S75) (a1 : ByteArray) (r1 : Int) (r2 : Bool) (w : World) (hr0 : Kd.C k75 w A0 l0.length l0) (hc0 : l0.length ≤ c0) (h : vec_find.f l0 a1 = some (r1, r2)) :
  Calls Tryz.prog 64 #[.slice A0 l0.length c0, .string a1] w fun e w' => e = .returned (.tuple #[.int .i64 r1, .bool r2]) ∧ Below w.heap.size w w' := by
 have hlim : l0.length < 8796093022208 := by
  by_cases hx : l0.length < 8796093022208
  ·exact hx
  ·rw [vec_find.f, if_neg hx] at h; cases h
 have hr : (((bsN (fun i => cmpB (l0.getD i z75).f0 a1) l0.length : Nat) : Int), bsB (fun i => cmpB (l0.getD i z75).f0 a1) l0.length) = (r1, r2) := by rw [vec_find.f, if_pos hlim] at h; exact sI h
 obtain ⟨e1, e2⟩ := Prod.mk.inj hr
 have HB := aK (Below.refl w.heap.size w)
 have hc := fun (W : World) (hW : Below w.heap.size w W) => vecf_bsearch A0 c0 l0 a1 W (cB hr0 hW) (by omega)
 rw [e1, e2] at hc
 have HC := aK hc
 clear hc h hr hlim hr0 e1 e2
 have hut := Tryz.underlying75
 go_enter Tryz.func64, Tryz.ntmps64
 go_wp2_with fail
 refine (HC.out _ (by repeat (first | (with_reducible first | exact HB.out | apply bA | apply pB | apply bW) | exact HB.out))).mono ?_
 rintro e w' ⟨rfl, hb⟩
 have HB1 := aK (bS HB.out hb)
 clear hb
 go_wp2_with fail
 go_ret2
 exact ⟨rfl, HB1.out⟩
theorem vecs_hov (w : World) (vb b off lb cb m vc : Nat) (tA tB : TypeId) (kA kB : Nat) (hvb : vb ≠ b) (hsa : w.shape? vb = some (tA, kA)) (hsb : w.shape? b = some (tB, kB)) (hkB : kB ≠ 0) (hfa : w.frozen? ⟨vb, 0, none⟩ = false) (hfe : w.frozen? ⟨vb, kA, none⟩ = false) :
  (callFunc 81 #[.slice (some ⟨vb, 0, none⟩) m vc, .slice (some ⟨b, off, none⟩) lb cb]).run Tryz.prog w = .ok (.value (.bool false)) w := by
 rw [run_callFunc_extern Tryz.func81 (by kernel_rfl) (by kernel_rfl) (by kernel_rfl) (e := Extern.SlicesOverlaps.overlaps #[31, 31] #[4]) (by kernel_rfl),
  Lib.run_overlaps_apart w 31 4 75 Tryz.underlying31 2 (fun w => by obtain ⟨i0, hi, h0, h1, h2⟩ := info_parts info75; simp [sizeOf, typeInfo, hi, h1]) ⟨vb, 0, none⟩ ⟨b, off, none⟩ m vc lb cb hvb tA tB kA kB hsa hsb hkB hfa hfe]
 rfl
theorem vecs_insert_room (w : World) (base : Nat) (ok okp : Nat → Prop) (g cap : Nat) (cur : Array Value) (l : List S75) (i : Nat) (x : S75) (cs : List Value) (vb : Nat) (tv : TypeId)
  (hg : base ≤ g) (hk : ok g) (hh : w.heap[g]? = some (.cells cur 75 (0, 0))) (hc : l.length + 1 ≤ cap) (h3 : cap ≤ maxLen) (h4 : cur.size = cap * 2) (hp : Reps (Kd.M k75 w base (fun k => ok k ∧ k ≠ g)) 2 l (cur.toList.take (l.length * 2)))
  (hi : i < l.length) (hx : Kd.M k75 w base okp x cs) (hokp : ∀ k, okp k → ok k ∧ k ≠ g) (hv : w.heap[vb]? = some (.cells cs.toArray tv (0, 0))) (hvb : vb ≠ g) :
  Calls Tryz.prog 65 #[.slice (some ⟨g, 0, none⟩) l.length cap, .int .i64 i, .slice (some ⟨vb, 0, none⟩) 1 1] w fun e w' => ∃ v' : Value, e = .returned v' ∧ Kd.R k75 75 w' base ok v' (l.take i ++ x :: l.drop i) ∧ w.grownBy w' (some g) := by
 obtain ⟨i0, hi0, hz0, hsz0, hby0⟩ := info_parts info75
 have hR : Kd.R k75 75 ((w.drew.setCells g ((i + 1) * 2) ((cur.toList.take (l.length * 2)).drop (i * 2))).setCells g (i * 2) cs) base ok (.slice (some ⟨g, 0, none⟩) (l.length + 1) cap) (l.take i ++ x :: l.drop i) ∧ w.grownBy ((w.drew.setCells g ((i + 1) * 2) ((cur.toList.take (l.length * 2)).drop (i * 2))).setCells g (i * 2) cs) (some g) := R_insert_room (d := k75) (e := 75) hg hk hh hc h3 h4 hp (Nat.le_of_lt hi) hx hokp 1
 have hcl : cs.length = 2 := (Kd.K_len k75 (Kd.K_of_M k75 hx))
 have h1v : ∀ u ∈ cs, u.oneCell' = true := Kd.K_one k75 (Kd.K_of_M k75 hx)
 have h1c := cells_one (d := k75) hp (by decide : 0 < 2)
 have hil : (cur.toList.take (l.length * 2)).length = l.length * 2 := hp.1
 generalize hinner : cur.toList.take (l.length * 2) = inner at hR h1c hil
 have hM : maxLen = 9223372036854775807 := rfl
 have hm0 : cap ≤ 9223372036854775807 := by rw [← hM]; exact h3
 have hcell : ∀ j u, inner[j]? = some u → w.cell? ⟨g, j, none⟩ = some u := fun j u hj => by
  rw [bC hh j, ← Array.getElem?_toList]
  rw [← hinner, List.getElem?_take] at hj
  split at hj
  ·exact hj
  ·cases hj
 have hsp : ∀ j, j < cap * 2 → (w.cell? ⟨g, j, none⟩).isSome = true := fun j hj => by
  rw [bC hh j, Array.getElem?_eq_getElem (by omega)]; rfl
 have hfz : ∀ j, w.frozen? ⟨g, j, none⟩ = false := fun j => bF_ hh j
 have hvs : ∀ j u, cs[j]? = some u → w.cell? ⟨vb, j, none⟩ = some u := fun j u hj => by
  rw [bC hv j]; simpa using hj
 have hsa : w.shape? vb = some (tv, cs.length) := by simp [World.shape?, hv]
 have hsb : w.shape? g = some (75, cap * 2) := by simp [World.shape?, hh, h4]
 have hov : ∀ W lb cb, (∀ k, W.heap[k]? = w.heap[k]?) → (callFunc 81 #[.slice (some ⟨vb, 0, none⟩) 1 1, .slice (some ⟨g, (i + 1) * 2, none⟩) lb cb]).run Tryz.prog W = .ok (.value (.bool false)) W := fun W lb cb hW =>
  vecs_hov W vb g ((i + 1) * 2) lb cb 1 1 tv 75 cs.length (cap * 2) hvb (by unfold World.shape? at hsa ⊢; rw [hW]; exact hsa) (by unfold World.shape? at hsb ⊢; rw [hW]; exact hsb) (by omega) (by unfold World.frozen?; simp [hW, hv]) (by unfold World.frozen?; simp [hW, hv])
 have hdl : (inner.drop (i * 2)).length = (l.length - i) * 2 := by rw [List.length_drop, hil, Nat.sub_mul]
 have hsz : (Tryz.prog.info? 75).map (·.size) = some 2 := by rw [hi0]; simp [hsz0]
 have hcp1 : ∀ (W : World), (∀ a, W.cell? a = w.cell? a) → (∀ a, W.frozen? a = w.frozen? a) → ∀ ty dc sc, (Builtin.copy_ #[32, 32] ty #[.slice (some ⟨g, (i + 1) * 2, none⟩) (l.length - i) dc, .slice (some ⟨g, i * 2, none⟩) (l.length + 1 - i) sc]).run Tryz.prog W = .ok (goInt (l.length - i : Nat)) (W.setCells g ((i + 1) * 2) (inner.drop (i * 2))) := fun W hW hF ty dc sc => by
  have := run_copy_k (P := Tryz.prog) W 32 32 ty 75 2 g ((i + 1) * 2) (l.length - i) dc ⟨g, i * 2, none⟩ (l.length + 1 - i) sc (inner.drop (i * 2)) Tryz.underlying32 hsz (by rw [hdl]; congr 1; simp only [Nat.min_def]; split <;> omega)
   (fun j u hj => by rw [Addr.add_lit, hW]; exact hcell _ u (by rwa [List.getElem?_drop] at hj))
   (fun j hj => by rw [hW]; exact hsp _ (by omega)) (fun j hj => by rw [hF]; exact hfz _) (fun u hu => h1c u (List.mem_of_mem_drop hu))
  rw [this]
  congr 2
  simp only [Nat.min_def]; split <;> omega
 have hcp2 : ∀ (W : World), (∀ a, W.cell? a = (w.setCells g ((i + 1) * 2) (inner.drop (i * 2))).cell? a) → (∀ a, W.frozen? a = w.frozen? a) → ∀ ty dc sc, (Builtin.copy_ #[32, 31] ty #[.slice (some ⟨g, i * 2, none⟩) (l.length + 1 - i) dc, .slice (some ⟨vb, 0, none⟩) 1 sc]).run Tryz.prog W = .ok (goInt (1 : Nat)) (W.setCells g (i * 2) cs) := fun W hW hF ty dc sc => by
  have := run_copy_k (P := Tryz.prog) W 32 31 ty 75 2 g (i * 2) (l.length + 1 - i) dc ⟨vb, 0, none⟩ 1 sc cs Tryz.underlying32 hsz (by rw [hcl]; simp only [Nat.min_def]; split <;> omega)
   (fun j u hj => by rw [Addr.add_lit, Nat.zero_add, hW, World.cell?_setCells_out _ _ _ _ _ (fun h _ => absurd h hvb)]; exact hvs _ u hj)
   (fun j hj => by
    rw [hW]
    by_cases hin : (i + 1) * 2 ≤ i * 2 + j
    ·omega
    ·rw [World.cell?_setCells_out _ _ _ _ _ (fun _ _ => Or.inl (by show i * 2 + j < (i + 1) * 2; omega))]
     exact hsp _ (by omega))
   (fun j hj => by rw [hF]; exact hfz _) h1v
  rw [this]
  congr 2
  simp only [Nat.min_def]; split <;> omega
 have e1 : ((i : Int) + 1) = ((i + 1 : Nat) : Int) := by omega
 have hw1 : IntKind.i64.wrap ((i : Int) + 1) = (i : Int) + 1 := by rw [IntKind.wrap_i64]; omega
 have hw2 : IntKind.i64.wrap ((l.length : Int) + 1) = (l.length : Int) + 1 := by rw [IntKind.wrap_i64]; omega
 have c1 := cut_from (P := Tryz.prog) 32 75 .i64 Tryz.underlying32 hi0 2 hsz0 (some ⟨g, 0, none⟩) l.length cap (i : Int) (by omega) (by omega)
 have c2 : ∀ W : World, (Instr.slice 32 (.slice (some ⟨g, 0, none⟩) l.length cap) none (some (.int .i64 ((l.length : Int) + 1))) none).run Tryz.prog W = .ok (.slice (some ⟨g, 0, none⟩) (l.length + 1) cap) W := by
  intro W
  have hel : (Tryz.prog).elem 32 = 75 := by simp [Program.elem, Tryz.underlying32]
  rw [run_slice_h W 32 (some ⟨g, 0, none⟩) l.length cap (by rw [hel]; exact Tryz.underlying32) .i64 ((l.length : Int) + 1) (by omega) (by omega), hel]
  simp [sizeOf, typeInfo, hi0, sliced, Result.andThen, Addr.add]
 have c3 : ∀ W : World, (Instr.slice 32 (.slice (some ⟨g, 0, none⟩) (l.length + 1) cap) (some (.int .i64 ((i : Int) + 1))) none none).run Tryz.prog W = .ok (.slice (some ⟨g, (i + 1) * 2, none⟩) (l.length - i) (cap - (i + 1))) W := by
  intro W
  rw [e1, cut_from (P := Tryz.prog) 32 75 .i64 Tryz.underlying32 hi0 2 hsz0 (some ⟨g, 0, none⟩) (l.length + 1) cap ((i + 1 : Nat) : Int) (by omega) (by omega) W, Int.toNat_natCast, if_neg (by omega), Option.map_some, Addr.add_lit, Nat.zero_add, show l.length + 1 - (i + 1) = l.length - i by omega]
 have c4 : ∀ W : World, (Instr.slice 32 (.slice (some ⟨g, 0, none⟩) (l.length + 1) cap) (some (.int .i64 (i : Int))) none none).run Tryz.prog W = .ok (.slice (some ⟨g, i * 2, none⟩) (l.length + 1 - i) (cap - i)) W := by
  intro W
  rw [cut_from (P := Tryz.prog) 32 75 .i64 Tryz.underlying32 hi0 2 hsz0 (some ⟨g, 0, none⟩) (l.length + 1) cap (i : Int) (by omega) (by omega) W, Int.toNat_natCast, if_neg (by omega), Option.map_some, Addr.add_lit, Nat.zero_add]
 have hb1 : decide ((1 : Int) = 0) = false := rfl
 have hb2 : decide ((i : Int) = (l.length : Int)) = false := by simp; omega
 have hb3 : decide ((cap : Int) < (l.length : Int) + 1) = false := by simp; omega
 have hovw := fun lb cb => hov w lb cb (fun _ => rfl)
 have HR := aK hR
 clear hR hov e1
 go_enter Tryz.func65, Tryz.ntmps65
 go_wp2_with (simp only [hovw])
 have hc1 := hcp1 w.drew (fun _ => rfl) (fun _ => rfl) 3 (cap - (i + 1)) (cap - i)
 have hc2 := hcp2 (w.drew.setCells g ((i + 1) * 2) (inner.drop (i * 2))) (fun _ => by rw [← drew_setCells]; rfl) (fun _ => World.frozen?_setCells _ _ _ _ _) 3 (cap - i) 1
 have mixed : (Tryz.prog).follows .mixedOrders = true := rfl
 go_region_law_o (refine step_copy_runI rfl _ _ 32 32 rfl (.slice (some ⟨g, (i + 1) * 2, none⟩) (l.length - i) (cap - (i + 1))) (.slice (some ⟨g, i * 2, none⟩) (l.length + 1 - i) (cap - i)) (by simp [Act.eval, Act.put]) (by simp [Act.eval, Act.put]) hc1 ?_)
 clear hc1
 go_wp2_with (at_builtin; refine wpList_copy_runI _ rfl _ _ 32 31 rfl _ _ rfl rfl hc2 ?_)
 go_ret
 exact ⟨_, rfl, HR.out.1, HR.out.2⟩
theorem vecs_insert_grow (w : World) (base : Nat) (ok okp : Nat → Prop) (g cap : Nat) (cur : Array Value) (l : List S75) (i : Nat) (x : S75) (cs : List Value) (vb : Nat) (tv : TypeId)
  (hbase : base ≤ w.heap.size) (hfresh : ∀ k, w.heap.size ≤ k → ok k) (hh : w.heap[g]? = some (.cells cur 75 (0, 0))) (hnc : l.length ≤ cap) (hc : cap < l.length + 1) (h4 : cur.size = cap * 2) (hp : Reps (Kd.M k75 w base (fun k => ok k ∧ k ≠ g)) 2 l (cur.toList.take (l.length * 2)))
  (hi : i < l.length) (hx : Kd.M k75 w base okp x cs) (hokp : ∀ k, okp k → ok k ∧ k ≠ g) (hv : w.heap[vb]? = some (.cells cs.toArray tv (0, 0))) (hvb : vb ≠ g) (hbig : (l.length + 1) * 24 ≤ 140737488355328) :
  Calls Tryz.prog 65 #[.slice (some ⟨g, 0, none⟩) l.length cap, .int .i64 i, .slice (some ⟨vb, 0, none⟩) 1 1] w fun e w' => ∃ v' : Value, e = .returned v' ∧ Kd.R k75 75 w' base ok v' (l.take i ++ x :: l.drop i) ∧ w.grownBy w' none := by
 obtain ⟨i0, hi0, hz0, hsz0, hby0⟩ := info_parts info75
 have hcl : cs.length = 2 := (Kd.K_len k75 (Kd.K_of_M k75 hx))
 have h1v : ∀ u ∈ cs, u.oneCell' = true := Kd.K_one k75 (Kd.K_of_M k75 hx)
 have h1c := cells_one (d := k75) hp (by decide : 0 < 2)
 have hil : (cur.toList.take (l.length * 2)).length = l.length * 2 := hp.1
 generalize hinner : cur.toList.take (l.length * 2) = inner at hp h1c hil
 have hcell : ∀ j u, inner[j]? = some u → w.cell? ⟨g, j, none⟩ = some u := fun j u hj => by
  rw [bC hh j, ← Array.getElem?_toList]
  rw [← hinner, List.getElem?_take] at hj
  split at hj
  ·exact hj
  ·cases hj
 have hvs : ∀ j u, cs[j]? = some u → w.cell? ⟨vb, j, none⟩ = some u := fun j u hj => by
  rw [bC hv j]; simpa using hj
 have hgw : g < w.heap.size := blk_lt hh
 have hvw : vb < w.heap.size := blk_lt hv
 have hsz : (Tryz.prog.info? 75).map (·.size) = some 2 := by rw [hi0]; simp [hsz0]
 have hdl : (inner.drop (i * 2)).length = (l.length - i) * 2 := by rw [List.length_drop, hil, Nat.sub_mul]
 have hik : i + (l.length + 1 - i) = l.length + 1 := by omega
 have hkk : (l.length : Int) + 1 - (i : Int) = ((l.length + 1 - i : Nat) : Int) := by omega
 have hold : (Builtin.firstCells i0.size i (.slice (some ⟨g, 0, none⟩) i cap)).run Tryz.prog w.drew = .ok (inner.take (i * 2)).toArray w.drew := by
  rw [hsz0]
  exact run_firstCells_some w.drew 2 i ⟨g, 0, none⟩ i cap (inner.take (i * 2)) (by rw [List.length_take, hil]; omega) (fun j v hj => by
   rw [Addr.add_lit, Nat.zero_add]
   rw [List.getElem?_take] at hj
   split at hj
   ·exact hcell j v hj
   ·cases hj)
 have hrz := Lib.run_append_grow_zeros (P := Tryz.prog) w 32 3 32 75 i0 _ .i64 .i64 Tryz.underlying32 Tryz.underlying3 hi0 hz0 (some ⟨g, 0, none⟩) i cap (inner.take (i * 2)) hold (l.length + 1 - i) (by omega) (by omega) (by omega) (by omega) (by rw [hby0]; omega) (by rw [hby0, hik]; exact growslice_fits hc hbig)
 rw [hik, ← hkk] at hrz
 have hGn : l.length + 1 ≤ grownCap w (l.length + 1) cap 75 := grownCap_ge w _ _ _
 have hG63 : grownCap w (l.length + 1) cap 75 ≤ maxLen := grownCap_le_maxLen w (l.length + 1) cap 75 (by unfold maxLen; omega)
 generalize grownCap w (l.length + 1) cap 75 = G at hrz hGn hG63
 generalize hROW : (inner.take (i * 2)).toArray ++ Builtin.zeroCells _ (l.length + 1 - i) ++ Builtin.zeroCells _ (G - (l.length + 1)) = ROW at hrz
 have hRl : ROW.size = G * 2 := by
  rw [← hROW]
  simp [Builtin.zeroCells, Value.cells, hil]
  omega
 have hrow : ROW.toList.take (i * 2) = inner.take (i * 2) := by
  rw [← hROW]
  simp only [Array.toList_append, List.append_assoc]
  rw [List.take_append_of_le_length (by rw [List.length_take, hil]; omega), List.take_take, Nat.min_self]
 have hR : Kd.R k75 75 (((w.alloc (.cells ROW 75)).drew.setCells w.heap.size (i * 2) cs).drew.setCells w.heap.size ((i + 1) * 2) (inner.drop (i * 2))) base ok (.slice (some ⟨w.heap.size, 0, none⟩) (l.length + 1) G) (l.take i ++ x :: l.drop i) ∧ w.grownBy (((w.alloc (.cells ROW 75)).drew.setCells w.heap.size (i * 2) cs).drew.setCells w.heap.size ((i + 1) * 2) (inner.drop (i * 2))) none :=
  R_insert_grow (d := k75) (e := 75) hbase hfresh hGn hG63 hRl (hp.imp_ fun _ _ hq => Kd.M_mono k75 (fun k hk => hk.1) hq) hrow (Nat.le_of_lt hi) (Kd.M_mono k75 (fun k hk => (hokp k hk).1) hx) 1 1
 have HR := aK hR
 clear hR hROW hrow hp hx hokp hold
 obtain ⟨W1, hW1⟩ : ∃ W1, W1 = (w.alloc (.cells ROW 75)).drew := ⟨_, rfl⟩
 have hN : ∀ j, j < (l.length + 1) * 2 → (W1.cell? ⟨w.heap.size, j, none⟩).isSome = true := fun j hj => by
  rw [hW1]
  show ((w.alloc (.cells ROW 75)).cell? ⟨w.heap.size, j, none⟩).isSome = true
  rw [bC (blk_new w (.cells ROW 75)) j, Array.getElem?_eq_getElem (by omega)]; rfl
 have hNf : ∀ j, W1.frozen? ⟨w.heap.size, j, none⟩ = false := fun j => by rw [hW1]; exact bF_ (blk_new w (.cells ROW 75)) j
 have hOb : ∀ j u, w.cell? ⟨g, j, none⟩ = some u → W1.cell? ⟨g, j, none⟩ = some u := fun j u h => by
  rw [hW1]; exact (((Below.refl w.heap.size w).alloc (Nat.le_refl _) (.cells ROW 75)).cell (p := ⟨g, j, none⟩) hgw).trans h
 have hOv : ∀ j u, w.cell? ⟨vb, j, none⟩ = some u → W1.cell? ⟨vb, j, none⟩ = some u := fun j u h => by
  rw [hW1]; exact (((Below.refl w.heap.size w).alloc (Nat.le_refl _) (.cells ROW 75)).cell (p := ⟨vb, j, none⟩) hvw).trans h
 have hcpA : ∀ (W : World), (∀ a, W.cell? a = W1.cell? a) → (∀ a, W.frozen? a = W1.frozen? a) → ∀ ty dc sc, (Builtin.copy_ #[32, 31] ty #[.slice (some ⟨w.heap.size, i * 2, none⟩) (l.length + 1 - i) dc, .slice (some ⟨vb, 0, none⟩) 1 sc]).run Tryz.prog W = .ok (goInt (1 : Nat)) (W.setCells w.heap.size (i * 2) cs) := fun W hW hF ty dc sc => by
  have := run_copy_k (P := Tryz.prog) W 32 31 ty 75 2 w.heap.size (i * 2) (l.length + 1 - i) dc ⟨vb, 0, none⟩ 1 sc cs Tryz.underlying32 hsz (by rw [hcl]; simp only [Nat.min_def]; split <;> omega)
   (fun j u hj => by rw [Addr.add_lit, Nat.zero_add, hW]; exact hOv _ u (hvs _ u hj))
   (fun j hj => by rw [hW]; exact hN _ (by omega)) (fun j hj => by rw [hF]; exact hNf _) h1v
  rw [this]
  congr 2
  simp only [Nat.min_def]; split <;> omega
 have hgN : g ≠ w.heap.size := by omega
 have hcpB : ∀ (W : World), (∀ a, W.cell? a = (W1.setCells w.heap.size (i * 2) cs).cell? a) → (∀ a, W.frozen? a = W1.frozen? a) → ∀ ty dc sc, (Builtin.copy_ #[32, 32] ty #[.slice (some ⟨w.heap.size, (i + 1) * 2, none⟩) (l.length - i) dc, .slice (some ⟨g, i * 2, none⟩) (l.length - i) sc]).run Tryz.prog W = .ok (goInt (l.length - i : Nat)) (W.setCells w.heap.size ((i + 1) * 2) (inner.drop (i * 2))) := fun W hW hF ty dc sc => by
  have := run_copy_k (P := Tryz.prog) W 32 32 ty 75 2 w.heap.size ((i + 1) * 2) (l.length - i) dc ⟨g, i * 2, none⟩ (l.length - i) sc (inner.drop (i * 2)) Tryz.underlying32 hsz (by rw [hdl]; simp)
   (fun j u hj => by
    rw [Addr.add_lit, hW, World.cell?_setCells_out _ _ _ _ _ (fun h _ => absurd h hgN)]
    exact hOb _ u (hcell _ u (by rwa [List.getElem?_drop] at hj)))
   (fun j hj => by rw [hW]; exact isSome_setCells _ _ _ _ (fun t ht => hN _ (by omega)) _ (hN _ (by omega)))
   (fun j hj => by rw [hF]; exact hNf _) (fun u hu => h1c u (List.mem_of_mem_drop hu))
  rw [this]
  congr 2
  simp
 have hw1 : IntKind.i64.wrap ((i : Int) + 1) = (i : Int) + 1 := by rw [IntKind.wrap_i64]; omega
 have hw2 : IntKind.i64.wrap ((l.length : Int) + 1) = (l.length : Int) + 1 := by rw [IntKind.wrap_i64]; omega
 have hw3 : IntKind.i64.wrap ((l.length : Int) + 1 - (i : Int)) = (l.length : Int) + 1 - (i : Int) := by rw [IntKind.wrap_i64]; omega
 have c1 : ∀ W : World, (Instr.slice 32 (.slice (some ⟨g, 0, none⟩) l.length cap) (some (.int .i64 (i : Int))) none none).run Tryz.prog W = .ok (.slice (some ⟨g, i * 2, none⟩) (l.length - i) (cap - i)) W := by
  intro W
  rw [cut_from (P := Tryz.prog) 32 75 .i64 Tryz.underlying32 hi0 2 hsz0 (some ⟨g, 0, none⟩) l.length cap (i : Int) (by omega) (by omega) W, Int.toNat_natCast, if_neg (by omega), Option.map_some, Addr.add_lit, Nat.zero_add]
 have c2 := cut_to (P := Tryz.prog) 32 75 .i64 Tryz.underlying32 hi0 (some ⟨g, 0, none⟩) l.length cap (i : Int) (by omega) (by omega) (by omega)
 rw [Int.toNat_natCast] at c2
 have c3 : ∀ W : World, (Instr.slice 32 (.slice (some ⟨w.heap.size, 0, none⟩) (l.length + 1) G) (some (.int .i64 (i : Int))) none none).run Tryz.prog W = .ok (.slice (some ⟨w.heap.size, i * 2, none⟩) (l.length + 1 - i) (G - i)) W := by
  intro W
  rw [cut_from (P := Tryz.prog) 32 75 .i64 Tryz.underlying32 hi0 2 hsz0 (some ⟨w.heap.size, 0, none⟩) (l.length + 1) G (i : Int) (by omega) (by omega) W, Int.toNat_natCast, if_neg (by omega), Option.map_some, Addr.add_lit, Nat.zero_add]
 have c4 : ∀ W : World, (Instr.slice 32 (.slice (some ⟨w.heap.size, 0, none⟩) (l.length + 1) G) (some (.int .i64 ((i : Int) + 1))) none none).run Tryz.prog W = .ok (.slice (some ⟨w.heap.size, (i + 1) * 2, none⟩) (l.length - i) (G - (i + 1))) W := by
  intro W
  rw [show ((i : Int) + 1) = ((i + 1 : Nat) : Int) by omega, cut_from (P := Tryz.prog) 32 75 .i64 Tryz.underlying32 hi0 2 hsz0 (some ⟨w.heap.size, 0, none⟩) (l.length + 1) G ((i + 1 : Nat) : Int) (by omega) (by omega) W, Int.toNat_natCast, if_neg (by omega), Option.map_some, Addr.add_lit, Nat.zero_add, show l.length + 1 - (i + 1) = l.length - i by omega]
 have hb1 : decide ((1 : Int) = 0) = false := rfl
 have hb2 : decide ((i : Int) = (l.length : Int)) = false := by simp; omega
 have hb3 : decide ((cap : Int) < (l.length : Int) + 1) = true := by simp; omega
 have ha := hcpA W1 (fun _ => rfl) (fun _ => rfl) 3 (G - i) 1
 have hb := hcpB ((W1.setCells w.heap.size (i * 2) cs).drew) (fun _ => rfl) (fun _ => World.frozen?_setCells _ _ _ _ _) 3 (G - (i + 1)) (cap - i)
 subst hW1
 have mixed : (Tryz.prog).follows .mixedOrders = true := rfl
 clear hcpA hcpB hOb hOv hN hNf hcell hvs h1c h1v hkk hik hdl hil hcl
 go_enter Tryz.func65, Tryz.ntmps65
 go_wp2_with (first
  | (at_builtin; refine Lib.wpList_append_run _ rfl _ _ _ _ rfl _ _ rfl rfl _ _ hrz ?_)
  | (at_builtin; refine wpList_copy_runI _ rfl _ _ 32 31 rfl _ _ rfl rfl ha ?_))
 go_region_law_o (refine step_copy_runI rfl _ _ 32 32 rfl (.slice (some ⟨w.heap.size, (i + 1) * 2, none⟩) (l.length - i) (G - (i + 1))) (.slice (some ⟨g, i * 2, none⟩) (l.length - i) (cap - i)) (by simp [Act.eval, Act.put]) (by simp [Act.eval, Act.put]) hb ?_)
 go_wp2
 go_ret
 exact ⟨_, rfl, HR.out.1, HR.out.2⟩
theorem vecs_insert_end (w : World) (base : Nat) (ok okp : Nat → Prop) (A : Option Addr) (cap : Nat) (l : List S75) (x : S75) (cs : List Value) (vb : Nat) (tv : TypeId)
  (hbase : base ≤ w.heap.size) (hfresh : ∀ k, w.heap.size ≤ k → ok k) (ho : Kd.R k75 75 w base ok (.slice A l.length cap) l)
  (hx : Kd.M k75 w base okp x cs) (hokp : ∀ k, okp k → ok k ∧ some k ≠ (Value.slice A l.length cap).ownBlock) (hv : w.heap[vb]? = some (.cells cs.toArray tv (0, 0))) (hbig : (l.length + 1) * 24 ≤ 140737488355328) :
  Calls Tryz.prog 65 #[.slice A l.length cap, .int .i64 (l.length : Int), .slice (some ⟨vb, 0, none⟩) 1 1] w fun e w' => ∃ v' : Value, e = .returned v' ∧ Kd.R k75 75 w' base ok v' (l ++ [x]) ∧ Below base w w' ∧ w.grownBy w' (Value.slice A l.length cap).ownBlock := by
 obtain ⟨i0, hi0, hz0, hsz0, hby0⟩ := info_parts info75
 have hcl : cs.length = 2 := (Kd.K_len k75 (Kd.K_of_M k75 hx))
 obtain ⟨v1, w1, hrun, hR1, hg1⟩ := R_append_one_run (P := Tryz.prog) k75 32 31 32 75 75 i0 _ 24 Tryz.underlying32 Tryz.underlying31 hi0 hz0 hsz0 hby0 rfl (by decide) (by decide) ho hx hokp hfresh (a := ⟨vb, 0, none⟩) (fun j u hj => by rw [Addr.add_lit, Nat.zero_add, bC hv]; simpa using hj) 1 hbase hbig
 have hB : Below base w w1 := (Below.refl base w).grown hg1 hbase (Kd.R_base ho)
 obtain ⟨cc, hcut⟩ : ∃ cc : Option Addr, ∀ W : World, (Instr.slice 32 (.slice A l.length cap) (some (.int .i64 (l.length : Int))) none none).run Tryz.prog W = .ok (.slice cc (l.length - l.length) (cap - l.length)) W := by
  exact ⟨_, cut_from (P := Tryz.prog) 32 75 .i64 Tryz.underlying32 hi0 2 hsz0 A l.length cap (l.length : Int) (by omega) (by omega)⟩
 rw [Nat.sub_self] at hcut
 have hb1 : decide ((1 : Int) = 0) = false := rfl
 have HR := aK hR1
 have HB := aK hB
 have HG := aK hg1
 have HN := aK hrun
 clear ho hx hokp hv hcl hR1 hB hg1 hrun hz0 hi0
 go_enter Tryz.func65, Tryz.ntmps65
 go_wp2_with (at_builtin; refine Lib.wpList_append_run _ rfl _ _ _ _ rfl _ _ rfl rfl _ _ HN.out ?_)
 go_ret
 exact ⟨_, rfl, HR.out, HB.out, HG.out⟩
theorem vecs_insertk (w : World) (base : Nat) (ok okp : Nat → Prop) (v : Value) (l : List S75) (i : Nat) (x : S75) (cs : List Value) (vb : Nat) (tv : TypeId)
  (ho : Kd.R k75 75 w base ok v l) (hi : i ≤ l.length) (hbase : base ≤ w.heap.size) (hfresh : ∀ k, w.heap.size ≤ k → ok k) (hx : Kd.M k75 w base okp x cs) (hokp : ∀ k, okp k → ok k ∧ some k ≠ v.ownBlock) (hv : w.heap[vb]? = some (.cells cs.toArray tv (0, 0))) (hvb : some vb ≠ v.ownBlock) (hbig : (l.length + 1) * 24 ≤ 140737488355328) :
  Calls Tryz.prog 65 #[v, .int .i64 i, .slice (some ⟨vb, 0, none⟩) 1 1] w fun e w' => ∃ v' : Value, e = .returned v' ∧ Kd.R k75 75 w' base ok v' (l.take i ++ x :: l.drop i) ∧ Below base w w' ∧ ∀ k, k < w.heap.size → some k ≠ v.ownBlock → w'.heap[k]? = w.heap[k]? := by
 by_cases he : i = l.length
 ·obtain ⟨A, c, rfl⟩ := Kd.R_slice ho
  subst he
  rw [List.take_of_length_le (Nat.le_refl _), List.drop_of_length_le (Nat.le_refl _)]
  refine (vecs_insert_end w base ok okp A c l x cs vb tv hbase hfresh ho hx hokp hv hbig).mono ?_
  rintro e w' ⟨v', rfl, hR, hB, hG⟩
  exact ⟨v', rfl, hR, hB, fun k hk hne => hG.block k hk hne⟩
 ·have hlt : i < l.length := by omega
  obtain ⟨g, cap, cur, rfl, hg, hk, hh, h2, h3, h4, hp⟩ := R_open ho (fun e => by rw [e] at hlt; simp at hlt)
  have hokp' : ∀ k, okp k → ok k ∧ k ≠ g := fun k hk => ⟨(hokp k hk).1, fun e => (hokp k hk).2 (by rw [e]; rfl)⟩
  have hvb' : vb ≠ g := fun e => hvb (by rw [e]; rfl)
  by_cases hc : l.length + 1 ≤ cap
  ·refine (vecs_insert_room w base ok okp g cap cur l i x cs vb tv hg hk hh hc h3 h4 hp hlt hx hokp' hv hvb').mono ?_
   rintro e w' ⟨v', rfl, hR, hG⟩
   exact ⟨v', rfl, hR, (Below.refl base w).grown hG hbase (fun k e => by injection e with e; omega), fun k hk hne => hG.block k hk hne⟩
  ·refine (vecs_insert_grow w base ok okp g cap cur l i x cs vb tv hbase hfresh hh h2 (by omega) h4 hp hlt hx hokp' hv hvb' hbig).mono ?_
   rintro e w' ⟨v', rfl, hR, hG⟩
   exact ⟨v', rfl, hR, (Below.refl base w).grown hG hbase (fun k e => by cases e), fun k hk _ => hG.block k hk (by simp)⟩
theorem vecs_insert (w : World) (base : Nat) (ok okp : Nat → Prop) (v : Value) (l : List S75) (i : Nat) (x : S75) (cs : List Value) (vb : Nat) (tv : TypeId)
  (ho : Kd.R k75 75 w base ok v l) (hi : i ≤ l.length) (hbase : base ≤ w.heap.size) (hfresh : ∀ k, w.heap.size ≤ k → ok k) (hx : Kd.M k75 w base okp x cs) (hokp : ∀ k, okp k → ok k ∧ some k ≠ v.ownBlock) (hv : w.heap[vb]? = some (.cells cs.toArray tv (0, 0))) (hvb : some vb ≠ v.ownBlock) (hbig : (l.length + 1) * 24 ≤ 140737488355328) :
  Calls Tryz.prog 65 #[v, .int .i64 i, .slice (some ⟨vb, 0, none⟩) 1 1] w fun e w' => ∃ v' : Value, e = .returned v' ∧ Kd.R k75 75 w' base ok v' (l.take i ++ x :: l.drop i) ∧ Below base w w' :=
 (vecs_insertk w base ok okp v l i x cs vb tv ho hi hbase hfresh hx hokp hv hvb hbig).mono fun e w' h => by
  obtain ⟨v', h1, h2, h3, -⟩ := h
  exact ⟨v', h1, h2, h3⟩
def vec_Set.v (l0 : List S75) (a1 : ByteArray) (a2 : Int) : List S75 :=
 if rightB a1 = true ∧ 1 ≤ a2 then
  (if bsB (fun i => cmpB (l0.getD i z75).f0 a1) l0.length = true
   then l0.set (bsN (fun i => cmpB (l0.getD i z75).f0 a1) l0.length) ⟨(l0.getD (bsN (fun i => cmpB (l0.getD i z75).f0 a1) l0.length) z75).f0, mx (l0.getD (bsN (fun i => cmpB (l0.getD i z75).f0 a1) l0.length) z75).f1 (mn a2 1048576)⟩
   else l0.take (bsN (fun i => cmpB (l0.getD i z75).f0 a1) l0.length) ++ ⟨a1, mn a2 1048576⟩ :: l0.drop (bsN (fun i => cmpB (l0.getD i z75).f0 a1) l0.length))
 else l0
def vec_Set.f (l0 : List S75) (a1 : ByteArray) (a2 : Int) : Option (List S75) := if l0.length < 1000000000 then some (vec_Set.v l0 a1 a2) else none
theorem vec_Set.calls (A0 : Option Addr) (c0 : Nat) (l0 : List S75) (a1 : ByteArray) (a2 : Int) (r : List S75) (w : World) (hr0 : Kd.C k75 w A0 l0.length l0) (hc0 : l0.length ≤ c0) (h : vec_Set.f l0 a1 a2 = some r) :
  Calls Tryz.prog 36 #[.slice A0 l0.length c0, .string a1, .int .i64 a2] w fun e w' => ∃ v0_ : Value, e = .returned (v0_) ∧ Kd.R k75 75 w' w.heap.size (fun _ => True) v0_ r ∧ Below w.heap.size w w' := by
 have hlim : l0.length < 1000000000 := by
  by_cases hx : l0.length < 1000000000
  ·exact hx
  ·rw [vec_Set.f, if_neg hx] at h; cases h
 have hr : vec_Set.v l0 a1 a2 = r := by rw [vec_Set.f, if_pos hlim] at h; exact sI h
 have HCL := aK (vec_At.calls A0 c0 l0 l0 w hr0 hc0 (by simp only [vec_At.f, Option.bind_some, List.length_nil, List.nil_append]; rw [if_pos (by omega)]))
 have HLIM := aK hlim
 obtain ⟨i, hi⟩ : ∃ i : Nat, bsN (fun i => cmpB (l0.getD i z75).f0 a1) l0.length = i := ⟨_, rfl⟩
 obtain ⟨b, hbb⟩ : ∃ b : Bool, bsB (fun i => cmpB (l0.getD i z75).f0 a1) l0.length = b := ⟨_, rfl⟩
 have hile : i ≤ l0.length := by rw [← hi]; exact bsI_le _ _ _ _ (Nat.zero_le _)
 have hilt : b = true → i < l0.length := fun h => by
  rw [h] at hbb
  unfold bsB at hbb
  rw [Bool.and_eq_true, decide_eq_true_eq] at hbb
  rw [← hi]; exact hbb.1
 have hfind : vec_find.f l0 a1 = some ((i : Int), b) := by rw [vec_find.f, if_pos (by omega), hi, hbb]
 have hval : rightB a1 = true → ¬ a2 < 1 → r = if b = true then l0.set i ⟨(l0.getD i z75).f0, mx (l0.getD i z75).f1 (mn a2 1048576)⟩ else l0.take i ++ ⟨a1, mn a2 1048576⟩ :: l0.drop i := fun h1 h2 => by
  rw [← hr, vec_Set.v, if_pos ⟨h1, by omega⟩, hi, hbb]
 have HV := aK hr
 have HVAL := aK hval
 have HFIND := aK hfind
 have HLE := aK hile
 have HLT := aK hilt
 clear hr h hlim hr0 hc0 hi hbb hfind hval hile hilt
 go_enter Tryz.func36, Tryz.ntmps36
 go_wp2_with fail
 refine HCL.out.mono ?_
 rintro e w1 ⟨v1, rfl, ho1, hb1⟩
 obtain ⟨A1, c1, rfl, hc1, hr1⟩ := Kd.R_reads ho1
 have HO := aK ho1
 have HB := aK hb1
 have HC1 := aK hc1
 clear ho1 hb1 hc1 hr1 HCL
 go_wp2_with fail
 refine (id_Right.calls a1 (rightB a1) w1 rfl).mono ?_
 rintro e w2 ⟨rfl, hb2⟩
 replace HO := aK (Kd.R_below HO.out hb2)
 replace HB := aK (below_then HB.out HB.out.size hb2)
 clear hb2
 by_cases hR : rightB a1 = true
 ·have HRR := aK hR
  by_cases hn : a2 < 1
  ·have hv : r = l0 := by rw [← HV.out, vec_Set.v, if_neg (by omega)]
   have HR := aK hv
   have hnb : decide (a2 < 1) = true := dT hn
   generalize rightB a1 = b1 at hR
   subst hR
   clear hn hv
   go_wp2_with fail
   go_ret
   exact ⟨_, rfl, by rw [HR.out]; exact HO.out, HB.out⟩
  ·have hnb : decide (a2 < 1) = false := decide_eq_false hn
   have hv := HVAL.out hR (by omega)
   have HR := aK hv
   generalize rightB a1 = b1 at hR
   subst hR
   clear hn hv
   by_cases hq : (1048576 : Int) < a2
   ·have HM := aK (show mn a2 1048576 = 1048576 from if_pos hq)
    have hqb := eT hq
    clear hq
    go_wp2_with fail
    refine (vec_find.calls A1 c1 l0 a1 (i : Int) b w2 (Kd.R_reads' HO.out).2.2 HC1.out HFIND.out).mono ?_
    rintro e w3 ⟨rfl, hb3⟩
    replace HO := aK (Kd.R_below HO.out hb3)
    replace HB := aK (below_then HB.out HB.out.size hb3)
    clear hb3
    cases b with
    | false =>
     go_wp2_with fail
     refine (vecs_insert _ w.heap.size (fun _ => True) (fun _ => False) (.slice A1 l0.length c1) l0 i ⟨a1, 1048576⟩ [.string a1, .int .i64 1048576] w3.heap.size _ (Kd.R_below HO.out (bA (Below.refl _ _) _)) HLE.out ?_ (fun _ _ => trivial) (k75_mkM _ _ _ ⟨a1, 1048576⟩) (fun _ h => h.elim) (blk_new w3 _) ?_ (by have := HLIM.out; omega)).mono ?_
     ·exact Nat.le_trans (below_size HB.out) (by simp)
     ·intro e; have := Kd.R_lt HO.out _ e.symm; omega
     rintro e w4 ⟨v4, rfl, hR4, hB4⟩
     have HO4 := aK hR4
     have HB4 := aK ((bA HB.out _).trans hB4)
     clear hR4 hB4
     go_wp2_with fail
     go_ret
     exact ⟨_, rfl, by rw [HR.out, if_neg (by simp), HM.out]; exact HO4.out, HB4.out⟩
    | true =>
     have hlt := HLT.out rfl
     obtain ⟨g, cap, cur, ev, hg, _, hh, _, _, hcs, hp⟩ := R_open HO.out (fun e => by rw [e] at hlt; simp at hlt)
     injection ev with eA _ ec
     subst eA; subst ec
     have pm := eT (show (0 : Int) ≤ (i : Int) by omega)
     have qm := eT (show (i : Int) < (l0.length : Int) by omega)
     obtain ⟨ad, hA, hx0, hx1⟩ := at_T75 (Kd.R_reads' HO.out).2.2 (i : Int) (by omega) (by omega)
     injection hA with hA
     subst hA
     have hn1 : rd_T75 l0 (i : Int) = l0.getD i z75 := rfl
     rw [hn1] at hx0 hx1
     generalize hel : l0.getD i z75 = el at hx0 hx1 HR
     have hy0 : w3.cell? ⟨g, i * 2, none⟩ = some (.string el.f0) := by rw [← hx0, Int.toNat_natCast, Addr.add_lit, Nat.zero_add]
     have hy1 : w3.cell? ⟨g, i * 2 + 1, none⟩ = some (.int .i64 el.f1) := by rw [← hx1, Int.toNat_natCast, Addr.add_lit, Nat.zero_add]
     have hz1 : w3.frozen? ⟨g, i * 2 + 1, none⟩ = false := bF_ hh _
     have hset : ∀ m : Int, Kd.R k75 75 (w3.setCell ⟨g, i * 2 + 1, none⟩ (.int .i64 m)) w.heap.size (fun _ => True) (.slice (some ⟨g, 0, none⟩) l0.length c1) (l0.set i ⟨el.f0, m⟩) ∧ Below w.heap.size w (w3.setCell ⟨g, i * 2 + 1, none⟩ (.int .i64 m)) := fun m => by
      have h := (Kd.R_seg (d := k75) (W := w3) (okp := fun _ => False) HO.out (i : Int) (by omega) (by omega) (c := [.string el.f0, .int .i64 el.f1]) (seg := [.int .i64 m]) (j := 1) rfl (fun j u hj => by
       rcases j with _ | _ | j
       ·cases hj; rw [Int.toNat_natCast]; exact hy0
       ·cases hj; rw [Int.toNat_natCast]; exact hy1
       ·cases hj) (show 1 + 1 ≤ 2 by decide) (x' := ⟨el.f0, m⟩) (k75_mkM _ _ _ ⟨el.f0, m⟩) (fun _ h => h.elim)).1
      exact ⟨h, below_set HB.out hg⟩
     have HS := aK hset
     clear hset hx0 hx1 hp hcs hg hel
     by_cases hmx : el.f1 < 1048576
     ·have hmb := eT hmx
      have HX := aK (show mx el.f1 1048576 = 1048576 from if_pos hmx)
      clear hmx
      go_wp2_with fail
      go_ret
      exact ⟨_, rfl, by have h_ := HR.out; (first | rw [if_pos rfl] at h_ | skip); rw [HM.out, HX.out] at h_; rw [h_]; exact (HS.out _).1, (HS.out _).2⟩
     ·have hmb := eq_false hmx
      have HX := aK (show mx el.f1 1048576 = el.f1 from if_neg hmx)
      clear hmx
      go_wp2_with fail
      go_ret
      exact ⟨_, rfl, by have h_ := HR.out; (first | rw [if_pos rfl] at h_ | skip); rw [HM.out, HX.out] at h_; rw [h_]; exact (HS.out _).1, (HS.out _).2⟩
   ·have HM := aK (show mn a2 1048576 = a2 from if_neg hq)
    have hqb := eq_false hq
    clear hq
    go_wp2_with fail
    refine (vec_find.calls A1 c1 l0 a1 (i : Int) b w2 (Kd.R_reads' HO.out).2.2 HC1.out HFIND.out).mono ?_
    rintro e w3 ⟨rfl, hb3⟩
    replace HO := aK (Kd.R_below HO.out hb3)
    replace HB := aK (below_then HB.out HB.out.size hb3)
    clear hb3
    cases b with
    | false =>
     go_wp2_with fail
     refine (vecs_insert _ w.heap.size (fun _ => True) (fun _ => False) (.slice A1 l0.length c1) l0 i ⟨a1, a2⟩ [.string a1, .int .i64 a2] w3.heap.size _ (Kd.R_below HO.out (bA (Below.refl _ _) _)) HLE.out ?_ (fun _ _ => trivial) (k75_mkM _ _ _ ⟨a1, a2⟩) (fun _ h => h.elim) (blk_new w3 _) ?_ (by have := HLIM.out; omega)).mono ?_
     ·exact Nat.le_trans (below_size HB.out) (by simp)
     ·intro e; have := Kd.R_lt HO.out _ e.symm; omega
     rintro e w4 ⟨v4, rfl, hR4, hB4⟩
     have HO4 := aK hR4
     have HB4 := aK ((bA HB.out _).trans hB4)
     clear hR4 hB4
     go_wp2_with fail
     go_ret
     exact ⟨_, rfl, by rw [HR.out, if_neg (by simp), HM.out]; exact HO4.out, HB4.out⟩
    | true =>
     have hlt := HLT.out rfl
     obtain ⟨g, cap, cur, ev, hg, _, hh, _, _, hcs, hp⟩ := R_open HO.out (fun e => by rw [e] at hlt; simp at hlt)
     injection ev with eA _ ec
     subst eA; subst ec
     have pm := eT (show (0 : Int) ≤ (i : Int) by omega)
     have qm := eT (show (i : Int) < (l0.length : Int) by omega)
     obtain ⟨ad, hA, hx0, hx1⟩ := at_T75 (Kd.R_reads' HO.out).2.2 (i : Int) (by omega) (by omega)
     injection hA with hA
     subst hA
     have hn1 : rd_T75 l0 (i : Int) = l0.getD i z75 := rfl
     rw [hn1] at hx0 hx1
     generalize hel : l0.getD i z75 = el at hx0 hx1 HR
     have hy0 : w3.cell? ⟨g, i * 2, none⟩ = some (.string el.f0) := by rw [← hx0, Int.toNat_natCast, Addr.add_lit, Nat.zero_add]
     have hy1 : w3.cell? ⟨g, i * 2 + 1, none⟩ = some (.int .i64 el.f1) := by rw [← hx1, Int.toNat_natCast, Addr.add_lit, Nat.zero_add]
     have hz1 : w3.frozen? ⟨g, i * 2 + 1, none⟩ = false := bF_ hh _
     have hset : ∀ m : Int, Kd.R k75 75 (w3.setCell ⟨g, i * 2 + 1, none⟩ (.int .i64 m)) w.heap.size (fun _ => True) (.slice (some ⟨g, 0, none⟩) l0.length c1) (l0.set i ⟨el.f0, m⟩) ∧ Below w.heap.size w (w3.setCell ⟨g, i * 2 + 1, none⟩ (.int .i64 m)) := fun m => by
      have h := (Kd.R_seg (d := k75) (W := w3) (okp := fun _ => False) HO.out (i : Int) (by omega) (by omega) (c := [.string el.f0, .int .i64 el.f1]) (seg := [.int .i64 m]) (j := 1) rfl (fun j u hj => by
       rcases j with _ | _ | j
       ·cases hj; rw [Int.toNat_natCast]; exact hy0
       ·cases hj; rw [Int.toNat_natCast]; exact hy1
       ·cases hj) (show 1 + 1 ≤ 2 by decide) (x' := ⟨el.f0, m⟩) (k75_mkM _ _ _ ⟨el.f0, m⟩) (fun _ h => h.elim)).1
      exact ⟨h, below_set HB.out hg⟩
     have HS := aK hset
     clear hset hx0 hx1 hp hcs hg hel
     by_cases hmx : el.f1 < a2
     ·have hmb := eT hmx
      have HX := aK (show mx el.f1 a2 = a2 from if_pos hmx)
      clear hmx
      go_wp2_with fail
      go_ret
      exact ⟨_, rfl, by have h_ := HR.out; (first | rw [if_pos rfl] at h_ | skip); rw [HM.out, HX.out] at h_; rw [h_]; exact (HS.out _).1, (HS.out _).2⟩
     ·have hmb := eq_false hmx
      have HX := aK (show mx el.f1 a2 = el.f1 from if_neg hmx)
      clear hmx
      go_wp2_with fail
      go_ret
      exact ⟨_, rfl, by have h_ := HR.out; (first | rw [if_pos rfl] at h_ | skip); rw [HM.out, HX.out] at h_; rw [h_]; exact (HS.out _).1, (HS.out _).2⟩
 ·have hv : r = l0 := by rw [← HV.out, vec_Set.v, if_neg (fun h => hR h.1)]
  have HR := aK hv
  have hR' : rightB a1 = false := by simpa using hR
  clear hR
  generalize rightB a1 = b1 at hR'
  subst hR'
  clear hv
  go_wp2_with fail
  go_ret
  exact ⟨_, rfl, by rw [HR.out]; exact HO.out, HB.out⟩
end Go.Proofs.YtkfehkaiifjkmaaGreat.P
