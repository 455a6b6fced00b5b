import Derived.Test.YtkfehkaiifjkmaaGreatP0
import Derived.Test.YtkfehkaiifjkmaaGreatP1
import Derived.Test.YtkfehkaiifjkmaaGreatP2
namespace Go.Proofs.YtkfehkaiifjkmaaGreat.P
open Go.RowKit Go.Proofs.YtkfehkaiifjkmaaGreatW.PrintWords Go.Proofs.YtkfehkaiifjkmaaGreatW.PrintLast Go.Proofs.YtkfehkaiifjkmaaGreatW.PrintMore
set_option maxHeartbeats 8000000
set_option maxRecDepth 100000
attribute [local go_sem] max2_int min2_int max_two min_two max_three min_three max_four min_four
set_option linter.unusedVariables false
set_option linter.unusedSimpArgs false
attribute [local go_sem high] eqA65
theorem zq62_0 {p_ : Prop} (h_ : p_ := by first | (with_reducible assumption) | assumption) : p_ := h_
theorem zq62_1 {p_ : Prop} (h_ : p_ := by first | rfl | (simp; done) | (simp [*]; done)) : p_ := h_
def cenotaphref03_Drop.l0 : Nat → List (S65) → ByteArray → List (S65) → Int → Option ((List (S65)))
 | 0, _, _, _, _ => none
 | k + 1, x0, x1, x5, x6 => if x6 < (x0.length : Int) then (if 0 ≤ x6 then (if ((rd_T65 x0 x6).f0).toList = x1.toList then (cenotaphref03_Drop.l0 k x0 x1 x5 (wrap64 (x6 + 1))) else (if x5.length < 5864062014805 then (cenotaphref03_Drop.l0 k x0 x1 (x5 ++ [(⟨(rd_T65 x0 x6).f0, (rd_T65 x0 x6).f1⟩ : S65)]) (wrap64 (x6 + 1))) else (none))) else (none)) else (some x5)
def cenotaphref03_Drop.f (k : Nat) (l0 : List (S65)) (a1 : ByteArray) : Option ((List (S65))) := cenotaphref03_Drop.l0 k l0 a1 ([] : List (S65)) 0
theorem cenotaphref03_Drop.mono_l : ∀ k, (∀ y0 y1 y2 y3, LeO (cenotaphref03_Drop.l0 k y0 y1 y2 y3) (cenotaphref03_Drop.l0 (k + 1) y0 y1 y2 y3))
 | 0 => fun _ _ _ _ r h => by simp [cenotaphref03_Drop.l0] at h
 | k + 1 => by
  have ih0 := cenotaphref03_Drop.mono_l k
  ·intro y0 y1 y2 y3
   unfold cenotaphref03_Drop.l0
   repeat' first
   | (with_reducible exact ih0 _ _ _ _)
   | (with_reducible exact LeO.refl _)
   | (with_reducible exact LeO.none _)
   | (with_reducible refine LeO.ite ?_ ?_)
   | (with_reducible refine LeO.bind ?_ (fun _ => ?_))
   | exact ih0 _ _ _ _
   | exact LeO.none _
   | refine LeO.ite ?_ ?_
   | refine LeO.bind ?_ (fun _ => ?_)
theorem cenotaphref03_Drop.mono : ∀ a0 a1 k, LeO (cenotaphref03_Drop.f k a0 a1) (cenotaphref03_Drop.f (k + 1) a0 a1) := by
 intro a0 a1 k
 have ih0 := cenotaphref03_Drop.mono_l k
 unfold cenotaphref03_Drop.f
 repeat' first
   | (with_reducible exact ih0 _ _ _ _)
   | (with_reducible exact LeO.refl _)
   | (with_reducible exact LeO.none _)
   | (with_reducible refine LeO.ite ?_ ?_)
   | (with_reducible refine LeO.bind ?_ (fun _ => ?_))
   | exact ih0 _ _ _ _
   | exact LeO.none _
   | refine LeO.ite ?_ ?_
   | refine LeO.bind ?_ (fun _ => ?_)
theorem cenotaphref03_Drop.calls (k : Nat) (A0 : Option Addr) (c0 : Nat) (l0 : List (S65)) (a1 : ByteArray) (r : List (S65)) (w : World) (hr0 : Kd.C k65 w A0 l0.length l0) (hc0 : l0.length ≤ c0) (h : cenotaphref03_Drop.f k l0 a1 = some r) :
  Calls Tryz.prog 62 #[.slice A0 l0.length c0, .string a1] w fun e w' => ∃ v0_ : Value, e = .returned (v0_) ∧ Kd.R k65 65 w' w.heap.size (fun _ => True) v0_ r ∧ Below w.heap.size w w' := by
 have hu65 := Tryz.underlying65
 have HR0 := aK hr0
 have HC0 := aK hc0
 clear hr0 hc0
 have HB := aK (Below.refl w.heap.size w)
 have H : (cenotaphref03_Drop.l0 k l0 a1 ([] : List (S65)) 0) = some r := h
 clear h
 have H' := aK H
 clear H
 go_enter Tryz.func62, Tryz.ntmps62
 go_wp2
 go_loopg [5, 6] k (fun kq v5 v6 w' => ∃ (x5_1 : List (S65)) (x6_1 : Int), v6 = .int .i64 x6_1 ∧ Aside0 (cenotaphref03_Drop.l0 kq l0 a1 x5_1 x6_1 = some r) ∧ Aside0 (kq ≤ k) ∧ Aside0 (Kd.R k65 65 w' w.heap.size (fun _ => True) v5 x5_1) ∧ Aside0 (Below w.heap.size w w'))
 case atStart => exact ⟨(([] : List (S65))), (0), zq62_1, H', ⟨Nat.le_refl _⟩, ⟨by first | exact Kd.R_nil _ _ _ _ _ | exact Kd.N_nil _ _ _ _ _ | exact Kd.V_nil _ _ _ _ _ | exact Kd.Q_nil _ _ _ _ _ | exact Kd.S_nil _ _ _ _ _⟩, ⟨by repeat (first | (with_reducible first | exact HB.out | apply bA | apply pB | apply bW) | exact HB.out)⟩⟩
 case round =>
  clear H'
  try clear p2
  obtain ⟨x5_1, x6_1, rfl, HA, HK1, HO_5, HB⟩ := hrel
  cases gk with
  | zero => exact absurd HA.out (by simp [cenotaphref03_Drop.l0])
  | succ k1 =>
   have H := HA.out
   clear HA
   simp only [cenotaphref03_Drop.l0] at H
   by_cases c3 : x6_1 < (l0.length : Int)
   ·rw [if_pos c3] at H
    have c3b0 : decide (x6_1 < (l0.length : Int)) = true := dT c3
    clear c3
    by_cases c4 : 0 ≤ x6_1
    ·rw [if_pos c4] at H
     have c4b0 : decide (0 ≤ x6_1) = true := dT c4
     clear c4
     by_cases c5 : ((rd_T65 l0 x6_1).f0).toList = a1.toList
     ·rw [if_pos c5] at H
      have c5b0 : (((rd_T65 l0 x6_1).f0).toList == a1.toList) = true := beq_iff_eq.mpr c5
      have c5b1 : (((rd_T65 l0 x6_1).f0).toList != a1.toList) = false := bne_eq_false_iff_eq.mpr c5
      clear c5
      have H' := aK H
      clear H
      have p171 : 0 ≤ (x6_1 : Int) := oD zq62_0
      have q171 : x6_1 < (l0.length : Int) := oD zq62_0
      obtain ⟨ad171, e171, hx171_0, hx171_1⟩ := at_T65 HR0.out x6_1 p171 q171
      cases e171
      replace hx171_0 := pc_ HB hx171_0
      replace hx171_1 := pc_ HB hx171_1
      replace p171 := eT p171
      replace q171 := eT q171
      go_wp2
      go_roundg k1
      case measure => have := HK1.out; omega
      case rel => exact ⟨(x5_1), (wrap64 (x6_1 + 1)), zq62_1, H', ⟨by have := HK1.out; omega⟩, ⟨by (with_reducible repeat (first | apply Kd.R_alloc | apply Kd.R_drewN | apply Kd.R_drew)); exact HO_5.out⟩, ⟨by repeat (first | (with_reducible first | exact HB.out | apply bA | apply pB | apply bW) | exact HB.out)⟩⟩
     ·rw [if_neg c5] at H
      have c5b0 : (((rd_T65 l0 x6_1).f0).toList == a1.toList) = false := beq_eq_false_iff_ne.mpr c5
      have c5b1 : (((rd_T65 l0 x6_1).f0).toList != a1.toList) = true := bne_iff_ne.mpr c5
      by_cases c6 : x5_1.length < 5864062014805
      ·rw [if_pos c6] at H
       have LMc6 := aK c6
       clear c6
       obtain ⟨y173, hy173⟩ : ∃ y_ : List (S65), y_ = (x5_1 ++ [(⟨(rd_T65 l0 x6_1).f0, (rd_T65 l0 x6_1).f1⟩ : S65)]) := ⟨_, rfl⟩
       replace H : (cenotaphref03_Drop.l0 k1 l0 a1 y173 (wrap64 (x6_1 + 1))) = some r := by first | (rw [hy173]; with_reducible exact H) | (have H2_ := (Option.bind_some _ _).symm.trans H; rw [hy173]; with_reducible exact H2_) | (have H2_ := (Option.bind_some _ _).symm.trans H; with_reducible exact H2_) | with_reducible exact H | (rw [hy173]; exact H) | exact H
       have Ny173 := aK hy173
       clear hy173
       have H' := aK H
       clear H
       have p171 : 0 ≤ (x6_1 : Int) := oD zq62_0
       have q171 : x6_1 < (l0.length : Int) := oD zq62_0
       obtain ⟨ad171, e171, hx171_0, hx171_1⟩ := at_T65 HR0.out x6_1 p171 q171
       cases e171
       replace hx171_0 := pc_ HB hx171_0
       replace hx171_1 := pc_ HB hx171_1
       replace p171 := eT p171
       replace q171 := eT q171
       have p172 : 0 ≤ (x6_1 : Int) := oD zq62_0
       have q172 : x6_1 < (l0.length : Int) := oD zq62_0
       obtain ⟨ad172, e172, hx172_0, hx172_1⟩ := at_T65 HR0.out x6_1 p172 q172
       obtain rfl : ad171 = ad172 := (by injection e172)
       replace hx172_0 := pc_ HB hx172_0
       replace hx172_1 := pc_ HB hx172_1
       replace p172 := eT p172
       replace q172 := eT q172
       go_wp2_with (first | ((with_reducible refine gate_builtin (b := .append) (xs := #[.tmp 20, .tmp 25]) rfl ?_); at_builtin; refine Kd.R_append k65 (w0 := w) w.heap.size rfl (.tmp 20) (.tmp 25) 23 65 (.agg #[(.string ⟨#[]⟩), (.int .i64 0)]) 24 rfl Tryz.underlying23 info65 rfl (by decide) (by omega) u5 x5_1 (⟨(rd_T65 l0 x6_1).f0, (rd_T65 l0 x6_1).f1⟩ : S65) [.string ((rd_T65 l0 x6_1).f0), .int .i64 ((rd_T65 l0 x6_1).f1)] (fun _ => True) (fun _ => False) rfl rfl ?aP (fun _ hk => hk.elim) ?aF ?aO ?aB ?aS ?aL ?_; (case aP => exact k65_mkM _ _ _ (⟨(rd_T65 l0 x6_1).f0, (rd_T65 l0 x6_1).f1⟩ : S65)); (case aB => exact (by repeat (first | (with_reducible first | exact HB.out | apply bA | apply pB | apply bW) | exact HB.out))); (case aF => exact (fun _ _ => trivial)); (case aO => exact (by (with_reducible repeat (first | apply Kd.R_alloc | apply Kd.R_drewN | apply Kd.R_drew)); exact HO_5.out)); (case aS => exact (below_size (by repeat (first | (with_reducible first | exact HB.out | apply bA | apply pB | apply bW) | exact HB.out)))); (case aL => have := LMc6.out; omega); intro v174 w7 ho hb hg hat; rw [← Ny173.out] at ho; replace HB := aK (hb); have HO175 := aK (ho); clear HO_5; clear ho hb hg hat))
       go_roundg k1
       case measure => have := HK1.out; omega
       case rel => exact ⟨(y173), (wrap64 (x6_1 + 1)), zq62_1, H', ⟨by have := HK1.out; omega⟩, ⟨by (with_reducible repeat (first | apply Kd.R_alloc | apply Kd.R_drewN | apply Kd.R_drew)); exact HO175.out⟩, ⟨by repeat (first | (with_reducible first | exact HB.out | apply bA | apply pB | apply bW) | exact HB.out)⟩⟩
      ·rw [if_neg c6] at H
       exact absurd H (by simp)
    ·rw [if_neg c4] at H
     exact absurd H (by simp)
   ·rw [if_neg c3] at H
    have c3b0 : decide (x6_1 < (l0.length : Int)) = false := decide_eq_false c3
    clear c3
    obtain rfl := sI H
    go_wp2
    go_ret
    exact ⟨_, by first | rfl | (simp [errW_none, errW_some] <;> rfl) | (simp [*, errW_none, errW_some] <;> rfl), by (with_reducible repeat (first | apply Kd.R_alloc | apply Kd.R_drewN | apply Kd.R_drew)); exact HO_5.out, by repeat (first | (with_reducible first | exact HB.out | apply bA | apply pB | apply bW) | exact HB.out)⟩
theorem zq32_0 {p_ : Prop} (h_ : p_ := by repeat (first | (with_reducible first | exact HB.out | apply bA | apply pB | apply bW) | exact HB.out)) : p_ := h_
theorem zq32_1 {p_ : Prop} (h_ : p_ := by first | (with_reducible assumption) | assumption) : p_ := h_
def cenotaphref03_put.l0 : Nat → List (S65) → Int → Option ((List (S65)))
 | 0, _, _ => none
 | k + 1, x7, x8 => if x8 > 0 then (if 0 ≤ (wrap64 (x8 - 1)) then (if (wrap64 (x8 - 1)) < (x7.length : Int) then (if 0 ≤ x8 then (if x8 < (x7.length : Int) then ((cenotaphref01_Compare.f k ((rd_T65 x7 (wrap64 (x8 - 1))).f0) ((rd_T65 x7 x8).f0)).bind fun t184 => (if t184 > 0 then (cenotaphref03_put.l0 k ((x7.set ((wrap64 (x8 - 1)) : Int).toNat (⟨(rd_T65 x7 x8).f0, (rd_T65 x7 x8).f1⟩ : S65)).set (x8 : Int).toNat (⟨(rd_T65 x7 (wrap64 (x8 - 1))).f0, (rd_T65 x7 (wrap64 (x8 - 1))).f1⟩ : S65)) (wrap64 (x8 - 1))) else (some x7))) else (none)) else (none)) else (none)) else (none)) else (some x7)
def cenotaphref03_put.f (k : Nat) (l0 : List (S65)) (a1 : ByteArray) (a2 : Int) : Option ((List (S65))) := (cenotaphref03_Drop.f k l0 a1).bind fun t176 => (if a2 < 1 then (some t176) else (if t176.length < 5864062014805 then ((some (t176 ++ [(⟨a1, a2⟩ : S65)] : List (S65))).bind fun y179 => (cenotaphref03_put.l0 k y179 (wrap64 ((y179.length : Int) - 1)))) else (none)))
theorem cenotaphref03_put.mono_l : ∀ k, (∀ y0 y1, LeO (cenotaphref03_put.l0 k y0 y1) (cenotaphref03_put.l0 (k + 1) y0 y1))
 | 0 => fun _ _ r h => by simp [cenotaphref03_put.l0] at h
 | k + 1 => by
  have ih0 := cenotaphref03_put.mono_l k
  ·intro y0 y1
   unfold cenotaphref03_put.l0
   repeat' first
   | (with_reducible exact ih0 _ _)
   | (with_reducible exact cenotaphref01_Compare.mono _ _ _)
   | (with_reducible exact cenotaphref03_Drop.mono _ _ _)
   | (with_reducible exact LeO.refl _)
   | (with_reducible exact LeO.none _)
   | (with_reducible refine LeO.ite ?_ ?_)
   | (with_reducible refine LeO.bind ?_ (fun _ => ?_))
   | exact ih0 _ _
   | exact cenotaphref01_Compare.mono _ _ _
   | exact cenotaphref03_Drop.mono _ _ _
   | exact LeO.none _
   | refine LeO.ite ?_ ?_
   | refine LeO.bind ?_ (fun _ => ?_)
theorem cenotaphref03_put.mono : ∀ a0 a1 a2 k, LeO (cenotaphref03_put.f k a0 a1 a2) (cenotaphref03_put.f (k + 1) a0 a1 a2) := by
 intro a0 a1 a2 k
 have ih0 := cenotaphref03_put.mono_l k
 unfold cenotaphref03_put.f
 repeat' first
   | (with_reducible exact ih0 _ _)
   | (with_reducible exact cenotaphref01_Compare.mono _ _ _)
   | (with_reducible exact cenotaphref03_Drop.mono _ _ _)
   | (with_reducible exact LeO.refl _)
   | (with_reducible exact LeO.none _)
   | (with_reducible refine LeO.ite ?_ ?_)
   | (with_reducible refine LeO.bind ?_ (fun _ => ?_))
   | exact ih0 _ _
   | exact cenotaphref01_Compare.mono _ _ _
   | exact cenotaphref03_Drop.mono _ _ _
   | exact LeO.none _
   | refine LeO.ite ?_ ?_
   | refine LeO.bind ?_ (fun _ => ?_)
def cenotaphref03_put.T6 : Bool × List (List Nat × List Nat) := (true, [([], []), ([0], [0]), ([1], [1]), ([2], [2]), ([2], [2]), ([4, 2], [2, 4]), ([3, 5, 2], [2, 3, 5]), ([6, 2], [2, 6]), ([7, 2], [2, 7]), ([2], [2]), ([2], [2]), ([9, 10, 2], [2, 9, 10]), ([11, 2], [2, 11]), ([12, 2], [2, 12]), ([8, 13, 2, 2], [2, 8, 13]), ([14, 2], [2, 14]), ([2, 15], [2, 15])])
def cenotaphref03_put.B6 : List Nat := [0, 1, 3, 7, 7, 23, 63, 127, 255, 7, 7, 1543, 3591, 7687, 16383, 32767, 65535]
theorem cenotaphref03_put.tab6 : rtab .any (opsOf Tryz.f32 6) = cenotaphref03_put.T6 := by kernel_rfl
theorem cenotaphref03_put.bits6 : waitsOk cenotaphref03_put.T6.2 cenotaphref03_put.B6 = true := by kernel_rfl
def cenotaphref03_put.T8 : Bool × List (List Nat × List Nat) := (true, [([], []), ([], []), ([1], [1]), ([], []), ([], []), ([], []), ([], []), ([5, 6], [5, 6]), ([7], [7]), ([], []), ([], []), ([10], [10]), ([9, 11], [9, 11]), ([12], [12]), ([0, 2, 0, 1, 2, 5, 6, 7, 8, 13], [0, 2]), ([14, 8, 0, 1, 2, 5, 6, 7, 8, 13], [8, 14]), ([3, 4, 0, 1, 2, 3, 4, 5, 6, 7, 8, 9, 10, 11, 12, 13, 14, 15], [3, 4]), ([16, 13, 15, 0, 1, 2, 3, 4, 5, 6, 7, 8, 9, 10, 11, 12, 13, 14, 15], [13, 16])])
def cenotaphref03_put.B8 : List Nat := [0, 0, 2, 0, 0, 0, 0, 96, 224, 0, 0, 1024, 3584, 7680, 16359, 32743, 65535, 131071]
theorem cenotaphref03_put.tab8 : rtab .any (opsOf Tryz.f32 8) = cenotaphref03_put.T8 := by kernel_rfl
theorem cenotaphref03_put.bits8 : waitsOk cenotaphref03_put.T8.2 cenotaphref03_put.B8 = true := by kernel_rfl
theorem cenotaphref03_put.calls (k : Nat) (A0 : Option Addr) (c0 : Nat) (l0 : List (S65)) (a1 : ByteArray) (a2 : Int) (r : List (S65)) (w : World) (hr0 : Kd.C k65 w A0 l0.length l0) (hc0 : l0.length ≤ c0) (h : cenotaphref03_put.f k l0 a1 a2 = some r) :
  Calls Tryz.prog 32 #[.slice A0 l0.length c0, .string a1, .int .i64 a2] w fun e w' => ∃ v0_ : Value, e = .returned (v0_) ∧ Kd.R k65 65 w' w.heap.size (fun _ => True) v0_ r ∧ Below w.heap.size w w' := by
 have hu65 := Tryz.underlying65
 have HR0 := aK hr0
 have HC0 := aK hc0
 clear hr0 hc0
 have HB := aK (Below.refl w.heap.size w)
 have H := h
 unfold cenotaphref03_put.f at H
 clear h
 replace H := bM H
 obtain ⟨t176, A40, H⟩ := H
 have A4 := aK A40
 clear A40
 by_cases c5 : a2 < 1
 ·rw [if_pos c5] at H
  have c5b0 : decide (a2 < 1) = true := dT c5
  clear c5
  obtain rfl := sI H
  go_enter Tryz.func32, Tryz.ntmps32
  go_wp2_with (first | ((with_reducible refine gate_callee (f := 62) rfl ?_); refine goesL_ (some 11) rfl rfl Tryz.func62 (by kernel_rfl) rfl #[.slice A0 l0.length c0, .string a1] rfl (by (try simp only [List.map_toArray, List.map_cons, List.map_nil]); first | done | rfl | (simp only [List.length_drop, List.length_take]; rfl)) ?_; (with_reducible refine (cenotaphref03_Drop.calls k _ _ l0 a1 t176 _ ?side1 ?side2 A4.out).mono ?_); (case side1 => repeat (first | exact HR0.out | (with_reducible refine Kd.C_alloc ?_ _) | (with_reducible refine Kd.C_drewN ?_ _) | (with_reducible refine Kd.C_drew ?_))); (case side2 => exact HC0.out); rintro e w6 ⟨v177, rfl, ho0, hb⟩; refine ⟨_, rfl, ?_⟩; have HO178 := aK (Kd.R_lower ho0 (below_size zq32_0)); replace HB := aK (bS zq32_0 hb); (try clear hb); (try clear hb2); (try clear hk); (try clear hi); (try clear ho0)))
  go_ret
  exact ⟨_, by first | rfl | (simp [errW_none, errW_some] <;> rfl) | (simp [*, errW_none, errW_some] <;> rfl), by (with_reducible repeat (first | apply Kd.R_alloc | apply Kd.R_drewN | apply Kd.R_drew)); exact HO178.out, by repeat (first | (with_reducible first | exact HB.out | apply bA | apply pB | apply bW) | exact HB.out)⟩
 ·rw [if_neg c5] at H
  have c5b0 : decide (a2 < 1) = false := decide_eq_false c5
  clear c5
  by_cases c7 : t176.length < 5864062014805
  ·rw [if_pos c7] at H
   have LMc7 := aK c7
   clear c7
   obtain ⟨y179, hy179⟩ : ∃ y_ : List (S65), y_ = (t176 ++ [(⟨a1, a2⟩ : S65)]) := ⟨_, rfl⟩
   replace H : (cenotaphref03_put.l0 k y179 (wrap64 ((y179.length : Int) - 1))) = some r := by first | (rw [hy179]; with_reducible exact H) | (have H2_ := (Option.bind_some _ _).symm.trans H; rw [hy179]; with_reducible exact H2_) | (have H2_ := (Option.bind_some _ _).symm.trans H; with_reducible exact H2_) | with_reducible exact H | (rw [hy179]; exact H) | exact H
   have Ny179 := aK hy179
   clear hy179
   have H' := aK H
   clear H
   go_enter Tryz.func32, Tryz.ntmps32
   go_wp2_with (first | ((with_reducible refine gate_callee (f := 62) rfl ?_); refine goesL_ (some 11) rfl rfl Tryz.func62 (by kernel_rfl) rfl #[.slice A0 l0.length c0, .string a1] rfl (by (try simp only [List.map_toArray, List.map_cons, List.map_nil]); first | done | rfl | (simp only [List.length_drop, List.length_take]; rfl)) ?_; (with_reducible refine (cenotaphref03_Drop.calls k _ _ l0 a1 t176 _ ?side1 ?side2 A4.out).mono ?_); (case side1 => repeat (first | exact HR0.out | (with_reducible refine Kd.C_alloc ?_ _) | (with_reducible refine Kd.C_drewN ?_ _) | (with_reducible refine Kd.C_drew ?_))); (case side2 => exact HC0.out); rintro e w8 ⟨v177, rfl, ho0, hb⟩; refine ⟨_, rfl, ?_⟩; have HO178 := aK (Kd.R_lower ho0 (below_size zq32_0)); replace HB := aK (bS zq32_0 hb); (try clear hb); (try clear hb2); (try clear hk); (try clear hi); (try clear ho0)) | ((with_reducible refine gate_builtin (b := .append) (xs := #[.tmp 15, .tmp 19]) rfl ?_); at_builtin; refine Kd.R_append k65 (w0 := w) w.heap.size rfl (.tmp 15) (.tmp 19) 23 65 (.agg #[(.string ⟨#[]⟩), (.int .i64 0)]) 24 rfl Tryz.underlying23 info65 rfl (by decide) (by omega) v177 t176 (⟨a1, a2⟩ : S65) [.string a1, .int .i64 a2] (fun _ => True) (fun _ => False) rfl rfl ?aP (fun _ hk => hk.elim) ?aF ?aO ?aB ?aS ?aL ?_; (case aP => exact k65_mkM _ _ _ (⟨a1, a2⟩ : S65)); (case aB => exact zq32_0); (case aF => exact (fun _ _ => trivial)); (case aO => exact (by (with_reducible repeat (first | apply Kd.R_alloc | apply Kd.R_drewN | apply Kd.R_drew)); exact HO178.out)); (case aS => exact (below_size zq32_0)); (case aL => have := LMc7.out; omega); intro v180 w9 ho hb hg hat; rw [← Ny179.out] at ho; replace HB := aK (hb); have HO181 := aK (ho); clear HO178; clear ho hb hg hat; obtain ⟨Ao10, co10, eo10⟩ := Kd.R_slice HO181.out; subst eo10))
   go_loopg [8] k (fun kq v8 w' => ∃ (x7_1 : List (S65)) (x8_1 : Int), v8 = .int .i64 x8_1 ∧ Aside0 (cenotaphref03_put.l0 kq x7_1 x8_1 = some r) ∧ Aside0 (kq ≤ k) ∧ Aside0 (Kd.R k65 65 w' w.heap.size (fun _ => True) (.slice Ao10 y179.length co10) x7_1) ∧ Aside0 (Below w.heap.size w w'))
   case atStart => exact ⟨(y179), (wrap64 ((y179.length : Int) - 1)), (by first | rfl | (simp; done) | (simp [*]; done)), H', ⟨Nat.le_refl _⟩, ⟨by (with_reducible repeat (first | apply Kd.R_alloc | apply Kd.R_drewN | apply Kd.R_drew)); exact HO181.out⟩, ⟨by repeat (first | (with_reducible first | exact HB.out | apply bA | apply pB | apply bW) | exact HB.out)⟩⟩
   case round =>
    clear H'
    try clear p2
    try clear c3
    try clear c5
    try clear c5b0
    try clear c6
    try clear p6
    try clear c7
    obtain ⟨x7_1, x8_1, rfl, HA, HK1, HO_7, HB⟩ := hrel
    have hl7_1 := (Kd.R_reads' HO_7.out).1
    rw [hl7_1] at HO_7
    (try simp only [hl7_1])
    cases gk with
    | zero => exact absurd HA.out (by simp [cenotaphref03_put.l0])
    | succ k1 =>
     have H := HA.out
     clear HA
     simp only [cenotaphref03_put.l0] at H
     by_cases c11 : x8_1 > 0
     ·rw [if_pos c11] at H
      have c11b0 : decide (0 < x8_1) = true := dT c11
      clear c11
      obtain ⟨ji12, hji12⟩ : ∃ j_ : Int, (wrap64 (x8_1 - 1)) = j_ := ⟨_, rfl⟩
      replace H : (if 0 ≤ (ji12) then (if (ji12) < (x7_1.length : Int) then (if 0 ≤ x8_1 then (if x8_1 < (x7_1.length : Int) then ((cenotaphref01_Compare.f k1 ((rd_T65 x7_1 (ji12)).f0) ((rd_T65 x7_1 x8_1).f0)).bind fun t184 => (if t184 > 0 then (cenotaphref03_put.l0 k1 ((x7_1.set ((ji12) : Int).toNat (⟨(rd_T65 x7_1 x8_1).f0, (rd_T65 x7_1 x8_1).f1⟩ : S65)).set (x8_1 : Int).toNat (⟨(rd_T65 x7_1 (ji12)).f0, (rd_T65 x7_1 (ji12)).f1⟩ : S65)) ji12) else (some x7_1))) else (none)) else (none)) else (none)) else (none)) = some r := by first | (rw [hji12] at H; exact H) | (simp only [hji12] at H ⊢; exact H)
      have hji12w : (IntKind.i64.wrap (x8_1 - 1)) = ji12 := (i64_w _).trans hji12
      by_cases c13 : 0 ≤ (ji12)
      ·rw [if_pos c13] at H
       have c13b0 : decide (0 ≤ (ji12)) = true := dT c13
       clear c13
       by_cases c14 : (ji12) < (x7_1.length : Int)
       ·rw [if_pos c14] at H
        have c14b0 : decide ((ji12) < (x7_1.length : Int)) = true := dT c14
        clear c14
        by_cases c15 : 0 ≤ x8_1
        ·rw [if_pos c15] at H
         have c15b0 : decide (0 ≤ x8_1) = true := dT c15
         clear c15
         by_cases c16 : x8_1 < (x7_1.length : Int)
         ·rw [if_pos c16] at H
          have c16b0 : decide (x8_1 < (x7_1.length : Int)) = true := dT c16
          clear c16
          replace H := bM H
          obtain ⟨t184, A170, H⟩ := H
          have A17 := aK A170
          clear A170
          by_cases c18 : t184 > 0
          ·rw [if_pos c18] at H
           have c18b0 : decide (0 < t184) = true := dT c18
           clear c18
           obtain ⟨y187, hy187⟩ : ∃ y_ : List (S65), y_ = (x7_1.set ((ji12) : Int).toNat (⟨(rd_T65 x7_1 x8_1).f0, (rd_T65 x7_1 x8_1).f1⟩ : S65)) := ⟨_, rfl⟩
           replace H : (cenotaphref03_put.l0 k1 (y187.set (x8_1 : Int).toNat (⟨(rd_T65 x7_1 (ji12)).f0, (rd_T65 x7_1 (ji12)).f1⟩ : S65)) ji12) = some r := by first | (rw [hy187]; with_reducible exact H) | (have H2_ := (Option.bind_some _ _).symm.trans H; rw [hy187]; with_reducible exact H2_) | (have H2_ := (Option.bind_some _ _).symm.trans H; with_reducible exact H2_) | with_reducible exact H | (rw [hy187]; exact H) | exact H
           have Ny187 := aK hy187
           clear hy187
           obtain ⟨y188, hy188⟩ : ∃ y_ : List (S65), y_ = (y187.set (x8_1 : Int).toNat (⟨(rd_T65 x7_1 (ji12)).f0, (rd_T65 x7_1 (ji12)).f1⟩ : S65)) := ⟨_, rfl⟩
           replace H : (cenotaphref03_put.l0 k1 y188 ji12) = some r := by first | (rw [hy188]; with_reducible exact H) | (have H2_ := (Option.bind_some _ _).symm.trans H; rw [hy188]; with_reducible exact H2_) | (have H2_ := (Option.bind_some _ _).symm.trans H; with_reducible exact H2_) | with_reducible exact H | (rw [hy188]; exact H) | exact H
           have Ny188 := aK hy188
           clear hy188
           have H' := aK H
           clear H
           try go_wp2
           replace HO_7 := aK (Kd.R_drew HO_7.out)
           replace HB := aK (bW HB.out)
           have p182 : 0 ≤ ((ji12) : Int) := oD zq32_1
           have q182 : (ji12) < (x7_1.length : Int) := oD zq32_1
           obtain ⟨ad182, e182, hx182_0, hx182_1⟩ := at_T65 (Kd.R_reads' HO_7.out).2.2 (ji12) p182 q182
           cases e182
           replace p182 := eT p182
           replace q182 := eT q182
           have p183 : 0 ≤ (x8_1 : Int) := oD zq32_1
           have q183 : x8_1 < (x7_1.length : Int) := oD zq32_1
           obtain ⟨ad183, e183, hx183_0, hx183_1⟩ := at_T65 (Kd.R_reads' HO_7.out).2.2 x8_1 p183 q183
           obtain rfl : ad182 = ad183 := (by injection e183)
           replace p183 := eT p183
           replace q183 := eT q183
           refine start_ (n := 17) (S := fun w' => w'.cell? (ad182.add (((ji12)).toNat * 2)) = some (.string ((rd_T65 x7_1 (ji12)).f0)) ∧ w'.cell? ⟨(ad182.add (((ji12)).toNat * 2)).block, (ad182.add (((ji12)).toNat * 2)).off + 1, none⟩ = some (.int .i64 ((rd_T65 x7_1 (ji12)).f1)) ∧ w'.cell? (ad182.add ((x8_1).toNat * 2)) = some (.string ((rd_T65 x7_1 x8_1).f0)) ∧ w'.cell? ⟨(ad182.add ((x8_1).toNat * 2)).block, (ad182.add ((x8_1).toNat * 2)).off + 1, none⟩ = some (.int .i64 ((rd_T65 x7_1 x8_1).f1))) (ds := []) #[false, false, false, false, false, false, false, false, false, false, false, false, false, false, false, false, false] (by kernel_rfl) rfl rfl ⟨hx182_0, hx182_1, hx183_0, hx183_1⟩ (fun hHeld => ?_); refine with_tabW cenotaphref03_put.tab6 cenotaphref03_put.bits6 (fun HT_ HW_ => ?_)
           generalize wr.drew = w21 at HO_7 HB hx182_0 hx182_1 hx183_0 hx183_1 hHeld ⊢
           refine p_ 0 24 (mk_ 17 0x1) ?_
           refine p_ 1 25 (mk_ 17 0x3) ?_
           refine p_ 2 26 (mk_ 17 0x7) ?_
           refine p_ 3 27 (mk_ 17 0xf) ?_
           refine p_ 4 28 (mk_ 17 0x1f) ?_
           refine p_ 5 29 (mk_ 17 0x3f) ?_
           refine p_ 6 30 (mk_ 17 0x7f) ?_
           refine p_ 7 31 (mk_ 17 0xff) ?_
           refine p_ 9 33 (mk_ 17 0x2ff) ?_
           refine p_ 10 34 (mk_ 17 0x6ff) ?_
           refine p_ 11 35 (mk_ 17 0xeff) ?_
           refine p_ 12 36 (mk_ 17 0x1eff) ?_
           refine t_ 8 32 (mk_ 17 0x1fff) hHeld ?_
           refine t_ 13 37 (mk_ 17 0x3fff) hHeld ?_
           refine one_ (i := 14) (N := some 38) #[true, true, true, true, true, true, true, true, true, true, true, true, true, true, true, false, false] rfl rfl (one_of HT_.out (by kernel_rfl)) (by decide) (fun K hK => ?_)
           refine goes_ Tryz.func34 (by kernel_rfl) rfl #[.string ((rd_T65 x7_1 (ji12)).f0), .string ((rd_T65 x7_1 x8_1).f0)] (by rfl) rfl rfl (by (try simp only [List.map_toArray, List.map_cons, List.map_nil]); first | done | (simp only [hji12]; rfl) | rfl | (simp only [List.length_drop, List.length_take]; rfl)) ?_
           with_reducible refine (cenotaphref01_Compare.calls k1 ((rd_T65 x7_1 (ji12)).f0) ((rd_T65 x7_1 x8_1).f0) t184 _ A17.out).mono ?_
           rintro e w' ⟨rfl, ⟨nd, rfl⟩⟩
           refine ⟨_, rfl, ?_⟩
           refine hK.out _ _ ⟨hHeld.1, hHeld.2.1, hHeld.2.2.1, hHeld.2.2.2⟩ (fun hHeld => ?_)
           clear hK K
           refine norm_ (a' := ?_) ?_ ?_
           rotate_left
           ·show Act.put _ (some 38) _ = _
            simp only [Act.put, lA, lB, lC, i64_w, i32_w]
            rfl
           refine p_ 15 39 (mk_ 17 0xffff) ?_
           refine p_ 16 40 (mk_ 17 0x1ffff) ?_
           refine done_ (done_of HT_.out (by kernel_rfl)) ?_
           try go_wp2
           (try (rw [drewN_self w21]; generalize hq_ : World.drewN w21 _ = w21; have n0_ : Aside0 (Kd.R k65 65 w21 w.heap.size (fun _ => True) (.slice (some ad182) x7_1.length co10) x7_1) := ⟨by rw [← hq_]; exact (by (with_reducible repeat (first | apply Kd.R_alloc | apply Kd.R_drewN | apply Kd.R_drew)); exact HO_7.out)⟩; have n1_ : Aside0 (Below w.heap.size w w21) := ⟨by rw [← hq_]; exact zq32_0⟩; clear HO_7 HB hq_; have HO_7 := n0_; have HB := n1_; clear n0_ n1_))
           replace HO_7 := aK (Kd.R_drew HO_7.out)
           replace HB := aK (bW HB.out)
           have p185 : 0 ≤ (x8_1 : Int) := oD zq32_1
           have q185 : x8_1 < (x7_1.length : Int) := oD zq32_1
           obtain ⟨ad185, e185, hx185_0, hx185_1⟩ := at_T65 (Kd.R_reads' HO_7.out).2.2 x8_1 p185 q185
           obtain rfl : ad182 = ad185 := (by injection e185)
           replace p185 := eT p185
           replace q185 := eT q185
           have p186 : 0 ≤ ((ji12) : Int) := oD zq32_1
           have q186 : (ji12) < (x7_1.length : Int) := oD zq32_1
           obtain ⟨ad186, e186, hx186_0, hx186_1⟩ := at_T65 (Kd.R_reads' HO_7.out).2.2 (ji12) p186 q186
           obtain rfl : ad182 = ad186 := (by injection e186)
           replace p186 := eT p186
           replace q186 := eT q186
           have p19 : 0 ≤ ((ji12) : Int) := oD zq32_1
           have q19 : ((ji12) : Int) < ((x7_1.length : Int) : Int) := oD zq32_1
           obtain ⟨go19, co19, eo19, gb19, gl19, cl19, HG19⟩ := Kd.R_form HO_7.out (by omega)
           (first | cases eo19 | (injection eo19 with ea_ en_ ec_; (first | subst ea_ | (injection ea_ with ea_; subst ea_)); subst ec_; clear en_))
           have GB19 := aK gb19
           have GG19 := aK HG19
           clear gb19 gl19 HG19
           (first | simp only [add_plain] at hx182_0 | skip)
           (first | simp only [add_plain] at hx182_1 | skip)
           (first | simp only [add_plain] at hx183_0 | skip)
           (first | simp only [add_plain] at hx183_1 | skip)
           (first | simp only [add_plain] at hx185_0 | skip)
           (first | simp only [add_plain] at hx185_1 | skip)
           (first | simp only [add_plain] at hx186_0 | skip)
           (first | simp only [add_plain] at hx186_1 | skip)
           obtain ⟨ce19, hcl19, hM19, hcc19, hfr19⟩ := Kd.R_elem HO_7.out z65 ((ji12) : Int) p19 q19
           obtain rfl := k65_openM hM19
           have hx19_0 : World.cell? _ ⟨go19, ((ji12) : Int).toNat * 2, none⟩ = some (.string ((rd_T65 x7_1 (ji12)).f0)) := hcc19 0 _ rfl
           have hx19_1 : World.cell? _ ⟨go19, ((ji12) : Int).toNat * 2 + 1, none⟩ = some (.int .i64 ((rd_T65 x7_1 (ji12)).f1)) := hcc19 1 _ rfl
           have hf19_0 : World.frozen? _ ⟨go19, ((ji12) : Int).toNat * 2, none⟩ = false := hfr19 0
           have hf19_1 : World.frozen? _ ⟨go19, ((ji12) : Int).toNat * 2 + 1, none⟩ = false := hfr19 1
           clear hcl19 hcc19 hfr19 hM19
           replace p19 := eT p19
           replace q19 := eT q19
           obtain ⟨ce23, hcl23, hM23, hcc23, hfr23⟩ := Kd.R_elem HO_7.out z65 ((ji12) : Int) (oD zq32_1) (by have h_ : ((ji12) : Int) < ((x7_1.length : Int) : Int) := oD zq32_1; first | exact h_ | (have e_ := (Kd.R_reads' HO_7.out).1; omega) | simpa using h_)
           obtain rfl := k65_openM hM23
           have HP23 := (Kd.R_seg HO_7.out ((ji12) : Int) (oD zq32_1) (by have h_ : ((ji12) : Int) < ((x7_1.length : Int) : Int) := oD zq32_1; first | exact h_ | (have e_ := (Kd.R_reads' HO_7.out).1; omega) | simpa using h_) (seg := [.string ((rd_T65 x7_1 x8_1).f0), .int .i64 ((rd_T65 x7_1 x8_1).f1)]) (j := 0) hcl23 hcc23 (show 2 ≤ 2 from by decide) (x' := (⟨(rd_T65 x7_1 x8_1).f0, (rd_T65 x7_1 x8_1).f1⟩ : S65)) (k65_mkM _ _ _ (⟨(rd_T65 x7_1 x8_1).f0, (rd_T65 x7_1 x8_1).f1⟩ : S65) ) (fun _ hk => hk)).1
           rw [← Ny187.out] at HP23
           have HQ23 := aK HP23
           clear hcl23 hcc23 hfr23 hM23 HP23
           have p20 : 0 ≤ (x8_1 : Int) := oD zq32_1
           have q20 : (x8_1 : Int) < ((x7_1.length : Int) : Int) := oD zq32_1
           obtain ⟨ce20, hcl20, hM20, hcc20, hfr20⟩ := Kd.R_elem HQ23.out z65 (x8_1 : Int) p20 q20
           obtain rfl := k65_openM hM20
           have hx20_0 : World.cell? _ ⟨go19, (x8_1 : Int).toNat * 2, none⟩ = some (.string ((rd_T65 y187 x8_1).f0)) := hcc20 0 _ rfl
           have hx20_1 : World.cell? _ ⟨go19, (x8_1 : Int).toNat * 2 + 1, none⟩ = some (.int .i64 ((rd_T65 y187 x8_1).f1)) := hcc20 1 _ rfl
           have hf20_0 : World.frozen? _ ⟨go19, (x8_1 : Int).toNat * 2, none⟩ = false := hfr20 0
           have hf20_1 : World.frozen? _ ⟨go19, (x8_1 : Int).toNat * 2 + 1, none⟩ = false := hfr20 1
           clear hcl20 hcc20 hfr20 hM20
           replace p20 := eT p20
           replace q20 := eT q20
           obtain ⟨ce24, hcl24, hM24, hcc24, hfr24⟩ := Kd.R_elem HQ23.out z65 (x8_1 : Int) (oD zq32_1) (by have h_ : (x8_1 : Int) < ((x7_1.length : Int) : Int) := oD zq32_1; first | exact h_ | (have e_ := (Kd.R_reads' HO_7.out).1; omega) | simpa using h_)
           obtain rfl := k65_openM hM24
           have HP24 := (Kd.R_seg HQ23.out (x8_1 : Int) (oD zq32_1) (by have h_ : (x8_1 : Int) < ((x7_1.length : Int) : Int) := oD zq32_1; first | exact h_ | (have e_ := (Kd.R_reads' HO_7.out).1; omega) | simpa using h_) (seg := [.string ((rd_T65 x7_1 (ji12)).f0), .int .i64 ((rd_T65 x7_1 (ji12)).f1)]) (j := 0) hcl24 hcc24 (show 2 ≤ 2 from by decide) (x' := (⟨(rd_T65 x7_1 (ji12)).f0, (rd_T65 x7_1 (ji12)).f1⟩ : S65)) (k65_mkM _ _ _ (⟨(rd_T65 x7_1 (ji12)).f0, (rd_T65 x7_1 (ji12)).f1⟩ : S65) ) (fun _ hk => hk)).1
           rw [← Ny188.out] at HP24
           have HQ24 := aK HP24
           clear hcl24 hcc24 hfr24 hM24 HP24
           have hnA_ : (ji12).toNat ≠ (x8_1).toNat := by have h1_ := of_eq_true p19; have h2_ := of_eq_true p20; first | omega | (have hj0_ := hji12; unfold wrap64 at hj0_; omega)
           have hnB_ := hnA_.symm
           (try simp only [World.frozen?_setCells, World.frozen?_setCell] at hf19_0)
           (try simp only [World.frozen?_setCells, World.frozen?_setCell] at hf19_1)
           (try simp only [World.frozen?_setCells, World.frozen?_setCell] at hf20_0)
           (try simp only [World.frozen?_setCells, World.frozen?_setCell] at hf20_1)
           refine start_ (n := 18) (S := fun w' => w'.cell? ⟨go19, ((x8_1).toNat * 2), none⟩ = some (.string ((rd_T65 x7_1 x8_1).f0)) ∧ w'.cell? ⟨go19, ((x8_1).toNat * 2) + 1, none⟩ = some (.int .i64 ((rd_T65 x7_1 x8_1).f1)) ∧ w'.cell? ⟨go19, (((ji12)).toNat * 2), none⟩ = some (.string ((rd_T65 x7_1 (ji12)).f0)) ∧ w'.cell? ⟨go19, (((ji12)).toNat * 2) + 1, none⟩ = some (.int .i64 ((rd_T65 x7_1 (ji12)).f1))) (ds := [15, 17]) #[false, false, false, false, false, false, false, false, false, false, false, false, false, false, false, false, false, false] (by kernel_rfl) rfl rfl ⟨hx185_0, hx185_1, hx186_0, hx186_1⟩ (fun hHeld => ?_); refine with_tabW cenotaphref03_put.tab8 cenotaphref03_put.bits8 (fun HT_ HW_ => ?_)
           generalize w21.drew = w22 at HO_7 HB GG19 HQ23 HQ24 hf19_0 hf19_1 hf20_0 hf20_1 hx182_0 hx182_1 hx183_0 hx183_1 hx185_0 hx185_1 hx186_0 hx186_1 hx19_0 hx19_1 hx20_0 hx20_1 hHeld ⊢
           refine p_ 0 43 (mk_ 18 0x1) ?_
           refine p_ 1 44 (mk_ 18 0x3) ?_
           refine p_ 2 45 (mk_ 18 0x7) ?_
           refine p_ 3 46 (mk_ 18 0xf) ?_
           refine p_ 4 47 (mk_ 18 0x1f) ?_
           refine p_ 5 48 (mk_ 18 0x3f) ?_
           refine p_ 6 49 (mk_ 18 0x7f) ?_
           refine p_ 7 50 (mk_ 18 0xff) ?_
           refine p_ 9 52 (mk_ 18 0x2ff) ?_
           refine p_ 10 53 (mk_ 18 0x6ff) ?_
           refine p_ 11 54 (mk_ 18 0xeff) ?_
           refine p_ 12 55 (mk_ 18 0x1eff) ?_
           refine t_ 8 51 (mk_ 18 0x1fff) hHeld ?_
           refine t_ 13 56 (mk_ 18 0x3fff) hHeld ?_
           refine p_ 14 57 (mk_ 18 0x7fff) ?_
           refine last_ (i := 15) (N := none) #[true, true, true, true, true, true, true, true, true, true, true, true, true, true, true, true, false, false] rfl rfl (one_of HT_.out (by kernel_rfl)) (by decide) (fun K hK => ?_)
           refine skip_ (w1 := ?_) (by rfl) rfl ?_ ?_
           rotate_left
           ·go_simp
            rfl
           refine hK.out _ _ ?_
           clear hK K
           refine p_ 16 58 (mk_ 18 0x1ffff) ?_
           refine last_ (i := 17) (N := none) #[true, true, true, true, true, true, true, true, true, true, true, true, true, true, true, true, true, true] rfl rfl (one_of HT_.out (by kernel_rfl)) (by decide) (fun K hK => ?_)
           refine skip_ (w1 := ?_) (by rfl) rfl ?_ ?_
           rotate_left
           ·go_simp
            rfl
           refine hK.out _ _ ?_
           clear hK K
           refine done_ (done_of HT_.out (by kernel_rfl)) ?_
           try go_wp2
           (try simp only [← hl7_1])
           go_roundg k1
           case measure => have := HK1.out; omega
           case rel => exact ⟨(y188), (ji12), (by first | rfl | (simp; done) | (simp only [← hji12] <;> (first | rfl | simp)) | (simp [*]; done)), H', ⟨by have := HK1.out; omega⟩, ⟨by (try simp only [hl7_1]); (with_reducible repeat (first | apply Kd.R_alloc | apply Kd.R_drewN | apply Kd.R_drew)); exact HQ24.out⟩, ⟨by repeat (first | (with_reducible first | exact HB.out | apply bA | apply pB | apply bW | refine below_set ?_ GB19.out | refine below_set ?_ GB19.out | refine below_set ?_ GB19.out | refine below_set ?_ GB19.out) | exact HB.out)⟩⟩
          ·rw [if_neg c18] at H
           have c18b0 : decide (0 < t184) = false := decide_eq_false c18
           clear c18
           obtain rfl := sI H
           try go_wp2
           replace HO_7 := aK (Kd.R_drew HO_7.out)
           replace HB := aK (bW HB.out)
           have p182 : 0 ≤ ((ji12) : Int) := oD zq32_1
           have q182 : (ji12) < (x7_1.length : Int) := oD zq32_1
           obtain ⟨ad182, e182, hx182_0, hx182_1⟩ := at_T65 (Kd.R_reads' HO_7.out).2.2 (ji12) p182 q182
           cases e182
           replace p182 := eT p182
           replace q182 := eT q182
           have p183 : 0 ≤ (x8_1 : Int) := oD zq32_1
           have q183 : x8_1 < (x7_1.length : Int) := oD zq32_1
           obtain ⟨ad183, e183, hx183_0, hx183_1⟩ := at_T65 (Kd.R_reads' HO_7.out).2.2 x8_1 p183 q183
           obtain rfl : ad182 = ad183 := (by injection e183)
           replace p183 := eT p183
           replace q183 := eT q183
           refine start_ (n := 17) (S := fun w' => w'.cell? (ad182.add (((ji12)).toNat * 2)) = some (.string ((rd_T65 x7_1 (ji12)).f0)) ∧ w'.cell? ⟨(ad182.add (((ji12)).toNat * 2)).block, (ad182.add (((ji12)).toNat * 2)).off + 1, none⟩ = some (.int .i64 ((rd_T65 x7_1 (ji12)).f1)) ∧ w'.cell? (ad182.add ((x8_1).toNat * 2)) = some (.string ((rd_T65 x7_1 x8_1).f0)) ∧ w'.cell? ⟨(ad182.add ((x8_1).toNat * 2)).block, (ad182.add ((x8_1).toNat * 2)).off + 1, none⟩ = some (.int .i64 ((rd_T65 x7_1 x8_1).f1))) (ds := []) #[false, false, false, false, false, false, false, false, false, false, false, false, false, false, false, false, false] (by kernel_rfl) rfl rfl ⟨hx182_0, hx182_1, hx183_0, hx183_1⟩ (fun hHeld => ?_); refine with_tabW cenotaphref03_put.tab6 cenotaphref03_put.bits6 (fun HT_ HW_ => ?_)
           generalize wr.drew = w25 at HO_7 HB hx182_0 hx182_1 hx183_0 hx183_1 hHeld ⊢
           refine p_ 0 24 (mk_ 17 0x1) ?_
           refine p_ 1 25 (mk_ 17 0x3) ?_
           refine p_ 2 26 (mk_ 17 0x7) ?_
           refine p_ 3 27 (mk_ 17 0xf) ?_
           refine p_ 4 28 (mk_ 17 0x1f) ?_
           refine p_ 5 29 (mk_ 17 0x3f) ?_
           refine p_ 6 30 (mk_ 17 0x7f) ?_
           refine p_ 7 31 (mk_ 17 0xff) ?_
           refine p_ 9 33 (mk_ 17 0x2ff) ?_
           refine p_ 10 34 (mk_ 17 0x6ff) ?_
           refine p_ 11 35 (mk_ 17 0xeff) ?_
           refine p_ 12 36 (mk_ 17 0x1eff) ?_
           refine t_ 8 32 (mk_ 17 0x1fff) hHeld ?_
           refine t_ 13 37 (mk_ 17 0x3fff) hHeld ?_
           refine one_ (i := 14) (N := some 38) #[true, true, true, true, true, true, true, true, true, true, true, true, true, true, true, false, false] rfl rfl (one_of HT_.out (by kernel_rfl)) (by decide) (fun K hK => ?_)
           refine goes_ Tryz.func34 (by kernel_rfl) rfl #[.string ((rd_T65 x7_1 (ji12)).f0), .string ((rd_T65 x7_1 x8_1).f0)] (by rfl) rfl rfl (by (try simp only [List.map_toArray, List.map_cons, List.map_nil]); first | done | (simp only [hji12]; rfl) | rfl | (simp only [List.length_drop, List.length_take]; rfl)) ?_
           with_reducible refine (cenotaphref01_Compare.calls k1 ((rd_T65 x7_1 (ji12)).f0) ((rd_T65 x7_1 x8_1).f0) t184 _ A17.out).mono ?_
           rintro e w' ⟨rfl, ⟨nd, rfl⟩⟩
           refine ⟨_, rfl, ?_⟩
           refine hK.out _ _ ⟨hHeld.1, hHeld.2.1, hHeld.2.2.1, hHeld.2.2.2⟩ (fun hHeld => ?_)
           clear hK K
           refine norm_ (a' := ?_) ?_ ?_
           rotate_left
           ·show Act.put _ (some 38) _ = _
            simp only [Act.put, lA, lB, lC, i64_w, i32_w]
            rfl
           refine p_ 15 39 (mk_ 17 0xffff) ?_
           refine p_ 16 40 (mk_ 17 0x1ffff) ?_
           refine done_ (done_of HT_.out (by kernel_rfl)) ?_
           try go_wp2
           go_ret
           exact ⟨_, by first | rfl | (simp [errW_none, errW_some] <;> rfl) | (simp only [← hji12]; first | rfl | (simp [errW_none, errW_some] <;> rfl)) | (simp [*, errW_none, errW_some] <;> rfl), by (with_reducible repeat (first | apply Kd.R_alloc | apply Kd.R_drewN | apply Kd.R_drew)); exact HO_7.out, by repeat (first | (with_reducible first | exact HB.out | apply bA | apply pB | apply bW) | exact HB.out)⟩
         ·rw [if_neg c16] at H
          exact absurd H (by simp)
        ·rw [if_neg c15] at H
         exact absurd H (by simp)
       ·rw [if_neg c14] at H
        exact absurd H (by simp)
      ·rw [if_neg c13] at H
       exact absurd H (by simp)
     ·rw [if_neg c11] at H
      have c11b0 : decide (0 < x8_1) = false := decide_eq_false c11
      clear c11
      obtain rfl := sI H
      try go_wp2
      replace HO_7 := aK (Kd.R_drew HO_7.out)
      replace HB := aK (bW HB.out)
      refine start_ (n := 17) (S := fun w' => True) (ds := []) #[false, false, false, false, false, false, false, false, false, false, false, false, false, false, false, false, false] (by kernel_rfl) rfl rfl trivial (fun hHeld => ?_); refine with_tabW cenotaphref03_put.tab6 cenotaphref03_put.bits6 (fun HT_ HW_ => ?_)
      generalize wr.drew = w26 at HO_7 HB hHeld ⊢
      refine p_ 0 24 (mk_ 17 0x1) ?_
      refine p_ 1 25 (mk_ 17 0x3) ?_
      refine p_ 2 26 (mk_ 17 0x7) ?_
      refine u_ 3 27 (mk_ 17 0xf) ?_
      refine u_ 4 28 (mk_ 17 0x1f) ?_
      refine u_ 5 29 (mk_ 17 0x3f) ?_
      refine u_ 6 30 (mk_ 17 0x7f) ?_
      refine u_ 7 31 (mk_ 17 0xff) ?_
      refine u_ 8 32 (mk_ 17 0x1ff) ?_
      refine u_ 9 33 (mk_ 17 0x3ff) ?_
      refine u_ 10 34 (mk_ 17 0x7ff) ?_
      refine u_ 11 35 (mk_ 17 0xfff) ?_
      refine u_ 12 36 (mk_ 17 0x1fff) ?_
      refine u_ 13 37 (mk_ 17 0x3fff) ?_
      refine u_ 14 38 (mk_ 17 0x7fff) ?_
      refine u_ 15 39 (mk_ 17 0xffff) ?_
      refine p_ 16 40 (mk_ 17 0x1ffff) ?_
      refine done_ (done_of HT_.out (by kernel_rfl)) ?_
      try go_wp2
      go_ret
      exact ⟨_, by first | rfl | (simp [errW_none, errW_some] <;> rfl) | (simp [*, errW_none, errW_some] <;> rfl), by (with_reducible repeat (first | apply Kd.R_alloc | apply Kd.R_drewN | apply Kd.R_drew)); exact HO_7.out, by repeat (first | (with_reducible first | exact HB.out | apply bA | apply pB | apply bW) | exact HB.out)⟩
  ·rw [if_neg c7] at H
   exact absurd H (by simp)
theorem zq6_0 {p_ : Prop} (h_ : p_ := by first | (with_reducible assumption) | assumption) : p_ := h_
theorem zq6_1 {p_ : Prop} (h_ : p_ := by first | rfl | (simp; done) | (simp [*]; done)) : p_ := h_
mutual
def cenotaphref03_Fix.l0 : Nat → List (S65) → List (S65) → Int → Option ((List (S65)))
 | 0, _, _, _ => none
 | k + 1, x0, x3, x4 => if x4 < (x0.length : Int) then (cenotaphref03_Fix.j1 k x0 x3 x4 (decide (x4 < 12))) else (cenotaphref03_Fix.j1 k x0 x3 x4 false)
def cenotaphref03_Fix.j1 : Nat → List (S65) → List (S65) → Int → Bool → Option ((List (S65)))
 | 0, _, _, _, _ => none
 | k + 1, x0, x3, x4, x12 => if x12 = true then (if 0 ≤ x4 then (if x4 < (x0.length : Int) then ((cenotaphref01_Fix.f k ((rd_T65 x0 x4).f0)).bind fun t190 => ((cenotaphref03_put.f k x3 t190 (wrap64 (1 + (wrap64 (Int.tmod (IntKind.u64.wrap ((rd_T65 x0 x4).f1)) 1000))))).bind fun t192 => (cenotaphref03_Fix.l0 k x0 t192 (wrap64 (x4 + 1))))) else (none)) else (none)) else (some x3)
end
def cenotaphref03_Fix.f (k : Nat) (l0 : List (S65)) : Option ((List (S65))) := cenotaphref03_Fix.l0 k l0 ([] : List (S65)) 0
theorem cenotaphref03_Fix.mono_l : ∀ k, (∀ y0 y1 y2, LeO (cenotaphref03_Fix.l0 k y0 y1 y2) (cenotaphref03_Fix.l0 (k + 1) y0 y1 y2)) ∧ (∀ y0 y1 y2 y3, LeO (cenotaphref03_Fix.j1 k y0 y1 y2 y3) (cenotaphref03_Fix.j1 (k + 1) y0 y1 y2 y3))
 | 0 => ⟨fun _ _ _ r h => by simp [cenotaphref03_Fix.l0] at h, fun _ _ _ _ r h => by simp [cenotaphref03_Fix.j1] at h⟩
 | k + 1 => by
  obtain ⟨ih0, ih1⟩ := cenotaphref03_Fix.mono_l k
  refine ⟨?_, ?_⟩
  ·intro y0 y1 y2
   unfold cenotaphref03_Fix.l0
   repeat' first
   | (with_reducible exact ih0 _ _ _)
   | (with_reducible exact ih1 _ _ _ _)
   | (with_reducible exact cenotaphref01_Fix.mono _ _)
   | (with_reducible exact cenotaphref03_put.mono _ _ _ _)
   | (with_reducible exact LeO.refl _)
   | (with_reducible exact LeO.none _)
   | (with_reducible refine LeO.ite ?_ ?_)
   | (with_reducible refine LeO.bind ?_ (fun _ => ?_))
   | exact ih0 _ _ _
   | exact ih1 _ _ _ _
   | exact cenotaphref01_Fix.mono _ _
   | exact cenotaphref03_put.mono _ _ _ _
   | exact LeO.none _
   | refine LeO.ite ?_ ?_
   | refine LeO.bind ?_ (fun _ => ?_)
  ·intro y0 y1 y2 y3
   unfold cenotaphref03_Fix.j1
   repeat' first
   | (with_reducible exact ih0 _ _ _)
   | (with_reducible exact ih1 _ _ _ _)
   | (with_reducible exact cenotaphref01_Fix.mono _ _)
   | (with_reducible exact cenotaphref03_put.mono _ _ _ _)
   | (with_reducible exact LeO.refl _)
   | (with_reducible exact LeO.none _)
   | (with_reducible refine LeO.ite ?_ ?_)
   | (with_reducible refine LeO.bind ?_ (fun _ => ?_))
   | exact ih0 _ _ _
   | exact ih1 _ _ _ _
   | exact cenotaphref01_Fix.mono _ _
   | exact cenotaphref03_put.mono _ _ _ _
   | exact LeO.none _
   | refine LeO.ite ?_ ?_
   | refine LeO.bind ?_ (fun _ => ?_)
theorem cenotaphref03_Fix.mono : ∀ a0 k, LeO (cenotaphref03_Fix.f k a0) (cenotaphref03_Fix.f (k + 1) a0) := by
 intro a0 k
 obtain ⟨ih0, ih1⟩ := cenotaphref03_Fix.mono_l k
 unfold cenotaphref03_Fix.f
 repeat' first
   | (with_reducible exact ih0 _ _ _)
   | (with_reducible exact ih1 _ _ _ _)
   | (with_reducible exact cenotaphref01_Fix.mono _ _)
   | (with_reducible exact cenotaphref03_put.mono _ _ _ _)
   | (with_reducible exact LeO.refl _)
   | (with_reducible exact LeO.none _)
   | (with_reducible refine LeO.ite ?_ ?_)
   | (with_reducible refine LeO.bind ?_ (fun _ => ?_))
   | exact ih0 _ _ _
   | exact ih1 _ _ _ _
   | exact cenotaphref01_Fix.mono _ _
   | exact cenotaphref03_put.mono _ _ _ _
   | exact LeO.none _
   | refine LeO.ite ?_ ?_
   | refine LeO.bind ?_ (fun _ => ?_)
def cenotaphref03_Fix.T5 : Bool × List (List Nat × List Nat) := (true, [([], []), ([], []), ([], []), ([1, 2], [1, 2]), ([3], [3]), ([4], [4]), ([5], [5]), ([], []), ([], []), ([7, 8], [7, 8]), ([9], [9]), ([10], [10]), ([11], [11]), ([12], [12]), ([13], [13]), ([14], [14]), ([0, 6, 15, 6], [0, 6, 15]), ([16, 16, 0, 1, 2, 3, 4, 5, 6, 7, 8, 9, 10, 11, 12, 13, 14, 15, 16], [0, 16])])
def cenotaphref03_Fix.B5 : List Nat := [0, 0, 0, 6, 14, 30, 62, 0, 0, 384, 896, 1920, 3968, 8064, 16256, 32640, 65535, 131071]
theorem cenotaphref03_Fix.tab5 : rtab .any (opsOf Tryz.f6 5) = cenotaphref03_Fix.T5 := by kernel_rfl
theorem cenotaphref03_Fix.bits5 : waitsOk cenotaphref03_Fix.T5.2 cenotaphref03_Fix.B5 = true := by kernel_rfl
theorem cenotaphref03_Fix.calls (k : Nat) (A0 : Option Addr) (c0 : Nat) (l0 : List (S65)) (r : List (S65)) (w : World) (hr0 : Kd.C k65 w A0 l0.length l0) (hc0 : l0.length ≤ c0) (h : cenotaphref03_Fix.f k l0 = some r) :
  Calls Tryz.prog 6 #[.slice A0 l0.length c0] w fun e w' => ∃ v0_ : Value, e = .returned (v0_) ∧ Kd.R k65 65 w' w.heap.size (fun _ => True) v0_ r ∧ Below w.heap.size w w' := by
 have HR0 := aK hr0
 have HC0 := aK hc0
 clear hr0 hc0
 have HB := aK (Below.refl w.heap.size w)
 have H : (cenotaphref03_Fix.l0 k l0 ([] : List (S65)) 0) = some r := h
 clear h
 have H' := aK H
 clear H
 go_enter Tryz.func6, Tryz.ntmps6
 go_wp2
 go_loopg [3, 4] k (fun kq v3 v4 w' => ∃ (x3_1 : List (S65)) (x4_1 : Int), v4 = .int .i64 x4_1 ∧ Aside0 (cenotaphref03_Fix.l0 kq l0 x3_1 x4_1 = some r) ∧ Aside0 (kq ≤ k) ∧ Aside0 (Kd.R k65 65 w' w.heap.size (fun _ => True) v3 x3_1) ∧ Aside0 (Below w.heap.size w w'))
 case atStart => exact ⟨(([] : List (S65))), (0), zq6_1, H', ⟨Nat.le_refl _⟩, ⟨by first | exact Kd.R_nil _ _ _ _ _ | exact Kd.N_nil _ _ _ _ _ | exact Kd.V_nil _ _ _ _ _ | exact Kd.Q_nil _ _ _ _ _ | exact Kd.S_nil _ _ _ _ _⟩, ⟨by repeat (first | (with_reducible first | exact HB.out | apply bA | apply pB | apply bW) | exact HB.out)⟩⟩
 case round =>
  clear H'
  obtain ⟨x3_1, x4_1, rfl, HA, HK1, HO_3, HB⟩ := hrel
  cases gk with
  | zero => exact absurd HA.out (by simp [cenotaphref03_Fix.l0])
  | succ k1 =>
   have H := HA.out
   clear HA
   simp only [cenotaphref03_Fix.l0] at H
   have HC2 := aK H
   clear H
   go_upto_region 3 with (fail)
   go_cut [12] (fun v12 wc => ∃ (kq : Nat) (x12_1 : Bool), v12 = .bool x12_1 ∧ Aside0 (cenotaphref03_Fix.j1 kq l0 x3_1 x4_1 x12_1 = some r) ∧ Aside0 (kq ≤ k1) ∧ Aside0 (Kd.R k65 65 wc w.heap.size (fun _ => True) u3 x3_1) ∧ Aside0 (Below w.heap.size w wc))
   case first =>
    have H := HC2.out
    clear HC2
    by_cases c3 : x4_1 < (l0.length : Int)
    ·rw [if_pos c3] at H
     have c3b0 : decide (x4_1 < (l0.length : Int)) = true := dT c3
     clear c3
     (first | rw [c3b0] | (simp only [i64_w, i32_w]; rw [c3b0]) | skip)
     have H' := aK H
     clear H
     go_wp2
     go_meet
     case rel => exact ⟨_, (decide (x4_1 < 12)), zq6_1, H', ⟨by have := HK1.out; first | omega | exact Nat.le_refl _⟩, ⟨by (with_reducible repeat (first | apply Kd.R_alloc | apply Kd.R_drewN | apply Kd.R_drew)); exact HO_3.out⟩, ⟨by repeat (first | (with_reducible first | exact HB.out | apply bA | apply pB | apply bW) | exact HB.out)⟩⟩
    ·rw [if_neg c3] at H
     have c3b0 : decide (x4_1 < (l0.length : Int)) = false := decide_eq_false c3
     clear c3
     (first | rw [c3b0] | (simp only [i64_w, i32_w]; rw [c3b0]) | skip)
     have H' := aK H
     clear H
     go_wp2
     go_meet
     case rel => exact ⟨_, (false), zq6_1, H', ⟨by have := HK1.out; first | omega | exact Nat.le_refl _⟩, ⟨by (with_reducible repeat (first | apply Kd.R_alloc | apply Kd.R_drewN | apply Kd.R_drew)); exact HO_3.out⟩, ⟨by repeat (first | (with_reducible first | exact HB.out | apply bA | apply pB | apply bW) | exact HB.out)⟩⟩
   case rest =>
    clear HC2
    try clear p2
    try clear c3
    try clear c3b0
    obtain ⟨kq, x12_1, rfl, HA, HJ1, HO_3, HB⟩ := hcut
    cases kq with
    | zero => exact absurd HA.out (by simp [cenotaphref03_Fix.j1])
    | succ kj1 =>
     have H := HA.out
     clear HA
     simp only [cenotaphref03_Fix.j1] at H
     by_cases c4 : x12_1 = true
     ·subst c4
      have H1 : (if 0 ≤ x4_1 then (if x4_1 < (l0.length : Int) then ((cenotaphref01_Fix.f kj1 ((rd_T65 l0 x4_1).f0)).bind fun t190 => ((cenotaphref03_put.f kj1 x3_1 t190 (wrap64 (1 + (wrap64 (Int.tmod (IntKind.u64.wrap ((rd_T65 l0 x4_1).f1)) 1000))))).bind fun t192 => (cenotaphref03_Fix.l0 kj1 l0 t192 (wrap64 (x4_1 + 1))))) else (none)) else (none)) = some r := by rw [if_pos rfl] at H; exact H
      clear H
      have H := H1
      clear H1
      by_cases c5 : 0 ≤ x4_1
      ·rw [if_pos c5] at H
       have c5b0 : decide (0 ≤ x4_1) = true := dT c5
       clear c5
       by_cases c6 : x4_1 < (l0.length : Int)
       ·rw [if_pos c6] at H
        have c6b0 : decide (x4_1 < (l0.length : Int)) = true := dT c6
        clear c6
        replace H := bM H
        obtain ⟨t190, A70, H⟩ := H
        have A7 := aK A70
        clear A70
        replace H := bM H
        obtain ⟨t192, A80, H⟩ := H
        have A8 := aK A80
        clear A80
        have H' := aK H
        clear H
        try go_wp2
        replace HO_3 := aK (Kd.R_drew HO_3.out)
        replace HB := aK (bW HB.out)
        have p189 : 0 ≤ (x4_1 : Int) := oD zq6_0
        have q189 : x4_1 < (l0.length : Int) := oD zq6_0
        obtain ⟨ad189, e189, hx189_0, hx189_1⟩ := at_T65 HR0.out x4_1 p189 q189
        have hw189_1 := hx189_1
        have hw189_0 := hx189_0
        cases e189
        replace hx189_0 := pc_ HB hx189_0
        replace hx189_1 := pc_ HB hx189_1
        replace p189 := eT p189
        replace q189 := eT q189
        have p191 : 0 ≤ (x4_1 : Int) := oD zq6_0
        have q191 : x4_1 < (l0.length : Int) := oD zq6_0
        obtain ⟨ad191, e191, hx191_0, hx191_1⟩ := at_T65 HR0.out x4_1 p191 q191
        have hw191_1 := hx191_1
        have hw191_0 := hx191_0
        obtain rfl : ad189 = ad191 := (by injection e191)
        replace hx191_0 := pc_ HB hx191_0
        replace hx191_1 := pc_ HB hx191_1
        replace p191 := eT p191
        replace q191 := eT q191
        refine start_ (n := 18) (S := fun w' => w'.cell? (ad189.add ((x4_1).toNat * 2)) = some (.string ((rd_T65 l0 x4_1).f0)) ∧ w'.cell? ⟨(ad189.add ((x4_1).toNat * 2)).block, (ad189.add ((x4_1).toNat * 2)).off + 1, none⟩ = some (.int .i64 ((rd_T65 l0 x4_1).f1)) ∧ w'.cell? (ad189.add ((x4_1).toNat * 2)) = some (.string ((rd_T65 l0 x4_1).f0)) ∧ w'.cell? ⟨(ad189.add ((x4_1).toNat * 2)).block, (ad189.add ((x4_1).toNat * 2)).off + 1, none⟩ = some (.int .i64 ((rd_T65 l0 x4_1).f1))) (ds := []) #[false, false, false, false, false, false, false, false, false, false, false, false, false, false, false, false, false, false] (by kernel_rfl) rfl rfl ⟨(pc_ HB hw189_0), (pc_ HB hw189_1), (pc_ HB hw191_0), (pc_ HB hw191_1)⟩ (fun hHeld => ?_); refine with_tabW cenotaphref03_Fix.tab5 cenotaphref03_Fix.bits5 (fun HT_ HW_ => ?_)
        generalize wc.drew = w9 at HO_3 HB hx189_0 hx189_1 hx191_0 hx191_1 hHeld ⊢
        refine p_ 0 15 (mk_ 18 0x1) ?_
        refine p_ 1 16 (mk_ 18 0x3) ?_
        refine p_ 2 17 (mk_ 18 0x7) ?_
        refine p_ 3 18 (mk_ 18 0xf) ?_
        refine p_ 4 19 (mk_ 18 0x1f) ?_
        refine p_ 7 22 (mk_ 18 0x9f) ?_
        refine p_ 8 23 (mk_ 18 0x19f) ?_
        refine p_ 9 24 (mk_ 18 0x39f) ?_
        refine p_ 10 25 (mk_ 18 0x79f) ?_
        refine t_ 5 20 (mk_ 18 0x7bf) hHeld ?_
        refine t_ 11 26 (mk_ 18 0xfbf) hHeld ?_
        refine p_ 12 27 (mk_ 18 0x1fbf) ?_
        refine p_ 13 28 (mk_ 18 0x3fbf) ?_
        refine p_ 14 29 (mk_ 18 0x7fbf) ?_
        refine p_ 15 30 (mk_ 18 0xffbf) ?_
        refine one_ (i := 6) (N := some 21) #[true, true, true, true, true, true, true, true, true, true, true, true, true, true, true, true, false, false] rfl rfl (one_of HT_.out (by kernel_rfl)) (by decide) (fun K hK => ?_)
        refine goes_ Tryz.func30 (by kernel_rfl) rfl #[.string ((rd_T65 l0 x4_1).f0)] (by rfl) rfl rfl (by (try simp only [List.map_toArray, List.map_cons, List.map_nil]); first | done | rfl | (simp only [List.length_drop, List.length_take]; rfl)) ?_
        with_reducible refine (cenotaphref01_Fix.calls kj1 ((rd_T65 l0 x4_1).f0) t190 _ A7.out).mono ?_
        rintro e w' ⟨rfl, ⟨nd, rfl⟩⟩
        refine ⟨_, rfl, ?_⟩
        obtain ⟨Ao10, co10, eo10⟩ := Kd.R_slice HO_3.out
        (first | subst eo10 | (injection eo10 with f1_ f2_ f3_; have f4_ := f1_.symm; have f5_ := f3_.symm; clear f1_ f2_ f3_; subst f4_; subst f5_))
        refine hK.out _ _ ⟨(pc_ HB hw189_0), (pc_ HB hw189_1), (pc_ HB hw191_0), (pc_ HB hw191_1)⟩ (fun hHeld => ?_)
        clear hK K
        refine norm_ (a' := ?_) ?_ ?_
        rotate_left
        ·show Act.put _ (some 21) _ = _
         simp only [Act.put, lA, lB, lC, i64_w, i32_w]
         rfl
        refine one_ (i := 16) (N := some 31) #[true, true, true, true, true, true, true, true, true, true, true, true, true, true, true, true, true, false] rfl rfl (one_of HT_.out (by kernel_rfl)) (by decide) (fun K hK => ?_)
        refine goes_ Tryz.func32 (by kernel_rfl) rfl #[.slice Ao10 x3_1.length co10, .string t190, .int .i64 (wrap64 (1 + (wrap64 (Int.tmod (IntKind.u64.wrap ((rd_T65 l0 x4_1).f1)) 1000))))] (by rfl) rfl rfl (by (try simp only [List.map_toArray, List.map_cons, List.map_nil]); first | done | rfl | (simp only [List.length_drop, List.length_take]; rfl)) ?_
        with_reducible refine (cenotaphref03_put.calls kj1 _ _ x3_1 t190 (wrap64 (1 + (wrap64 (Int.tmod (IntKind.u64.wrap ((rd_T65 l0 x4_1).f1)) 1000)))) t192 _ ?side1 ?side2 A8.out).mono ?_
        (case side1 => repeat (first | exact (Kd.R_reads' HO_3.out).2.2 | (with_reducible refine Kd.C_alloc ?_ _) | (with_reducible refine Kd.C_drewN ?_ _) | (with_reducible refine Kd.C_drew ?_)))
        (case side2 => exact (Kd.R_reads' HO_3.out).2.1)
        rintro e w11 ⟨v193, rfl, ho0, hb⟩
        refine ⟨_, rfl, ?_⟩
        have HO194 := aK (Kd.R_lower (Kd.R_new' ho0 (Kd.R_lt (by (with_reducible repeat (first | apply Kd.R_alloc | apply Kd.R_drewN | apply Kd.R_drew)); exact HO_3.out))) (below_size (by repeat (first | (with_reducible first | exact HB.out | apply bA | apply pB | apply bW) | exact HB.out))))
        replace HO_3 := aK (Kd.R_elder' (by (with_reducible repeat (first | apply Kd.R_alloc | apply Kd.R_drewN | apply Kd.R_drew)); exact HO_3.out) (Kd.R_base ho0) hb)
        replace HB := aK (bS (by repeat (first | (with_reducible first | exact HB.out | apply bA | apply pB | apply bW) | exact HB.out)) hb)
        (try clear hb)
        (try clear hb2)
        (try clear hk)
        (try clear hi)
        (try clear ho0)
        refine hK.out _ _ ⟨(pc_ HB hw189_0), (pc_ HB hw189_1), (pc_ HB hw191_0), (pc_ HB hw191_1)⟩ (fun hHeld => ?_)
        clear hK K
        refine norm_ (a' := ?_) ?_ ?_
        rotate_left
        ·show Act.put _ (some 31) _ = _
         simp only [Act.put, lA, lB, lC, i64_w, i32_w]
         rfl
        refine p_ 17 3 (mk_ 18 0x3ffff) ?_
        refine done_ (done_of HT_.out (by kernel_rfl)) ?_
        try go_wp2
        go_roundg kj1
        case measure => have := HK1.out; have := HJ1.out; omega
        case rel => exact ⟨(t192), (wrap64 (x4_1 + 1)), zq6_1, H', ⟨by have := HK1.out; have := HJ1.out; omega⟩, ⟨by (with_reducible repeat (first | apply Kd.R_alloc | apply Kd.R_drewN | apply Kd.R_drew)); exact Kd.R_mono HO194.out (fun _ hk => trivial)⟩, ⟨by repeat (first | (with_reducible first | exact HB.out | apply bA | apply pB | apply bW) | exact HB.out)⟩⟩
       ·rw [if_neg c6] at H
        exact absurd H (by simp)
      ·rw [if_neg c5] at H
       exact absurd H (by simp)
     ·replace c4 := Bool.eq_false_iff.mpr c4
      subst c4
      have H1 : (some x3_1) = some r := by rw [if_neg (show ¬ (false = true) by decide)] at H; exact H
      clear H
      have H := H1
      clear H1
      obtain rfl := sI H
      go_wp2
      go_ret
      exact ⟨_, by first | rfl | (simp [errW_none, errW_some] <;> rfl) | (simp [*, errW_none, errW_some] <;> rfl), by (with_reducible repeat (first | apply Kd.R_alloc | apply Kd.R_drewN | apply Kd.R_drew)); exact HO_3.out, by repeat (first | (with_reducible first | exact HB.out | apply bA | apply pB | apply bW) | exact HB.out)⟩
def span_First.f (a0 : Int) : Option (Int × List Int) := some (mx 0 (mn a0 1048576), ([] : List Int))
theorem span_First.calls (a0 : Int) (r1 : Int) (r2 : List Int) (w : World) (h : span_First.f a0 = some (r1, r2)) :
  Calls Tryz.prog 37 #[.int .i64 a0] w fun e w' => ∃ v1_ : Value, e = .returned (.agg #[.int .i64 r1, v1_]) ∧ Kd.R (Kd.int .i64) 3 w' w.heap.size (fun _ => True) v1_ r2 ∧ Below w.heap.size w w' := by
 have hu69 := Tryz.underlying69
 have HB := aK (Below.refl w.heap.size w)
 have H : (some (mx 0 (mn a0 1048576), ([] : List Int))) = some (r1, r2) := h
 clear h
 obtain ⟨ji2, hji2⟩ : ∃ j_ : Int, (mn a0 1048576) = j_ := ⟨_, rfl⟩
 replace H : (some (mx 0 (ji2), ([] : List Int))) = some (r1, r2) := by first | (rw [hji2] at H; exact H) | (simp only [hji2] at H ⊢; exact H)
 (try (have hji2h : ji2 ≤ 1048576 := by (rw [← hji2]; unfold mn; (repeat' split) <;> omega)))
 (try (have hji2g : ji2 ≤ 64 := by omega))
 have hji2_ : (if 1048576 < a0 then 1048576 else a0) = ji2 := hji2
 obtain ⟨ji3, hji3⟩ : ∃ j_ : Int, (mx 0 (ji2)) = j_ := ⟨_, rfl⟩
 replace H : (some (ji3, ([] : List Int))) = some (r1, r2) := by first | (rw [hji3] at H; exact H) | (simp only [hji3] at H ⊢; exact H)
 have hji3_ : (if 0 < (ji2) then (ji2) else 0) = ji3 := hji3
 simp only [Option.some.injEq, Prod.mk.injEq] at H
 obtain ⟨rfl, rfl⟩ := H
 go_enter Tryz.func37, Tryz.ntmps37
 go_wp2_with (first | ((with_reducible refine gate_dst (N := 2) rfl ?_); refine box_event ?hg (N := 2) ?hd (cs := #[.int .i64 0, .slice none 0 0]) (t := 69) ?hr ?_; (case hd => rfl); (case hg => rfl); (case hr => first | (go_simp; done) | (go_simp; rfl)); intro gb251 hg w4 hbox hb; have BK251 := aK (hbox); have GW251 := aK ((by rw [hg]; exact (below_size (by repeat (first | (with_reducible first | exact HB.out | apply bA | apply pB | apply bW) | exact HB.out))) : w.heap.size ≤ gb251)); have GE251 := aK ((by rw [hg]; exact (below_size (by repeat (first | (with_reducible first | exact HB.out | apply bA | apply pB | apply bW) | exact HB.out))) : w.heap.size ≤ gb251)); replace HB := aK (bS (by repeat (first | (with_reducible first | exact HB.out | apply bA | apply pB | apply bW) | exact HB.out)) hb); clear hb hbox hg; have hcz5_0 : w4.cell? ⟨gb251, 0, none⟩ = some (.int .i64 0) := (bC BK251.out 0).trans rfl; have hcz5_1 : w4.cell? ⟨gb251, 1, none⟩ = some (.slice none 0 0) := (bC BK251.out 1).trans rfl; have hfz5_0 := bF_ BK251.out 0; have hfz5_1 := bF_ BK251.out 1))
 refine bodyPost_ret (results_cell_row rfl _ _ gb251 69 #[.int .i64 ji3, .slice none 0 0] (0, 0) _ rfl (by (with_reducible repeat (first | refine blk_drewN ?_ _ | refine blk_drew ?_ | refine blk_alloc ?_ _)); refine blk_put (cs := #[.int .i64 ji3, .slice none 0 0]) ?_ 1 _ rfl; (with_reducible repeat (first | refine blk_drewN ?_ _ | refine blk_drew ?_ | refine blk_alloc ?_ _)); refine blk_put (cs := #[.int .i64 0, .slice none 0 0]) ?_ 0 _ rfl; (with_reducible repeat (first | refine blk_drewN ?_ _ | refine blk_drew ?_ | refine blk_alloc ?_ _)); exact BK251.out) Tryz.underlying69 rfl (by kernel_rfl)) rfl ?_
 exact ⟨_, by first | rfl | (simp [errW_none, errW_some] <;> rfl) | (simp only [← hji2, ← hji3]; first | rfl | (simp [errW_none, errW_some] <;> rfl)) | (simp [*, errW_none, errW_some] <;> rfl), by first | exact Kd.R_nil _ _ _ _ _ | exact Kd.N_nil _ _ _ _ _ | exact Kd.V_nil _ _ _ _ _ | exact Kd.Q_nil _ _ _ _ _ | exact Kd.S_nil _ _ _ _ _, by repeat (first | (with_reducible first | exact HB.out | apply bA | apply pB | apply bW | refine below_set ?_ GE251.out) | exact HB.out)⟩
theorem zq10_0 {p_ : Prop} (h_ : p_ := by repeat (first | (with_reducible first | exact HB.out | apply bA | apply pB | apply bW | refine below_set ?_ GE253.out) | exact HB.out)) : p_ := h_
theorem zq10_1 {p_ : Prop} (h_ : p_ := by repeat (first | (with_reducible first | exact HB.out | apply bA | apply pB | apply bW) | exact HB.out)) : p_ := h_
def know_From.l0 : Nat → List (S72) → List (S75) → Int → Int → Option ((List (S72)))
 | 0, _, _, _, _ => none
 | k + 1, x3, x6, x7, x8 => if x8 < x7 then (if 0 ≤ x8 then (if x8 < (x6.length : Int) then ((span_First.f ((rd_T75 x6 x8).f1)).bind fun bt254 => (if x3.length < 2932031007402 then (know_From.l0 k (x3 ++ [(⟨(rd_T75 x6 x8).f0, (⟨bt254.1, bt254.2⟩ : S69)⟩ : S72)]) x6 x7 (wrap64 (x8 + 1))) else (none))) else (none)) else (none)) else (some x3)
def know_From.f (k : Nat) (l0 : List (S75)) : Option ((List (S72))) := know_From.l0 k ([] : List (S72)) l0 (l0.length : Int) 0
theorem know_From.mono_l : ∀ k, (∀ y0 y1 y2 y3, LeO (know_From.l0 k y0 y1 y2 y3) (know_From.l0 (k + 1) y0 y1 y2 y3))
 | 0 => fun _ _ _ _ r h => by simp [know_From.l0] at h
 | k + 1 => by
  have ih0 := know_From.mono_l k
  ·intro y0 y1 y2 y3
   unfold know_From.l0
   repeat' first
   | (with_reducible exact ih0 _ _ _ _)
   | (with_reducible exact LeO.refl _)
   | (with_reducible exact LeO.none _)
   | (with_reducible refine LeO.ite ?_ ?_)
   | (with_reducible refine LeO.bind ?_ (fun _ => ?_))
   | exact ih0 _ _ _ _
   | exact LeO.none _
   | refine LeO.ite ?_ ?_
   | refine LeO.bind ?_ (fun _ => ?_)
theorem know_From.mono : ∀ a0 k, LeO (know_From.f k a0) (know_From.f (k + 1) a0) := by
 intro a0 k
 have ih0 := know_From.mono_l k
 unfold know_From.f
 repeat' first
   | (with_reducible exact ih0 _ _ _ _)
   | (with_reducible exact LeO.refl _)
   | (with_reducible exact LeO.none _)
   | (with_reducible refine LeO.ite ?_ ?_)
   | (with_reducible refine LeO.bind ?_ (fun _ => ?_))
   | exact ih0 _ _ _ _
   | exact LeO.none _
   | refine LeO.ite ?_ ?_
   | refine LeO.bind ?_ (fun _ => ?_)
def know_From.T5 : Bool × List (List Nat × List Nat) := (true, [([], []), ([], []), ([1], [1]), ([], []), ([3], [3]), ([4], [4]), ([2, 5], [2, 5]), ([6], [6]), ([0, 7, 5], [0, 7]), ([8, 8, 0, 1, 2, 3, 4, 5, 6, 7, 8], [0, 8])])
def know_From.B5 : List Nat := [0, 0, 2, 0, 8, 24, 62, 126, 255, 511]
theorem know_From.tab5 : rtab .any (opsOf Tryz.f10 5) = know_From.T5 := by kernel_rfl
theorem know_From.bits5 : waitsOk know_From.T5.2 know_From.B5 = true := by kernel_rfl
theorem know_From.calls (k : Nat) (A0 : Option Addr) (c0 : Nat) (l0 : List (S75)) (r : List (S72)) (w : World) (hr0 : Kd.C k75 w A0 l0.length l0) (hc0 : l0.length ≤ c0) (h : know_From.f k l0 = some r) :
  Calls Tryz.prog 10 #[.slice A0 l0.length c0] w fun e w' => ∃ v0_ : Value, e = .returned (v0_) ∧ Kd.S k72 72 w' w.heap.size (fun _ => True) v0_ r ∧ Below w.heap.size w w' := by
 have hu75 := Tryz.underlying75
 have hu72 := Tryz.underlying72
 have HR0 := aK hr0
 have HC0 := aK hc0
 clear hr0 hc0
 have HB := aK (Below.refl w.heap.size w)
 have H : (know_From.l0 k ([] : List (S72)) l0 (l0.length : Int) 0) = some r := h
 clear h
 have H' := aK H
 clear H
 go_enter Tryz.func10, Tryz.ntmps10
 go_wp2
 go_loopg [3, 8] k (fun kq v3 v8 w' => ∃ (x3_1 : List (S72)) (x8_1 : Int), v8 = .int .i64 x8_1 ∧ Aside0 (know_From.l0 kq x3_1 l0 (l0.length : Int) x8_1 = some r) ∧ Aside0 (kq ≤ k) ∧ Aside0 (Kd.S k72 72 w' w.heap.size (fun _ => True) v3 x3_1) ∧ Aside0 (Below w.heap.size w w'))
 case atStart => exact ⟨(([] : List (S72))), (0), (by first | rfl | (simp; done) | (simp [*]; done)), H', ⟨Nat.le_refl _⟩, ⟨by first | exact Kd.S_nil _ _ _ _ _ | exact Kd.N_nil _ _ _ _ _ | exact Kd.V_nil _ _ _ _ _ | exact Kd.Q_nil _ _ _ _ _ | exact Kd.R_nil _ _ _ _ _⟩, ⟨by repeat (first | (with_reducible first | exact HB.out | apply bA | apply pB | apply bW) | exact HB.out)⟩⟩
 case round =>
  clear H'
  try clear c1
  obtain ⟨x3_1, x8_1, rfl, HA, HK1, HO_3, HB⟩ := hrel
  cases gk with
  | zero => exact absurd HA.out (by simp [know_From.l0])
  | succ k1 =>
   have H := HA.out
   clear HA
   simp only [know_From.l0] at H
   by_cases c2 : x8_1 < (l0.length : Int)
   ·rw [if_pos c2] at H
    have c2b0 : decide (x8_1 < (l0.length : Int)) = true := dT c2
    clear c2
    by_cases c3 : 0 ≤ x8_1
    ·rw [if_pos c3] at H
     have c3b0 : decide (0 ≤ x8_1) = true := dT c3
     clear c3
     by_cases c4 : x8_1 < (l0.length : Int)
     ·rw [if_pos c4] at H
      have c4b0 : decide (x8_1 < (l0.length : Int)) = true := dT c4
      clear c4
      replace H := bM H
      obtain ⟨⟨t254, t255⟩, A50, H⟩ := H
      have A5 := aK A50
      clear A50
      by_cases c6 : x3_1.length < 2932031007402
      ·rw [if_pos c6] at H
       have LMc6 := aK c6
       clear c6
       obtain ⟨y258, hy258⟩ : ∃ y_ : List (S72), y_ = (x3_1 ++ [(⟨(rd_T75 l0 x8_1).f0, (⟨t254, t255⟩ : S69)⟩ : S72)]) := ⟨_, rfl⟩
       replace H : (know_From.l0 k1 y258 l0 (l0.length : Int) (wrap64 (x8_1 + 1))) = some r := by first | (rw [hy258]; with_reducible exact H) | (have H2_ := (Option.bind_some _ _).symm.trans H; rw [hy258]; with_reducible exact H2_) | (have H2_ := (Option.bind_some _ _).symm.trans H; with_reducible exact H2_) | with_reducible exact H | (rw [hy258]; exact H) | exact H
       have Ny258 := aK hy258
       clear hy258
       have H' := aK H
       clear H
       have p252 : 0 ≤ (x8_1 : Int) := oD (by first | (with_reducible assumption) | assumption)
       have q252 : x8_1 < (l0.length : Int) := oD (by first | (with_reducible assumption) | assumption)
       obtain ⟨ad252, e252, hx252_0, hx252_1⟩ := at_T75 HR0.out x8_1 p252 q252
       cases e252
       replace hx252_0 := pc_ HB hx252_0
       replace hx252_1 := pc_ HB hx252_1
       replace p252 := eT p252
       replace q252 := eT q252
       try go_wp2_with (first | ((with_reducible refine gate_dst (N := 5) rfl ?_); refine box_event ?hg (N := 5) ?hd (cs := #[.string (⟨#[]⟩ : ByteArray), .int .i64 0]) (t := 75) ?hr ?_; (case hd => rfl); (case hg => rfl); (case hr => first | (go_simp; done) | (go_simp; rfl)); intro gb253 hg w7 hbox hb; replace HO_3 := aK (Kd.S_below (by (with_reducible repeat (first | apply Kd.S_alloc | apply Kd.S_drewN | apply Kd.S_drew)); exact HO_3.out) hb); have BK253 := aK (hbox); have GW253 := aK (((by rw [hg]; exact (below_size zq10_1)) : w.heap.size ≤ gb253)); have GE253 := aK (((by rw [hg]; exact (below_size zq10_1)) : w.heap.size ≤ gb253)); replace HB := aK (bS zq10_1 hb); clear hb hbox hg; have hcz8_0 : w7.cell? ⟨gb253, 0, none⟩ = some (.string (⟨#[]⟩ : ByteArray)) := (bC BK253.out 0).trans rfl; have hcz8_1 : w7.cell? ⟨gb253, 1, none⟩ = some (.int .i64 0) := (bC BK253.out 1).trans rfl; have hfz8_0 := bF_ BK253.out 0; have hfz8_1 := bF_ BK253.out 1))
       have n0_ : Aside0 (Kd.S k72 72 ((w7.setCell ⟨gb253, 0, none⟩ (.string ((rd_T75 l0 x8_1).f0))).setCell ⟨gb253, 1, none⟩ (.int .i64 ((rd_T75 l0 x8_1).f1))) w.heap.size (fun _ => True) u3 x3_1) := ⟨by (with_reducible repeat (first | apply Kd.S_alloc | apply Kd.S_drewN | apply Kd.S_drew)); exact Kd.S_mono (Kd.S_far (p := ⟨gb253, 1, none⟩) (Kd.S_far (p := ⟨gb253, 0, none⟩) (Kd.S_types HO_3.out BK253.out (by decide)) (fun _ hk => hk.2) (.string ((rd_T75 l0 x8_1).f0))) (fun _ hk => hk.2) (.int .i64 ((rd_T75 l0 x8_1).f1))) (fun _ hk => trivial)⟩
       have n1_ : Aside0 (((w7.setCell ⟨gb253, 0, none⟩ (.string ((rd_T75 l0 x8_1).f0))).setCell ⟨gb253, 1, none⟩ (.int .i64 ((rd_T75 l0 x8_1).f1))).heap[gb253]? = some (.cells #[.string ((rd_T75 l0 x8_1).f0), .int .i64 ((rd_T75 l0 x8_1).f1)] 75 (0, 0))) := ⟨by (with_reducible repeat (first | refine blk_drewN ?_ _ | refine blk_drew ?_ | refine blk_alloc ?_ _)); refine blk_put (cs := #[.string ((rd_T75 l0 x8_1).f0), .int .i64 0]) ?_ 1 _ rfl; (with_reducible repeat (first | refine blk_drewN ?_ _ | refine blk_drew ?_ | refine blk_alloc ?_ _)); refine blk_put (cs := #[.string (⟨#[]⟩ : ByteArray), .int .i64 0]) ?_ 0 _ rfl; (with_reducible repeat (first | refine blk_drewN ?_ _ | refine blk_drew ?_ | refine blk_alloc ?_ _)); exact BK253.out⟩
       have n2_ : Aside0 (Below w.heap.size w ((w7.setCell ⟨gb253, 0, none⟩ (.string ((rd_T75 l0 x8_1).f0))).setCell ⟨gb253, 1, none⟩ (.int .i64 ((rd_T75 l0 x8_1).f1)))) := ⟨by repeat (first | (with_reducible first | exact HB.out | apply bA | apply pB | apply bW | refine below_set ?_ GE253.out) | exact HB.out)⟩
       (try clear HO_3)
       (try clear BK253)
       (try clear HB)
       generalize ((w7.setCell ⟨gb253, 0, none⟩ (.string ((rd_T75 l0 x8_1).f0))).setCell ⟨gb253, 1, none⟩ (.int .i64 ((rd_T75 l0 x8_1).f1))) = w9 at n0_ n1_ n2_ ⊢
       have HO_3 := n0_
       have BK253 := n1_
       have HB := n2_
       clear n0_ n1_ n2_
       replace HO_3 := aK (Kd.S_drew HO_3.out)
       replace BK253 := aK (blk_drew BK253.out)
       replace HB := aK (bW HB.out)
       refine start_ (n := 10) (S := fun w' => w'.cell? ⟨gb253, 0, none⟩ = some (.string ((rd_T75 l0 x8_1).f0)) ∧ w'.cell? ⟨gb253, 1, none⟩ = some (.int .i64 ((rd_T75 l0 x8_1).f1))) (ds := []) #[false, false, false, false, false, false, false, false, false, false] (by kernel_rfl) rfl rfl ⟨(bC BK253.out 0).trans rfl, (bC BK253.out 1).trans rfl⟩ (fun hHeld => ?_); refine with_tabW know_From.tab5 know_From.bits5 (fun HT_ HW_ => ?_)
       generalize w9.drew = w10 at HO_3 BK253 HB hHeld ⊢
       refine p_ 0 12 (mk_ 10 0x1) ?_
       refine p_ 1 13 (mk_ 10 0x3) ?_
       refine p_ 3 15 (mk_ 10 0xb) ?_
       refine t_ 2 14 (mk_ 10 0xf) hHeld ?_
       refine t_ 4 16 (mk_ 10 0x1f) hHeld ?_
       refine one_ (i := 5) (N := some 17) #[true, true, true, true, true, true, false, false, false, false] rfl rfl (one_of HT_.out (by kernel_rfl)) (by decide) (fun K hK => ?_)
       refine goes_ Tryz.func37 (by kernel_rfl) rfl #[.int .i64 ((rd_T75 l0 x8_1).f1)] (by rfl) rfl rfl (by (try simp only [List.map_toArray, List.map_cons, List.map_nil]); first | done | rfl | (simp only [List.length_drop, List.length_take]; rfl)) ?_
       with_reducible refine (span_First.calls ((rd_T75 l0 x8_1).f1) t254 t255 _ A5.out).mono ?_
       rintro e w11 ⟨v256, rfl, ho0, hb⟩
       refine ⟨_, rfl, ?_⟩
       replace HO_3 := aK (Kd.S_elder' (by (with_reducible repeat (first | apply Kd.S_alloc | apply Kd.S_drewN | apply Kd.S_drew)); exact HO_3.out) (Kd.R_base ho0) hb)
       have HO257 := aK (Kd.R_lower ho0 (below_size zq10_0))
       replace BK253 := aK (bB (g := gb253) (o := .cells #[.string ((rd_T75 l0 x8_1).f0), .int .i64 ((rd_T75 l0 x8_1).f1)] 75 (0, 0)) (by (with_reducible repeat (first | refine blk_drewN ?_ _ | refine blk_drew ?_ | refine blk_alloc ?_ _)); exact BK253.out) hb)
       replace HB := aK (bS zq10_0 hb)
       (try clear hb)
       (try clear hb2)
       (try clear hk)
       (try clear hi)
       (try clear ho0)
       obtain ⟨Ao12, co12, eo12⟩ := Kd.R_slice HO257.out
       (first | subst eo12 | (injection eo12 with f1_ f2_ f3_; have f4_ := f1_.symm; have f5_ := f3_.symm; clear f1_ f2_ f3_; subst f4_; subst f5_))
       refine hK.out _ _ ⟨(bC BK253.out 0).trans rfl, (bC BK253.out 1).trans rfl⟩ (fun hHeld => ?_)
       clear hK K
       refine norm_ (a' := ?_) ?_ ?_
       rotate_left
       ·show Act.put _ (some 17) _ = _
        simp only [Act.put, lA, lB, lC, i64_w, i32_w]
        rfl
       refine p_ 6 18 (mk_ 10 0x7f) ?_
       refine one_ (i := 7) (N := some 19) #[true, true, true, true, true, true, true, true, false, false] rfl rfl (one_of HT_.out (by kernel_rfl)) (by decide) (fun K hK => ?_)
       refine value_ (w1 := ?_) (v := ?_) (by rfl) rfl ?_ ?_
       rotate_left 2
       ·go_simp
        constructor
        ·rfl
        ·rfl
       refine hK.out _ _ ⟨(bC (blk_alloc BK253.out _) 0).trans rfl, (bC (blk_alloc BK253.out _) 1).trans rfl⟩ (fun hHeld => ?_)
       clear hK K
       refine norm_ (a' := ?_) ?_ ?_
       rotate_left
       ·show Act.put _ (some 19) _ = _
        simp only [Act.put, lA, lB, lC, i64_w, i32_w]
        rfl
       refine one_ (i := 8) (N := some 20) #[true, true, true, true, true, true, true, true, true, false] rfl rfl (one_of HT_.out (by kernel_rfl)) (by decide) (fun K hK => ?_)
       refine Kd.S_append_step k72 (w0 := w) w.heap.size (by rfl) (.tmp 12) (.tmp 19) 29 72 (.agg #[(.string ⟨#[]⟩), (.int .i64 0), (.slice none 0 0)]) 48 rfl Tryz.underlying29 info72 rfl (by decide) (by omega) u3 x3_1 (⟨(rd_T75 l0 x8_1).f0, (⟨t254, t255⟩ : S69)⟩ : S72) [.string ((rd_T75 l0 x8_1).f0), .int .i64 t254, .slice Ao12 t255.length co12] (fun _ => True) (fun k_ => some k_ = (.slice Ao12 t255.length co12 : Value).ownBlock) rfl rfl ?aP (fun k_ hk_ => ((Kd.R_mono (ok' := fun k_ => ((fun _ => True)) k_ ∧ some k_ ≠ (u3 : Value).ownBlock) (Kd.R_apart' (HO257.out) (Kd.S_typed HO_3.out) (by decide)) (fun k_ hk => ⟨trivial, hk.2⟩))).1 k_ hk_.symm) ?aF ?aO ?aB ?aS ?aL ?_
       (case aP => exact k72_mkM _ _ _ (⟨(rd_T75 l0 x8_1).f0, (⟨t254, t255⟩ : S69)⟩ : S72) (Kd.R_mono (Kd.R_tight rfl (Kd.R_mono (ok' := fun k_ => ((fun _ => True)) k_ ∧ some k_ ≠ (u3 : Value).ownBlock) (Kd.R_apart' (HO257.out) (Kd.S_typed HO_3.out) (by decide)) (fun k_ hk => ⟨trivial, hk.2⟩))) (fun _ h_ => h_)))
       (case aB => exact zq10_0)
       (case aF => exact (fun _ _ => trivial))
       (case aO => exact (by (with_reducible repeat (first | apply Kd.S_alloc | apply Kd.S_drewN | apply Kd.S_drew)); exact Kd.S_mono HO_3.out (fun k_ hk => ⟨trivial, fun e_ => hk.2 e_⟩)))
       (case aS => exact (below_size zq10_0))
       (case aL => have := LMc6.out; omega)
       intro v259 w13 ho hb hg hat
       rw [← Ny258.out] at ho
       replace BK253 := aK (blk_grown (g := gb253) (o := .cells #[.string ((rd_T75 l0 x8_1).f0), .int .i64 ((rd_T75 l0 x8_1).f1)] 75 (0, 0)) (by (with_reducible repeat (first | refine blk_drewN ?_ _ | refine blk_drew ?_ | refine blk_alloc ?_ _)); exact BK253.out) hg (Kd.S_ne HO_3.out BK253.out (by decide)))
       replace HB := aK (hb)
       have HO260 := aK (ho)
       clear HO_3 HO257
       clear ho hb hg hat
       refine hK.out _ _ ⟨(bC BK253.out 0).trans rfl, (bC BK253.out 1).trans rfl⟩ (fun hHeld => ?_)
       clear hK K
       refine norm_ (a' := ?_) ?_ ?_
       rotate_left
       ·show Act.put _ (some 20) _ = _
        simp only [Act.put, lA, lB, lC, i64_w, i32_w]
        rfl
       refine p_ 9 3 (mk_ 10 0x3ff) ?_
       refine done_ (done_of HT_.out (by kernel_rfl)) ?_
       try go_wp2
       go_roundg k1
       case measure => have := HK1.out; omega
       case rel => exact ⟨(y258), (wrap64 (x8_1 + 1)), (by first | rfl | (simp; done) | (simp [*]; done)), H', ⟨by have := HK1.out; omega⟩, ⟨by (with_reducible repeat (first | apply Kd.S_alloc | apply Kd.S_drewN | apply Kd.S_drew)); exact HO260.out⟩, ⟨by repeat (first | (with_reducible first | exact HB.out | apply bA | apply pB | apply bW | refine below_set ?_ GE253.out) | exact HB.out)⟩⟩
      ·rw [if_neg c6] at H
       exact absurd H (by simp)
     ·rw [if_neg c4] at H
      exact absurd H (by simp)
    ·rw [if_neg c3] at H
     exact absurd H (by simp)
   ·rw [if_neg c2] at H
    have c2b0 : decide (x8_1 < (l0.length : Int)) = false := decide_eq_false c2
    clear c2
    obtain rfl := sI H
    go_wp2
    go_ret
    exact ⟨_, by first | rfl | (simp [errW_none, errW_some] <;> rfl) | (simp [*, errW_none, errW_some] <;> rfl), by (with_reducible repeat (first | apply Kd.S_alloc | apply Kd.S_drewN | apply Kd.S_drew)); exact HO_3.out, by repeat (first | (with_reducible first | exact HB.out | apply bA | apply pB | apply bW) | exact HB.out)⟩
theorem zq12_0 {p_ : Prop} (h_ : p_ := by first | (with_reducible assumption) | assumption) : p_ := h_
def cenotaphref03_Same.l0 : Nat → List (S65) → List (S65) → Int → Option (Bool)
 | 0, _, _, _ => none
 | k + 1, x0, x1, x5 => if x5 < (x0.length : Int) then (if 0 ≤ x5 then (if x5 < (x1.length : Int) then (if (!((((rd_T65 x0 x5).f0).toList) == (((rd_T65 x1 x5).f0).toList)) || (!(((rd_T65 x0 x5).f1) == ((rd_T65 x1 x5).f1)))) = true then (some false) else (cenotaphref03_Same.l0 k x0 x1 (wrap64 (x5 + 1)))) else (none)) else (none)) else (some true)
def cenotaphref03_Same.f (k : Nat) (l0 : List (S65)) (l1 : List (S65)) : Option (Bool) := if (l0.length : Int) = (l1.length : Int) then (cenotaphref03_Same.l0 k l0 l1 0) else (some false)
theorem cenotaphref03_Same.mono_l : ∀ k, (∀ y0 y1 y2, LeO (cenotaphref03_Same.l0 k y0 y1 y2) (cenotaphref03_Same.l0 (k + 1) y0 y1 y2))
 | 0 => fun _ _ _ r h => by simp [cenotaphref03_Same.l0] at h
 | k + 1 => by
  have ih0 := cenotaphref03_Same.mono_l k
  ·intro y0 y1 y2
   unfold cenotaphref03_Same.l0
   repeat' first
   | (with_reducible exact ih0 _ _ _)
   | (with_reducible exact LeO.refl _)
   | (with_reducible exact LeO.none _)
   | (with_reducible refine LeO.ite ?_ ?_)
   | (with_reducible refine LeO.bind ?_ (fun _ => ?_))
   | exact ih0 _ _ _
   | exact LeO.none _
   | refine LeO.ite ?_ ?_
   | refine LeO.bind ?_ (fun _ => ?_)
theorem cenotaphref03_Same.mono : ∀ a0 a1 k, LeO (cenotaphref03_Same.f k a0 a1) (cenotaphref03_Same.f (k + 1) a0 a1) := by
 intro a0 a1 k
 have ih0 := cenotaphref03_Same.mono_l k
 unfold cenotaphref03_Same.f
 repeat' first
   | (with_reducible exact ih0 _ _ _)
   | (with_reducible exact LeO.refl _)
   | (with_reducible exact LeO.none _)
   | (with_reducible refine LeO.ite ?_ ?_)
   | (with_reducible refine LeO.bind ?_ (fun _ => ?_))
   | exact ih0 _ _ _
   | exact LeO.none _
   | refine LeO.ite ?_ ?_
   | refine LeO.bind ?_ (fun _ => ?_)
theorem cenotaphref03_Same.calls (k : Nat) (A0 : Option Addr) (c0 : Nat) (l0 : List (S65)) (A1 : Option Addr) (c1 : Nat) (l1 : List (S65)) (r : Bool) (w : World) (hr0 : Kd.C k65 w A0 l0.length l0) (hc0 : l0.length ≤ c0) (hr1 : Kd.C k65 w A1 l1.length l1) (hc1 : l1.length ≤ c1) (h : cenotaphref03_Same.f k l0 l1 = some r) :
  Calls Tryz.prog 12 #[.slice A0 l0.length c0, .slice A1 l1.length c1] w fun e w' => e = .returned (.bool r) ∧ Drawn0 w w' := by
 have hu65 := Tryz.underlying65
 have HR0 := aK hr0
 have HC0 := aK hc0
 clear hr0 hc0
 have HR1 := aK hr1
 have HC1 := aK hc1
 clear hr1 hc1
 have H : (if (l0.length : Int) = (l1.length : Int) then (cenotaphref03_Same.l0 k l0 l1 0) else (some false)) = some r := h
 clear h
 by_cases c3 : (l0.length : Int) = (l1.length : Int)
 ·rw [if_pos c3] at H
  have c3b0 : ((l0.length : Int) == (l1.length : Int)) = true := beq_iff_eq.mpr c3
  have c3b1 : ((l0.length : Int) != (l1.length : Int)) = false := bne_eq_false_iff_eq.mpr c3
  have c3b2 : (l0.length == l1.length) = true := by first | simpa using c3 | (simp at c3 ⊢; omega)
  clear c3
  have H' := aK H
  clear H
  go_enter Tryz.func12, Tryz.ntmps12
  go_wp2
  repeat (go_quiet (fail); try go_wp2)
  go_loopg [5] k (fun kq v5 w' => ∃ (x5_1 : Int), v5 = .int .i64 x5_1 ∧ Aside0 (cenotaphref03_Same.l0 kq l0 l1 x5_1 = some r) ∧ Aside0 (kq ≤ k) ∧ Drawn0 w w')
  case atStart => exact ⟨(0), (by first | rfl | (simp; done) | (simp [*]; done)), H', ⟨Nat.le_refl _⟩, by repeat (first | exact Drawn0.refl _ | apply Drawn0.step)⟩
  case round =>
   clear H'
   try clear c1
   try clear p2
   try clear c3
   try clear c3b0
   try clear c3b1
   try clear c3b2
   obtain ⟨x5_1, rfl, HA, HK1, ⟨m1, rfl⟩⟩ := hrel
   cases gk with
   | zero => exact absurd HA.out (by simp [cenotaphref03_Same.l0])
   | succ k1 =>
    have H := HA.out
    clear HA
    simp only [cenotaphref03_Same.l0] at H
    by_cases c4 : x5_1 < (l0.length : Int)
    ·rw [if_pos c4] at H
     have c4b0 : decide (x5_1 < (l0.length : Int)) = true := dT c4
     clear c4
     by_cases c5 : 0 ≤ x5_1
     ·rw [if_pos c5] at H
      have c5b0 : decide (0 ≤ x5_1) = true := dT c5
      clear c5
      by_cases c6 : x5_1 < (l1.length : Int)
      ·rw [if_pos c6] at H
       have c6b0 : decide (x5_1 < (l1.length : Int)) = true := dT c6
       clear c6
       by_cases c7 : (!((((rd_T65 l0 x5_1).f0).toList) == (((rd_T65 l1 x5_1).f0).toList)) || (!(((rd_T65 l0 x5_1).f1) == ((rd_T65 l1 x5_1).f1)))) = true
       ·rw [if_pos c7] at H
        have c7b0 : (!((((rd_T65 l0 x5_1).f0).toList) == (((rd_T65 l1 x5_1).f0).toList)) || (!(((rd_T65 l0 x5_1).f1) == ((rd_T65 l1 x5_1).f1)))) = true := c7
        clear c7
        obtain rfl := sI H
        have p343 : 0 ≤ (x5_1 : Int) := oD zq12_0
        have q343 : x5_1 < (l0.length : Int) := oD zq12_0
        obtain ⟨ad343, e343, hx343_0, hx343_1⟩ := at_T65 HR0.out x5_1 p343 q343
        cases e343
        replace p343 := eT p343
        replace q343 := eT q343
        have p344 : 0 ≤ (x5_1 : Int) := oD zq12_0
        have q344 : x5_1 < (l1.length : Int) := oD zq12_0
        obtain ⟨ad344, e344, hx344_0, hx344_1⟩ := at_T65 HR1.out x5_1 p344 q344
        cases e344
        replace p344 := eT p344
        replace q344 := eT q344
        go_wp2
        repeat (go_quiet (fail); try go_wp2)
        go_ret
        exact ⟨by first | rfl | (simp; done) | (simp [*]; done), by repeat (first | exact Drawn0.refl _ | apply Drawn0.step)⟩
       ·rw [if_neg c7] at H
        have c7b0 : (!((((rd_T65 l0 x5_1).f0).toList) == (((rd_T65 l1 x5_1).f0).toList)) || (!(((rd_T65 l0 x5_1).f1) == ((rd_T65 l1 x5_1).f1)))) = false := by simpa using c7
        clear c7
        have H' := aK H
        clear H
        have p343 : 0 ≤ (x5_1 : Int) := oD zq12_0
        have q343 : x5_1 < (l0.length : Int) := oD zq12_0
        obtain ⟨ad343, e343, hx343_0, hx343_1⟩ := at_T65 HR0.out x5_1 p343 q343
        cases e343
        replace p343 := eT p343
        replace q343 := eT q343
        have p344 : 0 ≤ (x5_1 : Int) := oD zq12_0
        have q344 : x5_1 < (l1.length : Int) := oD zq12_0
        obtain ⟨ad344, e344, hx344_0, hx344_1⟩ := at_T65 HR1.out x5_1 p344 q344
        cases e344
        replace p344 := eT p344
        replace q344 := eT q344
        go_wp2
        repeat (go_quiet (fail); try go_wp2)
        go_roundg k1
        case measure => have := HK1.out; omega
        case rel => exact ⟨(wrap64 (x5_1 + 1)), (by first | rfl | (simp; done) | (simp [*]; done)), H', ⟨by have := HK1.out; omega⟩, by repeat (first | exact Drawn0.refl _ | apply Drawn0.step)⟩
      ·rw [if_neg c6] at H
       exact absurd H (by simp)
     ·rw [if_neg c5] at H
      exact absurd H (by simp)
    ·rw [if_neg c4] at H
     have c4b0 : decide (x5_1 < (l0.length : Int)) = false := decide_eq_false c4
     clear c4
     obtain rfl := sI H
     go_wp2
     repeat (go_quiet (fail); try go_wp2)
     go_ret
     exact ⟨by first | rfl | (simp; done) | (simp [*]; done), by repeat (first | exact Drawn0.refl _ | apply Drawn0.step)⟩
 ·rw [if_neg c3] at H
  have c3b0 : ((l0.length : Int) == (l1.length : Int)) = false := beq_eq_false_iff_ne.mpr c3
  have c3b1 : ((l0.length : Int) != (l1.length : Int)) = true := bne_iff_ne.mpr c3
  have c3b2 : (l0.length == l1.length) = false := by first | simpa using c3 | (simp at c3 ⊢; omega)
  obtain rfl := sI H
  go_enter Tryz.func12, Tryz.ntmps12
  go_wp2
  repeat (go_quiet (fail); try go_wp2)
  go_ret
  exact ⟨by first | rfl | (simp; done) | (simp [*]; done), by repeat (first | exact Drawn0.refl _ | apply Drawn0.step)⟩
theorem zq13_0 {p_ : Prop} (h_ : p_ := by first | (with_reducible assumption) | assumption) : p_ := h_
def cenotaphlaw03_From.l0 : Nat → List (S75) → List (S65) → Int → Option ((List (S65)))
 | 0, _, _, _ => none
 | k + 1, x0, x3, x4 => if x4 < (x0.length : Int) then (if 0 ≤ x4 then (if x3.length < 5864062014805 then (cenotaphlaw03_From.l0 k x0 (x3 ++ [(⟨(rd_T75 x0 x4).f0, (rd_T75 x0 x4).f1⟩ : S65)]) (wrap64 (x4 + 1))) else (none)) else (none)) else (some x3)
def cenotaphlaw03_From.f (k : Nat) (l0 : List (S75)) : Option ((List (S65))) := cenotaphlaw03_From.l0 k l0 ([] : List (S65)) 0
theorem cenotaphlaw03_From.mono_l : ∀ k, (∀ y0 y1 y2, LeO (cenotaphlaw03_From.l0 k y0 y1 y2) (cenotaphlaw03_From.l0 (k + 1) y0 y1 y2))
 | 0 => fun _ _ _ r h => by simp [cenotaphlaw03_From.l0] at h
 | k + 1 => by
  have ih0 := cenotaphlaw03_From.mono_l k
  ·intro y0 y1 y2
   unfold cenotaphlaw03_From.l0
   repeat' first
   | (with_reducible exact ih0 _ _ _)
   | (with_reducible exact LeO.refl _)
   | (with_reducible exact LeO.none _)
   | (with_reducible refine LeO.ite ?_ ?_)
   | (with_reducible refine LeO.bind ?_ (fun _ => ?_))
   | exact ih0 _ _ _
   | exact LeO.none _
   | refine LeO.ite ?_ ?_
   | refine LeO.bind ?_ (fun _ => ?_)
theorem cenotaphlaw03_From.mono : ∀ a0 k, LeO (cenotaphlaw03_From.f k a0) (cenotaphlaw03_From.f (k + 1) a0) := by
 intro a0 k
 have ih0 := cenotaphlaw03_From.mono_l k
 unfold cenotaphlaw03_From.f
 repeat' first
   | (with_reducible exact ih0 _ _ _)
   | (with_reducible exact LeO.refl _)
   | (with_reducible exact LeO.none _)
   | (with_reducible refine LeO.ite ?_ ?_)
   | (with_reducible refine LeO.bind ?_ (fun _ => ?_))
   | exact ih0 _ _ _
   | exact LeO.none _
   | refine LeO.ite ?_ ?_
   | refine LeO.bind ?_ (fun _ => ?_)
def cenotaphlaw03_From.T5 : Bool × List (List Nat × List Nat) := (true, [([], []), ([], []), ([], []), ([1, 2], [1, 2]), ([3], [3]), ([4], [4]), ([], []), ([], []), ([6, 7], [6, 7]), ([8], [8]), ([9], [9]), ([5, 10], [5, 10]), ([11], [11]), ([0, 12], [0, 12]), ([13, 13, 0, 1, 2, 3, 4, 5, 6, 7, 8, 9, 10, 11, 12, 13], [0, 13])])
def cenotaphlaw03_From.B5 : List Nat := [0, 0, 0, 6, 14, 30, 0, 0, 192, 448, 960, 2046, 4094, 8191, 16383]
theorem cenotaphlaw03_From.tab5 : rtab .any (opsOf Tryz.f13 5) = cenotaphlaw03_From.T5 := by kernel_rfl
theorem cenotaphlaw03_From.bits5 : waitsOk cenotaphlaw03_From.T5.2 cenotaphlaw03_From.B5 = true := by kernel_rfl
theorem cenotaphlaw03_From.calls (k : Nat) (A0 : Option Addr) (c0 : Nat) (l0 : List (S75)) (r : List (S65)) (w : World) (hr0 : Kd.C k75 w A0 l0.length l0) (hc0 : l0.length ≤ c0) (h : cenotaphlaw03_From.f k l0 = some r) :
  Calls Tryz.prog 13 #[.slice A0 l0.length c0] w fun e w' => ∃ v0_ : Value, e = .returned (v0_) ∧ Kd.R k65 65 w' w.heap.size (fun _ => True) v0_ r ∧ Below w.heap.size w w' := by
 have hu65 := Tryz.underlying65
 have HR0 := aK hr0
 have HC0 := aK hc0
 clear hr0 hc0
 have HB := aK (Below.refl w.heap.size w)
 have H : (cenotaphlaw03_From.l0 k l0 ([] : List (S65)) 0) = some r := h
 clear h
 have H' := aK H
 clear H
 go_enter Tryz.func13, Tryz.ntmps13
 go_wp2
 go_loopg [3, 4] k (fun kq v3 v4 w' => ∃ (x3_1 : List (S65)) (x4_1 : Int), v4 = .int .i64 x4_1 ∧ Aside0 (cenotaphlaw03_From.l0 kq l0 x3_1 x4_1 = some r) ∧ Aside0 (kq ≤ k) ∧ Aside0 (Kd.R k65 65 w' w.heap.size (fun _ => True) v3 x3_1) ∧ Aside0 (Below w.heap.size w w'))
 case atStart => exact ⟨(([] : List (S65))), (0), (by first | rfl | (simp; done) | (simp [*]; done)), H', ⟨Nat.le_refl _⟩, ⟨by first | exact Kd.R_nil _ _ _ _ _ | exact Kd.N_nil _ _ _ _ _ | exact Kd.V_nil _ _ _ _ _ | exact Kd.Q_nil _ _ _ _ _ | exact Kd.S_nil _ _ _ _ _⟩, ⟨by repeat (first | (with_reducible first | exact HB.out | apply bA | apply pB | apply bW) | exact HB.out)⟩⟩
 case round =>
  clear H'
  try clear c1
  obtain ⟨x3_1, x4_1, rfl, HA, HK1, HO_3, HB⟩ := hrel
  cases gk with
  | zero => exact absurd HA.out (by simp [cenotaphlaw03_From.l0])
  | succ k1 =>
   have H := HA.out
   clear HA
   simp only [cenotaphlaw03_From.l0] at H
   by_cases c2 : x4_1 < (l0.length : Int)
   ·rw [if_pos c2] at H
    have c2b0 : decide (x4_1 < (l0.length : Int)) = true := dT c2
    clear c2
    by_cases c3 : 0 ≤ x4_1
    ·rw [if_pos c3] at H
     have c3b0 : decide (0 ≤ x4_1) = true := dT c3
     clear c3
     by_cases c4 : x3_1.length < 5864062014805
     ·rw [if_pos c4] at H
      have LMc4 := aK c4
      clear c4
      obtain ⟨y347, hy347⟩ : ∃ y_ : List (S65), y_ = (x3_1 ++ [(⟨(rd_T75 l0 x4_1).f0, (rd_T75 l0 x4_1).f1⟩ : S65)]) := ⟨_, rfl⟩
      replace H : (cenotaphlaw03_From.l0 k1 l0 y347 (wrap64 (x4_1 + 1))) = some r := by first | (rw [hy347]; with_reducible exact H) | (have H2_ := (Option.bind_some _ _).symm.trans H; rw [hy347]; with_reducible exact H2_) | (have H2_ := (Option.bind_some _ _).symm.trans H; with_reducible exact H2_) | with_reducible exact H | (rw [hy347]; exact H) | exact H
      have Ny347 := aK hy347
      clear hy347
      have H' := aK H
      clear H
      try go_wp2
      replace HO_3 := aK (Kd.R_drew HO_3.out)
      replace HB := aK (bW HB.out)
      have p345 : 0 ≤ (x4_1 : Int) := oD zq13_0
      have q345 : x4_1 < (l0.length : Int) := oD zq13_0
      obtain ⟨ad345, e345, hx345_0, hx345_1⟩ := at_T75 HR0.out x4_1 p345 q345
      have hw345_1 := hx345_1
      have hw345_0 := hx345_0
      cases e345
      replace hx345_0 := pc_ HB hx345_0
      replace hx345_1 := pc_ HB hx345_1
      replace p345 := eT p345
      replace q345 := eT q345
      have p346 : 0 ≤ (x4_1 : Int) := oD zq13_0
      have q346 : x4_1 < (l0.length : Int) := oD zq13_0
      obtain ⟨ad346, e346, hx346_0, hx346_1⟩ := at_T75 HR0.out x4_1 p346 q346
      have hw346_1 := hx346_1
      have hw346_0 := hx346_0
      obtain rfl : ad345 = ad346 := (by injection e346)
      replace hx346_0 := pc_ HB hx346_0
      replace hx346_1 := pc_ HB hx346_1
      replace p346 := eT p346
      replace q346 := eT q346
      refine start_ (n := 15) (S := fun w' => w'.cell? (ad345.add ((x4_1).toNat * 2)) = some (.string ((rd_T75 l0 x4_1).f0)) ∧ w'.cell? ⟨(ad345.add ((x4_1).toNat * 2)).block, (ad345.add ((x4_1).toNat * 2)).off + 1, none⟩ = some (.int .i64 ((rd_T75 l0 x4_1).f1)) ∧ w'.cell? (ad345.add ((x4_1).toNat * 2)) = some (.string ((rd_T75 l0 x4_1).f0)) ∧ w'.cell? ⟨(ad345.add ((x4_1).toNat * 2)).block, (ad345.add ((x4_1).toNat * 2)).off + 1, none⟩ = some (.int .i64 ((rd_T75 l0 x4_1).f1))) (ds := []) #[false, false, false, false, false, false, false, false, false, false, false, false, false, false, false] (by kernel_rfl) rfl rfl ⟨(pc_ HB hw345_0), (pc_ HB hw345_1), (pc_ HB hw346_0), (pc_ HB hw346_1)⟩ (fun hHeld => ?_); refine with_tabW cenotaphlaw03_From.tab5 cenotaphlaw03_From.bits5 (fun HT_ HW_ => ?_)
      generalize wr.drew = w5 at HO_3 HB hx345_0 hx345_1 hx346_0 hx346_1 hHeld ⊢
      refine p_ 0 11 (mk_ 15 0x1) ?_
      refine p_ 1 12 (mk_ 15 0x3) ?_
      refine p_ 2 13 (mk_ 15 0x7) ?_
      refine p_ 3 14 (mk_ 15 0xf) ?_
      refine p_ 4 15 (mk_ 15 0x1f) ?_
      refine p_ 6 17 (mk_ 15 0x5f) ?_
      refine p_ 7 18 (mk_ 15 0xdf) ?_
      refine p_ 8 19 (mk_ 15 0x1df) ?_
      refine p_ 9 20 (mk_ 15 0x3df) ?_
      refine t_ 5 16 (mk_ 15 0x3ff) hHeld ?_
      refine t_ 10 21 (mk_ 15 0x7ff) hHeld ?_
      refine p_ 11 22 (mk_ 15 0xfff) ?_
      refine one_ (i := 12) (N := some 23) #[true, true, true, true, true, true, true, true, true, true, true, true, true, false, false] rfl rfl (one_of HT_.out (by kernel_rfl)) (by decide) (fun K hK => ?_)
      refine value_ (w1 := ?_) (v := ?_) (by rfl) rfl ?_ ?_
      rotate_left 2
      ·go_simp
       constructor
       ·rfl
       ·rfl
      refine hK.out _ _ ⟨(World.cell?_alloc_lt _ _ _ (wl_ _ _ ((pc_ HB hw345_0)))).trans ((pc_ HB hw345_0)), (World.cell?_alloc_lt _ _ _ (wl_ _ _ ((pc_ HB hw345_1)))).trans ((pc_ HB hw345_1)), (World.cell?_alloc_lt _ _ _ (wl_ _ _ ((pc_ HB hw346_0)))).trans ((pc_ HB hw346_0)), (World.cell?_alloc_lt _ _ _ (wl_ _ _ ((pc_ HB hw346_1)))).trans ((pc_ HB hw346_1))⟩ (fun hHeld => ?_)
      clear hK K
      refine norm_ (a' := ?_) ?_ ?_
      rotate_left
      ·show Act.put _ (some 23) _ = _
       simp only [Act.put, lA, lB, lC, i64_w, i32_w]
       rfl
      refine one_ (i := 13) (N := some 24) #[true, true, true, true, true, true, true, true, true, true, true, true, true, true, false] rfl rfl (one_of HT_.out (by kernel_rfl)) (by decide) (fun K hK => ?_)
      refine Kd.R_append_step k65 (w0 := w) w.heap.size (by rfl) (.tmp 11) (.tmp 23) 23 65 (.agg #[(.string ⟨#[]⟩), (.int .i64 0)]) 24 rfl Tryz.underlying23 info65 rfl (by decide) (by omega) u3 x3_1 (⟨(rd_T75 l0 x4_1).f0, (rd_T75 l0 x4_1).f1⟩ : S65) [.string ((rd_T75 l0 x4_1).f0), .int .i64 ((rd_T75 l0 x4_1).f1)] (fun _ => True) (fun _ => False) rfl rfl ?aP (fun _ hk => hk.elim) ?aF ?aO ?aB ?aS ?aL ?_
      (case aP => exact k65_mkM _ _ _ (⟨(rd_T75 l0 x4_1).f0, (rd_T75 l0 x4_1).f1⟩ : S65))
      (case aB => exact (by repeat (first | (with_reducible first | exact HB.out | apply bA | apply pB | apply bW) | exact HB.out)))
      (case aF => exact (fun _ _ => trivial))
      (case aO => exact (by (with_reducible repeat (first | apply Kd.R_alloc | apply Kd.R_drewN | apply Kd.R_drew)); exact HO_3.out))
      (case aS => exact (below_size (by repeat (first | (with_reducible first | exact HB.out | apply bA | apply pB | apply bW) | exact HB.out))))
      (case aL => have := LMc4.out; omega)
      intro v348 w6 ho hb hg hat
      rw [← Ny347.out] at ho
      replace HB := aK (hb)
      have HO349 := aK (ho)
      clear HO_3
      clear ho hb hg hat
      refine hK.out _ _ ⟨(pc_ HB hw345_0), (pc_ HB hw345_1), (pc_ HB hw346_0), (pc_ HB hw346_1)⟩ (fun hHeld => ?_)
      clear hK K
      refine norm_ (a' := ?_) ?_ ?_
      rotate_left
      ·show Act.put _ (some 24) _ = _
       simp only [Act.put, lA, lB, lC, i64_w, i32_w]
       rfl
      refine p_ 14 3 (mk_ 15 0x7fff) ?_
      refine done_ (done_of HT_.out (by kernel_rfl)) ?_
      try go_wp2
      go_roundg k1
      case measure => have := HK1.out; omega
      case rel => exact ⟨(y347), (wrap64 (x4_1 + 1)), (by first | rfl | (simp; done) | (simp [*]; done)), H', ⟨by have := HK1.out; omega⟩, ⟨by (with_reducible repeat (first | apply Kd.R_alloc | apply Kd.R_drewN | apply Kd.R_drew)); exact HO349.out⟩, ⟨by repeat (first | (with_reducible first | exact HB.out | apply bA | apply pB | apply bW) | exact HB.out)⟩⟩
     ·rw [if_neg c4] at H
      exact absurd H (by simp)
    ·rw [if_neg c3] at H
     exact absurd H (by simp)
   ·rw [if_neg c2] at H
    have c2b0 : decide (x4_1 < (l0.length : Int)) = false := decide_eq_false c2
    clear c2
    obtain rfl := sI H
    go_wp2
    go_ret
    exact ⟨_, by first | rfl | (simp [errW_none, errW_some] <;> rfl) | (simp [*, errW_none, errW_some] <;> rfl), by (with_reducible repeat (first | apply Kd.R_alloc | apply Kd.R_drewN | apply Kd.R_drew)); exact HO_3.out, by repeat (first | (with_reducible first | exact HB.out | apply bA | apply pB | apply bW) | exact HB.out)⟩
theorem zq14_0 {p_ : Prop} (h_ : p_ := by first | (with_reducible assumption) | assumption) : p_ := h_
theorem zq14_1 {p_ : Prop} (h_ : p_ := by first | rfl | (simp; done) | (simp [*]; done)) : p_ := h_
def cenotaphref04_Firsts.l0 : Nat → List (S61) → List (S65) → Int → Option ((List (S65)))
 | 0, _, _, _ => none
 | k + 1, x0, x3, x4 => if x4 < (x0.length : Int) then (if 0 ≤ x4 then (if ((rd_T61 x0 x4).f1.f0) > 0 then (if x3.length < 5864062014805 then (cenotaphref04_Firsts.l0 k x0 (x3 ++ [(⟨(rd_T61 x0 x4).f0, (rd_T61 x0 x4).f1.f0⟩ : S65)]) (wrap64 (x4 + 1))) else (none)) else (cenotaphref04_Firsts.l0 k x0 x3 (wrap64 (x4 + 1)))) else (none)) else (some x3)
def cenotaphref04_Firsts.f (k : Nat) (l0 : List (S61)) : Option ((List (S65))) := cenotaphref04_Firsts.l0 k l0 ([] : List (S65)) 0
theorem cenotaphref04_Firsts.mono_l : ∀ k, (∀ y0 y1 y2, LeO (cenotaphref04_Firsts.l0 k y0 y1 y2) (cenotaphref04_Firsts.l0 (k + 1) y0 y1 y2))
 | 0 => fun _ _ _ r h => by simp [cenotaphref04_Firsts.l0] at h
 | k + 1 => by
  have ih0 := cenotaphref04_Firsts.mono_l k
  ·intro y0 y1 y2
   unfold cenotaphref04_Firsts.l0
   repeat' first
   | (with_reducible exact ih0 _ _ _)
   | (with_reducible exact LeO.refl _)
   | (with_reducible exact LeO.none _)
   | (with_reducible refine LeO.ite ?_ ?_)
   | (with_reducible refine LeO.bind ?_ (fun _ => ?_))
   | exact ih0 _ _ _
   | exact LeO.none _
   | refine LeO.ite ?_ ?_
   | refine LeO.bind ?_ (fun _ => ?_)
theorem cenotaphref04_Firsts.mono : ∀ a0 k, LeO (cenotaphref04_Firsts.f k a0) (cenotaphref04_Firsts.f (k + 1) a0) := by
 intro a0 k
 have ih0 := cenotaphref04_Firsts.mono_l k
 unfold cenotaphref04_Firsts.f
 repeat' first
   | (with_reducible exact ih0 _ _ _)
   | (with_reducible exact LeO.refl _)
   | (with_reducible exact LeO.none _)
   | (with_reducible refine LeO.ite ?_ ?_)
   | (with_reducible refine LeO.bind ?_ (fun _ => ?_))
   | exact ih0 _ _ _
   | exact LeO.none _
   | refine LeO.ite ?_ ?_
   | refine LeO.bind ?_ (fun _ => ?_)
def cenotaphref04_Firsts.T6 : Bool × List (List Nat × List Nat) := (true, [([], []), ([], []), ([], []), ([1, 2], [1, 2]), ([3], [3]), ([4], [4]), ([], []), ([], []), ([6, 7], [6, 7]), ([8], [8]), ([9], [9]), ([10], [10]), ([5, 11], [5, 11]), ([12], [12]), ([0, 13], [0, 13]), ([14, 14, 0, 1, 2, 3, 4, 5, 6, 7, 8, 9, 10, 11, 12, 13, 14], [0, 14])])
def cenotaphref04_Firsts.B6 : List Nat := [0, 0, 0, 6, 14, 30, 0, 0, 192, 448, 960, 1984, 4094, 8190, 16383, 32767]
theorem cenotaphref04_Firsts.tab6 : rtab .any (opsOf Tryz.f14 6) = cenotaphref04_Firsts.T6 := by kernel_rfl
theorem cenotaphref04_Firsts.bits6 : waitsOk cenotaphref04_Firsts.T6.2 cenotaphref04_Firsts.B6 = true := by kernel_rfl
theorem cenotaphref04_Firsts.calls (k : Nat) (A0 : Option Addr) (c0 : Nat) (l0 : List (S61)) (r : List (S65)) (w : World) (hr0 : Kd.C k61 w A0 l0.length l0) (hc0 : l0.length ≤ c0) (h : cenotaphref04_Firsts.f k l0 = some r) :
  Calls Tryz.prog 14 #[.slice A0 l0.length c0] w fun e w' => ∃ v0_ : Value, e = .returned (v0_) ∧ Kd.R k65 65 w' w.heap.size (fun _ => True) v0_ r ∧ Below w.heap.size w w' := by
 have hu65 := Tryz.underlying65
 have HR0 := aK hr0
 have HC0 := aK hc0
 clear hr0 hc0
 have HB := aK (Below.refl w.heap.size w)
 have H : (cenotaphref04_Firsts.l0 k l0 ([] : List (S65)) 0) = some r := h
 clear h
 have H' := aK H
 clear H
 go_enter Tryz.func14, Tryz.ntmps14
 go_wp2
 go_loopg [3, 4] k (fun kq v3 v4 w' => ∃ (x3_1 : List (S65)) (x4_1 : Int), v4 = .int .i64 x4_1 ∧ Aside0 (cenotaphref04_Firsts.l0 kq l0 x3_1 x4_1 = some r) ∧ Aside0 (kq ≤ k) ∧ Aside0 (Kd.R k65 65 w' w.heap.size (fun _ => True) v3 x3_1) ∧ Aside0 (Below w.heap.size w w'))
 case atStart => exact ⟨(([] : List (S65))), (0), zq14_1, H', ⟨Nat.le_refl _⟩, ⟨by first | exact Kd.R_nil _ _ _ _ _ | exact Kd.N_nil _ _ _ _ _ | exact Kd.V_nil _ _ _ _ _ | exact Kd.Q_nil _ _ _ _ _ | exact Kd.S_nil _ _ _ _ _⟩, ⟨by repeat (first | (with_reducible first | exact HB.out | apply bA | apply pB | apply bW) | exact HB.out)⟩⟩
 case round =>
  clear H'
  try clear c1
  obtain ⟨x3_1, x4_1, rfl, HA, HK1, HO_3, HB⟩ := hrel
  cases gk with
  | zero => exact absurd HA.out (by simp [cenotaphref04_Firsts.l0])
  | succ k1 =>
   have H := HA.out
   clear HA
   simp only [cenotaphref04_Firsts.l0] at H
   by_cases c2 : x4_1 < (l0.length : Int)
   ·rw [if_pos c2] at H
    have c2b0 : decide (x4_1 < (l0.length : Int)) = true := dT c2
    clear c2
    by_cases c3 : 0 ≤ x4_1
    ·rw [if_pos c3] at H
     have c3b0 : decide (0 ≤ x4_1) = true := dT c3
     clear c3
     by_cases c4 : ((rd_T61 l0 x4_1).f1.f0) > 0
     ·rw [if_pos c4] at H
      have c4b0 : decide (0 < ((rd_T61 l0 x4_1).f1.f0)) = true := dT c4
      clear c4
      by_cases c5 : x3_1.length < 5864062014805
      ·rw [if_pos c5] at H
       have LMc5 := aK c5
       clear c5
       obtain ⟨y353, hy353⟩ : ∃ y_ : List (S65), y_ = (x3_1 ++ [(⟨(rd_T61 l0 x4_1).f0, (rd_T61 l0 x4_1).f1.f0⟩ : S65)]) := ⟨_, rfl⟩
       replace H : (cenotaphref04_Firsts.l0 k1 l0 y353 (wrap64 (x4_1 + 1))) = some r := by first | (rw [hy353]; with_reducible exact H) | (have H2_ := (Option.bind_some _ _).symm.trans H; rw [hy353]; with_reducible exact H2_) | (have H2_ := (Option.bind_some _ _).symm.trans H; with_reducible exact H2_) | with_reducible exact H | (rw [hy353]; exact H) | exact H
       have Ny353 := aK hy353
       clear hy353
       have H' := aK H
       clear H
       have p350 : 0 ≤ (x4_1 : Int) := oD zq14_0
       have q350 : x4_1 < (l0.length : Int) := oD zq14_0
       obtain ⟨ad350, A350_2, c350_2, e350, hx350_0, hx350_1, hx350_2, hl350_2, hi350_2⟩ := at_T61 HR0.out x4_1 p350 q350
       cases e350
       replace hx350_0 := pc_ HB hx350_0
       replace hx350_1 := pc_ HB hx350_1
       replace hx350_2 := pc_ HB hx350_2
       have HR350_2 := aK hi350_2
       have HC350_2 := aK hl350_2
       clear hi350_2 hl350_2
       replace p350 := eT p350
       replace q350 := eT q350
       try go_wp2
       replace HO_3 := aK (Kd.R_drew HO_3.out)
       replace HB := aK (bW HB.out)
       have p351 : 0 ≤ (x4_1 : Int) := oD zq14_0
       have q351 : x4_1 < (l0.length : Int) := oD zq14_0
       obtain ⟨ad351, A351_2, c351_2, e351, hx351_0, hx351_1, hx351_2, hl351_2, hi351_2⟩ := at_T61 HR0.out x4_1 p351 q351
       have hw351_2 := hx351_2
       have hw351_1 := hx351_1
       have hw351_0 := hx351_0
       obtain rfl : ad350 = ad351 := (by injection e351)
       replace hx351_0 := pc_ HB hx351_0
       replace hx351_1 := pc_ HB hx351_1
       replace hx351_2 := pc_ HB hx351_2
       have HR351_2 := aK hi351_2
       have HC351_2 := aK hl351_2
       clear hi351_2 hl351_2
       replace p351 := eT p351
       replace q351 := eT q351
       have p352 : 0 ≤ (x4_1 : Int) := oD zq14_0
       have q352 : x4_1 < (l0.length : Int) := oD zq14_0
       obtain ⟨ad352, A352_2, c352_2, e352, hx352_0, hx352_1, hx352_2, hl352_2, hi352_2⟩ := at_T61 HR0.out x4_1 p352 q352
       have hw352_2 := hx352_2
       have hw352_1 := hx352_1
       have hw352_0 := hx352_0
       obtain rfl : ad350 = ad352 := (by injection e352)
       replace hx352_0 := pc_ HB hx352_0
       replace hx352_1 := pc_ HB hx352_1
       replace hx352_2 := pc_ HB hx352_2
       have HR352_2 := aK hi352_2
       have HC352_2 := aK hl352_2
       clear hi352_2 hl352_2
       replace p352 := eT p352
       replace q352 := eT q352
       have ea_ := sI (hx351_2.symm.trans hx352_2)
       injection ea_ with ea_ en_ ec_
       subst ea_
       subst ec_
       clear en_
       refine start_ (n := 16) (S := fun w' => w'.cell? (ad350.add ((x4_1).toNat * 3)) = some (.string ((rd_T61 l0 x4_1).f0)) ∧ w'.cell? ⟨(ad350.add ((x4_1).toNat * 3)).block, (ad350.add ((x4_1).toNat * 3)).off + 1, none⟩ = some (.int .i64 ((rd_T61 l0 x4_1).f1.f0)) ∧ w'.cell? ⟨(ad350.add ((x4_1).toNat * 3)).block, (ad350.add ((x4_1).toNat * 3)).off + 2, none⟩ = some (.slice A351_2 ((rd_T61 l0 x4_1).f1.f1).length c351_2) ∧ w'.cell? (ad350.add ((x4_1).toNat * 3)) = some (.string ((rd_T61 l0 x4_1).f0)) ∧ w'.cell? ⟨(ad350.add ((x4_1).toNat * 3)).block, (ad350.add ((x4_1).toNat * 3)).off + 1, none⟩ = some (.int .i64 ((rd_T61 l0 x4_1).f1.f0)) ∧ w'.cell? ⟨(ad350.add ((x4_1).toNat * 3)).block, (ad350.add ((x4_1).toNat * 3)).off + 2, none⟩ = some (.slice A351_2 ((rd_T61 l0 x4_1).f1.f1).length c351_2)) (ds := []) #[false, false, false, false, false, false, false, false, false, false, false, false, false, false, false, false] (by kernel_rfl) rfl rfl ⟨(pc_ HB hw351_0), (pc_ HB hw351_1), (pc_ HB hw351_2), (pc_ HB hw352_0), (pc_ HB hw352_1), (pc_ HB hw352_2)⟩ (fun hHeld => ?_); refine with_tabW cenotaphref04_Firsts.tab6 cenotaphref04_Firsts.bits6 (fun HT_ HW_ => ?_)
       generalize wr.drew = w6 at HO_3 HB HR351_2 HR352_2 hx351_0 hx351_1 hx351_2 hx352_0 hx352_1 hx352_2 hHeld ⊢
       refine p_ 0 18 (mk_ 16 0x1) ?_
       refine p_ 1 19 (mk_ 16 0x3) ?_
       refine p_ 2 20 (mk_ 16 0x7) ?_
       refine p_ 3 21 (mk_ 16 0xf) ?_
       refine p_ 4 22 (mk_ 16 0x1f) ?_
       refine p_ 6 24 (mk_ 16 0x5f) ?_
       refine p_ 7 25 (mk_ 16 0xdf) ?_
       refine p_ 8 26 (mk_ 16 0x1df) ?_
       refine p_ 9 27 (mk_ 16 0x3df) ?_
       refine p_ 10 28 (mk_ 16 0x7df) ?_
       refine t_ 5 23 (mk_ 16 0x7ff) hHeld ?_
       refine t_ 11 29 (mk_ 16 0xfff) hHeld ?_
       refine p_ 12 30 (mk_ 16 0x1fff) ?_
       refine one_ (i := 13) (N := some 31) #[true, true, true, true, true, true, true, true, true, true, true, true, true, true, false, false] rfl rfl (one_of HT_.out (by kernel_rfl)) (by decide) (fun K hK => ?_)
       refine value_ (w1 := ?_) (v := ?_) (by rfl) rfl ?_ ?_
       rotate_left 2
       ·go_simp
        constructor
        ·rfl
        ·rfl
       refine hK.out _ _ ⟨(World.cell?_alloc_lt _ _ _ (wl_ _ _ ((pc_ HB hw351_0)))).trans ((pc_ HB hw351_0)), (World.cell?_alloc_lt _ _ _ (wl_ _ _ ((pc_ HB hw351_1)))).trans ((pc_ HB hw351_1)), (World.cell?_alloc_lt _ _ _ (wl_ _ _ ((pc_ HB hw351_2)))).trans ((pc_ HB hw351_2)), (World.cell?_alloc_lt _ _ _ (wl_ _ _ ((pc_ HB hw352_0)))).trans ((pc_ HB hw352_0)), (World.cell?_alloc_lt _ _ _ (wl_ _ _ ((pc_ HB hw352_1)))).trans ((pc_ HB hw352_1)), (World.cell?_alloc_lt _ _ _ (wl_ _ _ ((pc_ HB hw352_2)))).trans ((pc_ HB hw352_2))⟩ (fun hHeld => ?_)
       clear hK K
       refine norm_ (a' := ?_) ?_ ?_
       rotate_left
       ·show Act.put _ (some 31) _ = _
        simp only [Act.put, lA, lB, lC, i64_w, i32_w]
        rfl
       refine one_ (i := 14) (N := some 32) #[true, true, true, true, true, true, true, true, true, true, true, true, true, true, true, false] rfl rfl (one_of HT_.out (by kernel_rfl)) (by decide) (fun K hK => ?_)
       refine Kd.R_append_step k65 (w0 := w) w.heap.size (by rfl) (.tmp 18) (.tmp 31) 23 65 (.agg #[(.string ⟨#[]⟩), (.int .i64 0)]) 24 rfl Tryz.underlying23 info65 rfl (by decide) (by omega) u3 x3_1 (⟨(rd_T61 l0 x4_1).f0, (rd_T61 l0 x4_1).f1.f0⟩ : S65) [.string ((rd_T61 l0 x4_1).f0), .int .i64 ((rd_T61 l0 x4_1).f1.f0)] (fun _ => True) (fun _ => False) rfl rfl ?aP (fun _ hk => hk.elim) ?aF ?aO ?aB ?aS ?aL ?_
       (case aP => exact k65_mkM _ _ _ (⟨(rd_T61 l0 x4_1).f0, (rd_T61 l0 x4_1).f1.f0⟩ : S65))
       (case aB => exact (by repeat (first | (with_reducible first | exact HB.out | apply bA | apply pB | apply bW) | exact HB.out)))
       (case aF => exact (fun _ _ => trivial))
       (case aO => exact (by (with_reducible repeat (first | apply Kd.R_alloc | apply Kd.R_drewN | apply Kd.R_drew)); exact HO_3.out))
       (case aS => exact (below_size (by repeat (first | (with_reducible first | exact HB.out | apply bA | apply pB | apply bW) | exact HB.out))))
       (case aL => have := LMc5.out; omega)
       intro v354 w7 ho hb hg hat
       rw [← Ny353.out] at ho
       replace HB := aK (hb)
       have HO355 := aK (ho)
       clear HO_3
       clear ho hb hg hat
       refine hK.out _ _ ⟨(pc_ HB hw351_0), (pc_ HB hw351_1), (pc_ HB hw351_2), (pc_ HB hw352_0), (pc_ HB hw352_1), (pc_ HB hw352_2)⟩ (fun hHeld => ?_)
       clear hK K
       refine norm_ (a' := ?_) ?_ ?_
       rotate_left
       ·show Act.put _ (some 32) _ = _
        simp only [Act.put, lA, lB, lC, i64_w, i32_w]
        rfl
       refine p_ 15 3 (mk_ 16 0xffff) ?_
       refine done_ (done_of HT_.out (by kernel_rfl)) ?_
       try go_wp2
       go_roundg k1
       case measure => have := HK1.out; omega
       case rel => exact ⟨(y353), (wrap64 (x4_1 + 1)), zq14_1, H', ⟨by have := HK1.out; omega⟩, ⟨by (with_reducible repeat (first | apply Kd.R_alloc | apply Kd.R_drewN | apply Kd.R_drew)); exact HO355.out⟩, ⟨by repeat (first | (with_reducible first | exact HB.out | apply bA | apply pB | apply bW) | exact HB.out)⟩⟩
      ·rw [if_neg c5] at H
       exact absurd H (by simp)
     ·rw [if_neg c4] at H
      have c4b0 : decide (0 < ((rd_T61 l0 x4_1).f1.f0)) = false := decide_eq_false c4
      clear c4
      have H' := aK H
      clear H
      have p350 : 0 ≤ (x4_1 : Int) := oD zq14_0
      have q350 : x4_1 < (l0.length : Int) := oD zq14_0
      obtain ⟨ad350, A350_2, c350_2, e350, hx350_0, hx350_1, hx350_2, hl350_2, hi350_2⟩ := at_T61 HR0.out x4_1 p350 q350
      cases e350
      replace hx350_0 := pc_ HB hx350_0
      replace hx350_1 := pc_ HB hx350_1
      replace hx350_2 := pc_ HB hx350_2
      have HR350_2 := aK hi350_2
      have HC350_2 := aK hl350_2
      clear hi350_2 hl350_2
      replace p350 := eT p350
      replace q350 := eT q350
      go_wp2
      go_roundg k1
      case measure => have := HK1.out; omega
      case rel => exact ⟨(x3_1), (wrap64 (x4_1 + 1)), zq14_1, H', ⟨by have := HK1.out; omega⟩, ⟨by (with_reducible repeat (first | apply Kd.R_alloc | apply Kd.R_drewN | apply Kd.R_drew)); exact HO_3.out⟩, ⟨by repeat (first | (with_reducible first | exact HB.out | apply bA | apply pB | apply bW) | exact HB.out)⟩⟩
    ·rw [if_neg c3] at H
     exact absurd H (by simp)
   ·rw [if_neg c2] at H
    have c2b0 : decide (x4_1 < (l0.length : Int)) = false := decide_eq_false c2
    clear c2
    obtain rfl := sI H
    go_wp2
    go_ret
    exact ⟨_, by first | rfl | (simp [errW_none, errW_some] <;> rfl) | (simp [*, errW_none, errW_some] <;> rfl), by (with_reducible repeat (first | apply Kd.R_alloc | apply Kd.R_drewN | apply Kd.R_drew)); exact HO_3.out, by repeat (first | (with_reducible first | exact HB.out | apply bA | apply pB | apply bW) | exact HB.out)⟩
theorem zq40_0 {p_ : Prop} (h_ : p_ := by rw [hg]; exact Nat.ne_of_lt (blk_lt (g := gb356) (o := .cells #[.int .i64 a0_0, .slice A0_1 l0_1.length c0_1] 59 (0, 0)) (by (with_reducible repeat (first | refine blk_drewN ?_ _ | refine blk_drew ?_ | refine blk_alloc ?_ _)); exact BK356.out))) : p_ := h_
theorem zq40_1 {p_ : Prop} (h_ : p_ := by rw [hg]; exact Nat.ne_of_gt (blk_lt (g := gb356) (o := .cells #[.int .i64 a0_0, .slice A0_1 l0_1.length c0_1] 59 (0, 0)) (by (with_reducible repeat (first | refine blk_drewN ?_ _ | refine blk_drew ?_ | refine blk_alloc ?_ _)); exact BK356.out))) : p_ := h_
theorem zq40_2 {p_ : Prop} (h_ : p_ := by rw [hg]; exact (below_size (by repeat (first | (with_reducible first | exact HB.out | apply bA | apply pB | apply bW | refine below_set ?_ GE356.out) | exact HB.out)))) : p_ := h_
theorem zq40_3 {p_ : Prop} (h_ : p_ := by rw [hg]; exact (below_size (by repeat (first | (with_reducible first | exact HB.out | apply bA | apply pB | apply bW) | exact HB.out)))) : p_ := h_
theorem zq40_4 {p_ : Prop} (h_ : p_ := by repeat (first | (with_reducible first | exact HB.out | apply bA | apply pB | apply bW | refine below_set ?_ GE356.out) | exact HB.out)) : p_ := h_
theorem zq40_5 {p_ : Prop} (h_ : p_ := by repeat (first | (with_reducible first | exact HB.out | apply bA | apply pB | apply bW) | exact HB.out)) : p_ := h_
theorem zq40_6 {p_ : Prop} (h_ : p_ := by (with_reducible repeat (first | refine blk_drewN ?_ _ | refine blk_drew ?_ | refine blk_alloc ?_ _)); exact BK356.out) : p_ := h_
theorem zq40_7 {p_ : Prop} (h_ : p_ := by first | (with_reducible assumption) | assumption) : p_ := h_
theorem zq40_8 {p_ : Prop} (h_ : p_ := by first | rfl | (simp; done) | (simp [*]; done)) : p_ := h_
mutual
def cenotaphref02_Same.j0 : Nat → Bool → Int → List Int → Int → List Int → Option (Bool)
 | 0, _, _, _, _, _ => none
 | k + 1, x19, x357000, x357001, x358000, x358001 => if x19 = true then (some false) else (cenotaphref02_Same.l0 k 0 x357000 x357001 x358000 x358001)
def cenotaphref02_Same.l0 : Nat → Int → Int → List Int → Int → List Int → Option (Bool)
 | 0, _, _, _, _, _ => none
 | k + 1, x5, x357000, x357001, x358000, x358001 => if x5 < (x357001.length : Int) then (if 0 ≤ x5 then (if x5 < (x358001.length : Int) then (if (rd x357001 x5) = (rd x358001 x5) then (cenotaphref02_Same.l0 k (wrap64 (x5 + 1)) x357000 x357001 x358000 x358001) else (some false)) else (none)) else (none)) else (some true)
end
def cenotaphref02_Same.f (k : Nat) (a0_0 : Int) (l0_1 : List Int) (a1_0 : Int) (l1_1 : List Int) : Option (Bool) := if a0_0 = a1_0 then (cenotaphref02_Same.j0 k ((l0_1.length : Int) != (l1_1.length : Int)) a0_0 l0_1 a1_0 l1_1) else (cenotaphref02_Same.j0 k true a0_0 l0_1 a1_0 l1_1)
theorem cenotaphref02_Same.mono_l : ∀ k, (∀ y0 y1 y2 y3 y4, LeO (cenotaphref02_Same.j0 k y0 y1 y2 y3 y4) (cenotaphref02_Same.j0 (k + 1) y0 y1 y2 y3 y4)) ∧ (∀ y0 y1 y2 y3 y4, LeO (cenotaphref02_Same.l0 k y0 y1 y2 y3 y4) (cenotaphref02_Same.l0 (k + 1) y0 y1 y2 y3 y4))
 | 0 => ⟨fun _ _ _ _ _ r h => by simp [cenotaphref02_Same.j0] at h, fun _ _ _ _ _ r h => by simp [cenotaphref02_Same.l0] at h⟩
 | k + 1 => by
  obtain ⟨ih0, ih1⟩ := cenotaphref02_Same.mono_l k
  refine ⟨?_, ?_⟩
  ·intro y0 y1 y2 y3 y4
   unfold cenotaphref02_Same.j0
   repeat' first
   | (with_reducible exact ih0 _ _ _ _ _)
   | (with_reducible exact ih1 _ _ _ _ _)
   | (with_reducible exact LeO.refl _)
   | (with_reducible exact LeO.none _)
   | (with_reducible refine LeO.ite ?_ ?_)
   | (with_reducible refine LeO.bind ?_ (fun _ => ?_))
   | exact ih0 _ _ _ _ _
   | exact ih1 _ _ _ _ _
   | exact LeO.none _
   | refine LeO.ite ?_ ?_
   | refine LeO.bind ?_ (fun _ => ?_)
  ·intro y0 y1 y2 y3 y4
   unfold cenotaphref02_Same.l0
   repeat' first
   | (with_reducible exact ih0 _ _ _ _ _)
   | (with_reducible exact ih1 _ _ _ _ _)
   | (with_reducible exact LeO.refl _)
   | (with_reducible exact LeO.none _)
   | (with_reducible refine LeO.ite ?_ ?_)
   | (with_reducible refine LeO.bind ?_ (fun _ => ?_))
   | exact ih0 _ _ _ _ _
   | exact ih1 _ _ _ _ _
   | exact LeO.none _
   | refine LeO.ite ?_ ?_
   | refine LeO.bind ?_ (fun _ => ?_)
theorem cenotaphref02_Same.mono : ∀ a0 a1 a2 a3 k, LeO (cenotaphref02_Same.f k a0 a1 a2 a3) (cenotaphref02_Same.f (k + 1) a0 a1 a2 a3) := by
 intro a0 a1 a2 a3 k
 obtain ⟨ih0, ih1⟩ := cenotaphref02_Same.mono_l k
 unfold cenotaphref02_Same.f
 repeat' first
   | (with_reducible exact ih0 _ _ _ _ _)
   | (with_reducible exact ih1 _ _ _ _ _)
   | (with_reducible exact LeO.refl _)
   | (with_reducible exact LeO.none _)
   | (with_reducible refine LeO.ite ?_ ?_)
   | (with_reducible refine LeO.bind ?_ (fun _ => ?_))
   | exact ih0 _ _ _ _ _
   | exact ih1 _ _ _ _ _
   | exact LeO.none _
   | refine LeO.ite ?_ ?_
   | refine LeO.bind ?_ (fun _ => ?_)
theorem cenotaphref02_Same.calls (k : Nat) (a0_0 : Int) (A0_1 : Option Addr) (c0_1 : Nat) (l0_1 : List Int) (a1_0 : Int) (A1_1 : Option Addr) (c1_1 : Nat) (l1_1 : List Int) (r : Bool) (w : World) (hr0_1 : Kd.C (Kd.int .i64) w A0_1 l0_1.length l0_1) (hc0_1 : l0_1.length ≤ c0_1) (hr1_1 : Kd.C (Kd.int .i64) w A1_1 l1_1.length l1_1) (hc1_1 : l1_1.length ≤ c1_1) (h : cenotaphref02_Same.f k a0_0 l0_1 a1_0 l1_1 = some r) :
  Calls Tryz.prog 40 #[.agg #[.int .i64 a0_0, .slice A0_1 l0_1.length c0_1], .agg #[.int .i64 a1_0, .slice A1_1 l1_1.length c1_1]] w fun e w' => e = .returned (.bool r) ∧ Below w.heap.size w w' := by
 have hu59 := Tryz.underlying59
 have HR0_1 := aK hr0_1
 have HC0_1 := aK hc0_1
 clear hr0_1 hc0_1
 have HR1_1 := aK hr1_1
 have HC1_1 := aK hc1_1
 clear hr1_1 hc1_1
 have HB := aK (Below.refl w.heap.size w)
 have H : (if a0_0 = a1_0 then (cenotaphref02_Same.j0 k ((l0_1.length : Int) != (l1_1.length : Int)) a0_0 l0_1 a1_0 l1_1) else (cenotaphref02_Same.j0 k true a0_0 l0_1 a1_0 l1_1)) = some r := h
 clear h
 have HC3 := aK H
 clear H
 go_enter Tryz.func40, Tryz.ntmps40
 go_upto_region 1 with (first | ((with_reducible refine gate_dst (N := 2) rfl ?_); (try (refine gate_guard (by rfl) ?_; dsimp only)); refine box_event ?hg (N := 2) ?hd (cs := #[.int .i64 a0_0, .slice A0_1 l0_1.length c0_1]) (t := 59) ?hr ?_; (case hd => rfl); (case hg => rfl); (case hr => first | (go_simp; done) | (go_simp; rfl)); intro gb356 hg w4 hbox hb; have BK356 := aK (hbox); have GW356 := aK ((zq40_3 : w.heap.size ≤ gb356)); have GE356 := aK ((zq40_3 : w.heap.size ≤ gb356)); replace HB := aK (bS zq40_5 hb); clear hb hbox hg) | ((with_reducible refine gate_dst (N := 3) rfl ?_); (try (refine gate_guard (by rfl) ?_; dsimp only)); refine box_event ?hg (N := 3) ?hd (cs := #[.int .i64 a1_0, .slice A1_1 l1_1.length c1_1]) (t := 59) ?hr ?_; (case hd => rfl); (case hg => rfl); (case hr => first | (go_simp; done) | (go_simp; rfl)); intro gb357 hg w5 hbox hb; have BK357 := aK (hbox); have GW357 := aK ((zq40_2 : w.heap.size ≤ gb357)); have GE357 := aK ((zq40_2 : w.heap.size ≤ gb357)); replace HB := aK (bS zq40_4 hb); have NB356_357 := aK ((zq40_0 : gb356 ≠ gb357)); have NB357_356 := aK ((zq40_1 : gb357 ≠ gb356)); replace BK356 := aK (bB (g := gb356) (o := .cells #[.int .i64 a0_0, .slice A0_1 l0_1.length c0_1] 59 (0, 0)) zq40_6 hb); clear hb hbox hg))
 repeat (go_quiet (first | ((with_reducible refine gate_dst (N := 2) rfl ?_); (try (refine gate_guard (by rfl) ?_; dsimp only)); refine box_event ?hg (N := 2) ?hd (cs := #[.int .i64 a0_0, .slice A0_1 l0_1.length c0_1]) (t := 59) ?hr ?_; (case hd => rfl); (case hg => rfl); (case hr => first | (go_simp; done) | (go_simp; rfl)); intro gb356 hg w4 hbox hb; have BK356 := aK (hbox); have GW356 := aK ((zq40_3 : w.heap.size ≤ gb356)); have GE356 := aK ((zq40_3 : w.heap.size ≤ gb356)); replace HB := aK (bS zq40_5 hb); clear hb hbox hg) | ((with_reducible refine gate_dst (N := 3) rfl ?_); (try (refine gate_guard (by rfl) ?_; dsimp only)); refine box_event ?hg (N := 3) ?hd (cs := #[.int .i64 a1_0, .slice A1_1 l1_1.length c1_1]) (t := 59) ?hr ?_; (case hd => rfl); (case hg => rfl); (case hr => first | (go_simp; done) | (go_simp; rfl)); intro gb357 hg w5 hbox hb; have BK357 := aK (hbox); have GW357 := aK ((zq40_2 : w.heap.size ≤ gb357)); have GE357 := aK ((zq40_2 : w.heap.size ≤ gb357)); replace HB := aK (bS zq40_4 hb); have NB356_357 := aK ((zq40_0 : gb356 ≠ gb357)); have NB357_356 := aK ((zq40_1 : gb357 ≠ gb356)); replace BK356 := aK (bB (g := gb356) (o := .cells #[.int .i64 a0_0, .slice A0_1 l0_1.length c0_1] 59 (0, 0)) zq40_6 hb); clear hb hbox hg)); go_upto_region 1 with (first | ((with_reducible refine gate_dst (N := 2) rfl ?_); (try (refine gate_guard (by rfl) ?_; dsimp only)); refine box_event ?hg (N := 2) ?hd (cs := #[.int .i64 a0_0, .slice A0_1 l0_1.length c0_1]) (t := 59) ?hr ?_; (case hd => rfl); (case hg => rfl); (case hr => first | (go_simp; done) | (go_simp; rfl)); intro gb356 hg w4 hbox hb; have BK356 := aK (hbox); have GW356 := aK ((zq40_3 : w.heap.size ≤ gb356)); have GE356 := aK ((zq40_3 : w.heap.size ≤ gb356)); replace HB := aK (bS zq40_5 hb); clear hb hbox hg) | ((with_reducible refine gate_dst (N := 3) rfl ?_); (try (refine gate_guard (by rfl) ?_; dsimp only)); refine box_event ?hg (N := 3) ?hd (cs := #[.int .i64 a1_0, .slice A1_1 l1_1.length c1_1]) (t := 59) ?hr ?_; (case hd => rfl); (case hg => rfl); (case hr => first | (go_simp; done) | (go_simp; rfl)); intro gb357 hg w5 hbox hb; have BK357 := aK (hbox); have GW357 := aK ((zq40_2 : w.heap.size ≤ gb357)); have GE357 := aK ((zq40_2 : w.heap.size ≤ gb357)); replace HB := aK (bS zq40_4 hb); have NB356_357 := aK ((zq40_0 : gb356 ≠ gb357)); have NB357_356 := aK ((zq40_1 : gb357 ≠ gb356)); replace BK356 := aK (bB (g := gb356) (o := .cells #[.int .i64 a0_0, .slice A0_1 l0_1.length c0_1] 59 (0, 0)) zq40_6 hb); clear hb hbox hg)))
 (try simp only [Act.put, lA, lB, lC])
 go_cut [19] (fun v19 wc => ∃ (kq : Nat) (x19_2 : Bool), v19 = .bool x19_2 ∧ Aside0 (cenotaphref02_Same.j0 kq x19_2 a0_0 l0_1 a1_0 l1_1 = some r) ∧ Aside0 (kq ≤ k) ∧ Aside0 (wc.heap[gb356]? = some (.cells #[.int .i64 a0_0, (.slice A0_1 l0_1.length c0_1)] 59 (0, 0))) ∧ Aside0 (wc.heap[gb357]? = some (.cells #[.int .i64 a1_0, (.slice A1_1 l1_1.length c1_1)] 59 (0, 0))) ∧ Aside0 (Below w.heap.size w wc))
 case first =>
  have H := HC3.out
  clear HC3
  by_cases c6 : a0_0 = a1_0
  ·rw [if_pos c6] at H
   have c6b0 : (a0_0 == a1_0) = true := beq_iff_eq.mpr c6
   have c6b1 : (a0_0 != a1_0) = false := bne_eq_false_iff_eq.mpr c6
   clear c6
   (first | rw [c6b0] | (simp only [i64_w, i32_w]; rw [c6b0]) | skip)
   have H' := aK H
   clear H
   have hnb7 := NB356_357.out
   have hnc7 := NB357_356.out
   have hcz8_0 : w5.cell? ⟨gb356, 0, none⟩ = some (.int .i64 a0_0) := (bC BK356.out 0).trans rfl
   have hcz8_1 : w5.cell? ⟨gb356, 1, none⟩ = some (.slice A0_1 l0_1.length c0_1) := (bC BK356.out 1).trans rfl
   have hfz8_0 := bF_ BK356.out 0
   have hfz8_1 := bF_ BK356.out 1
   have hcz9_0 : w5.cell? ⟨gb357, 0, none⟩ = some (.int .i64 a1_0) := (bC BK357.out 0).trans rfl
   have hcz9_1 : w5.cell? ⟨gb357, 1, none⟩ = some (.slice A1_1 l1_1.length c1_1) := (bC BK357.out 1).trans rfl
   have hfz9_0 := bF_ BK357.out 0
   have hfz9_1 := bF_ BK357.out 1
   go_wp2
   repeat (go_quiet (fail); try go_wp2)
   go_meet
   case rel => exact ⟨_, (((l0_1.length : Int) != (l1_1.length : Int))), zq40_8, H', ⟨by first | omega | exact Nat.le_refl _⟩, ⟨by (with_reducible repeat (first | refine blk_drewN ?_ _ | refine blk_drew ?_ | refine blk_alloc ?_ _)); exact BK356.out⟩, ⟨by (with_reducible repeat (first | refine blk_drewN ?_ _ | refine blk_drew ?_ | refine blk_alloc ?_ _)); exact BK357.out⟩, ⟨by repeat (first | (with_reducible first | exact HB.out | apply bA | apply pB | apply bW | refine below_set ?_ GE356.out | refine below_set ?_ GE357.out) | exact HB.out)⟩⟩
  ·rw [if_neg c6] at H
   have c6b0 : (a0_0 == a1_0) = false := beq_eq_false_iff_ne.mpr c6
   have c6b1 : (a0_0 != a1_0) = true := bne_iff_ne.mpr c6
   (first | rw [c6b0] | (simp only [i64_w, i32_w]; rw [c6b0]) | skip)
   have H' := aK H
   clear H
   have hnb10 := NB356_357.out
   have hnc10 := NB357_356.out
   have hcz11_0 : w5.cell? ⟨gb356, 0, none⟩ = some (.int .i64 a0_0) := (bC BK356.out 0).trans rfl
   have hcz11_1 : w5.cell? ⟨gb356, 1, none⟩ = some (.slice A0_1 l0_1.length c0_1) := (bC BK356.out 1).trans rfl
   have hfz11_0 := bF_ BK356.out 0
   have hfz11_1 := bF_ BK356.out 1
   have hcz12_0 : w5.cell? ⟨gb357, 0, none⟩ = some (.int .i64 a1_0) := (bC BK357.out 0).trans rfl
   have hcz12_1 : w5.cell? ⟨gb357, 1, none⟩ = some (.slice A1_1 l1_1.length c1_1) := (bC BK357.out 1).trans rfl
   have hfz12_0 := bF_ BK357.out 0
   have hfz12_1 := bF_ BK357.out 1
   go_wp2
   repeat (go_quiet (fail); try go_wp2)
   go_meet
   case rel => exact ⟨_, (true), zq40_8, H', ⟨by first | omega | exact Nat.le_refl _⟩, ⟨by (with_reducible repeat (first | refine blk_drewN ?_ _ | refine blk_drew ?_ | refine blk_alloc ?_ _)); exact BK356.out⟩, ⟨by (with_reducible repeat (first | refine blk_drewN ?_ _ | refine blk_drew ?_ | refine blk_alloc ?_ _)); exact BK357.out⟩, ⟨by repeat (first | (with_reducible first | exact HB.out | apply bA | apply pB | apply bW | refine below_set ?_ GE356.out | refine below_set ?_ GE357.out) | exact HB.out)⟩⟩
 case rest =>
  clear HC3
  try clear c1
  try clear p2
  try clear c4
  try clear c6
  try clear c6b0
  try clear c6b1
  try clear c7
  try clear c10
  try clear hcz11_0
  try clear hcz11_1
  try clear hcz12_0
  try clear hcz12_1
  try clear hcz8_0
  try clear hcz8_1
  try clear hcz9_0
  try clear hcz9_1
  try clear hfz11_0
  try clear hfz11_1
  try clear hfz12_0
  try clear hfz12_1
  try clear hfz8_0
  try clear hfz8_1
  try clear hfz9_0
  try clear hfz9_1
  obtain ⟨kq, x19_2, rfl, HA, HJ2, BK356, BK357, HB⟩ := hcut
  cases kq with
  | zero => exact absurd HA.out (by simp [cenotaphref02_Same.j0])
  | succ kj2 =>
   have H := HA.out
   clear HA
   simp only [cenotaphref02_Same.j0] at H
   by_cases c13 : x19_2 = true
   ·subst c13
    have H1 : (some false) = some r := by rw [if_pos rfl] at H; exact H
    clear H
    have H := H1
    clear H1
    obtain rfl := sI H
    go_wp2
    repeat (go_quiet (fail); try go_wp2)
    go_ret
    exact ⟨by first | rfl | (simp [errW_none, errW_some] <;> rfl) | (simp [*, errW_none, errW_some] <;> rfl), by repeat (first | (with_reducible first | exact HB.out | apply bA | apply pB | apply bW | refine below_set ?_ GE356.out | refine below_set ?_ GE357.out) | exact HB.out)⟩
   ·replace c13 := Bool.eq_false_iff.mpr c13
    subst c13
    have H1 : (cenotaphref02_Same.l0 kj2 0 a0_0 l0_1 a1_0 l1_1) = some r := by rw [if_neg (show ¬ (false = true) by decide)] at H; exact H
    clear H
    have H := H1
    clear H1
    have H' := aK H
    clear H
    go_wp2
    repeat (go_quiet (fail); try go_wp2)
    go_loopg [5] kj2 (fun kq v5 w' => ∃ (x5_2 : Int), v5 = .int .i64 x5_2 ∧ Aside0 (cenotaphref02_Same.l0 kq x5_2 a0_0 l0_1 a1_0 l1_1 = some r) ∧ Aside0 (kq ≤ kj2) ∧ Aside0 (w'.heap[gb356]? = some (.cells #[.int .i64 a0_0, (.slice A0_1 l0_1.length c0_1)] 59 (0, 0))) ∧ Aside0 (w'.heap[gb357]? = some (.cells #[.int .i64 a1_0, (.slice A1_1 l1_1.length c1_1)] 59 (0, 0))) ∧ Aside0 (Below w.heap.size w w'))
    case atStart => exact ⟨(0), zq40_8, H', ⟨Nat.le_refl _⟩, ⟨by (with_reducible repeat (first | refine blk_drewN ?_ _ | refine blk_drew ?_ | refine blk_alloc ?_ _)); exact BK356.out⟩, ⟨by (with_reducible repeat (first | refine blk_drewN ?_ _ | refine blk_drew ?_ | refine blk_alloc ?_ _)); exact BK357.out⟩, ⟨by repeat (first | (with_reducible first | exact HB.out | apply bA | apply pB | apply bW | refine below_set ?_ GE356.out | refine below_set ?_ GE357.out) | exact HB.out)⟩⟩
    case round =>
     clear H'
     try clear c1
     try clear p2
     try clear c4
     try clear c6
     try clear c6b0
     try clear c6b1
     try clear c7
     try clear c10
     try clear c13
     try clear hcz11_0
     try clear hcz11_1
     try clear hcz12_0
     try clear hcz12_1
     try clear hcz8_0
     try clear hcz8_1
     try clear hcz9_0
     try clear hcz9_1
     try clear hfz11_0
     try clear hfz11_1
     try clear hfz12_0
     try clear hfz12_1
     try clear hfz8_0
     try clear hfz8_1
     try clear hfz9_0
     try clear hfz9_1
     try clear p2
     obtain ⟨x5_2, rfl, HA, HK2, BK356, BK357, HB⟩ := hrel
     cases gk with
     | zero => exact absurd HA.out (by simp [cenotaphref02_Same.l0])
     | succ k2 =>
      have H := HA.out
      clear HA
      simp only [cenotaphref02_Same.l0] at H
      by_cases c14 : x5_2 < (l0_1.length : Int)
      ·rw [if_pos c14] at H
       have c14b0 : decide (x5_2 < (l0_1.length : Int)) = true := dT c14
       clear c14
       by_cases c15 : 0 ≤ x5_2
       ·rw [if_pos c15] at H
        have c15b0 : decide (0 ≤ x5_2) = true := dT c15
        clear c15
        by_cases c16 : x5_2 < (l1_1.length : Int)
        ·rw [if_pos c16] at H
         have c16b0 : decide (x5_2 < (l1_1.length : Int)) = true := dT c16
         clear c16
         by_cases c17 : (rd l0_1 x5_2) = (rd l1_1 x5_2)
         ·rw [if_pos c17] at H
          have c17b0 : ((rd l0_1 x5_2) == (rd l1_1 x5_2)) = true := beq_iff_eq.mpr c17
          have c17b1 : ((rd l0_1 x5_2) != (rd l1_1 x5_2)) = false := bne_eq_false_iff_eq.mpr c17
          clear c17
          have H' := aK H
          clear H
          have hnb18 := NB356_357.out
          have hnc18 := NB357_356.out
          have hcz19_0 : wr.cell? ⟨gb356, 0, none⟩ = some (.int .i64 a0_0) := (bC BK356.out 0).trans rfl
          have hcz19_1 : wr.cell? ⟨gb356, 1, none⟩ = some (.slice A0_1 l0_1.length c0_1) := (bC BK356.out 1).trans rfl
          have hfz19_0 := bF_ BK356.out 0
          have hfz19_1 := bF_ BK356.out 1
          have p358 : 0 ≤ (x5_2 : Int) := oD zq40_7
          have q358 : x5_2 < (l0_1.length : Int) := oD zq40_7
          obtain ⟨ad358, e358, hx358_0⟩ := Kd.at_int HR0_1.out x5_2 p358 q358
          cases e358
          replace hx358_0 := pc_ HB hx358_0
          replace p358 := eT p358
          replace q358 := eT q358
          have hcz20_0 : wr.cell? ⟨gb357, 0, none⟩ = some (.int .i64 a1_0) := (bC BK357.out 0).trans rfl
          have hcz20_1 : wr.cell? ⟨gb357, 1, none⟩ = some (.slice A1_1 l1_1.length c1_1) := (bC BK357.out 1).trans rfl
          have hfz20_0 := bF_ BK357.out 0
          have hfz20_1 := bF_ BK357.out 1
          have p359 : 0 ≤ (x5_2 : Int) := oD zq40_7
          have q359 : x5_2 < (l1_1.length : Int) := oD zq40_7
          obtain ⟨ad359, e359, hx359_0⟩ := Kd.at_int HR1_1.out x5_2 p359 q359
          cases e359
          replace hx359_0 := pc_ HB hx359_0
          replace p359 := eT p359
          replace q359 := eT q359
          go_wp2
          repeat (go_quiet (fail); try go_wp2)
          go_roundg k2
          case measure => have := HJ2.out; have := HK2.out; omega
          case rel => exact ⟨(wrap64 (x5_2 + 1)), zq40_8, H', ⟨by have := HJ2.out; have := HK2.out; omega⟩, ⟨by (with_reducible repeat (first | refine blk_drewN ?_ _ | refine blk_drew ?_ | refine blk_alloc ?_ _)); exact BK356.out⟩, ⟨by (with_reducible repeat (first | refine blk_drewN ?_ _ | refine blk_drew ?_ | refine blk_alloc ?_ _)); exact BK357.out⟩, ⟨by repeat (first | (with_reducible first | exact HB.out | apply bA | apply pB | apply bW | refine below_set ?_ GE356.out | refine below_set ?_ GE357.out) | exact HB.out)⟩⟩
         ·rw [if_neg c17] at H
          have c17b0 : ((rd l0_1 x5_2) == (rd l1_1 x5_2)) = false := beq_eq_false_iff_ne.mpr c17
          have c17b1 : ((rd l0_1 x5_2) != (rd l1_1 x5_2)) = true := bne_iff_ne.mpr c17
          obtain rfl := sI H
          have hnb21 := NB356_357.out
          have hnc21 := NB357_356.out
          have hcz22_0 : wr.cell? ⟨gb356, 0, none⟩ = some (.int .i64 a0_0) := (bC BK356.out 0).trans rfl
          have hcz22_1 : wr.cell? ⟨gb356, 1, none⟩ = some (.slice A0_1 l0_1.length c0_1) := (bC BK356.out 1).trans rfl
          have hfz22_0 := bF_ BK356.out 0
          have hfz22_1 := bF_ BK356.out 1
          have p358 : 0 ≤ (x5_2 : Int) := oD zq40_7
          have q358 : x5_2 < (l0_1.length : Int) := oD zq40_7
          obtain ⟨ad358, e358, hx358_0⟩ := Kd.at_int HR0_1.out x5_2 p358 q358
          cases e358
          replace hx358_0 := pc_ HB hx358_0
          replace p358 := eT p358
          replace q358 := eT q358
          have hcz23_0 : wr.cell? ⟨gb357, 0, none⟩ = some (.int .i64 a1_0) := (bC BK357.out 0).trans rfl
          have hcz23_1 : wr.cell? ⟨gb357, 1, none⟩ = some (.slice A1_1 l1_1.length c1_1) := (bC BK357.out 1).trans rfl
          have hfz23_0 := bF_ BK357.out 0
          have hfz23_1 := bF_ BK357.out 1
          have p359 : 0 ≤ (x5_2 : Int) := oD zq40_7
          have q359 : x5_2 < (l1_1.length : Int) := oD zq40_7
          obtain ⟨ad359, e359, hx359_0⟩ := Kd.at_int HR1_1.out x5_2 p359 q359
          cases e359
          replace hx359_0 := pc_ HB hx359_0
          replace p359 := eT p359
          replace q359 := eT q359
          go_wp2
          repeat (go_quiet (fail); try go_wp2)
          go_ret
          exact ⟨by first | rfl | (simp [errW_none, errW_some] <;> rfl) | (simp [*, errW_none, errW_some] <;> rfl), by repeat (first | (with_reducible first | exact HB.out | apply bA | apply pB | apply bW | refine below_set ?_ GE356.out | refine below_set ?_ GE357.out) | exact HB.out)⟩
        ·rw [if_neg c16] at H
         exact absurd H (by simp)
       ·rw [if_neg c15] at H
        exact absurd H (by simp)
      ·rw [if_neg c14] at H
       have c14b0 : decide (x5_2 < (l0_1.length : Int)) = false := decide_eq_false c14
       clear c14
       obtain rfl := sI H
       have hnb24 := NB356_357.out
       have hnc24 := NB357_356.out
       have hcz25_0 : wr.cell? ⟨gb356, 0, none⟩ = some (.int .i64 a0_0) := (bC BK356.out 0).trans rfl
       have hcz25_1 : wr.cell? ⟨gb356, 1, none⟩ = some (.slice A0_1 l0_1.length c0_1) := (bC BK356.out 1).trans rfl
       have hfz25_0 := bF_ BK356.out 0
       have hfz25_1 := bF_ BK356.out 1
       go_wp2
       repeat (go_quiet (fail); try go_wp2)
       go_ret
       exact ⟨by first | rfl | (simp [errW_none, errW_some] <;> rfl) | (simp [*, errW_none, errW_some] <;> rfl), by repeat (first | (with_reducible first | exact HB.out | apply bA | apply pB | apply bW | refine below_set ?_ GE356.out | refine below_set ?_ GE357.out) | exact HB.out)⟩
end Go.Proofs.YtkfehkaiifjkmaaGreat.P
