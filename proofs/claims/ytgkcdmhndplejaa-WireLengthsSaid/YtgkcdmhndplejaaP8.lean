-- Written by a program of this session (wip/pp.py over the kit's printer, with our own texts put in).
import Derived.Test.YtgkcdmhndplejaaP0
import Derived.Test.YtgkcdmhndplejaaP1
namespace Go.Proofs.Ytgkcdmhndplejaa.P
open Go.RowKit Go.Proofs.YtgkcdmhndplejaaW.PrintWords Go.Proofs.YtgkcdmhndplejaaW.PrintLast Go.Proofs.YtgkcdmhndplejaaW.PrintMore
attribute [local go_sem] max2_int min2_int max_two min_two max_three min_three max_four min_four   -- for this text's walks alone
set_option linter.unusedVariables false
set_option linter.unusedSimpArgs false

/-! ### cenotaphlaw06_WireLengths: function 7 -/
theorem zq7_0 {p_ : Prop} (h_ : p_ := by (try simp only [List.map_toArray, List.map_cons, List.map_nil]); first | done | rfl | (simp only [List.length_drop, List.length_take]; rfl)) : p_ := h_
theorem zq7_1 {p_ : Prop} (h_ : p_ := by repeat (first | (with_reducible first | exact HB.out | apply below_alloc | apply pw_below_drewN | apply below_drew1) | exact HB.out)) : p_ := h_
theorem zq7_2 {p_ : Prop} (h_ : p_ := by (with_reducible repeat (first | apply Kd.R_alloc | apply Kd.R_drewN | apply Kd.R_drew)); exact HO185.out) : p_ := h_
theorem zq7_3 {p_ : Prop} (h_ : p_ := by (with_reducible repeat (first | apply Kd.R_alloc | apply Kd.R_drewN | apply Kd.R_drew)); exact HO188.out) : p_ := h_
theorem zq7_4 {p_ : Prop} (h_ : p_ := by (with_reducible repeat (first | apply Kd.R_alloc | apply Kd.R_drewN | apply Kd.R_drew)); exact HO196.out) : p_ := h_
theorem zq7_5 {p_ : Prop} (h_ : p_ := by (with_reducible repeat (first | apply Kd.R_alloc | apply Kd.R_drewN | apply Kd.R_drew)); exact HO199.out) : p_ := h_
theorem zq7_6 {p_ : Prop} (h_ : p_ := by first | rfl | (simp; done) | (simp [*]; done)) : p_ := h_
def cenotaphlaw06_WireLengths.l0 : Nat → Int → ByteArray → Int → Int → Option (Bool)
 | 0, _, _, _, _ => none
 | k + 1, x0, x1, x5, x6 => if x6 ≥ 128 then (cenotaphlaw06_WireLengths.l0 k x0 x1 (wrap64 (x5 + 1)) (wrap64 (Int.tdiv x6 128))) else (if (x1.size : Int) > 5000 then ((cenotaphlaw06_told.f).bind fun t182 => (some t182)) else (if (x1.size : Int) ≥ 128 then ((wire_Put.f k (([9] : List Int)) x0).bind fun t186 => ((wire_PutText.f k ([] : List Int) x1).bind fun t189 => ((cenotaphlaw06_told.f).bind fun t192 => (if t192 = true then (if (t186.length : Int) = (wrap64 (1 + x5)) then (if 0 < (t186.length : Int) then (if (rd t186 0) = 9 then (some ((t189.length : Int) == (wrap64 (2 + (x1.size : Int))))) else (none)) else (none)) else (none)) else (none))))) else ((wire_Put.f k (([9] : List Int)) x0).bind fun t197 => ((wire_PutText.f k ([] : List Int) x1).bind fun t200 => ((cenotaphlaw06_told.f).bind fun t203 => (if t203 = true then (if (t197.length : Int) = (wrap64 (1 + x5)) then (if 0 < (t197.length : Int) then (if (rd t197 0) = 9 then (some ((t200.length : Int) == (wrap64 (1 + (x1.size : Int))))) else (none)) else (none)) else (none)) else (none)))))))
def cenotaphlaw06_WireLengths.f (k : Nat) (a0 : Int) (a1 : ByteArray) : Option (Bool) := cenotaphlaw06_WireLengths.l0 k a0 a1 1 (mx a0 0)
theorem cenotaphlaw06_WireLengths.mono_l : ∀ k, (∀ y0 y1 y2 y3, LeO (cenotaphlaw06_WireLengths.l0 k y0 y1 y2 y3) (cenotaphlaw06_WireLengths.l0 (k + 1) y0 y1 y2 y3))
 | 0 => fun _ _ _ _ r h => by simp [cenotaphlaw06_WireLengths.l0] at h
 | k + 1 => by
  have ih0 := cenotaphlaw06_WireLengths.mono_l k
  ·intro y0 y1 y2 y3
   unfold cenotaphlaw06_WireLengths.l0
   repeat' first
   | (with_reducible exact ih0 _ _ _ _)
   | (with_reducible exact wire_Put.mono _ _ _)
   | (with_reducible exact wire_PutText.mono _ _ _)
   | (with_reducible exact LeO.refl _)
   | (with_reducible exact LeO.none _)
   | (with_reducible refine LeO.ite ?_ ?_)
   | (with_reducible refine LeO.bind ?_ (fun _ => ?_))
   | exact ih0 _ _ _ _
   | exact wire_Put.mono _ _ _
   | exact wire_PutText.mono _ _ _
   | exact LeO.none _
   | refine LeO.ite ?_ ?_
   | refine LeO.bind ?_ (fun _ => ?_)
theorem cenotaphlaw06_WireLengths.mono : ∀ a0 a1 k, LeO (cenotaphlaw06_WireLengths.f k a0 a1) (cenotaphlaw06_WireLengths.f (k + 1) a0 a1) := by
 intro a0 a1 k
 have ih0 := cenotaphlaw06_WireLengths.mono_l k
 unfold cenotaphlaw06_WireLengths.f
 repeat' first
   | (with_reducible exact ih0 _ _ _ _)
   | (with_reducible exact wire_Put.mono _ _ _)
   | (with_reducible exact wire_PutText.mono _ _ _)
   | (with_reducible exact LeO.refl _)
   | (with_reducible exact LeO.none _)
   | (with_reducible refine LeO.ite ?_ ?_)
   | (with_reducible refine LeO.bind ?_ (fun _ => ?_))
   | exact ih0 _ _ _ _
   | exact wire_Put.mono _ _ _
   | exact wire_PutText.mono _ _ _
   | exact LeO.none _
   | refine LeO.ite ?_ ?_
   | refine LeO.bind ?_ (fun _ => ?_)
set_option maxHeartbeats 8000000 in
set_option maxRecDepth 100000 in
theorem cenotaphlaw06_WireLengths.calls (k : Nat) (a0 : Int) (a1 : ByteArray) (r : Bool) (w : World) (h : cenotaphlaw06_WireLengths.f k a0 a1 = some r) :
  Calls Try.prog 7 #[.int .i64 a0, .string a1] w fun e w' => e = .returned (.bool r) ∧ Below w.heap.size w w' := by
 have HB := Aside0.mk (Below.refl w.heap.size w)
 have H : (cenotaphlaw06_WireLengths.l0 k a0 a1 1 (mx a0 0)) = some r := h
 clear h
 obtain ⟨ji3, hji3⟩ : ∃ j_ : Int, (mx a0 0) = j_ := ⟨_, rfl⟩
 replace H : (cenotaphlaw06_WireLengths.l0 k a0 a1 1 ji3) = some r := by first | (rw [hji3] at H; exact H) | (simp only [hji3] at H ⊢; exact H)
 (try (have hji3l : 0 ≤ ji3 := by (rw [← hji3]; unfold mx; (repeat' split) <;> omega)))
 (try (have hji3m : 0 ≤ ji3 := by omega))
 have hji3_ : (if a0 < 0 then 0 else a0) = ji3 := hji3
 have H' := Aside0.mk H
 clear H
 go_enter Try.func7, Try.ntmps7
 go_wp2
 go_loopg [5, 6] k (fun kq v5 v6 w' => ∃ (x5_1 : Int) (x6_1 : Int), v5 = .int .i64 x5_1 ∧ v6 = .int .i64 x6_1 ∧ Aside0 (cenotaphlaw06_WireLengths.l0 kq a0 a1 x5_1 x6_1 = some r) ∧ Aside0 (kq ≤ k) ∧ Aside0 (Below w.heap.size w w'))
 case atStart => exact ⟨(1), (ji3), zq7_6, (by first | rfl | (simp; done) | (simp only [← hji3] <;> (first | rfl | simp)) | (simp [*]; done)), H', ⟨Nat.le_refl _⟩, ⟨by repeat (first | (with_reducible first | exact HB.out | apply below_alloc | apply pw_below_drewN | apply below_drew1) | exact HB.out)⟩⟩
 case round =>
  clear H'
  try clear p2
  obtain ⟨x5_1, x6_1, rfl, rfl, HA, HK1, HB⟩ := hrel
  cases gk with
  | zero => exact absurd HA.out (by simp [cenotaphlaw06_WireLengths.l0])
  | succ k1 =>
   have H := HA.out
   clear HA
   simp only [cenotaphlaw06_WireLengths.l0] at H
   by_cases c4 : x6_1 ≥ 128
   ·rw [if_pos c4] at H
    have c4b0 : decide (128 ≤ x6_1) = true := decide_eq_true c4
    clear c4
    have H' := Aside0.mk H
    clear H
    go_wp2
    go_roundg k1
    case measure => have := HK1.out; omega
    case rel => exact ⟨(wrap64 (x5_1 + 1)), (wrap64 (Int.tdiv x6_1 128)), zq7_6, zq7_6, H', ⟨by have := HK1.out; omega⟩, ⟨by repeat (first | (with_reducible first | exact HB.out | apply below_alloc | apply pw_below_drewN | apply below_drew1) | exact HB.out)⟩⟩
   ·rw [if_neg c4] at H
    have c4b0 : decide (128 ≤ x6_1) = false := decide_eq_false c4
    clear c4
    by_cases c5 : (a1.size : Int) > 5000
    ·rw [if_pos c5] at H
     have c5b0 : decide (5000 < (a1.size : Int)) = true := decide_eq_true c5
     have c5b1 : decide (5000 < a1.size) = true := decide_eq_true (by omega)
     clear c5
     replace H := Option.bind_eq_some_iff.mp H
     obtain ⟨t182, A60, H⟩ := H
     replace H : (some t182) = some r := H
     have A6 := Aside0.mk A60
     clear A60
     obtain rfl := Option.some.inj H
     go_wp2_with (first | ((with_reducible refine gate_callee (f := 10) rfl ?_); refine goesL_ (some 21) rfl rfl Try.func10 (by kernel_rfl) rfl #[] rfl zq7_0 ?_; (with_reducible refine (cenotaphlaw06_told.calls  t182 _ A6.out).mono ?_); rintro e w7 ⟨rfl, hb⟩; refine ⟨_, rfl, ?_⟩; have n0_ := Aside0.mk (below_step zq7_1 hb); clear HB; have HB := n0_; clear n0_; (try clear hb); (try clear hb2); (try clear hk); (try clear hi)))
     go_ret
     exact ⟨by first | rfl | (simp [errW_none, errW_some] <;> rfl) | (simp only [← hji3]; first | rfl | (simp [errW_none, errW_some] <;> rfl)) | (simp [*, errW_none, errW_some] <;> rfl), by repeat (first | (with_reducible first | exact HB.out | apply below_alloc | apply pw_below_drewN | apply below_drew1) | exact HB.out)⟩
    ·rw [if_neg c5] at H
     have c5b0 : decide (5000 < (a1.size : Int)) = false := decide_eq_false c5
     have c5b1 : decide (5000 < a1.size) = false := decide_eq_false (by omega)
     clear c5
     by_cases c8 : (a1.size : Int) ≥ 128
     ·rw [if_pos c8] at H
      have c8b0 : decide (128 ≤ (a1.size : Int)) = true := decide_eq_true c8
      have c8b1 : decide (128 ≤ a1.size) = true := decide_eq_true (by omega)
      clear c8
      obtain ⟨y183, hy183⟩ : ∃ y_ : List Int, y_ = (([9] : List Int)) := ⟨_, rfl⟩
      replace H : ((wire_Put.f k1 y183 a0).bind fun t186 => ((wire_PutText.f k1 ([] : List Int) a1).bind fun t189 => ((cenotaphlaw06_told.f).bind fun t192 => (if t192 = true then (if (t186.length : Int) = (wrap64 (1 + x5_1)) then (if 0 < (t186.length : Int) then (if (rd t186 0) = 9 then (some ((t189.length : Int) == (wrap64 (2 + (a1.size : Int))))) else (none)) else (none)) else (none)) else (none))))) = some r := by first | (rw [hy183]; with_reducible exact H) | (have H2_ := (Option.bind_some _ _).symm.trans H; rw [hy183]; with_reducible exact H2_) | (have H2_ := (Option.bind_some _ _).symm.trans H; with_reducible exact H2_) | with_reducible exact H | (rw [hy183]; exact H) | exact H
      have Ny183 := Aside0.mk hy183
      clear hy183
      replace H := Option.bind_eq_some_iff.mp H
      obtain ⟨t186, A90, H⟩ := H
      replace H : ((wire_PutText.f k1 ([] : List Int) a1).bind fun t189 => ((cenotaphlaw06_told.f).bind fun t192 => (if t192 = true then (if (t186.length : Int) = (wrap64 (1 + x5_1)) then (if 0 < (t186.length : Int) then (if (rd t186 0) = 9 then (some ((t189.length : Int) == (wrap64 (2 + (a1.size : Int))))) else (none)) else (none)) else (none)) else (none)))) = some r := H
      have A9 := Aside0.mk A90
      clear A90
      replace H := Option.bind_eq_some_iff.mp H
      obtain ⟨t189, A100, H⟩ := H
      replace H : ((cenotaphlaw06_told.f).bind fun t192 => (if t192 = true then (if (t186.length : Int) = (wrap64 (1 + x5_1)) then (if 0 < (t186.length : Int) then (if (rd t186 0) = 9 then (some ((t189.length : Int) == (wrap64 (2 + (a1.size : Int))))) else (none)) else (none)) else (none)) else (none))) = some r := H
      have A10 := Aside0.mk A100
      clear A100
      replace H := Option.bind_eq_some_iff.mp H
      obtain ⟨t192, A110, H⟩ := H
      replace H : (if t192 = true then (if (t186.length : Int) = (wrap64 (1 + x5_1)) then (if 0 < (t186.length : Int) then (if (rd t186 0) = 9 then (some ((t189.length : Int) == (wrap64 (2 + (a1.size : Int))))) else (none)) else (none)) else (none)) else (none)) = some r := H
      have A11 := Aside0.mk A110
      clear A110
      by_cases c12 : t192 = true
      ·subst c12
       have H1 : (if (t186.length : Int) = (wrap64 (1 + x5_1)) then (if 0 < (t186.length : Int) then (if (rd t186 0) = 9 then (some ((t189.length : Int) == (wrap64 (2 + (a1.size : Int))))) else (none)) else (none)) else (none)) = some r := by rw [if_pos rfl] at H; exact H
       clear H
       have H := H1
       clear H1
       by_cases c13 : (t186.length : Int) = (wrap64 (1 + x5_1))
       ·rw [if_pos c13] at H
        have c13b0 : ((t186.length : Int) == (wrap64 (1 + x5_1))) = true := beq_iff_eq.mpr c13
        have c13b1 : ((t186.length : Int) != (wrap64 (1 + x5_1))) = false := bne_eq_false_iff_eq.mpr c13
        clear c13
        by_cases c14 : 0 < (t186.length : Int)
        ·rw [if_pos c14] at H
         have c14b0 : decide (0 < (t186.length : Int)) = true := decide_eq_true c14
         have c14b1 : decide (0 < t186.length) = true := decide_eq_true (by omega)
         clear c14
         by_cases c15 : (rd t186 0) = 9
         ·rw [if_pos c15] at H
          have c15b0 : ((rd t186 0) == 9) = true := beq_iff_eq.mpr c15
          have c15b1 : ((rd t186 0) != 9) = false := bne_eq_false_iff_eq.mpr c15
          clear c15
          obtain rfl := Option.some.inj H
          go_wp2_with (first | ((with_reducible refine gate_dst (N := 25) rfl ?_); (try (refine gate_guard (by rfl) ?_; dsimp only)); refine Kd.R_lit (Kd.int .u8) _ 5 ?hg (N := 25) ?hd (xs := ([9] : List Int)) (inner := [.int .u8 9]) (ok := fun _ => True) (okp := fun _ => True) ?hr ?hp (fun _ hk => hk) trivial (Below.refl _ _) (Nat.le_refl _) (by simp) ?_; (case hd => rfl); (case hg => rfl); (case hr => first | (go_simp; done) | (go_simp; rfl)); (case hp => exact (Reps.one (show Kd.M (Kd.int .u8) _ _ _ 9 [.int .u8 9] from rfl) (Reps.none _ _))); intro v184 w16 ho17 hb hg_ hnew_; clear hg_ hnew_; (first | rw [← Ny183.out] at ho17 | (simp only [Int.reduceToNat] at ho17; rw [← Ny183.out] at ho17)); have n0_ := Aside0.mk (Kd.R_lower ho17 (below_size zq7_1)); have n1_ := Aside0.mk (below_step zq7_1 hb); clear HB; have HO185 := n0_; have HB := n1_; clear n0_ n1_; clear hb ho17; obtain ⟨Ao18, co18, eo18⟩ := Kd.R_slice HO185.out; subst eo18) | ((with_reducible refine gate_callee (f := 19) rfl ?_); refine goesL_ (some 27) rfl rfl Try.func19 (by kernel_rfl) rfl #[.slice Ao18 y183.length co18, .int .i64 a0] rfl zq7_0 ?_; (with_reducible refine (wire_Put.calls k1 _ _ y183 a0 t186 _ ?side1 ?side2 A9.out).mono ?_); (case side1 => repeat (first | exact (Kd.R_reads' HO185.out).2.2 | (with_reducible refine Kd.C_alloc ?_ _) | (with_reducible refine Kd.C_drewN ?_ _) | (with_reducible refine Kd.C_drew ?_))); (case side2 => exact (Kd.R_reads' HO185.out).2.1); rintro e w19 ⟨v187, rfl, ho0, hb⟩; refine ⟨_, rfl, ?_⟩; have n0_ := Aside0.mk (Kd.R_elder' zq7_2 (Kd.R_base ho0) hb); have n1_ := Aside0.mk (Kd.R_lower (Kd.R_new' ho0 (Kd.R_lt zq7_2)) (below_size zq7_1)); have n2_ := Aside0.mk (below_step zq7_1 hb); clear HO185; clear HB; have HO185 := n0_; have HO188 := n1_; have HB := n2_; clear n0_ n1_ n2_; (try clear hb); (try clear hb2); (try clear hk); (try clear hi); (try clear ho0)) | ((with_reducible refine gate_callee (f := 21) rfl ?_); refine goesL_ (some 29) rfl rfl Try.func21 (by kernel_rfl) rfl #[.slice none 0 0, .string a1] rfl zq7_0 ?_; (refine (wire_PutText.calls k1 _ _ ([] : List Int) a1 t189 _ ?side1 ?side2 A10.out).mono ?_); (case side1 => exact Kd.C_nil _ _); (case side2 => exact Nat.le_refl _); rintro e w20 ⟨v190, rfl, ho0, hb⟩; refine ⟨_, rfl, ?_⟩; have n0_ := Aside0.mk (Kd.R_elder' zq7_2 (Kd.R_base ho0) hb); have n1_ := Aside0.mk (Kd.R_elder' zq7_3 (Kd.R_base ho0) hb); have n2_ := Aside0.mk (Kd.R_lower (Kd.R_new' (Kd.R_new' ho0 (Kd.R_lt zq7_2)) (Kd.R_lt zq7_3)) (below_size zq7_1)); have n3_ := Aside0.mk (below_step zq7_1 hb); clear HO185; clear HO188; clear HB; have HO185 := n0_; have HO188 := n1_; have HO191 := n2_; have HB := n3_; clear n0_ n1_ n2_ n3_; (try clear hb); (try clear hb2); (try clear hk); (try clear hi); (try clear ho0)) | ((with_reducible refine gate_callee (f := 10) rfl ?_); refine goesL_ (some 30) rfl rfl Try.func10 (by kernel_rfl) rfl #[] rfl zq7_0 ?_; (with_reducible refine (cenotaphlaw06_told.calls  true _ A11.out).mono ?_); rintro e w21 ⟨rfl, hb⟩; refine ⟨_, rfl, ?_⟩; have n0_ := Aside0.mk (Kd.R_below zq7_2 hb); have n1_ := Aside0.mk (Kd.R_below zq7_3 hb); have n2_ := Aside0.mk (Kd.R_below (by (with_reducible repeat (first | apply Kd.R_alloc | apply Kd.R_drewN | apply Kd.R_drew)); exact HO191.out) hb); have n3_ := Aside0.mk (below_step zq7_1 hb); clear HO185; clear HO188; clear HO191; clear HB; have HO185 := n0_; have HO188 := n1_; have HO191 := n2_; have HB := n3_; clear n0_ n1_ n2_ n3_; (try clear hb); (try clear hb2); (try clear hk); (try clear hi); obtain ⟨Ao22, co22, eo22⟩ := Kd.R_slice HO188.out; subst eo22; have p193 : 0 ≤ (0 : Int) := (by omega); have q193 : 0 < (t186.length : Int) := of_decide_eq_true (by first | (with_reducible assumption) | assumption); obtain ⟨ad193, e193, hx193_0⟩ := Kd.at_int (Kd.R_reads' HO188.out).2.2 0 p193 q193; cases e193; have qi193 : (0 < t186.length) = True := eq_true (by omega); (try rw [show ((0 : Int)).toNat = 0 from rfl] at hx193_0); (try rw [Addr.add_zero'] at hx193_0); replace p193 := eq_true p193; replace q193 := eq_true q193; obtain ⟨Ao23, co23, eo23⟩ := Kd.R_slice HO191.out; subst eo23))
          go_ret
          exact ⟨by first | rfl | (simp [errW_none, errW_some] <;> rfl) | (simp only [← hji3]; first | rfl | (simp [errW_none, errW_some] <;> rfl)) | (simp [*, errW_none, errW_some] <;> rfl), by repeat (first | (with_reducible first | exact HB.out | apply below_alloc | apply pw_below_drewN | apply below_drew1) | exact HB.out)⟩
         ·rw [if_neg c15] at H
          exact absurd H (by simp)
        ·rw [if_neg c14] at H
         exact absurd H (by simp)
       ·rw [if_neg c13] at H
        exact absurd H (by simp)
      ·replace c12 := Bool.eq_false_iff.mpr c12
       subst c12
       have H1 : (none) = some r := by rw [if_neg (show ¬ (false = true) by decide)] at H; exact H
       clear H
       have H := H1
       clear H1
       exact absurd H (by simp)
     ·rw [if_neg c8] at H
      have c8b0 : decide (128 ≤ (a1.size : Int)) = false := decide_eq_false c8
      have c8b1 : decide (128 ≤ a1.size) = false := decide_eq_false (by omega)
      clear c8
      obtain ⟨y194, hy194⟩ : ∃ y_ : List Int, y_ = (([9] : List Int)) := ⟨_, rfl⟩
      replace H : ((wire_Put.f k1 y194 a0).bind fun t197 => ((wire_PutText.f k1 ([] : List Int) a1).bind fun t200 => ((cenotaphlaw06_told.f).bind fun t203 => (if t203 = true then (if (t197.length : Int) = (wrap64 (1 + x5_1)) then (if 0 < (t197.length : Int) then (if (rd t197 0) = 9 then (some ((t200.length : Int) == (wrap64 (1 + (a1.size : Int))))) else (none)) else (none)) else (none)) else (none))))) = some r := by first | (rw [hy194]; with_reducible exact H) | (have H2_ := (Option.bind_some _ _).symm.trans H; rw [hy194]; with_reducible exact H2_) | (have H2_ := (Option.bind_some _ _).symm.trans H; with_reducible exact H2_) | with_reducible exact H | (rw [hy194]; exact H) | exact H
      have Ny194 := Aside0.mk hy194
      clear hy194
      replace H := Option.bind_eq_some_iff.mp H
      obtain ⟨t197, A240, H⟩ := H
      replace H : ((wire_PutText.f k1 ([] : List Int) a1).bind fun t200 => ((cenotaphlaw06_told.f).bind fun t203 => (if t203 = true then (if (t197.length : Int) = (wrap64 (1 + x5_1)) then (if 0 < (t197.length : Int) then (if (rd t197 0) = 9 then (some ((t200.length : Int) == (wrap64 (1 + (a1.size : Int))))) else (none)) else (none)) else (none)) else (none)))) = some r := H
      have A24 := Aside0.mk A240
      clear A240
      replace H := Option.bind_eq_some_iff.mp H
      obtain ⟨t200, A250, H⟩ := H
      replace H : ((cenotaphlaw06_told.f).bind fun t203 => (if t203 = true then (if (t197.length : Int) = (wrap64 (1 + x5_1)) then (if 0 < (t197.length : Int) then (if (rd t197 0) = 9 then (some ((t200.length : Int) == (wrap64 (1 + (a1.size : Int))))) else (none)) else (none)) else (none)) else (none))) = some r := H
      have A25 := Aside0.mk A250
      clear A250
      replace H := Option.bind_eq_some_iff.mp H
      obtain ⟨t203, A260, H⟩ := H
      replace H : (if t203 = true then (if (t197.length : Int) = (wrap64 (1 + x5_1)) then (if 0 < (t197.length : Int) then (if (rd t197 0) = 9 then (some ((t200.length : Int) == (wrap64 (1 + (a1.size : Int))))) else (none)) else (none)) else (none)) else (none)) = some r := H
      have A26 := Aside0.mk A260
      clear A260
      by_cases c27 : t203 = true
      ·subst c27
       have H1 : (if (t197.length : Int) = (wrap64 (1 + x5_1)) then (if 0 < (t197.length : Int) then (if (rd t197 0) = 9 then (some ((t200.length : Int) == (wrap64 (1 + (a1.size : Int))))) else (none)) else (none)) else (none)) = some r := by rw [if_pos rfl] at H; exact H
       clear H
       have H := H1
       clear H1
       by_cases c28 : (t197.length : Int) = (wrap64 (1 + x5_1))
       ·rw [if_pos c28] at H
        have c28b0 : ((t197.length : Int) == (wrap64 (1 + x5_1))) = true := beq_iff_eq.mpr c28
        have c28b1 : ((t197.length : Int) != (wrap64 (1 + x5_1))) = false := bne_eq_false_iff_eq.mpr c28
        clear c28
        by_cases c29 : 0 < (t197.length : Int)
        ·rw [if_pos c29] at H
         have c29b0 : decide (0 < (t197.length : Int)) = true := decide_eq_true c29
         have c29b1 : decide (0 < t197.length) = true := decide_eq_true (by omega)
         clear c29
         by_cases c30 : (rd t197 0) = 9
         ·rw [if_pos c30] at H
          have c30b0 : ((rd t197 0) == 9) = true := beq_iff_eq.mpr c30
          have c30b1 : ((rd t197 0) != 9) = false := bne_eq_false_iff_eq.mpr c30
          clear c30
          obtain rfl := Option.some.inj H
          go_wp2_with (first | ((with_reducible refine gate_dst (N := 25) rfl ?_); (try (refine gate_guard (by rfl) ?_; dsimp only)); refine Kd.R_lit (Kd.int .u8) _ 5 ?hg (N := 25) ?hd (xs := ([9] : List Int)) (inner := [.int .u8 9]) (ok := fun _ => True) (okp := fun _ => True) ?hr ?hp (fun _ hk => hk) trivial (Below.refl _ _) (Nat.le_refl _) (by simp) ?_; (case hd => rfl); (case hg => rfl); (case hr => first | (go_simp; done) | (go_simp; rfl)); (case hp => exact (Reps.one (show Kd.M (Kd.int .u8) _ _ _ 9 [.int .u8 9] from rfl) (Reps.none _ _))); intro v195 w31 ho32 hb hg_ hnew_; clear hg_ hnew_; (first | rw [← Ny194.out] at ho32 | (simp only [Int.reduceToNat] at ho32; rw [← Ny194.out] at ho32)); have n0_ := Aside0.mk (Kd.R_lower ho32 (below_size zq7_1)); have n1_ := Aside0.mk (below_step zq7_1 hb); clear HB; have HO196 := n0_; have HB := n1_; clear n0_ n1_; clear hb ho32; obtain ⟨Ao33, co33, eo33⟩ := Kd.R_slice HO196.out; subst eo33) | ((with_reducible refine gate_callee (f := 19) rfl ?_); refine goesL_ (some 27) rfl rfl Try.func19 (by kernel_rfl) rfl #[.slice Ao33 y194.length co33, .int .i64 a0] rfl zq7_0 ?_; (with_reducible refine (wire_Put.calls k1 _ _ y194 a0 t197 _ ?side1 ?side2 A24.out).mono ?_); (case side1 => repeat (first | exact (Kd.R_reads' HO196.out).2.2 | (with_reducible refine Kd.C_alloc ?_ _) | (with_reducible refine Kd.C_drewN ?_ _) | (with_reducible refine Kd.C_drew ?_))); (case side2 => exact (Kd.R_reads' HO196.out).2.1); rintro e w34 ⟨v198, rfl, ho0, hb⟩; refine ⟨_, rfl, ?_⟩; have n0_ := Aside0.mk (Kd.R_elder' zq7_4 (Kd.R_base ho0) hb); have n1_ := Aside0.mk (Kd.R_lower (Kd.R_new' ho0 (Kd.R_lt zq7_4)) (below_size zq7_1)); have n2_ := Aside0.mk (below_step zq7_1 hb); clear HO196; clear HB; have HO196 := n0_; have HO199 := n1_; have HB := n2_; clear n0_ n1_ n2_; (try clear hb); (try clear hb2); (try clear hk); (try clear hi); (try clear ho0)) | ((with_reducible refine gate_callee (f := 21) rfl ?_); refine goesL_ (some 29) rfl rfl Try.func21 (by kernel_rfl) rfl #[.slice none 0 0, .string a1] rfl zq7_0 ?_; (refine (wire_PutText.calls k1 _ _ ([] : List Int) a1 t200 _ ?side1 ?side2 A25.out).mono ?_); (case side1 => exact Kd.C_nil _ _); (case side2 => exact Nat.le_refl _); rintro e w35 ⟨v201, rfl, ho0, hb⟩; refine ⟨_, rfl, ?_⟩; have n0_ := Aside0.mk (Kd.R_elder' zq7_4 (Kd.R_base ho0) hb); have n1_ := Aside0.mk (Kd.R_elder' zq7_5 (Kd.R_base ho0) hb); have n2_ := Aside0.mk (Kd.R_lower (Kd.R_new' (Kd.R_new' ho0 (Kd.R_lt zq7_4)) (Kd.R_lt zq7_5)) (below_size zq7_1)); have n3_ := Aside0.mk (below_step zq7_1 hb); clear HO196; clear HO199; clear HB; have HO196 := n0_; have HO199 := n1_; have HO202 := n2_; have HB := n3_; clear n0_ n1_ n2_ n3_; (try clear hb); (try clear hb2); (try clear hk); (try clear hi); (try clear ho0)) | ((with_reducible refine gate_callee (f := 10) rfl ?_); refine goesL_ (some 30) rfl rfl Try.func10 (by kernel_rfl) rfl #[] rfl zq7_0 ?_; (with_reducible refine (cenotaphlaw06_told.calls  true _ A26.out).mono ?_); rintro e w36 ⟨rfl, hb⟩; refine ⟨_, rfl, ?_⟩; have n0_ := Aside0.mk (Kd.R_below zq7_4 hb); have n1_ := Aside0.mk (Kd.R_below zq7_5 hb); have n2_ := Aside0.mk (Kd.R_below (by (with_reducible repeat (first | apply Kd.R_alloc | apply Kd.R_drewN | apply Kd.R_drew)); exact HO202.out) hb); have n3_ := Aside0.mk (below_step zq7_1 hb); clear HO196; clear HO199; clear HO202; clear HB; have HO196 := n0_; have HO199 := n1_; have HO202 := n2_; have HB := n3_; clear n0_ n1_ n2_ n3_; (try clear hb); (try clear hb2); (try clear hk); (try clear hi); obtain ⟨Ao37, co37, eo37⟩ := Kd.R_slice HO199.out; subst eo37; have p204 : 0 ≤ (0 : Int) := (by omega); have q204 : 0 < (t197.length : Int) := of_decide_eq_true (by first | (with_reducible assumption) | assumption); obtain ⟨ad204, e204, hx204_0⟩ := Kd.at_int (Kd.R_reads' HO199.out).2.2 0 p204 q204; cases e204; have qi204 : (0 < t197.length) = True := eq_true (by omega); (try rw [show ((0 : Int)).toNat = 0 from rfl] at hx204_0); (try rw [Addr.add_zero'] at hx204_0); replace p204 := eq_true p204; replace q204 := eq_true q204; obtain ⟨Ao38, co38, eo38⟩ := Kd.R_slice HO202.out; subst eo38))
          go_ret
          exact ⟨by first | rfl | (simp [errW_none, errW_some] <;> rfl) | (simp only [← hji3]; first | rfl | (simp [errW_none, errW_some] <;> rfl)) | (simp [*, errW_none, errW_some] <;> rfl), by repeat (first | (with_reducible first | exact HB.out | apply below_alloc | apply pw_below_drewN | apply below_drew1) | exact HB.out)⟩
         ·rw [if_neg c30] at H
          exact absurd H (by simp)
        ·rw [if_neg c29] at H
         exact absurd H (by simp)
       ·rw [if_neg c28] at H
        exact absurd H (by simp)
      ·replace c27 := Bool.eq_false_iff.mpr c27
       subst c27
       have H1 : (none) = some r := by rw [if_neg (show ¬ (false = true) by decide)] at H; exact H
       clear H
       have H := H1
       clear H1
       exact absurd H (by simp)

/-- THE ONE PURE STATEMENT of cenotaphlaw06_WireLengths: yours. -/
def cenotaphlaw06_WireLengths.Pure : Prop := ∀ (a0 : Int) (a1 : ByteArray), (Lit.int .i64 a0).wf = true → a1.size ≤ 140737488351232 → ∃ k, cenotaphlaw06_WireLengths.f k a0 a1 = some true
theorem cenotaphlaw06_WireLengths.walk (P : cenotaphlaw06_WireLengths.Pure) (a0 : Int) (a1 : ByteArray) (w : World) (w0 : (Lit.int .i64 a0).wf = true) (w1 : a1.size ≤ 140737488351232) :
  Calls Try.prog 7 #[.int .i64 a0, .string a1] w fun e w' => e = .returned (.bool true) ∧ Below w.heap.size w w' := by
 obtain ⟨k, h⟩ := P a0 a1 w0 w1
 refine (cenotaphlaw06_WireLengths.calls k a0 a1 true w h).mono ?_
 rintro e w' ⟨rfl, hd⟩
 exact ⟨rfl, hd⟩

end Go.Proofs.Ytgkcdmhndplejaa.P
