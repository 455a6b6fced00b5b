-- Written by a program of this session (wip/pp.py over the kit's printer, with our own texts put in).
import Derived.Test.YtjdhnnpagaocnaaP0
import Derived.Test.YtjdhnnpagaocnaaP4
import Derived.Test.YtjdhnnpagaocnaaP5
namespace Go.Proofs.Ytjdhnnpagaocnaa.P
open Go.RowKit Go.Proofs.YtjdhnnpagaocnaaW.PrintWords Go.Proofs.YtjdhnnpagaocnaaW.PrintLast Go.Proofs.YtjdhnnpagaocnaaW.PrintMore
attribute [local go_sem] max2_int min2_int max_two min_two max_three min_three max_four min_four   -- for this text's walks alone
set_option linter.unusedVariables false
set_option linter.unusedSimpArgs false

/-! ### cenotaphlaw03_told: function 8 -/
theorem zq8_0 {p_ : Prop} (h_ : p_ := by (try simp only [List.map_toArray, List.map_cons, List.map_nil]); first | done | rfl | (simp only [List.length_drop, List.length_take]; rfl)) : p_ := h_
theorem zq8_1 {p_ : Prop} (h_ : p_ := by repeat (first | (with_reducible first | exact HB.out | apply below_alloc | apply pw_below_drewN | apply below_drew1) | exact HB.out)) : p_ := h_
theorem zq8_2 {p_ : Prop} (h_ : p_ := by (with_reducible repeat (first | apply Kd.R_alloc | apply Kd.R_drewN | apply Kd.R_drew)); exact HO128.out) : p_ := h_
theorem zq8_3 {p_ : Prop} (h_ : p_ := by (with_reducible repeat (first | apply Kd.R_alloc | apply Kd.R_drewN | apply Kd.R_drew)); exact HO131.out) : p_ := h_
theorem zq8_4 {p_ : Prop} (h_ : p_ := by (with_reducible repeat (first | apply Kd.R_alloc | apply Kd.R_drewN | apply Kd.R_drew)); exact HO134.out) : p_ := h_
theorem zq8_5 {p_ : Prop} (h_ : p_ := by (with_reducible repeat (first | apply Kd.R_alloc | apply Kd.R_drewN | apply Kd.R_drew)); exact HO137.out) : p_ := h_
theorem zq8_6 {p_ : Prop} (h_ : p_ := by first | (with_reducible assumption) | assumption) : p_ := h_
def cenotaphlaw03_told.f (k : Nat)  : Option (Bool) := (vec_Set.f ([] : List (S47)) (⟨#[48, 49]⟩ : ByteArray) 2).bind fun t126 => ((vec_Set.f t126 (⟨#[48]⟩ : ByteArray) 3).bind fun t129 => ((vec_Set.f ([] : List (S47)) (⟨#[48]⟩ : ByteArray) 1).bind fun t132 => ((vec_Meet.f k t129 t132).bind fun t135 => (if (t129.length : Int) = 2 then (if 0 < (t129.length : Int) then (if ((rd_T47 t129 0).f0).toList = ([48] : List UInt8) then (if (t135.length : Int) = 1 then (if 0 < (t135.length : Int) then (if ((rd_T47 t135 0).f1) = 1 then ((vec_Within.f t135 t129).bind fun t140 => (if t140 = true then ((vec_Within.f t129 t135).bind fun t141 => (if t141 = true then (some false) else ((vec_Right.f k t129).bind fun t142 => (if t142 = true then ((vec_Of.f t129 (⟨#[48, 49]⟩ : ByteArray)).bind fun t143 => (some (t143 == 2))) else (some false))))) else (some false))) else (some false)) else (none)) else (some false)) else (some false)) else (none)) else (some false)))))
theorem cenotaphlaw03_told.mono : ∀ k, LeO (cenotaphlaw03_told.f k ) (cenotaphlaw03_told.f (k + 1) ) := by
 intro  k
 unfold cenotaphlaw03_told.f
 repeat' first
   | (with_reducible exact vec_Meet.mono _ _ _)
   | (with_reducible exact vec_Right.mono _ _)
   | (with_reducible exact LeO.refl _)
   | (with_reducible exact LeO.none _)
   | (with_reducible refine LeO.ite ?_ ?_)
   | (with_reducible refine LeO.bind ?_ (fun _ => ?_))
   | exact vec_Meet.mono _ _ _
   | exact vec_Right.mono _ _
   | exact LeO.none _
   | refine LeO.ite ?_ ?_
   | refine LeO.bind ?_ (fun _ => ?_)
set_option maxHeartbeats 8000000 in
set_option maxRecDepth 100000 in
theorem cenotaphlaw03_told.calls (k : Nat)  (r : Bool) (w : World) (h : cenotaphlaw03_told.f k  = some r) :
  Calls Try.prog 8 #[] w fun e w' => e = .returned (.bool r) ∧ Below w.heap.size w w' := by
 have HB := Aside0.mk (Below.refl w.heap.size w)
 have H : ((vec_Set.f ([] : List (S47)) (⟨#[48, 49]⟩ : ByteArray) 2).bind fun t126 => ((vec_Set.f t126 (⟨#[48]⟩ : ByteArray) 3).bind fun t129 => ((vec_Set.f ([] : List (S47)) (⟨#[48]⟩ : ByteArray) 1).bind fun t132 => ((vec_Meet.f k t129 t132).bind fun t135 => (if (t129.length : Int) = 2 then (if 0 < (t129.length : Int) then (if ((rd_T47 t129 0).f0).toList = ([48] : List UInt8) then (if (t135.length : Int) = 1 then (if 0 < (t135.length : Int) then (if ((rd_T47 t135 0).f1) = 1 then ((vec_Within.f t135 t129).bind fun t140 => (if t140 = true then ((vec_Within.f t129 t135).bind fun t141 => (if t141 = true then (some false) else ((vec_Right.f k t129).bind fun t142 => (if t142 = true then ((vec_Of.f t129 (⟨#[48, 49]⟩ : ByteArray)).bind fun t143 => (some (t143 == 2))) else (some false))))) else (some false))) else (some false)) else (none)) else (some false)) else (some false)) else (none)) else (some false)))))) = some r := h
 clear h
 replace H := Option.bind_eq_some_iff.mp H
 obtain ⟨t126, A10, H⟩ := H
 replace H : ((vec_Set.f t126 (⟨#[48]⟩ : ByteArray) 3).bind fun t129 => ((vec_Set.f ([] : List (S47)) (⟨#[48]⟩ : ByteArray) 1).bind fun t132 => ((vec_Meet.f k t129 t132).bind fun t135 => (if (t129.length : Int) = 2 then (if 0 < (t129.length : Int) then (if ((rd_T47 t129 0).f0).toList = ([48] : List UInt8) then (if (t135.length : Int) = 1 then (if 0 < (t135.length : Int) then (if ((rd_T47 t135 0).f1) = 1 then ((vec_Within.f t135 t129).bind fun t140 => (if t140 = true then ((vec_Within.f t129 t135).bind fun t141 => (if t141 = true then (some false) else ((vec_Right.f k t129).bind fun t142 => (if t142 = true then ((vec_Of.f t129 (⟨#[48, 49]⟩ : ByteArray)).bind fun t143 => (some (t143 == 2))) else (some false))))) else (some false))) else (some false)) else (none)) else (some false)) else (some false)) else (none)) else (some false))))) = some r := H
 have A1 := Aside0.mk A10
 clear A10
 replace H := Option.bind_eq_some_iff.mp H
 obtain ⟨t129, A20, H⟩ := H
 replace H : ((vec_Set.f ([] : List (S47)) (⟨#[48]⟩ : ByteArray) 1).bind fun t132 => ((vec_Meet.f k t129 t132).bind fun t135 => (if (t129.length : Int) = 2 then (if 0 < (t129.length : Int) then (if ((rd_T47 t129 0).f0).toList = ([48] : List UInt8) then (if (t135.length : Int) = 1 then (if 0 < (t135.length : Int) then (if ((rd_T47 t135 0).f1) = 1 then ((vec_Within.f t135 t129).bind fun t140 => (if t140 = true then ((vec_Within.f t129 t135).bind fun t141 => (if t141 = true then (some false) else ((vec_Right.f k t129).bind fun t142 => (if t142 = true then ((vec_Of.f t129 (⟨#[48, 49]⟩ : ByteArray)).bind fun t143 => (some (t143 == 2))) else (some false))))) else (some false))) else (some false)) else (none)) else (some false)) else (some false)) else (none)) else (some false)))) = some r := H
 have A2 := Aside0.mk A20
 clear A20
 replace H := Option.bind_eq_some_iff.mp H
 obtain ⟨t132, A30, H⟩ := H
 replace H : ((vec_Meet.f k t129 t132).bind fun t135 => (if (t129.length : Int) = 2 then (if 0 < (t129.length : Int) then (if ((rd_T47 t129 0).f0).toList = ([48] : List UInt8) then (if (t135.length : Int) = 1 then (if 0 < (t135.length : Int) then (if ((rd_T47 t135 0).f1) = 1 then ((vec_Within.f t135 t129).bind fun t140 => (if t140 = true then ((vec_Within.f t129 t135).bind fun t141 => (if t141 = true then (some false) else ((vec_Right.f k t129).bind fun t142 => (if t142 = true then ((vec_Of.f t129 (⟨#[48, 49]⟩ : ByteArray)).bind fun t143 => (some (t143 == 2))) else (some false))))) else (some false))) else (some false)) else (none)) else (some false)) else (some false)) else (none)) else (some false))) = some r := H
 have A3 := Aside0.mk A30
 clear A30
 replace H := Option.bind_eq_some_iff.mp H
 obtain ⟨t135, A40, H⟩ := H
 replace H : (if (t129.length : Int) = 2 then (if 0 < (t129.length : Int) then (if ((rd_T47 t129 0).f0).toList = ([48] : List UInt8) then (if (t135.length : Int) = 1 then (if 0 < (t135.length : Int) then (if ((rd_T47 t135 0).f1) = 1 then ((vec_Within.f t135 t129).bind fun t140 => (if t140 = true then ((vec_Within.f t129 t135).bind fun t141 => (if t141 = true then (some false) else ((vec_Right.f k t129).bind fun t142 => (if t142 = true then ((vec_Of.f t129 (⟨#[48, 49]⟩ : ByteArray)).bind fun t143 => (some (t143 == 2))) else (some false))))) else (some false))) else (some false)) else (none)) else (some false)) else (some false)) else (none)) else (some false)) = some r := H
 have A4 := Aside0.mk A40
 clear A40
 by_cases c5 : (t129.length : Int) = 2
 ·rw [if_pos c5] at H
  have c5b0 : ((t129.length : Int) == 2) = true := beq_iff_eq.mpr c5
  have c5b1 : ((t129.length : Int) != 2) = false := bne_eq_false_iff_eq.mpr c5
  clear c5
  by_cases c6 : 0 < (t129.length : Int)
  ·rw [if_pos c6] at H
   have c6b0 : decide (0 < (t129.length : Int)) = true := decide_eq_true c6
   have c6b1 : decide (0 < t129.length) = true := decide_eq_true (by omega)
   clear c6
   by_cases c7 : ((rd_T47 t129 0).f0).toList = ([48] : List UInt8)
   ·rw [if_pos c7] at H
    have c7b0 : (((rd_T47 t129 0).f0).toList == ([48] : List UInt8)) = true := beq_iff_eq.mpr c7
    have c7b1 : (((rd_T47 t129 0).f0).toList != ([48] : List UInt8)) = false := bne_eq_false_iff_eq.mpr c7
    clear c7
    by_cases c8 : (t135.length : Int) = 1
    ·rw [if_pos c8] at H
     have c8b0 : ((t135.length : Int) == 1) = true := beq_iff_eq.mpr c8
     have c8b1 : ((t135.length : Int) != 1) = false := bne_eq_false_iff_eq.mpr c8
     clear c8
     by_cases c9 : 0 < (t135.length : Int)
     ·rw [if_pos c9] at H
      have c9b0 : decide (0 < (t135.length : Int)) = true := decide_eq_true c9
      have c9b1 : decide (0 < t135.length) = true := decide_eq_true (by omega)
      clear c9
      by_cases c10 : ((rd_T47 t135 0).f1) = 1
      ·rw [if_pos c10] at H
       have c10b0 : (((rd_T47 t135 0).f1) == 1) = true := beq_iff_eq.mpr c10
       have c10b1 : (((rd_T47 t135 0).f1) != 1) = false := bne_eq_false_iff_eq.mpr c10
       clear c10
       replace H := Option.bind_eq_some_iff.mp H
       obtain ⟨t140, A110, H⟩ := H
       replace H : (if t140 = true then ((vec_Within.f t129 t135).bind fun t141 => (if t141 = true then (some false) else ((vec_Right.f k t129).bind fun t142 => (if t142 = true then ((vec_Of.f t129 (⟨#[48, 49]⟩ : ByteArray)).bind fun t143 => (some (t143 == 2))) else (some false))))) else (some false)) = some r := H
       have A11 := Aside0.mk A110
       clear A110
       by_cases c12 : t140 = true
       ·subst c12
        have H1 : ((vec_Within.f t129 t135).bind fun t141 => (if t141 = true then (some false) else ((vec_Right.f k t129).bind fun t142 => (if t142 = true then ((vec_Of.f t129 (⟨#[48, 49]⟩ : ByteArray)).bind fun t143 => (some (t143 == 2))) else (some false))))) = some r := by rw [if_pos rfl] at H; exact H
        clear H
        have H := H1
        clear H1
        replace H := Option.bind_eq_some_iff.mp H
        obtain ⟨t141, A130, H⟩ := H
        replace H : (if t141 = true then (some false) else ((vec_Right.f k t129).bind fun t142 => (if t142 = true then ((vec_Of.f t129 (⟨#[48, 49]⟩ : ByteArray)).bind fun t143 => (some (t143 == 2))) else (some false)))) = some r := H
        have A13 := Aside0.mk A130
        clear A130
        by_cases c14 : t141 = true
        ·subst c14
         have H1 : (some false) = some r := by rw [if_pos rfl] at H; exact H
         clear H
         have H := H1
         clear H1
         obtain rfl := Option.some.inj H
         go_enter Try.func8, Try.ntmps8
         go_wp2_with (first | ((with_reducible refine gate_callee (f := 16) rfl ?_); refine goesL_ (some 4) rfl rfl Try.func16 (by kernel_rfl) rfl #[.slice none 0 0, .string (⟨#[48, 49]⟩ : ByteArray), .int .i64 2] rfl zq8_0 ?_; (refine (vec_Set.calls _ _ ([] : List (S47)) (⟨#[48, 49]⟩ : ByteArray) 2 t126 _ ?side1 ?side2 A1.out).mono ?_); (case side1 => exact Kd.C_nil _ _); (case side2 => exact Nat.le_refl _); rintro e w15 ⟨v127, rfl, ho0, hb⟩; refine ⟨_, rfl, ?_⟩; have n0_ := Aside0.mk (Kd.R_lower ho0 (below_size zq8_1)); have n1_ := Aside0.mk (below_step zq8_1 hb); clear HB; have HO128 := n0_; have HB := n1_; clear n0_ n1_; (try clear hb); (try clear hb2); (try clear hk); (try clear hi); (try clear ho0); obtain ⟨Ao16, co16, eo16⟩ := Kd.R_slice HO128.out; subst eo16) | ((with_reducible refine gate_callee (f := 16) rfl ?_); refine goesL_ (some 5) rfl rfl Try.func16 (by kernel_rfl) rfl #[.slice Ao16 t126.length co16, .string (⟨#[48]⟩ : ByteArray), .int .i64 3] rfl zq8_0 ?_; (with_reducible refine (vec_Set.calls _ _ t126 (⟨#[48]⟩ : ByteArray) 3 t129 _ ?side1 ?side2 A2.out).mono ?_); (case side1 => repeat (first | exact (Kd.R_reads' HO128.out).2.2 | (with_reducible refine Kd.C_alloc ?_ _) | (with_reducible refine Kd.C_drewN ?_ _) | (with_reducible refine Kd.C_drew ?_))); (case side2 => exact (Kd.R_reads' HO128.out).2.1); rintro e w17 ⟨v130, rfl, ho0, hb⟩; refine ⟨_, rfl, ?_⟩; have n0_ := Aside0.mk (Kd.R_elder' zq8_2 (Kd.R_base ho0) hb); have n1_ := Aside0.mk (Kd.R_lower (Kd.R_new' ho0 (Kd.R_lt zq8_2)) (below_size zq8_1)); have n2_ := Aside0.mk (below_step zq8_1 hb); clear HO128; clear HB; have HO128 := n0_; have HO131 := n1_; have HB := n2_; clear n0_ n1_ n2_; (try clear hb); (try clear hb2); (try clear hk); (try clear hi); (try clear ho0)) | ((with_reducible refine gate_callee (f := 16) rfl ?_); refine goesL_ (some 6) rfl rfl Try.func16 (by kernel_rfl) rfl #[.slice none 0 0, .string (⟨#[48]⟩ : ByteArray), .int .i64 1] rfl zq8_0 ?_; (refine (vec_Set.calls _ _ ([] : List (S47)) (⟨#[48]⟩ : ByteArray) 1 t132 _ ?side1 ?side2 A3.out).mono ?_); (case side1 => exact Kd.C_nil _ _); (case side2 => exact Nat.le_refl _); rintro e w18 ⟨v133, rfl, ho0, hb⟩; refine ⟨_, rfl, ?_⟩; have n0_ := Aside0.mk (Kd.R_elder' zq8_2 (Kd.R_base ho0) hb); have n1_ := Aside0.mk (Kd.R_elder' zq8_3 (Kd.R_base ho0) hb); have n2_ := Aside0.mk (Kd.R_lower (Kd.R_new' (Kd.R_new' ho0 (Kd.R_lt zq8_2)) (Kd.R_lt zq8_3)) (below_size zq8_1)); have n3_ := Aside0.mk (below_step zq8_1 hb); clear HO128; clear HO131; clear HB; have HO128 := n0_; have HO131 := n1_; have HO134 := n2_; have HB := n3_; clear n0_ n1_ n2_ n3_; (try clear hb); (try clear hb2); (try clear hk); (try clear hi); (try clear ho0); obtain ⟨Ao19, co19, eo19⟩ := Kd.R_slice HO131.out; subst eo19; obtain ⟨Ao20, co20, eo20⟩ := Kd.R_slice HO134.out; subst eo20) | ((with_reducible refine gate_callee (f := 24) rfl ?_); refine goesL_ (some 9) rfl rfl Try.func24 (by kernel_rfl) rfl #[.slice Ao19 t129.length co19, .slice Ao20 t132.length co20] rfl zq8_0 ?_; (with_reducible refine (vec_Meet.calls k _ _ t129 _ _ t132 t135 _ ?side1 ?side2 ?side3 ?side4 A4.out).mono ?_); (case side1 => repeat (first | exact (Kd.R_reads' HO131.out).2.2 | (with_reducible refine Kd.C_alloc ?_ _) | (with_reducible refine Kd.C_drewN ?_ _) | (with_reducible refine Kd.C_drew ?_))); (case side2 => exact (Kd.R_reads' HO131.out).2.1); (case side3 => repeat (first | exact (Kd.R_reads' HO134.out).2.2 | (with_reducible refine Kd.C_alloc ?_ _) | (with_reducible refine Kd.C_drewN ?_ _) | (with_reducible refine Kd.C_drew ?_))); (case side4 => exact (Kd.R_reads' HO134.out).2.1); rintro e w21 ⟨v136, rfl, ho0, hb⟩; refine ⟨_, rfl, ?_⟩; have n0_ := Aside0.mk (Kd.R_elder' zq8_2 (Kd.R_base ho0) hb); have n1_ := Aside0.mk (Kd.R_elder' zq8_3 (Kd.R_base ho0) hb); have n2_ := Aside0.mk (Kd.R_elder' zq8_4 (Kd.R_base ho0) hb); have n3_ := Aside0.mk (Kd.R_lower (Kd.R_new' (Kd.R_new' (Kd.R_new' ho0 (Kd.R_lt zq8_2)) (Kd.R_lt zq8_3)) (Kd.R_lt zq8_4)) (below_size zq8_1)); have n4_ := Aside0.mk (below_step zq8_1 hb); clear HO128; clear HO131; clear HO134; clear HB; have HO128 := n0_; have HO131 := n1_; have HO134 := n2_; have HO137 := n3_; have HB := n4_; clear n0_ n1_ n2_ n3_ n4_; (try clear hb); (try clear hb2); (try clear hk); (try clear hi); (try clear ho0); have p138 : 0 ≤ (0 : Int) := (by omega); have q138 : 0 < (t129.length : Int) := of_decide_eq_true zq8_6; obtain ⟨ad138, e138, hx138_0, hx138_1⟩ := at_T47 (Kd.R_reads' HO131.out).2.2 0 p138 q138; cases e138; have qi138 : (0 < t129.length) = True := eq_true (by omega); (try rw [show ((0 : Int)).toNat = 0 from rfl] at hx138_0); (try rw [show 0 * 2 = 0 from rfl] at hx138_0); (try rw [Addr.add_zero'] at hx138_0); (try rw [show ((0 : Int)).toNat = 0 from rfl] at hx138_1); (try rw [show 0 * 2 = 0 from rfl] at hx138_1); (try rw [Addr.add_zero'] at hx138_1); replace p138 := eq_true p138; replace q138 := eq_true q138; obtain ⟨Ao22, co22, eo22⟩ := Kd.R_slice HO137.out; subst eo22; have p139 : 0 ≤ (0 : Int) := (by omega); have q139 : 0 < (t135.length : Int) := of_decide_eq_true zq8_6; obtain ⟨ad139, e139, hx139_0, hx139_1⟩ := at_T47 (Kd.R_reads' HO137.out).2.2 0 p139 q139; cases e139; have qi139 : (0 < t135.length) = True := eq_true (by omega); (try rw [show ((0 : Int)).toNat = 0 from rfl] at hx139_0); (try rw [show 0 * 2 = 0 from rfl] at hx139_0); (try rw [Addr.add_zero'] at hx139_0); (try rw [show ((0 : Int)).toNat = 0 from rfl] at hx139_1); (try rw [show 0 * 2 = 0 from rfl] at hx139_1); (try rw [Addr.add_zero'] at hx139_1); replace p139 := eq_true p139; replace q139 := eq_true q139) | (go_at_call 15; (with_reducible refine (vec_Within.calls _ _ t135 _ _ t129 true _ ?side1 ?side2 ?side3 ?side4 A11.out).mono ?_); (case side1 => repeat (first | exact (Kd.R_reads' HO137.out).2.2 | (with_reducible refine Kd.C_alloc ?_ _) | (with_reducible refine Kd.C_drewN ?_ _) | (with_reducible refine Kd.C_drew ?_))); (case side2 => exact (Kd.R_reads' HO137.out).2.1); (case side3 => repeat (first | exact (Kd.R_reads' HO131.out).2.2 | (with_reducible refine Kd.C_alloc ?_ _) | (with_reducible refine Kd.C_drewN ?_ _) | (with_reducible refine Kd.C_drew ?_))); (case side4 => exact (Kd.R_reads' HO131.out).2.1); rintro e w23 ⟨rfl, hb⟩; have n0_ := Aside0.mk (Kd.R_below zq8_2 hb); have n1_ := Aside0.mk (Kd.R_below zq8_3 hb); have n2_ := Aside0.mk (Kd.R_below zq8_4 hb); have n3_ := Aside0.mk (Kd.R_below zq8_5 hb); have n4_ := Aside0.mk (below_step zq8_1 hb); clear HO128; clear HO131; clear HO134; clear HO137; clear HB; have HO128 := n0_; have HO131 := n1_; have HO134 := n2_; have HO137 := n3_; have HB := n4_; clear n0_ n1_ n2_ n3_ n4_; (try clear hb); (try clear hb2); (try clear hk); (try clear hi)) | (go_at_call 15; (with_reducible refine (vec_Within.calls _ _ t129 _ _ t135 true _ ?side1 ?side2 ?side3 ?side4 A13.out).mono ?_); (case side1 => repeat (first | exact (Kd.R_reads' HO131.out).2.2 | (with_reducible refine Kd.C_alloc ?_ _) | (with_reducible refine Kd.C_drewN ?_ _) | (with_reducible refine Kd.C_drew ?_))); (case side2 => exact (Kd.R_reads' HO131.out).2.1); (case side3 => repeat (first | exact (Kd.R_reads' HO137.out).2.2 | (with_reducible refine Kd.C_alloc ?_ _) | (with_reducible refine Kd.C_drewN ?_ _) | (with_reducible refine Kd.C_drew ?_))); (case side4 => exact (Kd.R_reads' HO137.out).2.1); rintro e w24 ⟨rfl, hb⟩; have n0_ := Aside0.mk (Kd.R_below zq8_2 hb); have n1_ := Aside0.mk (Kd.R_below zq8_3 hb); have n2_ := Aside0.mk (Kd.R_below zq8_4 hb); have n3_ := Aside0.mk (Kd.R_below zq8_5 hb); have n4_ := Aside0.mk (below_step zq8_1 hb); clear HO128; clear HO131; clear HO134; clear HO137; clear HB; have HO128 := n0_; have HO131 := n1_; have HO134 := n2_; have HO137 := n3_; have HB := n4_; clear n0_ n1_ n2_ n3_ n4_; (try clear hb); (try clear hb2); (try clear hk); (try clear hi)))
         go_ret
         exact ⟨by first | rfl | (simp [errW_none, errW_some] <;> rfl) | (simp [*, errW_none, errW_some] <;> rfl), by repeat (first | (with_reducible first | exact HB.out | apply below_alloc | apply pw_below_drewN | apply below_drew1) | exact HB.out)⟩
        ·replace c14 := Bool.eq_false_iff.mpr c14
         subst c14
         have H1 : ((vec_Right.f k t129).bind fun t142 => (if t142 = true then ((vec_Of.f t129 (⟨#[48, 49]⟩ : ByteArray)).bind fun t143 => (some (t143 == 2))) else (some false))) = some r := by rw [if_neg (show ¬ (false = true) by decide)] at H; exact H
         clear H
         have H := H1
         clear H1
         replace H := Option.bind_eq_some_iff.mp H
         obtain ⟨t142, A250, H⟩ := H
         replace H : (if t142 = true then ((vec_Of.f t129 (⟨#[48, 49]⟩ : ByteArray)).bind fun t143 => (some (t143 == 2))) else (some false)) = some r := H
         have A25 := Aside0.mk A250
         clear A250
         by_cases c26 : t142 = true
         ·subst c26
          have H1 : ((vec_Of.f t129 (⟨#[48, 49]⟩ : ByteArray)).bind fun t143 => (some (t143 == 2))) = some r := by rw [if_pos rfl] at H; exact H
          clear H
          have H := H1
          clear H1
          replace H := Option.bind_eq_some_iff.mp H
          obtain ⟨t143, A270, H⟩ := H
          replace H : (some (t143 == 2)) = some r := H
          have A27 := Aside0.mk A270
          clear A270
          obtain rfl := Option.some.inj H
          go_enter Try.func8, Try.ntmps8
          go_wp2_with (first | ((with_reducible refine gate_callee (f := 16) rfl ?_); refine goesL_ (some 4) rfl rfl Try.func16 (by kernel_rfl) rfl #[.slice none 0 0, .string (⟨#[48, 49]⟩ : ByteArray), .int .i64 2] rfl zq8_0 ?_; (refine (vec_Set.calls _ _ ([] : List (S47)) (⟨#[48, 49]⟩ : ByteArray) 2 t126 _ ?side1 ?side2 A1.out).mono ?_); (case side1 => exact Kd.C_nil _ _); (case side2 => exact Nat.le_refl _); rintro e w28 ⟨v127, rfl, ho0, hb⟩; refine ⟨_, rfl, ?_⟩; have n0_ := Aside0.mk (Kd.R_lower ho0 (below_size zq8_1)); have n1_ := Aside0.mk (below_step zq8_1 hb); clear HB; have HO128 := n0_; have HB := n1_; clear n0_ n1_; (try clear hb); (try clear hb2); (try clear hk); (try clear hi); (try clear ho0); obtain ⟨Ao29, co29, eo29⟩ := Kd.R_slice HO128.out; subst eo29) | ((with_reducible refine gate_callee (f := 16) rfl ?_); refine goesL_ (some 5) rfl rfl Try.func16 (by kernel_rfl) rfl #[.slice Ao29 t126.length co29, .string (⟨#[48]⟩ : ByteArray), .int .i64 3] rfl zq8_0 ?_; (with_reducible refine (vec_Set.calls _ _ t126 (⟨#[48]⟩ : ByteArray) 3 t129 _ ?side1 ?side2 A2.out).mono ?_); (case side1 => repeat (first | exact (Kd.R_reads' HO128.out).2.2 | (with_reducible refine Kd.C_alloc ?_ _) | (with_reducible refine Kd.C_drewN ?_ _) | (with_reducible refine Kd.C_drew ?_))); (case side2 => exact (Kd.R_reads' HO128.out).2.1); rintro e w30 ⟨v130, rfl, ho0, hb⟩; refine ⟨_, rfl, ?_⟩; have n0_ := Aside0.mk (Kd.R_elder' zq8_2 (Kd.R_base ho0) hb); have n1_ := Aside0.mk (Kd.R_lower (Kd.R_new' ho0 (Kd.R_lt zq8_2)) (below_size zq8_1)); have n2_ := Aside0.mk (below_step zq8_1 hb); clear HO128; clear HB; have HO128 := n0_; have HO131 := n1_; have HB := n2_; clear n0_ n1_ n2_; (try clear hb); (try clear hb2); (try clear hk); (try clear hi); (try clear ho0)) | ((with_reducible refine gate_callee (f := 16) rfl ?_); refine goesL_ (some 6) rfl rfl Try.func16 (by kernel_rfl) rfl #[.slice none 0 0, .string (⟨#[48]⟩ : ByteArray), .int .i64 1] rfl zq8_0 ?_; (refine (vec_Set.calls _ _ ([] : List (S47)) (⟨#[48]⟩ : ByteArray) 1 t132 _ ?side1 ?side2 A3.out).mono ?_); (case side1 => exact Kd.C_nil _ _); (case side2 => exact Nat.le_refl _); rintro e w31 ⟨v133, rfl, ho0, hb⟩; refine ⟨_, rfl, ?_⟩; have n0_ := Aside0.mk (Kd.R_elder' zq8_2 (Kd.R_base ho0) hb); have n1_ := Aside0.mk (Kd.R_elder' zq8_3 (Kd.R_base ho0) hb); have n2_ := Aside0.mk (Kd.R_lower (Kd.R_new' (Kd.R_new' ho0 (Kd.R_lt zq8_2)) (Kd.R_lt zq8_3)) (below_size zq8_1)); have n3_ := Aside0.mk (below_step zq8_1 hb); clear HO128; clear HO131; clear HB; have HO128 := n0_; have HO131 := n1_; have HO134 := n2_; have HB := n3_; clear n0_ n1_ n2_ n3_; (try clear hb); (try clear hb2); (try clear hk); (try clear hi); (try clear ho0); obtain ⟨Ao32, co32, eo32⟩ := Kd.R_slice HO131.out; subst eo32; obtain ⟨Ao33, co33, eo33⟩ := Kd.R_slice HO134.out; subst eo33) | ((with_reducible refine gate_callee (f := 24) rfl ?_); refine goesL_ (some 9) rfl rfl Try.func24 (by kernel_rfl) rfl #[.slice Ao32 t129.length co32, .slice Ao33 t132.length co33] rfl zq8_0 ?_; (with_reducible refine (vec_Meet.calls k _ _ t129 _ _ t132 t135 _ ?side1 ?side2 ?side3 ?side4 A4.out).mono ?_); (case side1 => repeat (first | exact (Kd.R_reads' HO131.out).2.2 | (with_reducible refine Kd.C_alloc ?_ _) | (with_reducible refine Kd.C_drewN ?_ _) | (with_reducible refine Kd.C_drew ?_))); (case side2 => exact (Kd.R_reads' HO131.out).2.1); (case side3 => repeat (first | exact (Kd.R_reads' HO134.out).2.2 | (with_reducible refine Kd.C_alloc ?_ _) | (with_reducible refine Kd.C_drewN ?_ _) | (with_reducible refine Kd.C_drew ?_))); (case side4 => exact (Kd.R_reads' HO134.out).2.1); rintro e w34 ⟨v136, rfl, ho0, hb⟩; refine ⟨_, rfl, ?_⟩; have n0_ := Aside0.mk (Kd.R_elder' zq8_2 (Kd.R_base ho0) hb); have n1_ := Aside0.mk (Kd.R_elder' zq8_3 (Kd.R_base ho0) hb); have n2_ := Aside0.mk (Kd.R_elder' zq8_4 (Kd.R_base ho0) hb); have n3_ := Aside0.mk (Kd.R_lower (Kd.R_new' (Kd.R_new' (Kd.R_new' ho0 (Kd.R_lt zq8_2)) (Kd.R_lt zq8_3)) (Kd.R_lt zq8_4)) (below_size zq8_1)); have n4_ := Aside0.mk (below_step zq8_1 hb); clear HO128; clear HO131; clear HO134; clear HB; have HO128 := n0_; have HO131 := n1_; have HO134 := n2_; have HO137 := n3_; have HB := n4_; clear n0_ n1_ n2_ n3_ n4_; (try clear hb); (try clear hb2); (try clear hk); (try clear hi); (try clear ho0); have p138 : 0 ≤ (0 : Int) := (by omega); have q138 : 0 < (t129.length : Int) := of_decide_eq_true zq8_6; obtain ⟨ad138, e138, hx138_0, hx138_1⟩ := at_T47 (Kd.R_reads' HO131.out).2.2 0 p138 q138; cases e138; have qi138 : (0 < t129.length) = True := eq_true (by omega); (try rw [show ((0 : Int)).toNat = 0 from rfl] at hx138_0); (try rw [show 0 * 2 = 0 from rfl] at hx138_0); (try rw [Addr.add_zero'] at hx138_0); (try rw [show ((0 : Int)).toNat = 0 from rfl] at hx138_1); (try rw [show 0 * 2 = 0 from rfl] at hx138_1); (try rw [Addr.add_zero'] at hx138_1); replace p138 := eq_true p138; replace q138 := eq_true q138; obtain ⟨Ao35, co35, eo35⟩ := Kd.R_slice HO137.out; subst eo35; have p139 : 0 ≤ (0 : Int) := (by omega); have q139 : 0 < (t135.length : Int) := of_decide_eq_true zq8_6; obtain ⟨ad139, e139, hx139_0, hx139_1⟩ := at_T47 (Kd.R_reads' HO137.out).2.2 0 p139 q139; cases e139; have qi139 : (0 < t135.length) = True := eq_true (by omega); (try rw [show ((0 : Int)).toNat = 0 from rfl] at hx139_0); (try rw [show 0 * 2 = 0 from rfl] at hx139_0); (try rw [Addr.add_zero'] at hx139_0); (try rw [show ((0 : Int)).toNat = 0 from rfl] at hx139_1); (try rw [show 0 * 2 = 0 from rfl] at hx139_1); (try rw [Addr.add_zero'] at hx139_1); replace p139 := eq_true p139; replace q139 := eq_true q139) | (go_at_call 15; (with_reducible refine (vec_Within.calls _ _ t135 _ _ t129 true _ ?side1 ?side2 ?side3 ?side4 A11.out).mono ?_); (case side1 => repeat (first | exact (Kd.R_reads' HO137.out).2.2 | (with_reducible refine Kd.C_alloc ?_ _) | (with_reducible refine Kd.C_drewN ?_ _) | (with_reducible refine Kd.C_drew ?_))); (case side2 => exact (Kd.R_reads' HO137.out).2.1); (case side3 => repeat (first | exact (Kd.R_reads' HO131.out).2.2 | (with_reducible refine Kd.C_alloc ?_ _) | (with_reducible refine Kd.C_drewN ?_ _) | (with_reducible refine Kd.C_drew ?_))); (case side4 => exact (Kd.R_reads' HO131.out).2.1); rintro e w36 ⟨rfl, hb⟩; have n0_ := Aside0.mk (Kd.R_below zq8_2 hb); have n1_ := Aside0.mk (Kd.R_below zq8_3 hb); have n2_ := Aside0.mk (Kd.R_below zq8_4 hb); have n3_ := Aside0.mk (Kd.R_below zq8_5 hb); have n4_ := Aside0.mk (below_step zq8_1 hb); clear HO128; clear HO131; clear HO134; clear HO137; clear HB; have HO128 := n0_; have HO131 := n1_; have HO134 := n2_; have HO137 := n3_; have HB := n4_; clear n0_ n1_ n2_ n3_ n4_; (try clear hb); (try clear hb2); (try clear hk); (try clear hi)) | (go_at_call 15; (with_reducible refine (vec_Within.calls _ _ t129 _ _ t135 false _ ?side1 ?side2 ?side3 ?side4 A13.out).mono ?_); (case side1 => repeat (first | exact (Kd.R_reads' HO131.out).2.2 | (with_reducible refine Kd.C_alloc ?_ _) | (with_reducible refine Kd.C_drewN ?_ _) | (with_reducible refine Kd.C_drew ?_))); (case side2 => exact (Kd.R_reads' HO131.out).2.1); (case side3 => repeat (first | exact (Kd.R_reads' HO137.out).2.2 | (with_reducible refine Kd.C_alloc ?_ _) | (with_reducible refine Kd.C_drewN ?_ _) | (with_reducible refine Kd.C_drew ?_))); (case side4 => exact (Kd.R_reads' HO137.out).2.1); rintro e w37 ⟨rfl, hb⟩; have n0_ := Aside0.mk (Kd.R_below zq8_2 hb); have n1_ := Aside0.mk (Kd.R_below zq8_3 hb); have n2_ := Aside0.mk (Kd.R_below zq8_4 hb); have n3_ := Aside0.mk (Kd.R_below zq8_5 hb); have n4_ := Aside0.mk (below_step zq8_1 hb); clear HO128; clear HO131; clear HO134; clear HO137; clear HB; have HO128 := n0_; have HO131 := n1_; have HO134 := n2_; have HO137 := n3_; have HB := n4_; clear n0_ n1_ n2_ n3_ n4_; (try clear hb); (try clear hb2); (try clear hk); (try clear hi)) | (go_at_call 9; (with_reducible refine (vec_Right.calls k _ _ t129 true _ ?side1 ?side2 A25.out).mono ?_); (case side1 => repeat (first | exact (Kd.R_reads' HO131.out).2.2 | (with_reducible refine Kd.C_alloc ?_ _) | (with_reducible refine Kd.C_drewN ?_ _) | (with_reducible refine Kd.C_drew ?_))); (case side2 => exact (Kd.R_reads' HO131.out).2.1); rintro e w38 ⟨rfl, hb⟩; have n0_ := Aside0.mk (Kd.R_below zq8_2 hb); have n1_ := Aside0.mk (Kd.R_below zq8_3 hb); have n2_ := Aside0.mk (Kd.R_below zq8_4 hb); have n3_ := Aside0.mk (Kd.R_below zq8_5 hb); have n4_ := Aside0.mk (below_step zq8_1 hb); clear HO128; clear HO131; clear HO134; clear HO137; clear HB; have HO128 := n0_; have HO131 := n1_; have HO134 := n2_; have HO137 := n3_; have HB := n4_; clear n0_ n1_ n2_ n3_ n4_; (try clear hb); (try clear hb2); (try clear hk); (try clear hi)) | (go_at_call 13; (with_reducible refine (vec_Of.calls _ _ t129 (⟨#[48, 49]⟩ : ByteArray) t143 _ ?side1 ?side2 A27.out).mono ?_); (case side1 => repeat (first | exact (Kd.R_reads' HO131.out).2.2 | (with_reducible refine Kd.C_alloc ?_ _) | (with_reducible refine Kd.C_drewN ?_ _) | (with_reducible refine Kd.C_drew ?_))); (case side2 => exact (Kd.R_reads' HO131.out).2.1); rintro e w39 ⟨rfl, hb⟩; have n0_ := Aside0.mk (Kd.R_below zq8_2 hb); have n1_ := Aside0.mk (Kd.R_below zq8_3 hb); have n2_ := Aside0.mk (Kd.R_below zq8_4 hb); have n3_ := Aside0.mk (Kd.R_below zq8_5 hb); have n4_ := Aside0.mk (below_step zq8_1 hb); clear HO128; clear HO131; clear HO134; clear HO137; clear HB; have HO128 := n0_; have HO131 := n1_; have HO134 := n2_; have HO137 := n3_; have HB := n4_; clear n0_ n1_ n2_ n3_ n4_; (try clear hb); (try clear hb2); (try clear hk); (try clear hi)))
          go_ret
          exact ⟨by first | rfl | (simp [errW_none, errW_some] <;> rfl) | (simp [*, errW_none, errW_some] <;> rfl), by repeat (first | (with_reducible first | exact HB.out | apply below_alloc | apply pw_below_drewN | apply below_drew1) | exact HB.out)⟩
         ·replace c26 := Bool.eq_false_iff.mpr c26
          subst c26
          have H1 : (some false) = some r := by rw [if_neg (show ¬ (false = true) by decide)] at H; exact H
          clear H
          have H := H1
          clear H1
          obtain rfl := Option.some.inj H
          go_enter Try.func8, Try.ntmps8
          go_wp2_with (first | ((with_reducible refine gate_callee (f := 16) rfl ?_); refine goesL_ (some 4) rfl rfl Try.func16 (by kernel_rfl) rfl #[.slice none 0 0, .string (⟨#[48, 49]⟩ : ByteArray), .int .i64 2] rfl zq8_0 ?_; (refine (vec_Set.calls _ _ ([] : List (S47)) (⟨#[48, 49]⟩ : ByteArray) 2 t126 _ ?side1 ?side2 A1.out).mono ?_); (case side1 => exact Kd.C_nil _ _); (case side2 => exact Nat.le_refl _); rintro e w40 ⟨v127, rfl, ho0, hb⟩; refine ⟨_, rfl, ?_⟩; have n0_ := Aside0.mk (Kd.R_lower ho0 (below_size zq8_1)); have n1_ := Aside0.mk (below_step zq8_1 hb); clear HB; have HO128 := n0_; have HB := n1_; clear n0_ n1_; (try clear hb); (try clear hb2); (try clear hk); (try clear hi); (try clear ho0); obtain ⟨Ao41, co41, eo41⟩ := Kd.R_slice HO128.out; subst eo41) | ((with_reducible refine gate_callee (f := 16) rfl ?_); refine goesL_ (some 5) rfl rfl Try.func16 (by kernel_rfl) rfl #[.slice Ao41 t126.length co41, .string (⟨#[48]⟩ : ByteArray), .int .i64 3] rfl zq8_0 ?_; (with_reducible refine (vec_Set.calls _ _ t126 (⟨#[48]⟩ : ByteArray) 3 t129 _ ?side1 ?side2 A2.out).mono ?_); (case side1 => repeat (first | exact (Kd.R_reads' HO128.out).2.2 | (with_reducible refine Kd.C_alloc ?_ _) | (with_reducible refine Kd.C_drewN ?_ _) | (with_reducible refine Kd.C_drew ?_))); (case side2 => exact (Kd.R_reads' HO128.out).2.1); rintro e w42 ⟨v130, rfl, ho0, hb⟩; refine ⟨_, rfl, ?_⟩; have n0_ := Aside0.mk (Kd.R_elder' zq8_2 (Kd.R_base ho0) hb); have n1_ := Aside0.mk (Kd.R_lower (Kd.R_new' ho0 (Kd.R_lt zq8_2)) (below_size zq8_1)); have n2_ := Aside0.mk (below_step zq8_1 hb); clear HO128; clear HB; have HO128 := n0_; have HO131 := n1_; have HB := n2_; clear n0_ n1_ n2_; (try clear hb); (try clear hb2); (try clear hk); (try clear hi); (try clear ho0)) | ((with_reducible refine gate_callee (f := 16) rfl ?_); refine goesL_ (some 6) rfl rfl Try.func16 (by kernel_rfl) rfl #[.slice none 0 0, .string (⟨#[48]⟩ : ByteArray), .int .i64 1] rfl zq8_0 ?_; (refine (vec_Set.calls _ _ ([] : List (S47)) (⟨#[48]⟩ : ByteArray) 1 t132 _ ?side1 ?side2 A3.out).mono ?_); (case side1 => exact Kd.C_nil _ _); (case side2 => exact Nat.le_refl _); rintro e w43 ⟨v133, rfl, ho0, hb⟩; refine ⟨_, rfl, ?_⟩; have n0_ := Aside0.mk (Kd.R_elder' zq8_2 (Kd.R_base ho0) hb); have n1_ := Aside0.mk (Kd.R_elder' zq8_3 (Kd.R_base ho0) hb); have n2_ := Aside0.mk (Kd.R_lower (Kd.R_new' (Kd.R_new' ho0 (Kd.R_lt zq8_2)) (Kd.R_lt zq8_3)) (below_size zq8_1)); have n3_ := Aside0.mk (below_step zq8_1 hb); clear HO128; clear HO131; clear HB; have HO128 := n0_; have HO131 := n1_; have HO134 := n2_; have HB := n3_; clear n0_ n1_ n2_ n3_; (try clear hb); (try clear hb2); (try clear hk); (try clear hi); (try clear ho0); obtain ⟨Ao44, co44, eo44⟩ := Kd.R_slice HO131.out; subst eo44; obtain ⟨Ao45, co45, eo45⟩ := Kd.R_slice HO134.out; subst eo45) | ((with_reducible refine gate_callee (f := 24) rfl ?_); refine goesL_ (some 9) rfl rfl Try.func24 (by kernel_rfl) rfl #[.slice Ao44 t129.length co44, .slice Ao45 t132.length co45] rfl zq8_0 ?_; (with_reducible refine (vec_Meet.calls k _ _ t129 _ _ t132 t135 _ ?side1 ?side2 ?side3 ?side4 A4.out).mono ?_); (case side1 => repeat (first | exact (Kd.R_reads' HO131.out).2.2 | (with_reducible refine Kd.C_alloc ?_ _) | (with_reducible refine Kd.C_drewN ?_ _) | (with_reducible refine Kd.C_drew ?_))); (case side2 => exact (Kd.R_reads' HO131.out).2.1); (case side3 => repeat (first | exact (Kd.R_reads' HO134.out).2.2 | (with_reducible refine Kd.C_alloc ?_ _) | (with_reducible refine Kd.C_drewN ?_ _) | (with_reducible refine Kd.C_drew ?_))); (case side4 => exact (Kd.R_reads' HO134.out).2.1); rintro e w46 ⟨v136, rfl, ho0, hb⟩; refine ⟨_, rfl, ?_⟩; have n0_ := Aside0.mk (Kd.R_elder' zq8_2 (Kd.R_base ho0) hb); have n1_ := Aside0.mk (Kd.R_elder' zq8_3 (Kd.R_base ho0) hb); have n2_ := Aside0.mk (Kd.R_elder' zq8_4 (Kd.R_base ho0) hb); have n3_ := Aside0.mk (Kd.R_lower (Kd.R_new' (Kd.R_new' (Kd.R_new' ho0 (Kd.R_lt zq8_2)) (Kd.R_lt zq8_3)) (Kd.R_lt zq8_4)) (below_size zq8_1)); have n4_ := Aside0.mk (below_step zq8_1 hb); clear HO128; clear HO131; clear HO134; clear HB; have HO128 := n0_; have HO131 := n1_; have HO134 := n2_; have HO137 := n3_; have HB := n4_; clear n0_ n1_ n2_ n3_ n4_; (try clear hb); (try clear hb2); (try clear hk); (try clear hi); (try clear ho0); have p138 : 0 ≤ (0 : Int) := (by omega); have q138 : 0 < (t129.length : Int) := of_decide_eq_true zq8_6; obtain ⟨ad138, e138, hx138_0, hx138_1⟩ := at_T47 (Kd.R_reads' HO131.out).2.2 0 p138 q138; cases e138; have qi138 : (0 < t129.length) = True := eq_true (by omega); (try rw [show ((0 : Int)).toNat = 0 from rfl] at hx138_0); (try rw [show 0 * 2 = 0 from rfl] at hx138_0); (try rw [Addr.add_zero'] at hx138_0); (try rw [show ((0 : Int)).toNat = 0 from rfl] at hx138_1); (try rw [show 0 * 2 = 0 from rfl] at hx138_1); (try rw [Addr.add_zero'] at hx138_1); replace p138 := eq_true p138; replace q138 := eq_true q138; obtain ⟨Ao47, co47, eo47⟩ := Kd.R_slice HO137.out; subst eo47; have p139 : 0 ≤ (0 : Int) := (by omega); have q139 : 0 < (t135.length : Int) := of_decide_eq_true zq8_6; obtain ⟨ad139, e139, hx139_0, hx139_1⟩ := at_T47 (Kd.R_reads' HO137.out).2.2 0 p139 q139; cases e139; have qi139 : (0 < t135.length) = True := eq_true (by omega); (try rw [show ((0 : Int)).toNat = 0 from rfl] at hx139_0); (try rw [show 0 * 2 = 0 from rfl] at hx139_0); (try rw [Addr.add_zero'] at hx139_0); (try rw [show ((0 : Int)).toNat = 0 from rfl] at hx139_1); (try rw [show 0 * 2 = 0 from rfl] at hx139_1); (try rw [Addr.add_zero'] at hx139_1); replace p139 := eq_true p139; replace q139 := eq_true q139) | (go_at_call 15; (with_reducible refine (vec_Within.calls _ _ t135 _ _ t129 true _ ?side1 ?side2 ?side3 ?side4 A11.out).mono ?_); (case side1 => repeat (first | exact (Kd.R_reads' HO137.out).2.2 | (with_reducible refine Kd.C_alloc ?_ _) | (with_reducible refine Kd.C_drewN ?_ _) | (with_reducible refine Kd.C_drew ?_))); (case side2 => exact (Kd.R_reads' HO137.out).2.1); (case side3 => repeat (first | exact (Kd.R_reads' HO131.out).2.2 | (with_reducible refine Kd.C_alloc ?_ _) | (with_reducible refine Kd.C_drewN ?_ _) | (with_reducible refine Kd.C_drew ?_))); (case side4 => exact (Kd.R_reads' HO131.out).2.1); rintro e w48 ⟨rfl, hb⟩; have n0_ := Aside0.mk (Kd.R_below zq8_2 hb); have n1_ := Aside0.mk (Kd.R_below zq8_3 hb); have n2_ := Aside0.mk (Kd.R_below zq8_4 hb); have n3_ := Aside0.mk (Kd.R_below zq8_5 hb); have n4_ := Aside0.mk (below_step zq8_1 hb); clear HO128; clear HO131; clear HO134; clear HO137; clear HB; have HO128 := n0_; have HO131 := n1_; have HO134 := n2_; have HO137 := n3_; have HB := n4_; clear n0_ n1_ n2_ n3_ n4_; (try clear hb); (try clear hb2); (try clear hk); (try clear hi)) | (go_at_call 15; (with_reducible refine (vec_Within.calls _ _ t129 _ _ t135 false _ ?side1 ?side2 ?side3 ?side4 A13.out).mono ?_); (case side1 => repeat (first | exact (Kd.R_reads' HO131.out).2.2 | (with_reducible refine Kd.C_alloc ?_ _) | (with_reducible refine Kd.C_drewN ?_ _) | (with_reducible refine Kd.C_drew ?_))); (case side2 => exact (Kd.R_reads' HO131.out).2.1); (case side3 => repeat (first | exact (Kd.R_reads' HO137.out).2.2 | (with_reducible refine Kd.C_alloc ?_ _) | (with_reducible refine Kd.C_drewN ?_ _) | (with_reducible refine Kd.C_drew ?_))); (case side4 => exact (Kd.R_reads' HO137.out).2.1); rintro e w49 ⟨rfl, hb⟩; have n0_ := Aside0.mk (Kd.R_below zq8_2 hb); have n1_ := Aside0.mk (Kd.R_below zq8_3 hb); have n2_ := Aside0.mk (Kd.R_below zq8_4 hb); have n3_ := Aside0.mk (Kd.R_below zq8_5 hb); have n4_ := Aside0.mk (below_step zq8_1 hb); clear HO128; clear HO131; clear HO134; clear HO137; clear HB; have HO128 := n0_; have HO131 := n1_; have HO134 := n2_; have HO137 := n3_; have HB := n4_; clear n0_ n1_ n2_ n3_ n4_; (try clear hb); (try clear hb2); (try clear hk); (try clear hi)) | (go_at_call 9; (with_reducible refine (vec_Right.calls k _ _ t129 false _ ?side1 ?side2 A25.out).mono ?_); (case side1 => repeat (first | exact (Kd.R_reads' HO131.out).2.2 | (with_reducible refine Kd.C_alloc ?_ _) | (with_reducible refine Kd.C_drewN ?_ _) | (with_reducible refine Kd.C_drew ?_))); (case side2 => exact (Kd.R_reads' HO131.out).2.1); rintro e w50 ⟨rfl, hb⟩; have n0_ := Aside0.mk (Kd.R_below zq8_2 hb); have n1_ := Aside0.mk (Kd.R_below zq8_3 hb); have n2_ := Aside0.mk (Kd.R_below zq8_4 hb); have n3_ := Aside0.mk (Kd.R_below zq8_5 hb); have n4_ := Aside0.mk (below_step zq8_1 hb); clear HO128; clear HO131; clear HO134; clear HO137; clear HB; have HO128 := n0_; have HO131 := n1_; have HO134 := n2_; have HO137 := n3_; have HB := n4_; clear n0_ n1_ n2_ n3_ n4_; (try clear hb); (try clear hb2); (try clear hk); (try clear hi)))
          go_ret
          exact ⟨by first | rfl | (simp [errW_none, errW_some] <;> rfl) | (simp [*, errW_none, errW_some] <;> rfl), by repeat (first | (with_reducible first | exact HB.out | apply below_alloc | apply pw_below_drewN | apply below_drew1) | exact HB.out)⟩
       ·replace c12 := Bool.eq_false_iff.mpr c12
        subst c12
        have H1 : (some false) = some r := by rw [if_neg (show ¬ (false = true) by decide)] at H; exact H
        clear H
        have H := H1
        clear H1
        obtain rfl := Option.some.inj H
        go_enter Try.func8, Try.ntmps8
        go_wp2_with (first | ((with_reducible refine gate_callee (f := 16) rfl ?_); refine goesL_ (some 4) rfl rfl Try.func16 (by kernel_rfl) rfl #[.slice none 0 0, .string (⟨#[48, 49]⟩ : ByteArray), .int .i64 2] rfl zq8_0 ?_; (refine (vec_Set.calls _ _ ([] : List (S47)) (⟨#[48, 49]⟩ : ByteArray) 2 t126 _ ?side1 ?side2 A1.out).mono ?_); (case side1 => exact Kd.C_nil _ _); (case side2 => exact Nat.le_refl _); rintro e w51 ⟨v127, rfl, ho0, hb⟩; refine ⟨_, rfl, ?_⟩; have n0_ := Aside0.mk (Kd.R_lower ho0 (below_size zq8_1)); have n1_ := Aside0.mk (below_step zq8_1 hb); clear HB; have HO128 := n0_; have HB := n1_; clear n0_ n1_; (try clear hb); (try clear hb2); (try clear hk); (try clear hi); (try clear ho0); obtain ⟨Ao52, co52, eo52⟩ := Kd.R_slice HO128.out; subst eo52) | ((with_reducible refine gate_callee (f := 16) rfl ?_); refine goesL_ (some 5) rfl rfl Try.func16 (by kernel_rfl) rfl #[.slice Ao52 t126.length co52, .string (⟨#[48]⟩ : ByteArray), .int .i64 3] rfl zq8_0 ?_; (with_reducible refine (vec_Set.calls _ _ t126 (⟨#[48]⟩ : ByteArray) 3 t129 _ ?side1 ?side2 A2.out).mono ?_); (case side1 => repeat (first | exact (Kd.R_reads' HO128.out).2.2 | (with_reducible refine Kd.C_alloc ?_ _) | (with_reducible refine Kd.C_drewN ?_ _) | (with_reducible refine Kd.C_drew ?_))); (case side2 => exact (Kd.R_reads' HO128.out).2.1); rintro e w53 ⟨v130, rfl, ho0, hb⟩; refine ⟨_, rfl, ?_⟩; have n0_ := Aside0.mk (Kd.R_elder' zq8_2 (Kd.R_base ho0) hb); have n1_ := Aside0.mk (Kd.R_lower (Kd.R_new' ho0 (Kd.R_lt zq8_2)) (below_size zq8_1)); have n2_ := Aside0.mk (below_step zq8_1 hb); clear HO128; clear HB; have HO128 := n0_; have HO131 := n1_; have HB := n2_; clear n0_ n1_ n2_; (try clear hb); (try clear hb2); (try clear hk); (try clear hi); (try clear ho0)) | ((with_reducible refine gate_callee (f := 16) rfl ?_); refine goesL_ (some 6) rfl rfl Try.func16 (by kernel_rfl) rfl #[.slice none 0 0, .string (⟨#[48]⟩ : ByteArray), .int .i64 1] rfl zq8_0 ?_; (refine (vec_Set.calls _ _ ([] : List (S47)) (⟨#[48]⟩ : ByteArray) 1 t132 _ ?side1 ?side2 A3.out).mono ?_); (case side1 => exact Kd.C_nil _ _); (case side2 => exact Nat.le_refl _); rintro e w54 ⟨v133, rfl, ho0, hb⟩; refine ⟨_, rfl, ?_⟩; have n0_ := Aside0.mk (Kd.R_elder' zq8_2 (Kd.R_base ho0) hb); have n1_ := Aside0.mk (Kd.R_elder' zq8_3 (Kd.R_base ho0) hb); have n2_ := Aside0.mk (Kd.R_lower (Kd.R_new' (Kd.R_new' ho0 (Kd.R_lt zq8_2)) (Kd.R_lt zq8_3)) (below_size zq8_1)); have n3_ := Aside0.mk (below_step zq8_1 hb); clear HO128; clear HO131; clear HB; have HO128 := n0_; have HO131 := n1_; have HO134 := n2_; have HB := n3_; clear n0_ n1_ n2_ n3_; (try clear hb); (try clear hb2); (try clear hk); (try clear hi); (try clear ho0); obtain ⟨Ao55, co55, eo55⟩ := Kd.R_slice HO131.out; subst eo55; obtain ⟨Ao56, co56, eo56⟩ := Kd.R_slice HO134.out; subst eo56) | ((with_reducible refine gate_callee (f := 24) rfl ?_); refine goesL_ (some 9) rfl rfl Try.func24 (by kernel_rfl) rfl #[.slice Ao55 t129.length co55, .slice Ao56 t132.length co56] rfl zq8_0 ?_; (with_reducible refine (vec_Meet.calls k _ _ t129 _ _ t132 t135 _ ?side1 ?side2 ?side3 ?side4 A4.out).mono ?_); (case side1 => repeat (first | exact (Kd.R_reads' HO131.out).2.2 | (with_reducible refine Kd.C_alloc ?_ _) | (with_reducible refine Kd.C_drewN ?_ _) | (with_reducible refine Kd.C_drew ?_))); (case side2 => exact (Kd.R_reads' HO131.out).2.1); (case side3 => repeat (first | exact (Kd.R_reads' HO134.out).2.2 | (with_reducible refine Kd.C_alloc ?_ _) | (with_reducible refine Kd.C_drewN ?_ _) | (with_reducible refine Kd.C_drew ?_))); (case side4 => exact (Kd.R_reads' HO134.out).2.1); rintro e w57 ⟨v136, rfl, ho0, hb⟩; refine ⟨_, rfl, ?_⟩; have n0_ := Aside0.mk (Kd.R_elder' zq8_2 (Kd.R_base ho0) hb); have n1_ := Aside0.mk (Kd.R_elder' zq8_3 (Kd.R_base ho0) hb); have n2_ := Aside0.mk (Kd.R_elder' zq8_4 (Kd.R_base ho0) hb); have n3_ := Aside0.mk (Kd.R_lower (Kd.R_new' (Kd.R_new' (Kd.R_new' ho0 (Kd.R_lt zq8_2)) (Kd.R_lt zq8_3)) (Kd.R_lt zq8_4)) (below_size zq8_1)); have n4_ := Aside0.mk (below_step zq8_1 hb); clear HO128; clear HO131; clear HO134; clear HB; have HO128 := n0_; have HO131 := n1_; have HO134 := n2_; have HO137 := n3_; have HB := n4_; clear n0_ n1_ n2_ n3_ n4_; (try clear hb); (try clear hb2); (try clear hk); (try clear hi); (try clear ho0); have p138 : 0 ≤ (0 : Int) := (by omega); have q138 : 0 < (t129.length : Int) := of_decide_eq_true zq8_6; obtain ⟨ad138, e138, hx138_0, hx138_1⟩ := at_T47 (Kd.R_reads' HO131.out).2.2 0 p138 q138; cases e138; have qi138 : (0 < t129.length) = True := eq_true (by omega); (try rw [show ((0 : Int)).toNat = 0 from rfl] at hx138_0); (try rw [show 0 * 2 = 0 from rfl] at hx138_0); (try rw [Addr.add_zero'] at hx138_0); (try rw [show ((0 : Int)).toNat = 0 from rfl] at hx138_1); (try rw [show 0 * 2 = 0 from rfl] at hx138_1); (try rw [Addr.add_zero'] at hx138_1); replace p138 := eq_true p138; replace q138 := eq_true q138; obtain ⟨Ao58, co58, eo58⟩ := Kd.R_slice HO137.out; subst eo58; have p139 : 0 ≤ (0 : Int) := (by omega); have q139 : 0 < (t135.length : Int) := of_decide_eq_true zq8_6; obtain ⟨ad139, e139, hx139_0, hx139_1⟩ := at_T47 (Kd.R_reads' HO137.out).2.2 0 p139 q139; cases e139; have qi139 : (0 < t135.length) = True := eq_true (by omega); (try rw [show ((0 : Int)).toNat = 0 from rfl] at hx139_0); (try rw [show 0 * 2 = 0 from rfl] at hx139_0); (try rw [Addr.add_zero'] at hx139_0); (try rw [show ((0 : Int)).toNat = 0 from rfl] at hx139_1); (try rw [show 0 * 2 = 0 from rfl] at hx139_1); (try rw [Addr.add_zero'] at hx139_1); replace p139 := eq_true p139; replace q139 := eq_true q139) | (go_at_call 15; (with_reducible refine (vec_Within.calls _ _ t135 _ _ t129 false _ ?side1 ?side2 ?side3 ?side4 A11.out).mono ?_); (case side1 => repeat (first | exact (Kd.R_reads' HO137.out).2.2 | (with_reducible refine Kd.C_alloc ?_ _) | (with_reducible refine Kd.C_drewN ?_ _) | (with_reducible refine Kd.C_drew ?_))); (case side2 => exact (Kd.R_reads' HO137.out).2.1); (case side3 => repeat (first | exact (Kd.R_reads' HO131.out).2.2 | (with_reducible refine Kd.C_alloc ?_ _) | (with_reducible refine Kd.C_drewN ?_ _) | (with_reducible refine Kd.C_drew ?_))); (case side4 => exact (Kd.R_reads' HO131.out).2.1); rintro e w59 ⟨rfl, hb⟩; have n0_ := Aside0.mk (Kd.R_below zq8_2 hb); have n1_ := Aside0.mk (Kd.R_below zq8_3 hb); have n2_ := Aside0.mk (Kd.R_below zq8_4 hb); have n3_ := Aside0.mk (Kd.R_below zq8_5 hb); have n4_ := Aside0.mk (below_step zq8_1 hb); clear HO128; clear HO131; clear HO134; clear HO137; clear HB; have HO128 := n0_; have HO131 := n1_; have HO134 := n2_; have HO137 := n3_; have HB := n4_; clear n0_ n1_ n2_ n3_ n4_; (try clear hb); (try clear hb2); (try clear hk); (try clear hi)))
        go_ret
        exact ⟨by first | rfl | (simp [errW_none, errW_some] <;> rfl) | (simp [*, errW_none, errW_some] <;> rfl), by repeat (first | (with_reducible first | exact HB.out | apply below_alloc | apply pw_below_drewN | apply below_drew1) | exact HB.out)⟩
      ·rw [if_neg c10] at H
       have c10b0 : (((rd_T47 t135 0).f1) == 1) = false := beq_eq_false_iff_ne.mpr c10
       have c10b1 : (((rd_T47 t135 0).f1) != 1) = true := bne_iff_ne.mpr c10
       obtain rfl := Option.some.inj H
       go_enter Try.func8, Try.ntmps8
       go_wp2_with (first | ((with_reducible refine gate_callee (f := 16) rfl ?_); refine goesL_ (some 4) rfl rfl Try.func16 (by kernel_rfl) rfl #[.slice none 0 0, .string (⟨#[48, 49]⟩ : ByteArray), .int .i64 2] rfl zq8_0 ?_; (refine (vec_Set.calls _ _ ([] : List (S47)) (⟨#[48, 49]⟩ : ByteArray) 2 t126 _ ?side1 ?side2 A1.out).mono ?_); (case side1 => exact Kd.C_nil _ _); (case side2 => exact Nat.le_refl _); rintro e w60 ⟨v127, rfl, ho0, hb⟩; refine ⟨_, rfl, ?_⟩; have n0_ := Aside0.mk (Kd.R_lower ho0 (below_size zq8_1)); have n1_ := Aside0.mk (below_step zq8_1 hb); clear HB; have HO128 := n0_; have HB := n1_; clear n0_ n1_; (try clear hb); (try clear hb2); (try clear hk); (try clear hi); (try clear ho0); obtain ⟨Ao61, co61, eo61⟩ := Kd.R_slice HO128.out; subst eo61) | ((with_reducible refine gate_callee (f := 16) rfl ?_); refine goesL_ (some 5) rfl rfl Try.func16 (by kernel_rfl) rfl #[.slice Ao61 t126.length co61, .string (⟨#[48]⟩ : ByteArray), .int .i64 3] rfl zq8_0 ?_; (with_reducible refine (vec_Set.calls _ _ t126 (⟨#[48]⟩ : ByteArray) 3 t129 _ ?side1 ?side2 A2.out).mono ?_); (case side1 => repeat (first | exact (Kd.R_reads' HO128.out).2.2 | (with_reducible refine Kd.C_alloc ?_ _) | (with_reducible refine Kd.C_drewN ?_ _) | (with_reducible refine Kd.C_drew ?_))); (case side2 => exact (Kd.R_reads' HO128.out).2.1); rintro e w62 ⟨v130, rfl, ho0, hb⟩; refine ⟨_, rfl, ?_⟩; have n0_ := Aside0.mk (Kd.R_elder' zq8_2 (Kd.R_base ho0) hb); have n1_ := Aside0.mk (Kd.R_lower (Kd.R_new' ho0 (Kd.R_lt zq8_2)) (below_size zq8_1)); have n2_ := Aside0.mk (below_step zq8_1 hb); clear HO128; clear HB; have HO128 := n0_; have HO131 := n1_; have HB := n2_; clear n0_ n1_ n2_; (try clear hb); (try clear hb2); (try clear hk); (try clear hi); (try clear ho0)) | ((with_reducible refine gate_callee (f := 16) rfl ?_); refine goesL_ (some 6) rfl rfl Try.func16 (by kernel_rfl) rfl #[.slice none 0 0, .string (⟨#[48]⟩ : ByteArray), .int .i64 1] rfl zq8_0 ?_; (refine (vec_Set.calls _ _ ([] : List (S47)) (⟨#[48]⟩ : ByteArray) 1 t132 _ ?side1 ?side2 A3.out).mono ?_); (case side1 => exact Kd.C_nil _ _); (case side2 => exact Nat.le_refl _); rintro e w63 ⟨v133, rfl, ho0, hb⟩; refine ⟨_, rfl, ?_⟩; have n0_ := Aside0.mk (Kd.R_elder' zq8_2 (Kd.R_base ho0) hb); have n1_ := Aside0.mk (Kd.R_elder' zq8_3 (Kd.R_base ho0) hb); have n2_ := Aside0.mk (Kd.R_lower (Kd.R_new' (Kd.R_new' ho0 (Kd.R_lt zq8_2)) (Kd.R_lt zq8_3)) (below_size zq8_1)); have n3_ := Aside0.mk (below_step zq8_1 hb); clear HO128; clear HO131; clear HB; have HO128 := n0_; have HO131 := n1_; have HO134 := n2_; have HB := n3_; clear n0_ n1_ n2_ n3_; (try clear hb); (try clear hb2); (try clear hk); (try clear hi); (try clear ho0); obtain ⟨Ao64, co64, eo64⟩ := Kd.R_slice HO131.out; subst eo64; obtain ⟨Ao65, co65, eo65⟩ := Kd.R_slice HO134.out; subst eo65) | ((with_reducible refine gate_callee (f := 24) rfl ?_); refine goesL_ (some 9) rfl rfl Try.func24 (by kernel_rfl) rfl #[.slice Ao64 t129.length co64, .slice Ao65 t132.length co65] rfl zq8_0 ?_; (with_reducible refine (vec_Meet.calls k _ _ t129 _ _ t132 t135 _ ?side1 ?side2 ?side3 ?side4 A4.out).mono ?_); (case side1 => repeat (first | exact (Kd.R_reads' HO131.out).2.2 | (with_reducible refine Kd.C_alloc ?_ _) | (with_reducible refine Kd.C_drewN ?_ _) | (with_reducible refine Kd.C_drew ?_))); (case side2 => exact (Kd.R_reads' HO131.out).2.1); (case side3 => repeat (first | exact (Kd.R_reads' HO134.out).2.2 | (with_reducible refine Kd.C_alloc ?_ _) | (with_reducible refine Kd.C_drewN ?_ _) | (with_reducible refine Kd.C_drew ?_))); (case side4 => exact (Kd.R_reads' HO134.out).2.1); rintro e w66 ⟨v136, rfl, ho0, hb⟩; refine ⟨_, rfl, ?_⟩; have n0_ := Aside0.mk (Kd.R_elder' zq8_2 (Kd.R_base ho0) hb); have n1_ := Aside0.mk (Kd.R_elder' zq8_3 (Kd.R_base ho0) hb); have n2_ := Aside0.mk (Kd.R_elder' zq8_4 (Kd.R_base ho0) hb); have n3_ := Aside0.mk (Kd.R_lower (Kd.R_new' (Kd.R_new' (Kd.R_new' ho0 (Kd.R_lt zq8_2)) (Kd.R_lt zq8_3)) (Kd.R_lt zq8_4)) (below_size zq8_1)); have n4_ := Aside0.mk (below_step zq8_1 hb); clear HO128; clear HO131; clear HO134; clear HB; have HO128 := n0_; have HO131 := n1_; have HO134 := n2_; have HO137 := n3_; have HB := n4_; clear n0_ n1_ n2_ n3_ n4_; (try clear hb); (try clear hb2); (try clear hk); (try clear hi); (try clear ho0); have p138 : 0 ≤ (0 : Int) := (by omega); have q138 : 0 < (t129.length : Int) := of_decide_eq_true zq8_6; obtain ⟨ad138, e138, hx138_0, hx138_1⟩ := at_T47 (Kd.R_reads' HO131.out).2.2 0 p138 q138; cases e138; have qi138 : (0 < t129.length) = True := eq_true (by omega); (try rw [show ((0 : Int)).toNat = 0 from rfl] at hx138_0); (try rw [show 0 * 2 = 0 from rfl] at hx138_0); (try rw [Addr.add_zero'] at hx138_0); (try rw [show ((0 : Int)).toNat = 0 from rfl] at hx138_1); (try rw [show 0 * 2 = 0 from rfl] at hx138_1); (try rw [Addr.add_zero'] at hx138_1); replace p138 := eq_true p138; replace q138 := eq_true q138; obtain ⟨Ao67, co67, eo67⟩ := Kd.R_slice HO137.out; subst eo67; have p139 : 0 ≤ (0 : Int) := (by omega); have q139 : 0 < (t135.length : Int) := of_decide_eq_true zq8_6; obtain ⟨ad139, e139, hx139_0, hx139_1⟩ := at_T47 (Kd.R_reads' HO137.out).2.2 0 p139 q139; cases e139; have qi139 : (0 < t135.length) = True := eq_true (by omega); (try rw [show ((0 : Int)).toNat = 0 from rfl] at hx139_0); (try rw [show 0 * 2 = 0 from rfl] at hx139_0); (try rw [Addr.add_zero'] at hx139_0); (try rw [show ((0 : Int)).toNat = 0 from rfl] at hx139_1); (try rw [show 0 * 2 = 0 from rfl] at hx139_1); (try rw [Addr.add_zero'] at hx139_1); replace p139 := eq_true p139; replace q139 := eq_true q139))
       go_ret
       exact ⟨by first | rfl | (simp [errW_none, errW_some] <;> rfl) | (simp [*, errW_none, errW_some] <;> rfl), by repeat (first | (with_reducible first | exact HB.out | apply below_alloc | apply pw_below_drewN | apply below_drew1) | exact HB.out)⟩
     ·rw [if_neg c9] at H
      exact absurd H (by simp)
    ·rw [if_neg c8] at H
     have c8b0 : ((t135.length : Int) == 1) = false := beq_eq_false_iff_ne.mpr c8
     have c8b1 : ((t135.length : Int) != 1) = true := bne_iff_ne.mpr c8
     obtain rfl := Option.some.inj H
     go_enter Try.func8, Try.ntmps8
     go_wp2_with (first | ((with_reducible refine gate_callee (f := 16) rfl ?_); refine goesL_ (some 4) rfl rfl Try.func16 (by kernel_rfl) rfl #[.slice none 0 0, .string (⟨#[48, 49]⟩ : ByteArray), .int .i64 2] rfl zq8_0 ?_; (refine (vec_Set.calls _ _ ([] : List (S47)) (⟨#[48, 49]⟩ : ByteArray) 2 t126 _ ?side1 ?side2 A1.out).mono ?_); (case side1 => exact Kd.C_nil _ _); (case side2 => exact Nat.le_refl _); rintro e w68 ⟨v127, rfl, ho0, hb⟩; refine ⟨_, rfl, ?_⟩; have n0_ := Aside0.mk (Kd.R_lower ho0 (below_size zq8_1)); have n1_ := Aside0.mk (below_step zq8_1 hb); clear HB; have HO128 := n0_; have HB := n1_; clear n0_ n1_; (try clear hb); (try clear hb2); (try clear hk); (try clear hi); (try clear ho0); obtain ⟨Ao69, co69, eo69⟩ := Kd.R_slice HO128.out; subst eo69) | ((with_reducible refine gate_callee (f := 16) rfl ?_); refine goesL_ (some 5) rfl rfl Try.func16 (by kernel_rfl) rfl #[.slice Ao69 t126.length co69, .string (⟨#[48]⟩ : ByteArray), .int .i64 3] rfl zq8_0 ?_; (with_reducible refine (vec_Set.calls _ _ t126 (⟨#[48]⟩ : ByteArray) 3 t129 _ ?side1 ?side2 A2.out).mono ?_); (case side1 => repeat (first | exact (Kd.R_reads' HO128.out).2.2 | (with_reducible refine Kd.C_alloc ?_ _) | (with_reducible refine Kd.C_drewN ?_ _) | (with_reducible refine Kd.C_drew ?_))); (case side2 => exact (Kd.R_reads' HO128.out).2.1); rintro e w70 ⟨v130, rfl, ho0, hb⟩; refine ⟨_, rfl, ?_⟩; have n0_ := Aside0.mk (Kd.R_elder' zq8_2 (Kd.R_base ho0) hb); have n1_ := Aside0.mk (Kd.R_lower (Kd.R_new' ho0 (Kd.R_lt zq8_2)) (below_size zq8_1)); have n2_ := Aside0.mk (below_step zq8_1 hb); clear HO128; clear HB; have HO128 := n0_; have HO131 := n1_; have HB := n2_; clear n0_ n1_ n2_; (try clear hb); (try clear hb2); (try clear hk); (try clear hi); (try clear ho0)) | ((with_reducible refine gate_callee (f := 16) rfl ?_); refine goesL_ (some 6) rfl rfl Try.func16 (by kernel_rfl) rfl #[.slice none 0 0, .string (⟨#[48]⟩ : ByteArray), .int .i64 1] rfl zq8_0 ?_; (refine (vec_Set.calls _ _ ([] : List (S47)) (⟨#[48]⟩ : ByteArray) 1 t132 _ ?side1 ?side2 A3.out).mono ?_); (case side1 => exact Kd.C_nil _ _); (case side2 => exact Nat.le_refl _); rintro e w71 ⟨v133, rfl, ho0, hb⟩; refine ⟨_, rfl, ?_⟩; have n0_ := Aside0.mk (Kd.R_elder' zq8_2 (Kd.R_base ho0) hb); have n1_ := Aside0.mk (Kd.R_elder' zq8_3 (Kd.R_base ho0) hb); have n2_ := Aside0.mk (Kd.R_lower (Kd.R_new' (Kd.R_new' ho0 (Kd.R_lt zq8_2)) (Kd.R_lt zq8_3)) (below_size zq8_1)); have n3_ := Aside0.mk (below_step zq8_1 hb); clear HO128; clear HO131; clear HB; have HO128 := n0_; have HO131 := n1_; have HO134 := n2_; have HB := n3_; clear n0_ n1_ n2_ n3_; (try clear hb); (try clear hb2); (try clear hk); (try clear hi); (try clear ho0); obtain ⟨Ao72, co72, eo72⟩ := Kd.R_slice HO131.out; subst eo72; obtain ⟨Ao73, co73, eo73⟩ := Kd.R_slice HO134.out; subst eo73) | ((with_reducible refine gate_callee (f := 24) rfl ?_); refine goesL_ (some 9) rfl rfl Try.func24 (by kernel_rfl) rfl #[.slice Ao72 t129.length co72, .slice Ao73 t132.length co73] rfl zq8_0 ?_; (with_reducible refine (vec_Meet.calls k _ _ t129 _ _ t132 t135 _ ?side1 ?side2 ?side3 ?side4 A4.out).mono ?_); (case side1 => repeat (first | exact (Kd.R_reads' HO131.out).2.2 | (with_reducible refine Kd.C_alloc ?_ _) | (with_reducible refine Kd.C_drewN ?_ _) | (with_reducible refine Kd.C_drew ?_))); (case side2 => exact (Kd.R_reads' HO131.out).2.1); (case side3 => repeat (first | exact (Kd.R_reads' HO134.out).2.2 | (with_reducible refine Kd.C_alloc ?_ _) | (with_reducible refine Kd.C_drewN ?_ _) | (with_reducible refine Kd.C_drew ?_))); (case side4 => exact (Kd.R_reads' HO134.out).2.1); rintro e w74 ⟨v136, rfl, ho0, hb⟩; refine ⟨_, rfl, ?_⟩; have n0_ := Aside0.mk (Kd.R_elder' zq8_2 (Kd.R_base ho0) hb); have n1_ := Aside0.mk (Kd.R_elder' zq8_3 (Kd.R_base ho0) hb); have n2_ := Aside0.mk (Kd.R_elder' zq8_4 (Kd.R_base ho0) hb); have n3_ := Aside0.mk (Kd.R_lower (Kd.R_new' (Kd.R_new' (Kd.R_new' ho0 (Kd.R_lt zq8_2)) (Kd.R_lt zq8_3)) (Kd.R_lt zq8_4)) (below_size zq8_1)); have n4_ := Aside0.mk (below_step zq8_1 hb); clear HO128; clear HO131; clear HO134; clear HB; have HO128 := n0_; have HO131 := n1_; have HO134 := n2_; have HO137 := n3_; have HB := n4_; clear n0_ n1_ n2_ n3_ n4_; (try clear hb); (try clear hb2); (try clear hk); (try clear hi); (try clear ho0); have p138 : 0 ≤ (0 : Int) := (by omega); have q138 : 0 < (t129.length : Int) := of_decide_eq_true zq8_6; obtain ⟨ad138, e138, hx138_0, hx138_1⟩ := at_T47 (Kd.R_reads' HO131.out).2.2 0 p138 q138; cases e138; have qi138 : (0 < t129.length) = True := eq_true (by omega); (try rw [show ((0 : Int)).toNat = 0 from rfl] at hx138_0); (try rw [show 0 * 2 = 0 from rfl] at hx138_0); (try rw [Addr.add_zero'] at hx138_0); (try rw [show ((0 : Int)).toNat = 0 from rfl] at hx138_1); (try rw [show 0 * 2 = 0 from rfl] at hx138_1); (try rw [Addr.add_zero'] at hx138_1); replace p138 := eq_true p138; replace q138 := eq_true q138; obtain ⟨Ao75, co75, eo75⟩ := Kd.R_slice HO137.out; subst eo75))
     go_ret
     exact ⟨by first | rfl | (simp [errW_none, errW_some] <;> rfl) | (simp [*, errW_none, errW_some] <;> rfl), by repeat (first | (with_reducible first | exact HB.out | apply below_alloc | apply pw_below_drewN | apply below_drew1) | exact HB.out)⟩
   ·rw [if_neg c7] at H
    have c7b0 : (((rd_T47 t129 0).f0).toList == ([48] : List UInt8)) = false := beq_eq_false_iff_ne.mpr c7
    have c7b1 : (((rd_T47 t129 0).f0).toList != ([48] : List UInt8)) = true := bne_iff_ne.mpr c7
    obtain rfl := Option.some.inj H
    go_enter Try.func8, Try.ntmps8
    go_wp2_with (first | ((with_reducible refine gate_callee (f := 16) rfl ?_); refine goesL_ (some 4) rfl rfl Try.func16 (by kernel_rfl) rfl #[.slice none 0 0, .string (⟨#[48, 49]⟩ : ByteArray), .int .i64 2] rfl zq8_0 ?_; (refine (vec_Set.calls _ _ ([] : List (S47)) (⟨#[48, 49]⟩ : ByteArray) 2 t126 _ ?side1 ?side2 A1.out).mono ?_); (case side1 => exact Kd.C_nil _ _); (case side2 => exact Nat.le_refl _); rintro e w76 ⟨v127, rfl, ho0, hb⟩; refine ⟨_, rfl, ?_⟩; have n0_ := Aside0.mk (Kd.R_lower ho0 (below_size zq8_1)); have n1_ := Aside0.mk (below_step zq8_1 hb); clear HB; have HO128 := n0_; have HB := n1_; clear n0_ n1_; (try clear hb); (try clear hb2); (try clear hk); (try clear hi); (try clear ho0); obtain ⟨Ao77, co77, eo77⟩ := Kd.R_slice HO128.out; subst eo77) | ((with_reducible refine gate_callee (f := 16) rfl ?_); refine goesL_ (some 5) rfl rfl Try.func16 (by kernel_rfl) rfl #[.slice Ao77 t126.length co77, .string (⟨#[48]⟩ : ByteArray), .int .i64 3] rfl zq8_0 ?_; (with_reducible refine (vec_Set.calls _ _ t126 (⟨#[48]⟩ : ByteArray) 3 t129 _ ?side1 ?side2 A2.out).mono ?_); (case side1 => repeat (first | exact (Kd.R_reads' HO128.out).2.2 | (with_reducible refine Kd.C_alloc ?_ _) | (with_reducible refine Kd.C_drewN ?_ _) | (with_reducible refine Kd.C_drew ?_))); (case side2 => exact (Kd.R_reads' HO128.out).2.1); rintro e w78 ⟨v130, rfl, ho0, hb⟩; refine ⟨_, rfl, ?_⟩; have n0_ := Aside0.mk (Kd.R_elder' zq8_2 (Kd.R_base ho0) hb); have n1_ := Aside0.mk (Kd.R_lower (Kd.R_new' ho0 (Kd.R_lt zq8_2)) (below_size zq8_1)); have n2_ := Aside0.mk (below_step zq8_1 hb); clear HO128; clear HB; have HO128 := n0_; have HO131 := n1_; have HB := n2_; clear n0_ n1_ n2_; (try clear hb); (try clear hb2); (try clear hk); (try clear hi); (try clear ho0)) | ((with_reducible refine gate_callee (f := 16) rfl ?_); refine goesL_ (some 6) rfl rfl Try.func16 (by kernel_rfl) rfl #[.slice none 0 0, .string (⟨#[48]⟩ : ByteArray), .int .i64 1] rfl zq8_0 ?_; (refine (vec_Set.calls _ _ ([] : List (S47)) (⟨#[48]⟩ : ByteArray) 1 t132 _ ?side1 ?side2 A3.out).mono ?_); (case side1 => exact Kd.C_nil _ _); (case side2 => exact Nat.le_refl _); rintro e w79 ⟨v133, rfl, ho0, hb⟩; refine ⟨_, rfl, ?_⟩; have n0_ := Aside0.mk (Kd.R_elder' zq8_2 (Kd.R_base ho0) hb); have n1_ := Aside0.mk (Kd.R_elder' zq8_3 (Kd.R_base ho0) hb); have n2_ := Aside0.mk (Kd.R_lower (Kd.R_new' (Kd.R_new' ho0 (Kd.R_lt zq8_2)) (Kd.R_lt zq8_3)) (below_size zq8_1)); have n3_ := Aside0.mk (below_step zq8_1 hb); clear HO128; clear HO131; clear HB; have HO128 := n0_; have HO131 := n1_; have HO134 := n2_; have HB := n3_; clear n0_ n1_ n2_ n3_; (try clear hb); (try clear hb2); (try clear hk); (try clear hi); (try clear ho0); obtain ⟨Ao80, co80, eo80⟩ := Kd.R_slice HO131.out; subst eo80; obtain ⟨Ao81, co81, eo81⟩ := Kd.R_slice HO134.out; subst eo81) | ((with_reducible refine gate_callee (f := 24) rfl ?_); refine goesL_ (some 9) rfl rfl Try.func24 (by kernel_rfl) rfl #[.slice Ao80 t129.length co80, .slice Ao81 t132.length co81] rfl zq8_0 ?_; (with_reducible refine (vec_Meet.calls k _ _ t129 _ _ t132 t135 _ ?side1 ?side2 ?side3 ?side4 A4.out).mono ?_); (case side1 => repeat (first | exact (Kd.R_reads' HO131.out).2.2 | (with_reducible refine Kd.C_alloc ?_ _) | (with_reducible refine Kd.C_drewN ?_ _) | (with_reducible refine Kd.C_drew ?_))); (case side2 => exact (Kd.R_reads' HO131.out).2.1); (case side3 => repeat (first | exact (Kd.R_reads' HO134.out).2.2 | (with_reducible refine Kd.C_alloc ?_ _) | (with_reducible refine Kd.C_drewN ?_ _) | (with_reducible refine Kd.C_drew ?_))); (case side4 => exact (Kd.R_reads' HO134.out).2.1); rintro e w82 ⟨v136, rfl, ho0, hb⟩; refine ⟨_, rfl, ?_⟩; have n0_ := Aside0.mk (Kd.R_elder' zq8_2 (Kd.R_base ho0) hb); have n1_ := Aside0.mk (Kd.R_elder' zq8_3 (Kd.R_base ho0) hb); have n2_ := Aside0.mk (Kd.R_elder' zq8_4 (Kd.R_base ho0) hb); have n3_ := Aside0.mk (Kd.R_lower (Kd.R_new' (Kd.R_new' (Kd.R_new' ho0 (Kd.R_lt zq8_2)) (Kd.R_lt zq8_3)) (Kd.R_lt zq8_4)) (below_size zq8_1)); have n4_ := Aside0.mk (below_step zq8_1 hb); clear HO128; clear HO131; clear HO134; clear HB; have HO128 := n0_; have HO131 := n1_; have HO134 := n2_; have HO137 := n3_; have HB := n4_; clear n0_ n1_ n2_ n3_ n4_; (try clear hb); (try clear hb2); (try clear hk); (try clear hi); (try clear ho0); have p138 : 0 ≤ (0 : Int) := (by omega); have q138 : 0 < (t129.length : Int) := of_decide_eq_true zq8_6; obtain ⟨ad138, e138, hx138_0, hx138_1⟩ := at_T47 (Kd.R_reads' HO131.out).2.2 0 p138 q138; cases e138; have qi138 : (0 < t129.length) = True := eq_true (by omega); (try rw [show ((0 : Int)).toNat = 0 from rfl] at hx138_0); (try rw [show 0 * 2 = 0 from rfl] at hx138_0); (try rw [Addr.add_zero'] at hx138_0); (try rw [show ((0 : Int)).toNat = 0 from rfl] at hx138_1); (try rw [show 0 * 2 = 0 from rfl] at hx138_1); (try rw [Addr.add_zero'] at hx138_1); replace p138 := eq_true p138; replace q138 := eq_true q138))
    go_ret
    exact ⟨by first | rfl | (simp [errW_none, errW_some] <;> rfl) | (simp [*, errW_none, errW_some] <;> rfl), by repeat (first | (with_reducible first | exact HB.out | apply below_alloc | apply pw_below_drewN | apply below_drew1) | exact HB.out)⟩
  ·rw [if_neg c6] at H
   exact absurd H (by simp)
 ·rw [if_neg c5] at H
  have c5b0 : ((t129.length : Int) == 2) = false := beq_eq_false_iff_ne.mpr c5
  have c5b1 : ((t129.length : Int) != 2) = true := bne_iff_ne.mpr c5
  obtain rfl := Option.some.inj H
  go_enter Try.func8, Try.ntmps8
  go_wp2_with (first | ((with_reducible refine gate_callee (f := 16) rfl ?_); refine goesL_ (some 4) rfl rfl Try.func16 (by kernel_rfl) rfl #[.slice none 0 0, .string (⟨#[48, 49]⟩ : ByteArray), .int .i64 2] rfl zq8_0 ?_; (refine (vec_Set.calls _ _ ([] : List (S47)) (⟨#[48, 49]⟩ : ByteArray) 2 t126 _ ?side1 ?side2 A1.out).mono ?_); (case side1 => exact Kd.C_nil _ _); (case side2 => exact Nat.le_refl _); rintro e w83 ⟨v127, rfl, ho0, hb⟩; refine ⟨_, rfl, ?_⟩; have n0_ := Aside0.mk (Kd.R_lower ho0 (below_size zq8_1)); have n1_ := Aside0.mk (below_step zq8_1 hb); clear HB; have HO128 := n0_; have HB := n1_; clear n0_ n1_; (try clear hb); (try clear hb2); (try clear hk); (try clear hi); (try clear ho0); obtain ⟨Ao84, co84, eo84⟩ := Kd.R_slice HO128.out; subst eo84) | ((with_reducible refine gate_callee (f := 16) rfl ?_); refine goesL_ (some 5) rfl rfl Try.func16 (by kernel_rfl) rfl #[.slice Ao84 t126.length co84, .string (⟨#[48]⟩ : ByteArray), .int .i64 3] rfl zq8_0 ?_; (with_reducible refine (vec_Set.calls _ _ t126 (⟨#[48]⟩ : ByteArray) 3 t129 _ ?side1 ?side2 A2.out).mono ?_); (case side1 => repeat (first | exact (Kd.R_reads' HO128.out).2.2 | (with_reducible refine Kd.C_alloc ?_ _) | (with_reducible refine Kd.C_drewN ?_ _) | (with_reducible refine Kd.C_drew ?_))); (case side2 => exact (Kd.R_reads' HO128.out).2.1); rintro e w85 ⟨v130, rfl, ho0, hb⟩; refine ⟨_, rfl, ?_⟩; have n0_ := Aside0.mk (Kd.R_elder' zq8_2 (Kd.R_base ho0) hb); have n1_ := Aside0.mk (Kd.R_lower (Kd.R_new' ho0 (Kd.R_lt zq8_2)) (below_size zq8_1)); have n2_ := Aside0.mk (below_step zq8_1 hb); clear HO128; clear HB; have HO128 := n0_; have HO131 := n1_; have HB := n2_; clear n0_ n1_ n2_; (try clear hb); (try clear hb2); (try clear hk); (try clear hi); (try clear ho0)) | ((with_reducible refine gate_callee (f := 16) rfl ?_); refine goesL_ (some 6) rfl rfl Try.func16 (by kernel_rfl) rfl #[.slice none 0 0, .string (⟨#[48]⟩ : ByteArray), .int .i64 1] rfl zq8_0 ?_; (refine (vec_Set.calls _ _ ([] : List (S47)) (⟨#[48]⟩ : ByteArray) 1 t132 _ ?side1 ?side2 A3.out).mono ?_); (case side1 => exact Kd.C_nil _ _); (case side2 => exact Nat.le_refl _); rintro e w86 ⟨v133, rfl, ho0, hb⟩; refine ⟨_, rfl, ?_⟩; have n0_ := Aside0.mk (Kd.R_elder' zq8_2 (Kd.R_base ho0) hb); have n1_ := Aside0.mk (Kd.R_elder' zq8_3 (Kd.R_base ho0) hb); have n2_ := Aside0.mk (Kd.R_lower (Kd.R_new' (Kd.R_new' ho0 (Kd.R_lt zq8_2)) (Kd.R_lt zq8_3)) (below_size zq8_1)); have n3_ := Aside0.mk (below_step zq8_1 hb); clear HO128; clear HO131; clear HB; have HO128 := n0_; have HO131 := n1_; have HO134 := n2_; have HB := n3_; clear n0_ n1_ n2_ n3_; (try clear hb); (try clear hb2); (try clear hk); (try clear hi); (try clear ho0); obtain ⟨Ao87, co87, eo87⟩ := Kd.R_slice HO131.out; subst eo87; obtain ⟨Ao88, co88, eo88⟩ := Kd.R_slice HO134.out; subst eo88) | ((with_reducible refine gate_callee (f := 24) rfl ?_); refine goesL_ (some 9) rfl rfl Try.func24 (by kernel_rfl) rfl #[.slice Ao87 t129.length co87, .slice Ao88 t132.length co88] rfl zq8_0 ?_; (with_reducible refine (vec_Meet.calls k _ _ t129 _ _ t132 t135 _ ?side1 ?side2 ?side3 ?side4 A4.out).mono ?_); (case side1 => repeat (first | exact (Kd.R_reads' HO131.out).2.2 | (with_reducible refine Kd.C_alloc ?_ _) | (with_reducible refine Kd.C_drewN ?_ _) | (with_reducible refine Kd.C_drew ?_))); (case side2 => exact (Kd.R_reads' HO131.out).2.1); (case side3 => repeat (first | exact (Kd.R_reads' HO134.out).2.2 | (with_reducible refine Kd.C_alloc ?_ _) | (with_reducible refine Kd.C_drewN ?_ _) | (with_reducible refine Kd.C_drew ?_))); (case side4 => exact (Kd.R_reads' HO134.out).2.1); rintro e w89 ⟨v136, rfl, ho0, hb⟩; refine ⟨_, rfl, ?_⟩; have n0_ := Aside0.mk (Kd.R_elder' zq8_2 (Kd.R_base ho0) hb); have n1_ := Aside0.mk (Kd.R_elder' zq8_3 (Kd.R_base ho0) hb); have n2_ := Aside0.mk (Kd.R_elder' zq8_4 (Kd.R_base ho0) hb); have n3_ := Aside0.mk (Kd.R_lower (Kd.R_new' (Kd.R_new' (Kd.R_new' ho0 (Kd.R_lt zq8_2)) (Kd.R_lt zq8_3)) (Kd.R_lt zq8_4)) (below_size zq8_1)); have n4_ := Aside0.mk (below_step zq8_1 hb); clear HO128; clear HO131; clear HO134; clear HB; have HO128 := n0_; have HO131 := n1_; have HO134 := n2_; have HO137 := n3_; have HB := n4_; clear n0_ n1_ n2_ n3_ n4_; (try clear hb); (try clear hb2); (try clear hk); (try clear hi); (try clear ho0)))
  go_ret
  exact ⟨by first | rfl | (simp [errW_none, errW_some] <;> rfl) | (simp [*, errW_none, errW_some] <;> rfl), by repeat (first | (with_reducible first | exact HB.out | apply below_alloc | apply pw_below_drewN | apply below_drew1) | exact HB.out)⟩

/-! ### cenotaphlaw03_To: function 10 -/
theorem zq10_0 {p_ : Prop} (h_ : p_ := by first | (with_reducible assumption) | assumption) : p_ := h_
def cenotaphlaw03_To.l0 : Nat → List (S33) → List (S47) → Int → Option ((List (S47)))
 | 0, _, _, _ => none
 | k + 1, x0, x3, x4 => if x4 < (x0.length : Int) then (if 0 ≤ x4 then (if x3.length < 5864062014805 then (cenotaphlaw03_To.l0 k x0 (x3 ++ [(⟨(rd_T33 x0 x4).f0, (rd_T33 x0 x4).f1⟩ : S47)]) (wrap64 (x4 + 1))) else (none)) else (none)) else (some x3)
def cenotaphlaw03_To.f (k : Nat) (l0 : List (S33)) : Option ((List (S47))) := cenotaphlaw03_To.l0 k l0 ([] : List (S47)) 0
theorem cenotaphlaw03_To.mono_l : ∀ k, (∀ y0 y1 y2, LeO (cenotaphlaw03_To.l0 k y0 y1 y2) (cenotaphlaw03_To.l0 (k + 1) y0 y1 y2))
 | 0 => fun _ _ _ r h => by simp [cenotaphlaw03_To.l0] at h
 | k + 1 => by
  have ih0 := cenotaphlaw03_To.mono_l k
  ·intro y0 y1 y2
   unfold cenotaphlaw03_To.l0
   repeat' first
   | (with_reducible exact ih0 _ _ _)
   | (with_reducible exact LeO.refl _)
   | (with_reducible exact LeO.none _)
   | (with_reducible refine LeO.ite ?_ ?_)
   | (with_reducible refine LeO.bind ?_ (fun _ => ?_))
   | exact ih0 _ _ _
   | exact LeO.none _
   | refine LeO.ite ?_ ?_
   | refine LeO.bind ?_ (fun _ => ?_)
theorem cenotaphlaw03_To.mono : ∀ a0 k, LeO (cenotaphlaw03_To.f k a0) (cenotaphlaw03_To.f (k + 1) a0) := by
 intro a0 k
 have ih0 := cenotaphlaw03_To.mono_l k
 unfold cenotaphlaw03_To.f
 repeat' first
   | (with_reducible exact ih0 _ _ _)
   | (with_reducible exact LeO.refl _)
   | (with_reducible exact LeO.none _)
   | (with_reducible refine LeO.ite ?_ ?_)
   | (with_reducible refine LeO.bind ?_ (fun _ => ?_))
   | exact ih0 _ _ _
   | exact LeO.none _
   | refine LeO.ite ?_ ?_
   | refine LeO.bind ?_ (fun _ => ?_)
def cenotaphlaw03_To.T5 : Bool × List (List Nat × List Nat) := (true, [([], []), ([], []), ([], []), ([1, 2], [1, 2]), ([3], [3]), ([4], [4]), ([], []), ([], []), ([6, 7], [6, 7]), ([8], [8]), ([9], [9]), ([5, 10], [5, 10]), ([11], [11]), ([0, 12], [0, 12]), ([13, 13, 0, 1, 2, 3, 4, 5, 6, 7, 8, 9, 10, 11, 12, 13], [0, 13])])
def cenotaphlaw03_To.B5 : List Nat := [0, 0, 0, 6, 14, 30, 0, 0, 192, 448, 960, 2046, 4094, 8191, 16383]
theorem cenotaphlaw03_To.tab5 : rtab .any (opsOf Try.f10 5) = cenotaphlaw03_To.T5 := by kernel_rfl
theorem cenotaphlaw03_To.bits5 : waitsOk cenotaphlaw03_To.T5.2 cenotaphlaw03_To.B5 = true := by kernel_rfl
set_option maxHeartbeats 8000000 in
set_option maxRecDepth 100000 in
theorem cenotaphlaw03_To.calls (k : Nat) (A0 : Option Addr) (c0 : Nat) (l0 : List (S33)) (r : List (S47)) (w : World) (hr0 : Kd.C k33 w A0 l0.length l0) (hc0 : l0.length ≤ c0) (h : cenotaphlaw03_To.f k l0 = some r) :
  Calls Try.prog 10 #[.slice A0 l0.length c0] w fun e w' => ∃ v0_ : Value, e = .returned (v0_) ∧ Kd.R k47 47 w' w.heap.size (fun _ => True) v0_ r ∧ Below w.heap.size w w' := by
 have hu47 := Try.underlying47
 have HR0 := Aside0.mk hr0
 have HC0 := Aside0.mk hc0
 clear hr0 hc0
 have HB := Aside0.mk (Below.refl w.heap.size w)
 have H : (cenotaphlaw03_To.l0 k l0 ([] : List (S47)) 0) = some r := h
 clear h
 have H' := Aside0.mk H
 clear H
 go_enter Try.func10, Try.ntmps10
 go_wp2
 go_loopg [3, 4] k (fun kq v3 v4 w' => ∃ (x3_1 : List (S47)) (x4_1 : Int), v4 = .int .i64 x4_1 ∧ Aside0 (cenotaphlaw03_To.l0 kq l0 x3_1 x4_1 = some r) ∧ Aside0 (kq ≤ k) ∧ Aside0 (Kd.R k47 47 w' w.heap.size (fun _ => True) v3 x3_1) ∧ Aside0 (Below w.heap.size w w'))
 case atStart => exact ⟨(([] : List (S47))), (0), (by first | rfl | (simp; done) | (simp [*]; done)), H', ⟨Nat.le_refl _⟩, ⟨by first | exact Kd.R_nil _ _ _ _ _ | exact Kd.N_nil _ _ _ _ _ | exact Kd.V_nil _ _ _ _ _ | exact Kd.Q_nil _ _ _ _ _ | exact Kd.S_nil _ _ _ _ _⟩, ⟨by repeat (first | (with_reducible first | exact HB.out | apply below_alloc | apply pw_below_drewN | apply below_drew1) | exact HB.out)⟩⟩
 case round =>
  clear H'
  try clear c1
  obtain ⟨x3_1, x4_1, rfl, HA, HK1, HO_3, HB⟩ := hrel
  cases gk with
  | zero => exact absurd HA.out (by simp [cenotaphlaw03_To.l0])
  | succ k1 =>
   have H := HA.out
   clear HA
   simp only [cenotaphlaw03_To.l0] at H
   by_cases c2 : x4_1 < (l0.length : Int)
   ·rw [if_pos c2] at H
    have c2b0 : decide (x4_1 < (l0.length : Int)) = true := decide_eq_true c2
    clear c2
    by_cases c3 : 0 ≤ x4_1
    ·rw [if_pos c3] at H
     have c3b0 : decide (0 ≤ x4_1) = true := decide_eq_true c3
     clear c3
     by_cases c4 : x3_1.length < 5864062014805
     ·rw [if_pos c4] at H
      have LMc4 := Aside0.mk c4
      clear c4
      obtain ⟨y146, hy146⟩ : ∃ y_ : List (S47), y_ = (x3_1 ++ [(⟨(rd_T33 l0 x4_1).f0, (rd_T33 l0 x4_1).f1⟩ : S47)]) := ⟨_, rfl⟩
      replace H : (cenotaphlaw03_To.l0 k1 l0 y146 (wrap64 (x4_1 + 1))) = some r := by first | (rw [hy146]; with_reducible exact H) | (have H2_ := (Option.bind_some _ _).symm.trans H; rw [hy146]; with_reducible exact H2_) | (have H2_ := (Option.bind_some _ _).symm.trans H; with_reducible exact H2_) | with_reducible exact H | (rw [hy146]; exact H) | exact H
      have Ny146 := Aside0.mk hy146
      clear hy146
      have H' := Aside0.mk H
      clear H
      try go_wp2
      replace HO_3 := Aside0.mk (Kd.R_drew HO_3.out)
      replace HB := Aside0.mk (below_drew1 HB.out)
      have p144 : 0 ≤ (x4_1 : Int) := of_decide_eq_true zq10_0
      have q144 : x4_1 < (l0.length : Int) := of_decide_eq_true zq10_0
      obtain ⟨ad144, e144, hx144_0, hx144_1⟩ := at_T33 HR0.out x4_1 p144 q144
      have hw144_1 := hx144_1
      have hw144_0 := hx144_0
      cases e144
      replace hx144_0 := (HB.out.cell (World.block_lt_of_cell? w _ hx144_0)).trans hx144_0
      replace hx144_1 := (HB.out.cell (World.block_lt_of_cell? w _ hx144_1)).trans hx144_1
      replace p144 := eq_true p144
      replace q144 := eq_true q144
      have p145 : 0 ≤ (x4_1 : Int) := of_decide_eq_true zq10_0
      have q145 : x4_1 < (l0.length : Int) := of_decide_eq_true zq10_0
      obtain ⟨ad145, e145, hx145_0, hx145_1⟩ := at_T33 HR0.out x4_1 p145 q145
      have hw145_1 := hx145_1
      have hw145_0 := hx145_0
      obtain rfl : ad144 = ad145 := (by injection e145)
      replace hx145_0 := (HB.out.cell (World.block_lt_of_cell? w _ hx145_0)).trans hx145_0
      replace hx145_1 := (HB.out.cell (World.block_lt_of_cell? w _ hx145_1)).trans hx145_1
      replace p145 := eq_true p145
      replace q145 := eq_true q145
      refine start_ (n := 15) (S := fun w' => w'.cell? (ad144.add ((x4_1).toNat * 2)) = some (.string ((rd_T33 l0 x4_1).f0)) ∧ w'.cell? ⟨(ad144.add ((x4_1).toNat * 2)).block, (ad144.add ((x4_1).toNat * 2)).off + 1, none⟩ = some (.int .i64 ((rd_T33 l0 x4_1).f1)) ∧ w'.cell? (ad144.add ((x4_1).toNat * 2)) = some (.string ((rd_T33 l0 x4_1).f0)) ∧ w'.cell? ⟨(ad144.add ((x4_1).toNat * 2)).block, (ad144.add ((x4_1).toNat * 2)).off + 1, none⟩ = some (.int .i64 ((rd_T33 l0 x4_1).f1))) (ds := []) #[false, false, false, false, false, false, false, false, false, false, false, false, false, false, false] (by kernel_rfl) rfl rfl ⟨((HB.out.cell (World.block_lt_of_cell? w _ hw144_0)).trans hw144_0), ((HB.out.cell (World.block_lt_of_cell? w _ hw144_1)).trans hw144_1), ((HB.out.cell (World.block_lt_of_cell? w _ hw145_0)).trans hw145_0), ((HB.out.cell (World.block_lt_of_cell? w _ hw145_1)).trans hw145_1)⟩ (fun hHeld => ?_); refine with_tabW cenotaphlaw03_To.tab5 cenotaphlaw03_To.bits5 (fun HT_ HW_ => ?_)
      generalize wr.drew = w5 at HO_3 HB hx144_0 hx144_1 hx145_0 hx145_1 hHeld ⊢
      refine pure_ (i := 0) (N := some 11) (v := ?_) (a' := ?_) #[true, false, false, false, false, false, false, false, false, false, false, false, false, false, false] rfl rfl (any_of HT_.out (by kernel_rfl)) (fun _ _ _ h => h) (Or.inl ⟨by rfl, ?_⟩) ?_ ?_
      rotate_left
      ·intro w'
       go_simp
       with_reducible rfl
      rotate_left
      ·simp only [Act.put, List.setIfInBounds_toArray, List.set_cons_zero, List.set_cons_succ, i64_w, i32_w]
       rfl
      refine pure_ (i := 1) (N := some 12) (v := ?_) (a' := ?_) #[true, true, false, false, false, false, false, false, false, false, false, false, false, false, false] rfl rfl (any_of HT_.out (by kernel_rfl)) (fun _ _ _ h => h) (Or.inl ⟨by rfl, ?_⟩) ?_ ?_
      rotate_left
      ·intro w'
       go_simp
       with_reducible rfl
      rotate_left
      ·simp only [Act.put, List.setIfInBounds_toArray, List.set_cons_zero, List.set_cons_succ, i64_w, i32_w]
       rfl
      refine pure_ (i := 2) (N := some 13) (v := ?_) (a' := ?_) #[true, true, true, false, false, false, false, false, false, false, false, false, false, false, false] rfl rfl (any_of HT_.out (by kernel_rfl)) (fun _ _ _ h => h) (Or.inl ⟨by rfl, ?_⟩) ?_ ?_
      rotate_left
      ·intro w'
       go_simp
       with_reducible rfl
      rotate_left
      ·simp only [Act.put, List.setIfInBounds_toArray, List.set_cons_zero, List.set_cons_succ, i64_w, i32_w]
       rfl
      refine pure_ (i := 3) (N := some 14) (v := ?_) (a' := ?_) #[true, true, true, true, false, false, false, false, false, false, false, false, false, false, false] rfl rfl (any_of HT_.out (by kernel_rfl)) (fun _ _ _ h => h) (Or.inl ⟨by rfl, ?_⟩) ?_ ?_
      rotate_left
      ·intro w'
       go_simp
       with_reducible rfl
      rotate_left
      ·simp only [Act.put, List.setIfInBounds_toArray, List.set_cons_zero, List.set_cons_succ, i64_w, i32_w]
       rfl
      refine pure_ (i := 4) (N := some 15) (v := ?_) (a' := ?_) #[true, true, true, true, true, false, false, false, false, false, false, false, false, false, false] rfl rfl (any_of HT_.out (by kernel_rfl)) (fun _ _ _ h => h) (Or.inl ⟨by rfl, ?_⟩) ?_ ?_
      rotate_left
      ·intro w'
       go_simp
       with_reducible rfl
      rotate_left
      ·simp only [Act.put, List.setIfInBounds_toArray, List.set_cons_zero, List.set_cons_succ, i64_w, i32_w]
       rfl
      refine pure_ (i := 6) (N := some 17) (v := ?_) (a' := ?_) #[true, true, true, true, true, false, true, false, false, false, false, false, false, false, false] rfl rfl (any_of HT_.out (by kernel_rfl)) (fun _ _ _ h => h) (Or.inl ⟨by rfl, ?_⟩) ?_ ?_
      rotate_left
      ·intro w'
       go_simp
       with_reducible rfl
      rotate_left
      ·simp only [Act.put, List.setIfInBounds_toArray, List.set_cons_zero, List.set_cons_succ, i64_w, i32_w]
       rfl
      refine pure_ (i := 7) (N := some 18) (v := ?_) (a' := ?_) #[true, true, true, true, true, false, true, true, false, false, false, false, false, false, false] rfl rfl (any_of HT_.out (by kernel_rfl)) (fun _ _ _ h => h) (Or.inl ⟨by rfl, ?_⟩) ?_ ?_
      rotate_left
      ·intro w'
       go_simp
       with_reducible rfl
      rotate_left
      ·simp only [Act.put, List.setIfInBounds_toArray, List.set_cons_zero, List.set_cons_succ, i64_w, i32_w]
       rfl
      refine pure_ (i := 8) (N := some 19) (v := ?_) (a' := ?_) #[true, true, true, true, true, false, true, true, true, false, false, false, false, false, false] rfl rfl (any_of HT_.out (by kernel_rfl)) (fun _ _ _ h => h) (Or.inl ⟨by rfl, ?_⟩) ?_ ?_
      rotate_left
      ·intro w'
       go_simp
       with_reducible rfl
      rotate_left
      ·simp only [Act.put, List.setIfInBounds_toArray, List.set_cons_zero, List.set_cons_succ, i64_w, i32_w]
       rfl
      refine pure_ (i := 9) (N := some 20) (v := ?_) (a' := ?_) #[true, true, true, true, true, false, true, true, true, true, false, false, false, false, false] rfl rfl (any_of HT_.out (by kernel_rfl)) (fun _ _ _ h => h) (Or.inl ⟨by rfl, ?_⟩) ?_ ?_
      rotate_left
      ·intro w'
       go_simp
       with_reducible rfl
      rotate_left
      ·simp only [Act.put, List.setIfInBounds_toArray, List.set_cons_zero, List.set_cons_succ, i64_w, i32_w]
       rfl
      refine take_ (i := 5) (N := some 16) (v := ?_) (a' := ?_) #[true, true, true, true, true, true, true, true, true, true, false, false, false, false, false] rfl rfl (take_ofW HT_.out HW_.out (by kernel_rfl)) (fun _ _ _ h => h) (Or.inl ⟨by rfl, ?_⟩) hHeld ?_ ?_
      rotate_left
      ·rintro w' ⟨s0, s1, s2, s3⟩
       go_simp
       with_reducible rfl
      rotate_left
      ·simp only [Act.put, List.setIfInBounds_toArray, List.set_cons_zero, List.set_cons_succ, i64_w, i32_w]
       rfl
      refine take_ (i := 10) (N := some 21) (v := ?_) (a' := ?_) #[true, true, true, true, true, true, true, true, true, true, true, false, false, false, false] rfl rfl (take_ofW HT_.out HW_.out (by kernel_rfl)) (fun _ _ _ h => h) (Or.inl ⟨by rfl, ?_⟩) hHeld ?_ ?_
      rotate_left
      ·rintro w' ⟨s0, s1, s2, s3⟩
       go_simp
       with_reducible rfl
      rotate_left
      ·simp only [Act.put, List.setIfInBounds_toArray, List.set_cons_zero, List.set_cons_succ, i64_w, i32_w]
       rfl
      refine pure_ (i := 11) (N := some 22) (v := ?_) (a' := ?_) #[true, true, true, true, true, true, true, true, true, true, true, true, false, false, false] rfl rfl (any_of HT_.out (by kernel_rfl)) (fun _ _ _ h => h) (Or.inl ⟨by rfl, ?_⟩) ?_ ?_
      rotate_left
      ·intro w'
       go_simp
       with_reducible rfl
      rotate_left
      ·simp only [Act.put, List.setIfInBounds_toArray, List.set_cons_zero, List.set_cons_succ, i64_w, i32_w]
       rfl
      refine one_ (i := 12) (N := some 23) #[true, true, true, true, true, true, true, true, true, true, true, true, true, false, false] rfl rfl (one_of HT_.out (by kernel_rfl)) (by decide) (fun K hK => ?_)
      refine value_ (w1 := ?_) (v := ?_) (by rfl) rfl ?_ ?_
      rotate_left 2
      ·go_simp
       constructor
       ·rfl
       ·rfl
      refine hK.out _ _ ⟨(World.cell?_alloc_lt _ _ _ (World.block_lt_of_cell? _ _ (((HB.out.cell (World.block_lt_of_cell? w _ hw144_0)).trans hw144_0)))).trans (((HB.out.cell (World.block_lt_of_cell? w _ hw144_0)).trans hw144_0)), (World.cell?_alloc_lt _ _ _ (World.block_lt_of_cell? _ _ (((HB.out.cell (World.block_lt_of_cell? w _ hw144_1)).trans hw144_1)))).trans (((HB.out.cell (World.block_lt_of_cell? w _ hw144_1)).trans hw144_1)), (World.cell?_alloc_lt _ _ _ (World.block_lt_of_cell? _ _ (((HB.out.cell (World.block_lt_of_cell? w _ hw145_0)).trans hw145_0)))).trans (((HB.out.cell (World.block_lt_of_cell? w _ hw145_0)).trans hw145_0)), (World.cell?_alloc_lt _ _ _ (World.block_lt_of_cell? _ _ (((HB.out.cell (World.block_lt_of_cell? w _ hw145_1)).trans hw145_1)))).trans (((HB.out.cell (World.block_lt_of_cell? w _ hw145_1)).trans hw145_1))⟩ (fun hHeld => ?_)
      clear hK K
      refine norm_ (a' := ?_) ?_ ?_
      rotate_left
      ·show Act.put _ (some 23) _ = _
       simp only [Act.put, List.setIfInBounds_toArray, List.set_cons_zero, List.set_cons_succ, i64_w, i32_w]
       rfl
      refine one_ (i := 13) (N := some 24) #[true, true, true, true, true, true, true, true, true, true, true, true, true, true, false] rfl rfl (one_of HT_.out (by kernel_rfl)) (by decide) (fun K hK => ?_)
      refine Kd.R_append_step k47 (w0 := w) w.heap.size (by rfl) (.tmp 11) (.tmp 23) 26 47 (.agg #[(.string ⟨#[]⟩), (.int .i64 0)]) 24 rfl Try.underlying26 info47 rfl (by decide) (by omega) u3 x3_1 (⟨(rd_T33 l0 x4_1).f0, (rd_T33 l0 x4_1).f1⟩ : S47) [.string ((rd_T33 l0 x4_1).f0), .int .i64 ((rd_T33 l0 x4_1).f1)] (fun _ => True) (fun _ => False) rfl rfl ?aP (fun _ hk => hk.elim) ?aF ?aO ?aB ?aS ?aL ?_
      (case aP => exact k47_mkM _ _ _ (⟨(rd_T33 l0 x4_1).f0, (rd_T33 l0 x4_1).f1⟩ : S47))
      (case aB => exact (by repeat (first | (with_reducible first | exact HB.out | apply below_alloc | apply pw_below_drewN | apply below_drew1) | exact HB.out)))
      (case aF => exact (fun _ _ => trivial))
      (case aO => exact (by (with_reducible repeat (first | apply Kd.R_alloc | apply Kd.R_drewN | apply Kd.R_drew)); exact HO_3.out))
      (case aS => exact (below_size (by repeat (first | (with_reducible first | exact HB.out | apply below_alloc | apply pw_below_drewN | apply below_drew1) | exact HB.out))))
      (case aL => have := LMc4.out; omega)
      intro v147 w6 ho hb hg hat
      rw [← Ny146.out] at ho
      replace HB := Aside0.mk (hb)
      have HO148 := Aside0.mk (ho)
      clear HO_3
      clear ho hb hg hat
      refine hK.out _ _ ⟨((HB.out.cell (World.block_lt_of_cell? w _ hw144_0)).trans hw144_0), ((HB.out.cell (World.block_lt_of_cell? w _ hw144_1)).trans hw144_1), ((HB.out.cell (World.block_lt_of_cell? w _ hw145_0)).trans hw145_0), ((HB.out.cell (World.block_lt_of_cell? w _ hw145_1)).trans hw145_1)⟩ (fun hHeld => ?_)
      clear hK K
      refine norm_ (a' := ?_) ?_ ?_
      rotate_left
      ·show Act.put _ (some 24) _ = _
       simp only [Act.put, List.setIfInBounds_toArray, List.set_cons_zero, List.set_cons_succ, i64_w, i32_w]
       rfl
      refine pure_ (i := 14) (N := some 3) (v := ?_) (a' := ?_) #[true, true, true, true, true, true, true, true, true, true, true, true, true, true, true] rfl rfl (any_of HT_.out (by kernel_rfl)) (fun _ _ _ h => h) (Or.inl ⟨by rfl, ?_⟩) ?_ ?_
      rotate_left
      ·intro w'
       go_simp
       with_reducible rfl
      rotate_left
      ·simp only [Act.put, List.setIfInBounds_toArray, List.set_cons_zero, List.set_cons_succ, i64_w, i32_w]
       rfl
      refine done_ (done_of HT_.out (by kernel_rfl)) ?_
      try go_wp2
      go_roundg k1
      case measure => have := HK1.out; omega
      case rel => exact ⟨(y146), (wrap64 (x4_1 + 1)), (by first | rfl | (simp; done) | (simp [*]; done)), H', ⟨by have := HK1.out; omega⟩, ⟨by (with_reducible repeat (first | apply Kd.R_alloc | apply Kd.R_drewN | apply Kd.R_drew)); exact HO148.out⟩, ⟨by repeat (first | (with_reducible first | exact HB.out | apply below_alloc | apply pw_below_drewN | apply below_drew1) | exact HB.out)⟩⟩
     ·rw [if_neg c4] at H
      exact absurd H (by simp)
    ·rw [if_neg c3] at H
     exact absurd H (by simp)
   ·rw [if_neg c2] at H
    have c2b0 : decide (x4_1 < (l0.length : Int)) = false := decide_eq_false c2
    clear c2
    obtain rfl := Option.some.inj H
    go_wp2
    go_ret
    exact ⟨_, by first | rfl | (simp [errW_none, errW_some] <;> rfl) | (simp [*, errW_none, errW_some] <;> rfl), by (with_reducible repeat (first | apply Kd.R_alloc | apply Kd.R_drewN | apply Kd.R_drew)); exact HO_3.out, by repeat (first | (with_reducible first | exact HB.out | apply below_alloc | apply pw_below_drewN | apply below_drew1) | exact HB.out)⟩

/-! ### cenotaphref01_Compare: function 31 -/
theorem zq31_0 {p_ : Prop} (h_ : p_ := by first | (with_reducible assumption) | assumption) : p_ := h_
theorem zq31_1 {p_ : Prop} (h_ : p_ := by first | rfl | (simp; done) | (simp [*]; done)) : p_ := h_
mutual
def cenotaphref01_Compare.l0 : Nat → ByteArray → ByteArray → Int → Option (Int)
 | 0, _, _, _ => none
 | k + 1, x0, x1, x5 => if x5 < (x0.size : Int) then (cenotaphref01_Compare.j1 k x0 x1 x5 (decide (x5 < (x1.size : Int)))) else (cenotaphref01_Compare.j1 k x0 x1 x5 false)
def cenotaphref01_Compare.j1 : Nat → ByteArray → ByteArray → Int → Bool → Option (Int)
 | 0, _, _, _, _ => none
 | k + 1, x0, x1, x5, x15 => if x15 = true then (if 0 ≤ x5 then (if x5 < (x0.size : Int) then (if x5 < (x1.size : Int) then (if (bt x0 x5) < (bt x1 x5) then (some (-1)) else (if (bt x0 x5) > (bt x1 x5) then (some 1) else (cenotaphref01_Compare.l0 k x0 x1 (wrap64 (x5 + 1))))) else (none)) else (none)) else (none)) else (if (x0.size : Int) < (x1.size : Int) then (some (-1)) else (if (x0.size : Int) > (x1.size : Int) then (some 1) else (some 0)))
end
def cenotaphref01_Compare.f (k : Nat) (a0 : ByteArray) (a1 : ByteArray) : Option (Int) := cenotaphref01_Compare.l0 k a0 a1 0
theorem cenotaphref01_Compare.mono_l : ∀ k, (∀ y0 y1 y2, LeO (cenotaphref01_Compare.l0 k y0 y1 y2) (cenotaphref01_Compare.l0 (k + 1) y0 y1 y2)) ∧ (∀ y0 y1 y2 y3, LeO (cenotaphref01_Compare.j1 k y0 y1 y2 y3) (cenotaphref01_Compare.j1 (k + 1) y0 y1 y2 y3))
 | 0 => ⟨fun _ _ _ r h => by simp [cenotaphref01_Compare.l0] at h, fun _ _ _ _ r h => by simp [cenotaphref01_Compare.j1] at h⟩
 | k + 1 => by
  obtain ⟨ih0, ih1⟩ := cenotaphref01_Compare.mono_l k
  refine ⟨?_, ?_⟩
  ·intro y0 y1 y2
   unfold cenotaphref01_Compare.l0
   repeat' first
   | (with_reducible exact ih0 _ _ _)
   | (with_reducible exact ih1 _ _ _ _)
   | (with_reducible exact LeO.refl _)
   | (with_reducible exact LeO.none _)
   | (with_reducible refine LeO.ite ?_ ?_)
   | (with_reducible refine LeO.bind ?_ (fun _ => ?_))
   | exact ih0 _ _ _
   | exact ih1 _ _ _ _
   | exact LeO.none _
   | refine LeO.ite ?_ ?_
   | refine LeO.bind ?_ (fun _ => ?_)
  ·intro y0 y1 y2 y3
   unfold cenotaphref01_Compare.j1
   repeat' first
   | (with_reducible exact ih0 _ _ _)
   | (with_reducible exact ih1 _ _ _ _)
   | (with_reducible exact LeO.refl _)
   | (with_reducible exact LeO.none _)
   | (with_reducible refine LeO.ite ?_ ?_)
   | (with_reducible refine LeO.bind ?_ (fun _ => ?_))
   | exact ih0 _ _ _
   | exact ih1 _ _ _ _
   | exact LeO.none _
   | refine LeO.ite ?_ ?_
   | refine LeO.bind ?_ (fun _ => ?_)
theorem cenotaphref01_Compare.mono : ∀ a0 a1 k, LeO (cenotaphref01_Compare.f k a0 a1) (cenotaphref01_Compare.f (k + 1) a0 a1) := by
 intro a0 a1 k
 obtain ⟨ih0, ih1⟩ := cenotaphref01_Compare.mono_l k
 unfold cenotaphref01_Compare.f
 repeat' first
   | (with_reducible exact ih0 _ _ _)
   | (with_reducible exact ih1 _ _ _ _)
   | (with_reducible exact LeO.refl _)
   | (with_reducible exact LeO.none _)
   | (with_reducible refine LeO.ite ?_ ?_)
   | (with_reducible refine LeO.bind ?_ (fun _ => ?_))
   | exact ih0 _ _ _
   | exact ih1 _ _ _ _
   | exact LeO.none _
   | refine LeO.ite ?_ ?_
   | refine LeO.bind ?_ (fun _ => ?_)
set_option maxHeartbeats 8000000 in
set_option maxRecDepth 100000 in
theorem cenotaphref01_Compare.calls (k : Nat) (a0 : ByteArray) (a1 : ByteArray) (r : Int) (w : World) (h : cenotaphref01_Compare.f k a0 a1 = some r) :
  Calls Try.prog 31 #[.string a0, .string a1] w fun e w' => e = .returned (.int .i64 r) ∧ Drawn0 w w' := by
 have H : (cenotaphref01_Compare.l0 k a0 a1 0) = some r := h
 clear h
 have H' := Aside0.mk H
 clear H
 go_enter Try.func31, Try.ntmps31
 go_wp2
 repeat (go_quiet (fail); try go_wp2)
 go_loopg [5] k (fun kq v5 w' => ∃ (x5_1 : Int), v5 = .int .i64 x5_1 ∧ Aside0 (cenotaphref01_Compare.l0 kq a0 a1 x5_1 = some r) ∧ Aside0 (kq ≤ k) ∧ Drawn0 w w')
 case atStart => exact ⟨(0), zq31_1, H', ⟨Nat.le_refl _⟩, by repeat (first | exact Drawn0.refl _ | apply Drawn0.step)⟩
 case round =>
  clear H'
  try clear p2
  obtain ⟨x5_1, rfl, HA, HK1, ⟨m1, rfl⟩⟩ := hrel
  cases gk with
  | zero => exact absurd HA.out (by simp [cenotaphref01_Compare.l0])
  | succ k1 =>
   have H := HA.out
   clear HA
   simp only [cenotaphref01_Compare.l0] at H
   have HC3 := Aside0.mk H
   clear H
   go_upto_region 2 with (fail)
   repeat (go_quiet (fail); go_upto_region 2 with (fail))
   go_cut [15] (fun v15 wc => ∃ (kq : Nat) (x15_2 : Bool), v15 = .bool x15_2 ∧ Aside0 (cenotaphref01_Compare.j1 kq a0 a1 x5_1 x15_2 = some r) ∧ Aside0 (kq ≤ k1) ∧ Drawn0 w wc)
   case first =>
    have H := HC3.out
    clear HC3
    by_cases c4 : x5_1 < (a0.size : Int)
    ·rw [if_pos c4] at H
     have c4b0 : decide (x5_1 < (a0.size : Int)) = true := decide_eq_true c4
     clear c4
     (first | rw [c4b0] | (simp only [i64_w, i32_w]; rw [c4b0]) | skip)
     have H' := Aside0.mk H
     clear H
     go_wp2
     repeat (go_quiet (fail); try go_wp2)
     go_meet
     case rel => exact ⟨_, (decide (x5_1 < (a1.size : Int))), zq31_1, H', ⟨by have := HK1.out; first | omega | exact Nat.le_refl _⟩, by repeat (first | exact Drawn0.refl _ | apply Drawn0.step)⟩
    ·rw [if_neg c4] at H
     have c4b0 : decide (x5_1 < (a0.size : Int)) = false := decide_eq_false c4
     clear c4
     (first | rw [c4b0] | (simp only [i64_w, i32_w]; rw [c4b0]) | skip)
     have H' := Aside0.mk H
     clear H
     go_wp2
     repeat (go_quiet (fail); try go_wp2)
     go_meet
     case rel => exact ⟨_, (false), zq31_1, H', ⟨by have := HK1.out; first | omega | exact Nat.le_refl _⟩, by repeat (first | exact Drawn0.refl _ | apply Drawn0.step)⟩
   case rest =>
    clear HC3
    try clear p2
    try clear c3
    try clear c4
    try clear c4b0
    try clear p2
    obtain ⟨kq, x15_2, rfl, HA, HJ2, ⟨mc2, rfl⟩⟩ := hcut
    cases kq with
    | zero => exact absurd HA.out (by simp [cenotaphref01_Compare.j1])
    | succ kj2 =>
     have H := HA.out
     clear HA
     simp only [cenotaphref01_Compare.j1] at H
     by_cases c5 : x15_2 = true
     ·subst c5
      have H1 : (if 0 ≤ x5_1 then (if x5_1 < (a0.size : Int) then (if x5_1 < (a1.size : Int) then (if (bt a0 x5_1) < (bt a1 x5_1) then (some (-1)) else (if (bt a0 x5_1) > (bt a1 x5_1) then (some 1) else (cenotaphref01_Compare.l0 kj2 a0 a1 (wrap64 (x5_1 + 1))))) else (none)) else (none)) else (none)) = some r := by rw [if_pos rfl] at H; exact H
      clear H
      have H := H1
      clear H1
      by_cases c6 : 0 ≤ x5_1
      ·rw [if_pos c6] at H
       have c6b0 : decide (0 ≤ x5_1) = true := decide_eq_true c6
       clear c6
       by_cases c7 : x5_1 < (a0.size : Int)
       ·rw [if_pos c7] at H
        have c7b0 : decide (x5_1 < (a0.size : Int)) = true := decide_eq_true c7
        clear c7
        by_cases c9 : x5_1 < (a1.size : Int)
        ·rw [if_pos c9] at H
         have c9b0 : decide (x5_1 < (a1.size : Int)) = true := decide_eq_true c9
         clear c9
         by_cases c11 : (bt a0 x5_1) < (bt a1 x5_1)
         ·rw [if_pos c11] at H
          have c11b0 : decide ((bt a0 x5_1) < (bt a1 x5_1)) = true := decide_eq_true c11
          clear c11
          obtain rfl := Option.some.inj H
          have p8 : 0 ≤ (x5_1 : Int) := of_decide_eq_true zq31_0
          have q8 : x5_1 < (a0.size : Int) := of_decide_eq_true zq31_0
          have hx8 := bt_at a0 x5_1
          replace p8 := eq_true p8
          replace q8 := eq_true q8
          have p10 : 0 ≤ (x5_1 : Int) := of_decide_eq_true zq31_0
          have q10 : x5_1 < (a1.size : Int) := of_decide_eq_true zq31_0
          have hx10 := bt_at a1 x5_1
          replace p10 := eq_true p10
          replace q10 := eq_true q10
          go_wp2
          repeat (go_quiet (fail); try go_wp2)
          go_ret
          exact ⟨by first | rfl | (simp; done) | (simp [*]; done), by repeat (first | exact Drawn0.refl _ | apply Drawn0.step)⟩
         ·rw [if_neg c11] at H
          have c11b0 : decide ((bt a0 x5_1) < (bt a1 x5_1)) = false := decide_eq_false c11
          clear c11
          by_cases c14 : (bt a0 x5_1) > (bt a1 x5_1)
          ·rw [if_pos c14] at H
           have c14b0 : decide ((bt a1 x5_1) < (bt a0 x5_1)) = true := decide_eq_true c14
           clear c14
           obtain rfl := Option.some.inj H
           have p8 : 0 ≤ (x5_1 : Int) := of_decide_eq_true zq31_0
           have q8 : x5_1 < (a0.size : Int) := of_decide_eq_true zq31_0
           have hx8 := bt_at a0 x5_1
           replace p8 := eq_true p8
           replace q8 := eq_true q8
           have p10 : 0 ≤ (x5_1 : Int) := of_decide_eq_true zq31_0
           have q10 : x5_1 < (a1.size : Int) := of_decide_eq_true zq31_0
           have hx10 := bt_at a1 x5_1
           replace p10 := eq_true p10
           replace q10 := eq_true q10
           have p12 : 0 ≤ (x5_1 : Int) := of_decide_eq_true zq31_0
           have q12 : x5_1 < (a0.size : Int) := of_decide_eq_true zq31_0
           have hx12 := bt_at a0 x5_1
           replace p12 := eq_true p12
           replace q12 := eq_true q12
           have p13 : 0 ≤ (x5_1 : Int) := of_decide_eq_true zq31_0
           have q13 : x5_1 < (a1.size : Int) := of_decide_eq_true zq31_0
           have hx13 := bt_at a1 x5_1
           replace p13 := eq_true p13
           replace q13 := eq_true q13
           go_wp2
           repeat (go_quiet (fail); try go_wp2)
           go_ret
           exact ⟨by first | rfl | (simp; done) | (simp [*]; done), by repeat (first | exact Drawn0.refl _ | apply Drawn0.step)⟩
          ·rw [if_neg c14] at H
           have c14b0 : decide ((bt a1 x5_1) < (bt a0 x5_1)) = false := decide_eq_false c14
           clear c14
           have H' := Aside0.mk H
           clear H
           have p8 : 0 ≤ (x5_1 : Int) := of_decide_eq_true zq31_0
           have q8 : x5_1 < (a0.size : Int) := of_decide_eq_true zq31_0
           have hx8 := bt_at a0 x5_1
           replace p8 := eq_true p8
           replace q8 := eq_true q8
           have p10 : 0 ≤ (x5_1 : Int) := of_decide_eq_true zq31_0
           have q10 : x5_1 < (a1.size : Int) := of_decide_eq_true zq31_0
           have hx10 := bt_at a1 x5_1
           replace p10 := eq_true p10
           replace q10 := eq_true q10
           have p12 : 0 ≤ (x5_1 : Int) := of_decide_eq_true zq31_0
           have q12 : x5_1 < (a0.size : Int) := of_decide_eq_true zq31_0
           have hx12 := bt_at a0 x5_1
           replace p12 := eq_true p12
           replace q12 := eq_true q12
           have p13 : 0 ≤ (x5_1 : Int) := of_decide_eq_true zq31_0
           have q13 : x5_1 < (a1.size : Int) := of_decide_eq_true zq31_0
           have hx13 := bt_at a1 x5_1
           replace p13 := eq_true p13
           replace q13 := eq_true q13
           go_wp2
           repeat (go_quiet (fail); try go_wp2)
           go_roundg kj2
           case measure => have := HK1.out; have := HJ2.out; omega
           case rel => exact ⟨(wrap64 (x5_1 + 1)), zq31_1, H', ⟨by have := HK1.out; have := HJ2.out; omega⟩, by repeat (first | exact Drawn0.refl _ | apply Drawn0.step)⟩
        ·rw [if_neg c9] at H
         exact absurd H (by simp)
       ·rw [if_neg c7] at H
        exact absurd H (by simp)
      ·rw [if_neg c6] at H
       exact absurd H (by simp)
     ·replace c5 := Bool.eq_false_iff.mpr c5
      subst c5
      have H1 : (if (a0.size : Int) < (a1.size : Int) then (some (-1)) else (if (a0.size : Int) > (a1.size : Int) then (some 1) else (some 0))) = some r := by rw [if_neg (show ¬ (false = true) by decide)] at H; exact H
      clear H
      have H := H1
      clear H1
      by_cases c15 : (a0.size : Int) < (a1.size : Int)
      ·rw [if_pos c15] at H
       have c15b0 : decide ((a0.size : Int) < (a1.size : Int)) = true := decide_eq_true c15
       have c15b1 : decide (a0.size < a1.size) = true := decide_eq_true (Int.ofNat_lt.mp c15)
       clear c15
       obtain rfl := Option.some.inj H
       go_wp2
       repeat (go_quiet (fail); try go_wp2)
       go_ret
       exact ⟨by first | rfl | (simp; done) | (simp [*]; done), by repeat (first | exact Drawn0.refl _ | apply Drawn0.step)⟩
      ·rw [if_neg c15] at H
       have c15b0 : decide ((a0.size : Int) < (a1.size : Int)) = false := decide_eq_false c15
       have c15b1 : decide (a0.size < a1.size) = false := decide_eq_false (fun h => c15 (Int.ofNat_lt.mpr h))
       clear c15
       by_cases c16 : (a0.size : Int) > (a1.size : Int)
       ·rw [if_pos c16] at H
        have c16b0 : decide ((a1.size : Int) < (a0.size : Int)) = true := decide_eq_true c16
        have c16b1 : decide (a1.size < a0.size) = true := decide_eq_true (Int.ofNat_lt.mp c16)
        clear c16
        obtain rfl := Option.some.inj H
        go_wp2
        repeat (go_quiet (fail); try go_wp2)
        go_ret
        exact ⟨by first | rfl | (simp; done) | (simp [*]; done), by repeat (first | exact Drawn0.refl _ | apply Drawn0.step)⟩
       ·rw [if_neg c16] at H
        have c16b0 : decide ((a1.size : Int) < (a0.size : Int)) = false := decide_eq_false c16
        have c16b1 : decide (a1.size < a0.size) = false := decide_eq_false (fun h => c16 (Int.ofNat_lt.mpr h))
        clear c16
        obtain rfl := Option.some.inj H
        go_wp2
        repeat (go_quiet (fail); try go_wp2)
        go_ret
        exact ⟨by first | rfl | (simp; done) | (simp [*]; done), by repeat (first | exact Drawn0.refl _ | apply Drawn0.step)⟩

end Go.Proofs.Ytjdhnnpagaocnaa.P
