-- Written by a program of this session (wip/pp.py over the kit's printer, with our own texts put in).
import Derived.Test.YtbdoablehdpdoaaP0
import Derived.Test.YtbdoablehdpdoaaP1
namespace Go.Proofs.Ytbdoablehdpdoaa.P
open Go.RowKit Go.Proofs.YtbdoablehdpdoaaW.PrintWords Go.Proofs.YtbdoablehdpdoaaW.PrintLast Go.Proofs.YtbdoablehdpdoaaW.PrintMore
attribute [local go_sem] max2_int min2_int max_two min_two max_three min_three max_four min_four   -- for this text's walks alone
set_option linter.unusedVariables false
set_option linter.unusedSimpArgs false

/-! ### cenotaphlaw01_told: function 11 -/
def cenotaphlaw01_told.f (k : Nat)  : Option (Bool) := (id_Child.f k (⟨#[48, 49]⟩ : ByteArray) 3).bind fun bt111 => ((id_Parent.f bt111.1).bind fun bt113 => (if bt111.1.toList = ([48, 49, 51] : List UInt8) then (if bt111.2 = 0 then (if bt113.1.toList = ([48, 49] : List UInt8) then (if bt113.2 = 0 then ((id_Above.f (⟨#[48]⟩ : ByteArray) bt111.1).bind fun t115 => (if t115 = true then ((id_Above.f bt111.1 bt111.1).bind fun t116 => (if t116 = true then (some false) else ((id_Depth.f bt111.1).bind fun t117 => (if t117 = 3 then ((id_Right.f (⟨#[48]⟩ : ByteArray)).bind fun t118 => (some t118)) else (some false))))) else (some false))) else (some false)) else (some false)) else (some false)) else (some false)))
theorem cenotaphlaw01_told.mono : ∀ k, LeO (cenotaphlaw01_told.f k ) (cenotaphlaw01_told.f (k + 1) ) := by
  intro  k
  unfold cenotaphlaw01_told.f
  repeat' first
      | (with_reducible exact id_Child.mono _ _ _)
      | (with_reducible exact LeO.refl _)
      | (with_reducible exact LeO.none _)
      | (with_reducible refine LeO.ite ?_ ?_)
      | (with_reducible refine LeO.bind ?_ (fun _ => ?_))
      | exact id_Child.mono _ _ _
      | exact LeO.none _
      | refine LeO.ite ?_ ?_
      | refine LeO.bind ?_ (fun _ => ?_)
set_option maxHeartbeats 8000000 in
set_option maxRecDepth 100000 in
theorem cenotaphlaw01_told.calls (k : Nat)  (r : Bool) (w : World) (h : cenotaphlaw01_told.f k  = some r) :
    Calls Try.prog 11 #[] w fun e w' => e = .returned (.bool r) ∧ Below w.heap.size w w' := by
  have HB := Aside0.mk (Below.refl w.heap.size w)
  have H : ((id_Child.f k (⟨#[48, 49]⟩ : ByteArray) 3).bind fun bt111 => ((id_Parent.f bt111.1).bind fun bt113 => (if bt111.1.toList = ([48, 49, 51] : List UInt8) then (if bt111.2 = 0 then (if bt113.1.toList = ([48, 49] : List UInt8) then (if bt113.2 = 0 then ((id_Above.f (⟨#[48]⟩ : ByteArray) bt111.1).bind fun t115 => (if t115 = true then ((id_Above.f bt111.1 bt111.1).bind fun t116 => (if t116 = true then (some false) else ((id_Depth.f bt111.1).bind fun t117 => (if t117 = 3 then ((id_Right.f (⟨#[48]⟩ : ByteArray)).bind fun t118 => (some t118)) else (some false))))) else (some false))) else (some false)) else (some false)) else (some false)) else (some false)))) = some r := h
  clear h
  replace H := Option.bind_eq_some_iff.mp H
  obtain ⟨⟨t111, t112⟩, A10, H⟩ := H
  replace H : ((id_Parent.f t111).bind fun bt113 => (if t111.toList = ([48, 49, 51] : List UInt8) then (if t112 = 0 then (if bt113.1.toList = ([48, 49] : List UInt8) then (if bt113.2 = 0 then ((id_Above.f (⟨#[48]⟩ : ByteArray) t111).bind fun t115 => (if t115 = true then ((id_Above.f t111 t111).bind fun t116 => (if t116 = true then (some false) else ((id_Depth.f t111).bind fun t117 => (if t117 = 3 then ((id_Right.f (⟨#[48]⟩ : ByteArray)).bind fun t118 => (some t118)) else (some false))))) else (some false))) else (some false)) else (some false)) else (some false)) else (some false))) = some r := H
  have A1 := Aside0.mk A10
  clear A10
  replace H := Option.bind_eq_some_iff.mp H
  obtain ⟨⟨t113, t114⟩, A20, H⟩ := H
  replace H : (if t111.toList = ([48, 49, 51] : List UInt8) then (if t112 = 0 then (if t113.toList = ([48, 49] : List UInt8) then (if t114 = 0 then ((id_Above.f (⟨#[48]⟩ : ByteArray) t111).bind fun t115 => (if t115 = true then ((id_Above.f t111 t111).bind fun t116 => (if t116 = true then (some false) else ((id_Depth.f t111).bind fun t117 => (if t117 = 3 then ((id_Right.f (⟨#[48]⟩ : ByteArray)).bind fun t118 => (some t118)) else (some false))))) else (some false))) else (some false)) else (some false)) else (some false)) else (some false)) = some r := H
  have A2 := Aside0.mk A20
  clear A20
  by_cases c3 : t111.toList = ([48, 49, 51] : List UInt8)
  · rw [if_pos c3] at H
    have c3b0 : (t111.toList == ([48, 49, 51] : List UInt8)) = true := beq_iff_eq.mpr c3
    have c3b1 : (t111.toList != ([48, 49, 51] : List UInt8)) = false := bne_eq_false_iff_eq.mpr c3
    clear c3
    by_cases c4 : t112 = 0
    · rw [if_pos c4] at H
      have c4b0 : (t112 == 0) = true := beq_iff_eq.mpr c4
      have c4b1 : (t112 != 0) = false := bne_eq_false_iff_eq.mpr c4
      clear c4
      by_cases c5 : t113.toList = ([48, 49] : List UInt8)
      · rw [if_pos c5] at H
        have c5b0 : (t113.toList == ([48, 49] : List UInt8)) = true := beq_iff_eq.mpr c5
        have c5b1 : (t113.toList != ([48, 49] : List UInt8)) = false := bne_eq_false_iff_eq.mpr c5
        clear c5
        by_cases c6 : t114 = 0
        · rw [if_pos c6] at H
          have c6b0 : (t114 == 0) = true := beq_iff_eq.mpr c6
          have c6b1 : (t114 != 0) = false := bne_eq_false_iff_eq.mpr c6
          clear c6
          replace H := Option.bind_eq_some_iff.mp H
          obtain ⟨t115, A70, H⟩ := H
          replace H : (if t115 = true then ((id_Above.f t111 t111).bind fun t116 => (if t116 = true then (some false) else ((id_Depth.f t111).bind fun t117 => (if t117 = 3 then ((id_Right.f (⟨#[48]⟩ : ByteArray)).bind fun t118 => (some t118)) else (some false))))) else (some false)) = some r := H
          have A7 := Aside0.mk A70
          clear A70
          by_cases c8 : t115 = true
          · subst c8
            have H1 : ((id_Above.f t111 t111).bind fun t116 => (if t116 = true then (some false) else ((id_Depth.f t111).bind fun t117 => (if t117 = 3 then ((id_Right.f (⟨#[48]⟩ : ByteArray)).bind fun t118 => (some t118)) else (some false))))) = some r := by rw [if_pos rfl] at H; exact H
            clear H
            have H := H1
            clear H1
            replace H := Option.bind_eq_some_iff.mp H
            obtain ⟨t116, A90, H⟩ := H
            replace H : (if t116 = true then (some false) else ((id_Depth.f t111).bind fun t117 => (if t117 = 3 then ((id_Right.f (⟨#[48]⟩ : ByteArray)).bind fun t118 => (some t118)) else (some false)))) = some r := H
            have A9 := Aside0.mk A90
            clear A90
            by_cases c10 : t116 = true
            · subst c10
              have H1 : (some false) = some r := by rw [if_pos rfl] at H; exact H
              clear H
              have H := H1
              clear H1
              obtain rfl := Option.some.inj H
              go_enter Try.func11, Try.ntmps11
              go_wp2_with (first | ((with_reducible refine gate_callee (f := 9) rfl ?_); refine goesL_ (some 6) rfl rfl Try.func9 (by kernel_rfl) rfl #[.string (⟨#[48, 49]⟩ : ByteArray), .int .i64 3] rfl (by (try simp only [List.map_toArray, List.map_cons, List.map_nil]); first | done | rfl | (simp only [List.length_drop, List.length_take]; rfl)) ?_; (with_reducible refine (id_Child.calls k (⟨#[48, 49]⟩ : ByteArray) 3 t111 t112 _ A1.out).mono ?_); rintro e w11 ⟨rfl, hb⟩; refine ⟨_, rfl, ?_⟩; have n0_ := Aside0.mk (below_step (by repeat (first | (with_reducible first | exact HB.out | apply below_alloc | apply pw_below_drewN | apply below_drew1) | exact HB.out)) hb); clear HB; have HB := n0_; clear n0_; (try clear hb); (try clear hb2); (try clear hk); (try clear hi)) | ((with_reducible refine gate_callee (f := 12) rfl ?_); refine goesL_ (some 11) rfl rfl Try.func12 (by kernel_rfl) rfl #[.string t111] rfl (by (try simp only [List.map_toArray, List.map_cons, List.map_nil]); first | done | rfl | (simp only [List.length_drop, List.length_take]; rfl)) ?_; (with_reducible refine (id_Parent.calls t111 t113 t114 _ A2.out).mono ?_); rintro e w12 ⟨rfl, hb⟩; refine ⟨_, rfl, ?_⟩; have n0_ := Aside0.mk (below_step (by repeat (first | (with_reducible first | exact HB.out | apply below_alloc | apply pw_below_drewN | apply below_drew1) | exact HB.out)) hb); clear HB; have HB := n0_; clear n0_; (try clear hb); (try clear hb2); (try clear hk); (try clear hi)) | (go_at_call 13; (with_reducible refine (id_Above.calls (⟨#[48]⟩ : ByteArray) t111 true _ A7.out).mono ?_); rintro e w13 ⟨rfl, hb⟩; have n0_ := Aside0.mk (below_step (by repeat (first | (with_reducible first | exact HB.out | apply below_alloc | apply pw_below_drewN | apply below_drew1) | exact HB.out)) hb); clear HB; have HB := n0_; clear n0_; (try clear hb); (try clear hb2); (try clear hk); (try clear hi)) | (go_at_call 13; (with_reducible refine (id_Above.calls t111 t111 true _ A9.out).mono ?_); rintro e w14 ⟨rfl, hb⟩; have n0_ := Aside0.mk (below_step (by repeat (first | (with_reducible first | exact HB.out | apply below_alloc | apply pw_below_drewN | apply below_drew1) | exact HB.out)) hb); clear HB; have HB := n0_; clear n0_; (try clear hb); (try clear hb2); (try clear hk); (try clear hi)))
              go_ret
              exact ⟨by first | rfl | (simp [errW_none, errW_some] <;> rfl) | (simp [*, errW_none, errW_some] <;> rfl), by repeat (first | (with_reducible first | exact HB.out | apply below_alloc | apply pw_below_drewN | apply below_drew1) | exact HB.out)⟩
            · replace c10 := Bool.eq_false_iff.mpr c10
              subst c10
              have H1 : ((id_Depth.f t111).bind fun t117 => (if t117 = 3 then ((id_Right.f (⟨#[48]⟩ : ByteArray)).bind fun t118 => (some t118)) else (some false))) = some r := by rw [if_neg (show ¬ (false = true) by decide)] at H; exact H
              clear H
              have H := H1
              clear H1
              replace H := Option.bind_eq_some_iff.mp H
              obtain ⟨t117, A150, H⟩ := H
              replace H : (if t117 = 3 then ((id_Right.f (⟨#[48]⟩ : ByteArray)).bind fun t118 => (some t118)) else (some false)) = some r := H
              have A15 := Aside0.mk A150
              clear A150
              by_cases c16 : t117 = 3
              · rw [if_pos c16] at H
                have c16b0 : (t117 == 3) = true := beq_iff_eq.mpr c16
                have c16b1 : (t117 != 3) = false := bne_eq_false_iff_eq.mpr c16
                clear c16
                replace H := Option.bind_eq_some_iff.mp H
                obtain ⟨t118, A170, H⟩ := H
                replace H : (some t118) = some r := H
                have A17 := Aside0.mk A170
                clear A170
                obtain rfl := Option.some.inj H
                go_enter Try.func11, Try.ntmps11
                go_wp2_with (first | ((with_reducible refine gate_callee (f := 9) rfl ?_); refine goesL_ (some 6) rfl rfl Try.func9 (by kernel_rfl) rfl #[.string (⟨#[48, 49]⟩ : ByteArray), .int .i64 3] rfl (by (try simp only [List.map_toArray, List.map_cons, List.map_nil]); first | done | rfl | (simp only [List.length_drop, List.length_take]; rfl)) ?_; (with_reducible refine (id_Child.calls k (⟨#[48, 49]⟩ : ByteArray) 3 t111 t112 _ A1.out).mono ?_); rintro e w18 ⟨rfl, hb⟩; refine ⟨_, rfl, ?_⟩; have n0_ := Aside0.mk (below_step (by repeat (first | (with_reducible first | exact HB.out | apply below_alloc | apply pw_below_drewN | apply below_drew1) | exact HB.out)) hb); clear HB; have HB := n0_; clear n0_; (try clear hb); (try clear hb2); (try clear hk); (try clear hi)) | ((with_reducible refine gate_callee (f := 12) rfl ?_); refine goesL_ (some 11) rfl rfl Try.func12 (by kernel_rfl) rfl #[.string t111] rfl (by (try simp only [List.map_toArray, List.map_cons, List.map_nil]); first | done | rfl | (simp only [List.length_drop, List.length_take]; rfl)) ?_; (with_reducible refine (id_Parent.calls t111 t113 t114 _ A2.out).mono ?_); rintro e w19 ⟨rfl, hb⟩; refine ⟨_, rfl, ?_⟩; have n0_ := Aside0.mk (below_step (by repeat (first | (with_reducible first | exact HB.out | apply below_alloc | apply pw_below_drewN | apply below_drew1) | exact HB.out)) hb); clear HB; have HB := n0_; clear n0_; (try clear hb); (try clear hb2); (try clear hk); (try clear hi)) | (go_at_call 13; (with_reducible refine (id_Above.calls (⟨#[48]⟩ : ByteArray) t111 true _ A7.out).mono ?_); rintro e w20 ⟨rfl, hb⟩; have n0_ := Aside0.mk (below_step (by repeat (first | (with_reducible first | exact HB.out | apply below_alloc | apply pw_below_drewN | apply below_drew1) | exact HB.out)) hb); clear HB; have HB := n0_; clear n0_; (try clear hb); (try clear hb2); (try clear hk); (try clear hi)) | (go_at_call 13; (with_reducible refine (id_Above.calls t111 t111 false _ A9.out).mono ?_); rintro e w21 ⟨rfl, hb⟩; have n0_ := Aside0.mk (below_step (by repeat (first | (with_reducible first | exact HB.out | apply below_alloc | apply pw_below_drewN | apply below_drew1) | exact HB.out)) hb); clear HB; have HB := n0_; clear n0_; (try clear hb); (try clear hb2); (try clear hk); (try clear hi)) | (go_at_call 15; (with_reducible refine (id_Depth.calls t111 t117 _ A15.out).mono ?_); rintro e w22 ⟨rfl, hb⟩; have n0_ := Aside0.mk (below_step (by repeat (first | (with_reducible first | exact HB.out | apply below_alloc | apply pw_below_drewN | apply below_drew1) | exact HB.out)) hb); clear HB; have HB := n0_; clear n0_; (try clear hb); (try clear hb2); (try clear hk); (try clear hi)) | (go_at_call 18; (with_reducible refine (id_Right.calls (⟨#[48]⟩ : ByteArray) t118 _ A17.out).mono ?_); rintro e w23 ⟨rfl, hb⟩; have n0_ := Aside0.mk (below_step (by repeat (first | (with_reducible first | exact HB.out | apply below_alloc | apply pw_below_drewN | apply below_drew1) | exact HB.out)) hb); clear HB; have HB := n0_; clear n0_; (try clear hb); (try clear hb2); (try clear hk); (try clear hi)))
                go_ret
                exact ⟨by first | rfl | (simp [errW_none, errW_some] <;> rfl) | (simp [*, errW_none, errW_some] <;> rfl), by repeat (first | (with_reducible first | exact HB.out | apply below_alloc | apply pw_below_drewN | apply below_drew1) | exact HB.out)⟩
              · rw [if_neg c16] at H
                have c16b0 : (t117 == 3) = false := beq_eq_false_iff_ne.mpr c16
                have c16b1 : (t117 != 3) = true := bne_iff_ne.mpr c16
                obtain rfl := Option.some.inj H
                go_enter Try.func11, Try.ntmps11
                go_wp2_with (first | ((with_reducible refine gate_callee (f := 9) rfl ?_); refine goesL_ (some 6) rfl rfl Try.func9 (by kernel_rfl) rfl #[.string (⟨#[48, 49]⟩ : ByteArray), .int .i64 3] rfl (by (try simp only [List.map_toArray, List.map_cons, List.map_nil]); first | done | rfl | (simp only [List.length_drop, List.length_take]; rfl)) ?_; (with_reducible refine (id_Child.calls k (⟨#[48, 49]⟩ : ByteArray) 3 t111 t112 _ A1.out).mono ?_); rintro e w24 ⟨rfl, hb⟩; refine ⟨_, rfl, ?_⟩; have n0_ := Aside0.mk (below_step (by repeat (first | (with_reducible first | exact HB.out | apply below_alloc | apply pw_below_drewN | apply below_drew1) | exact HB.out)) hb); clear HB; have HB := n0_; clear n0_; (try clear hb); (try clear hb2); (try clear hk); (try clear hi)) | ((with_reducible refine gate_callee (f := 12) rfl ?_); refine goesL_ (some 11) rfl rfl Try.func12 (by kernel_rfl) rfl #[.string t111] rfl (by (try simp only [List.map_toArray, List.map_cons, List.map_nil]); first | done | rfl | (simp only [List.length_drop, List.length_take]; rfl)) ?_; (with_reducible refine (id_Parent.calls t111 t113 t114 _ A2.out).mono ?_); rintro e w25 ⟨rfl, hb⟩; refine ⟨_, rfl, ?_⟩; have n0_ := Aside0.mk (below_step (by repeat (first | (with_reducible first | exact HB.out | apply below_alloc | apply pw_below_drewN | apply below_drew1) | exact HB.out)) hb); clear HB; have HB := n0_; clear n0_; (try clear hb); (try clear hb2); (try clear hk); (try clear hi)) | (go_at_call 13; (with_reducible refine (id_Above.calls (⟨#[48]⟩ : ByteArray) t111 true _ A7.out).mono ?_); rintro e w26 ⟨rfl, hb⟩; have n0_ := Aside0.mk (below_step (by repeat (first | (with_reducible first | exact HB.out | apply below_alloc | apply pw_below_drewN | apply below_drew1) | exact HB.out)) hb); clear HB; have HB := n0_; clear n0_; (try clear hb); (try clear hb2); (try clear hk); (try clear hi)) | (go_at_call 13; (with_reducible refine (id_Above.calls t111 t111 false _ A9.out).mono ?_); rintro e w27 ⟨rfl, hb⟩; have n0_ := Aside0.mk (below_step (by repeat (first | (with_reducible first | exact HB.out | apply below_alloc | apply pw_below_drewN | apply below_drew1) | exact HB.out)) hb); clear HB; have HB := n0_; clear n0_; (try clear hb); (try clear hb2); (try clear hk); (try clear hi)) | (go_at_call 15; (with_reducible refine (id_Depth.calls t111 t117 _ A15.out).mono ?_); rintro e w28 ⟨rfl, hb⟩; have n0_ := Aside0.mk (below_step (by repeat (first | (with_reducible first | exact HB.out | apply below_alloc | apply pw_below_drewN | apply below_drew1) | exact HB.out)) hb); clear HB; have HB := n0_; clear n0_; (try clear hb); (try clear hb2); (try clear hk); (try clear hi)))
                go_ret
                exact ⟨by first | rfl | (simp [errW_none, errW_some] <;> rfl) | (simp [*, errW_none, errW_some] <;> rfl), by repeat (first | (with_reducible first | exact HB.out | apply below_alloc | apply pw_below_drewN | apply below_drew1) | exact HB.out)⟩
          · replace c8 := Bool.eq_false_iff.mpr c8
            subst c8
            have H1 : (some false) = some r := by rw [if_neg (show ¬ (false = true) by decide)] at H; exact H
            clear H
            have H := H1
            clear H1
            obtain rfl := Option.some.inj H
            go_enter Try.func11, Try.ntmps11
            go_wp2_with (first | ((with_reducible refine gate_callee (f := 9) rfl ?_); refine goesL_ (some 6) rfl rfl Try.func9 (by kernel_rfl) rfl #[.string (⟨#[48, 49]⟩ : ByteArray), .int .i64 3] rfl (by (try simp only [List.map_toArray, List.map_cons, List.map_nil]); first | done | rfl | (simp only [List.length_drop, List.length_take]; rfl)) ?_; (with_reducible refine (id_Child.calls k (⟨#[48, 49]⟩ : ByteArray) 3 t111 t112 _ A1.out).mono ?_); rintro e w29 ⟨rfl, hb⟩; refine ⟨_, rfl, ?_⟩; have n0_ := Aside0.mk (below_step (by repeat (first | (with_reducible first | exact HB.out | apply below_alloc | apply pw_below_drewN | apply below_drew1) | exact HB.out)) hb); clear HB; have HB := n0_; clear n0_; (try clear hb); (try clear hb2); (try clear hk); (try clear hi)) | ((with_reducible refine gate_callee (f := 12) rfl ?_); refine goesL_ (some 11) rfl rfl Try.func12 (by kernel_rfl) rfl #[.string t111] rfl (by (try simp only [List.map_toArray, List.map_cons, List.map_nil]); first | done | rfl | (simp only [List.length_drop, List.length_take]; rfl)) ?_; (with_reducible refine (id_Parent.calls t111 t113 t114 _ A2.out).mono ?_); rintro e w30 ⟨rfl, hb⟩; refine ⟨_, rfl, ?_⟩; have n0_ := Aside0.mk (below_step (by repeat (first | (with_reducible first | exact HB.out | apply below_alloc | apply pw_below_drewN | apply below_drew1) | exact HB.out)) hb); clear HB; have HB := n0_; clear n0_; (try clear hb); (try clear hb2); (try clear hk); (try clear hi)) | (go_at_call 13; (with_reducible refine (id_Above.calls (⟨#[48]⟩ : ByteArray) t111 false _ A7.out).mono ?_); rintro e w31 ⟨rfl, hb⟩; have n0_ := Aside0.mk (below_step (by repeat (first | (with_reducible first | exact HB.out | apply below_alloc | apply pw_below_drewN | apply below_drew1) | exact HB.out)) hb); clear HB; have HB := n0_; clear n0_; (try clear hb); (try clear hb2); (try clear hk); (try clear hi)))
            go_ret
            exact ⟨by first | rfl | (simp [errW_none, errW_some] <;> rfl) | (simp [*, errW_none, errW_some] <;> rfl), by repeat (first | (with_reducible first | exact HB.out | apply below_alloc | apply pw_below_drewN | apply below_drew1) | exact HB.out)⟩
        · rw [if_neg c6] at H
          have c6b0 : (t114 == 0) = false := beq_eq_false_iff_ne.mpr c6
          have c6b1 : (t114 != 0) = true := bne_iff_ne.mpr c6
          obtain rfl := Option.some.inj H
          go_enter Try.func11, Try.ntmps11
          go_wp2_with (first | ((with_reducible refine gate_callee (f := 9) rfl ?_); refine goesL_ (some 6) rfl rfl Try.func9 (by kernel_rfl) rfl #[.string (⟨#[48, 49]⟩ : ByteArray), .int .i64 3] rfl (by (try simp only [List.map_toArray, List.map_cons, List.map_nil]); first | done | rfl | (simp only [List.length_drop, List.length_take]; rfl)) ?_; (with_reducible refine (id_Child.calls k (⟨#[48, 49]⟩ : ByteArray) 3 t111 t112 _ A1.out).mono ?_); rintro e w32 ⟨rfl, hb⟩; refine ⟨_, rfl, ?_⟩; have n0_ := Aside0.mk (below_step (by repeat (first | (with_reducible first | exact HB.out | apply below_alloc | apply pw_below_drewN | apply below_drew1) | exact HB.out)) hb); clear HB; have HB := n0_; clear n0_; (try clear hb); (try clear hb2); (try clear hk); (try clear hi)) | ((with_reducible refine gate_callee (f := 12) rfl ?_); refine goesL_ (some 11) rfl rfl Try.func12 (by kernel_rfl) rfl #[.string t111] rfl (by (try simp only [List.map_toArray, List.map_cons, List.map_nil]); first | done | rfl | (simp only [List.length_drop, List.length_take]; rfl)) ?_; (with_reducible refine (id_Parent.calls t111 t113 t114 _ A2.out).mono ?_); rintro e w33 ⟨rfl, hb⟩; refine ⟨_, rfl, ?_⟩; have n0_ := Aside0.mk (below_step (by repeat (first | (with_reducible first | exact HB.out | apply below_alloc | apply pw_below_drewN | apply below_drew1) | exact HB.out)) hb); clear HB; have HB := n0_; clear n0_; (try clear hb); (try clear hb2); (try clear hk); (try clear hi)))
          go_ret
          exact ⟨by first | rfl | (simp [errW_none, errW_some] <;> rfl) | (simp [*, errW_none, errW_some] <;> rfl), by repeat (first | (with_reducible first | exact HB.out | apply below_alloc | apply pw_below_drewN | apply below_drew1) | exact HB.out)⟩
      · rw [if_neg c5] at H
        have c5b0 : (t113.toList == ([48, 49] : List UInt8)) = false := beq_eq_false_iff_ne.mpr c5
        have c5b1 : (t113.toList != ([48, 49] : List UInt8)) = true := bne_iff_ne.mpr c5
        obtain rfl := Option.some.inj H
        go_enter Try.func11, Try.ntmps11
        go_wp2_with (first | ((with_reducible refine gate_callee (f := 9) rfl ?_); refine goesL_ (some 6) rfl rfl Try.func9 (by kernel_rfl) rfl #[.string (⟨#[48, 49]⟩ : ByteArray), .int .i64 3] rfl (by (try simp only [List.map_toArray, List.map_cons, List.map_nil]); first | done | rfl | (simp only [List.length_drop, List.length_take]; rfl)) ?_; (with_reducible refine (id_Child.calls k (⟨#[48, 49]⟩ : ByteArray) 3 t111 t112 _ A1.out).mono ?_); rintro e w34 ⟨rfl, hb⟩; refine ⟨_, rfl, ?_⟩; have n0_ := Aside0.mk (below_step (by repeat (first | (with_reducible first | exact HB.out | apply below_alloc | apply pw_below_drewN | apply below_drew1) | exact HB.out)) hb); clear HB; have HB := n0_; clear n0_; (try clear hb); (try clear hb2); (try clear hk); (try clear hi)) | ((with_reducible refine gate_callee (f := 12) rfl ?_); refine goesL_ (some 11) rfl rfl Try.func12 (by kernel_rfl) rfl #[.string t111] rfl (by (try simp only [List.map_toArray, List.map_cons, List.map_nil]); first | done | rfl | (simp only [List.length_drop, List.length_take]; rfl)) ?_; (with_reducible refine (id_Parent.calls t111 t113 t114 _ A2.out).mono ?_); rintro e w35 ⟨rfl, hb⟩; refine ⟨_, rfl, ?_⟩; have n0_ := Aside0.mk (below_step (by repeat (first | (with_reducible first | exact HB.out | apply below_alloc | apply pw_below_drewN | apply below_drew1) | exact HB.out)) hb); clear HB; have HB := n0_; clear n0_; (try clear hb); (try clear hb2); (try clear hk); (try clear hi)))
        go_ret
        exact ⟨by first | rfl | (simp [errW_none, errW_some] <;> rfl) | (simp [*, errW_none, errW_some] <;> rfl), by repeat (first | (with_reducible first | exact HB.out | apply below_alloc | apply pw_below_drewN | apply below_drew1) | exact HB.out)⟩
    · rw [if_neg c4] at H
      have c4b0 : (t112 == 0) = false := beq_eq_false_iff_ne.mpr c4
      have c4b1 : (t112 != 0) = true := bne_iff_ne.mpr c4
      obtain rfl := Option.some.inj H
      go_enter Try.func11, Try.ntmps11
      go_wp2_with (first | ((with_reducible refine gate_callee (f := 9) rfl ?_); refine goesL_ (some 6) rfl rfl Try.func9 (by kernel_rfl) rfl #[.string (⟨#[48, 49]⟩ : ByteArray), .int .i64 3] rfl (by (try simp only [List.map_toArray, List.map_cons, List.map_nil]); first | done | rfl | (simp only [List.length_drop, List.length_take]; rfl)) ?_; (with_reducible refine (id_Child.calls k (⟨#[48, 49]⟩ : ByteArray) 3 t111 t112 _ A1.out).mono ?_); rintro e w36 ⟨rfl, hb⟩; refine ⟨_, rfl, ?_⟩; have n0_ := Aside0.mk (below_step (by repeat (first | (with_reducible first | exact HB.out | apply below_alloc | apply pw_below_drewN | apply below_drew1) | exact HB.out)) hb); clear HB; have HB := n0_; clear n0_; (try clear hb); (try clear hb2); (try clear hk); (try clear hi)) | ((with_reducible refine gate_callee (f := 12) rfl ?_); refine goesL_ (some 11) rfl rfl Try.func12 (by kernel_rfl) rfl #[.string t111] rfl (by (try simp only [List.map_toArray, List.map_cons, List.map_nil]); first | done | rfl | (simp only [List.length_drop, List.length_take]; rfl)) ?_; (with_reducible refine (id_Parent.calls t111 t113 t114 _ A2.out).mono ?_); rintro e w37 ⟨rfl, hb⟩; refine ⟨_, rfl, ?_⟩; have n0_ := Aside0.mk (below_step (by repeat (first | (with_reducible first | exact HB.out | apply below_alloc | apply pw_below_drewN | apply below_drew1) | exact HB.out)) hb); clear HB; have HB := n0_; clear n0_; (try clear hb); (try clear hb2); (try clear hk); (try clear hi)))
      go_ret
      exact ⟨by first | rfl | (simp [errW_none, errW_some] <;> rfl) | (simp [*, errW_none, errW_some] <;> rfl), by repeat (first | (with_reducible first | exact HB.out | apply below_alloc | apply pw_below_drewN | apply below_drew1) | exact HB.out)⟩
  · rw [if_neg c3] at H
    have c3b0 : (t111.toList == ([48, 49, 51] : List UInt8)) = false := beq_eq_false_iff_ne.mpr c3
    have c3b1 : (t111.toList != ([48, 49, 51] : List UInt8)) = true := bne_iff_ne.mpr c3
    obtain rfl := Option.some.inj H
    go_enter Try.func11, Try.ntmps11
    go_wp2_with (first | ((with_reducible refine gate_callee (f := 9) rfl ?_); refine goesL_ (some 6) rfl rfl Try.func9 (by kernel_rfl) rfl #[.string (⟨#[48, 49]⟩ : ByteArray), .int .i64 3] rfl (by (try simp only [List.map_toArray, List.map_cons, List.map_nil]); first | done | rfl | (simp only [List.length_drop, List.length_take]; rfl)) ?_; (with_reducible refine (id_Child.calls k (⟨#[48, 49]⟩ : ByteArray) 3 t111 t112 _ A1.out).mono ?_); rintro e w38 ⟨rfl, hb⟩; refine ⟨_, rfl, ?_⟩; have n0_ := Aside0.mk (below_step (by repeat (first | (with_reducible first | exact HB.out | apply below_alloc | apply pw_below_drewN | apply below_drew1) | exact HB.out)) hb); clear HB; have HB := n0_; clear n0_; (try clear hb); (try clear hb2); (try clear hk); (try clear hi)) | ((with_reducible refine gate_callee (f := 12) rfl ?_); refine goesL_ (some 11) rfl rfl Try.func12 (by kernel_rfl) rfl #[.string t111] rfl (by (try simp only [List.map_toArray, List.map_cons, List.map_nil]); first | done | rfl | (simp only [List.length_drop, List.length_take]; rfl)) ?_; (with_reducible refine (id_Parent.calls t111 t113 t114 _ A2.out).mono ?_); rintro e w39 ⟨rfl, hb⟩; refine ⟨_, rfl, ?_⟩; have n0_ := Aside0.mk (below_step (by repeat (first | (with_reducible first | exact HB.out | apply below_alloc | apply pw_below_drewN | apply below_drew1) | exact HB.out)) hb); clear HB; have HB := n0_; clear n0_; (try clear hb); (try clear hb2); (try clear hk); (try clear hi)))
    go_ret
    exact ⟨by first | rfl | (simp [errW_none, errW_some] <;> rfl) | (simp [*, errW_none, errW_some] <;> rfl), by repeat (first | (with_reducible first | exact HB.out | apply below_alloc | apply pw_below_drewN | apply below_drew1) | exact HB.out)⟩

/-! ### cenotaphlaw01_IdChilds: function 3 -/
mutual
def cenotaphlaw01_IdChilds.j0 : Nat → ByteArray → ByteArray → ByteArray → Int → ByteArray → Int → Bool → Int → Int → Option (Bool)
  | 0, _, _, _, _, _, _, _, _, _ => none
  | k + 1, x0, x1, x7, x8, x9, x10, x47, x120000, x120001 => if x47 = true then (none) else (if x8 = 0 then (cenotaphlaw01_IdChilds.j1 k x0 x1 x7 x9 (x10 != 0) x120000 x120001) else (cenotaphlaw01_IdChilds.j1 k x0 x1 x7 x9 true x120000 x120001))
def cenotaphlaw01_IdChilds.j1 : Nat → ByteArray → ByteArray → ByteArray → ByteArray → Bool → Int → Int → Option (Bool)
  | 0, _, _, _, _, _, _, _ => none
  | k + 1, x0, x1, x7, x9, x53, x120000, x120001 => if x53 = true then (some true) else ((id_Parent.f x7).bind fun bt127 => (if bt127.2 = 0 then (if bt127.1.toList = x0.toList then ((id_Above.f bt127.1 x7).bind fun t129 => (if t129 = true then (if x0.toList = x1.toList then (some ((x7.toList == x9.toList) == (x120000 == x120001))) else (some ((x7.toList == x9.toList) == false))) else (none))) else (none)) else (none)))
end
def cenotaphlaw01_IdChilds.f (k : Nat) (a0 : ByteArray) (a1 : ByteArray) (a2_0 : Int) (a2_1 : Int) : Option (Bool) := (id_Child.f k a0 a2_0).bind fun bt120 => ((id_Child.f k a1 a2_1).bind fun bt122 => ((cenotaphref01_Child.f k a0 a2_0).bind fun bt124 => ((cenotaphlaw01_told.f k).bind fun t126 => (if t126 = true then (if bt120.1.toList = bt124.1.toList then (cenotaphlaw01_IdChilds.j0 k a0 a1 bt120.1 bt120.2 bt122.1 bt122.2 (bt120.2 != bt124.2) a2_0 a2_1) else (cenotaphlaw01_IdChilds.j0 k a0 a1 bt120.1 bt120.2 bt122.1 bt122.2 true a2_0 a2_1)) else (cenotaphlaw01_IdChilds.j0 k a0 a1 bt120.1 bt120.2 bt122.1 bt122.2 true a2_0 a2_1)))))
theorem cenotaphlaw01_IdChilds.mono_l : ∀ k, (∀ y0 y1 y2 y3 y4 y5 y6 y7 y8, LeO (cenotaphlaw01_IdChilds.j0 k y0 y1 y2 y3 y4 y5 y6 y7 y8) (cenotaphlaw01_IdChilds.j0 (k + 1) y0 y1 y2 y3 y4 y5 y6 y7 y8)) ∧ (∀ y0 y1 y2 y3 y4 y5 y6, LeO (cenotaphlaw01_IdChilds.j1 k y0 y1 y2 y3 y4 y5 y6) (cenotaphlaw01_IdChilds.j1 (k + 1) y0 y1 y2 y3 y4 y5 y6))
  | 0 => ⟨fun _ _ _ _ _ _ _ _ _ r h => by simp [cenotaphlaw01_IdChilds.j0] at h, fun _ _ _ _ _ _ _ r h => by simp [cenotaphlaw01_IdChilds.j1] at h⟩
  | k + 1 => by
    obtain ⟨ih0, ih1⟩ := cenotaphlaw01_IdChilds.mono_l k
    refine ⟨?_, ?_⟩
    · intro y0 y1 y2 y3 y4 y5 y6 y7 y8
      unfold cenotaphlaw01_IdChilds.j0
      repeat' first
      | (with_reducible exact ih0 _ _ _ _ _ _ _ _ _)
      | (with_reducible exact ih1 _ _ _ _ _ _ _)
      | (with_reducible exact cenotaphlaw01_told.mono _)
      | (with_reducible exact cenotaphref01_Child.mono _ _ _)
      | (with_reducible exact id_Child.mono _ _ _)
      | (with_reducible exact LeO.refl _)
      | (with_reducible exact LeO.none _)
      | (with_reducible refine LeO.ite ?_ ?_)
      | (with_reducible refine LeO.bind ?_ (fun _ => ?_))
      | exact ih0 _ _ _ _ _ _ _ _ _
      | exact ih1 _ _ _ _ _ _ _
      | exact cenotaphlaw01_told.mono _
      | exact cenotaphref01_Child.mono _ _ _
      | exact id_Child.mono _ _ _
      | exact LeO.none _
      | refine LeO.ite ?_ ?_
      | refine LeO.bind ?_ (fun _ => ?_)
    · intro y0 y1 y2 y3 y4 y5 y6
      unfold cenotaphlaw01_IdChilds.j1
      repeat' first
      | (with_reducible exact ih0 _ _ _ _ _ _ _ _ _)
      | (with_reducible exact ih1 _ _ _ _ _ _ _)
      | (with_reducible exact cenotaphlaw01_told.mono _)
      | (with_reducible exact cenotaphref01_Child.mono _ _ _)
      | (with_reducible exact id_Child.mono _ _ _)
      | (with_reducible exact LeO.refl _)
      | (with_reducible exact LeO.none _)
      | (with_reducible refine LeO.ite ?_ ?_)
      | (with_reducible refine LeO.bind ?_ (fun _ => ?_))
      | exact ih0 _ _ _ _ _ _ _ _ _
      | exact ih1 _ _ _ _ _ _ _
      | exact cenotaphlaw01_told.mono _
      | exact cenotaphref01_Child.mono _ _ _
      | exact id_Child.mono _ _ _
      | exact LeO.none _
      | refine LeO.ite ?_ ?_
      | refine LeO.bind ?_ (fun _ => ?_)
theorem cenotaphlaw01_IdChilds.mono : ∀ a0 a1 a2 a3 k, LeO (cenotaphlaw01_IdChilds.f k a0 a1 a2 a3) (cenotaphlaw01_IdChilds.f (k + 1) a0 a1 a2 a3) := by
  intro a0 a1 a2 a3 k
  obtain ⟨ih0, ih1⟩ := cenotaphlaw01_IdChilds.mono_l k
  unfold cenotaphlaw01_IdChilds.f
  repeat' first
      | (with_reducible exact ih0 _ _ _ _ _ _ _ _ _)
      | (with_reducible exact ih1 _ _ _ _ _ _ _)
      | (with_reducible exact cenotaphlaw01_told.mono _)
      | (with_reducible exact cenotaphref01_Child.mono _ _ _)
      | (with_reducible exact id_Child.mono _ _ _)
      | (with_reducible exact LeO.refl _)
      | (with_reducible exact LeO.none _)
      | (with_reducible refine LeO.ite ?_ ?_)
      | (with_reducible refine LeO.bind ?_ (fun _ => ?_))
      | exact ih0 _ _ _ _ _ _ _ _ _
      | exact ih1 _ _ _ _ _ _ _
      | exact cenotaphlaw01_told.mono _
      | exact cenotaphref01_Child.mono _ _ _
      | exact id_Child.mono _ _ _
      | exact LeO.none _
      | refine LeO.ite ?_ ?_
      | refine LeO.bind ?_ (fun _ => ?_)
set_option maxHeartbeats 8000000 in
set_option maxRecDepth 100000 in
theorem cenotaphlaw01_IdChilds.calls (k : Nat) (a0 : ByteArray) (a1 : ByteArray) (a2_0 : Int) (a2_1 : Int) (r : Bool) (w : World) (h : cenotaphlaw01_IdChilds.f k a0 a1 a2_0 a2_1 = some r) :
    Calls Try.prog 3 #[.string a0, .string a1, .agg #[.int .i64 a2_0, .int .i64 a2_1]] w fun e w' => e = .returned (.bool r) ∧ Below w.heap.size w w' := by
  have hu22 := Try.underlying22
  have HB := Aside0.mk (Below.refl w.heap.size w)
  have H : ((id_Child.f k a0 a2_0).bind fun bt120 => ((id_Child.f k a1 a2_1).bind fun bt122 => ((cenotaphref01_Child.f k a0 a2_0).bind fun bt124 => ((cenotaphlaw01_told.f k).bind fun t126 => (if t126 = true then (if bt120.1.toList = bt124.1.toList then (cenotaphlaw01_IdChilds.j0 k a0 a1 bt120.1 bt120.2 bt122.1 bt122.2 (bt120.2 != bt124.2) a2_0 a2_1) else (cenotaphlaw01_IdChilds.j0 k a0 a1 bt120.1 bt120.2 bt122.1 bt122.2 true a2_0 a2_1)) else (cenotaphlaw01_IdChilds.j0 k a0 a1 bt120.1 bt120.2 bt122.1 bt122.2 true a2_0 a2_1)))))) = some r := h
  clear h
  replace H := Option.bind_eq_some_iff.mp H
  obtain ⟨⟨t120, t121⟩, A40, H⟩ := H
  replace H : ((id_Child.f k a1 a2_1).bind fun bt122 => ((cenotaphref01_Child.f k a0 a2_0).bind fun bt124 => ((cenotaphlaw01_told.f k).bind fun t126 => (if t126 = true then (if t120.toList = bt124.1.toList then (cenotaphlaw01_IdChilds.j0 k a0 a1 t120 t121 bt122.1 bt122.2 (t121 != bt124.2) a2_0 a2_1) else (cenotaphlaw01_IdChilds.j0 k a0 a1 t120 t121 bt122.1 bt122.2 true a2_0 a2_1)) else (cenotaphlaw01_IdChilds.j0 k a0 a1 t120 t121 bt122.1 bt122.2 true a2_0 a2_1))))) = some r := H
  have A4 := Aside0.mk A40
  clear A40
  replace H := Option.bind_eq_some_iff.mp H
  obtain ⟨⟨t122, t123⟩, A50, H⟩ := H
  replace H : ((cenotaphref01_Child.f k a0 a2_0).bind fun bt124 => ((cenotaphlaw01_told.f k).bind fun t126 => (if t126 = true then (if t120.toList = bt124.1.toList then (cenotaphlaw01_IdChilds.j0 k a0 a1 t120 t121 t122 t123 (t121 != bt124.2) a2_0 a2_1) else (cenotaphlaw01_IdChilds.j0 k a0 a1 t120 t121 t122 t123 true a2_0 a2_1)) else (cenotaphlaw01_IdChilds.j0 k a0 a1 t120 t121 t122 t123 true a2_0 a2_1)))) = some r := H
  have A5 := Aside0.mk A50
  clear A50
  replace H := Option.bind_eq_some_iff.mp H
  obtain ⟨⟨t124, t125⟩, A60, H⟩ := H
  replace H : ((cenotaphlaw01_told.f k).bind fun t126 => (if t126 = true then (if t120.toList = t124.toList then (cenotaphlaw01_IdChilds.j0 k a0 a1 t120 t121 t122 t123 (t121 != t125) a2_0 a2_1) else (cenotaphlaw01_IdChilds.j0 k a0 a1 t120 t121 t122 t123 true a2_0 a2_1)) else (cenotaphlaw01_IdChilds.j0 k a0 a1 t120 t121 t122 t123 true a2_0 a2_1))) = some r := H
  have A6 := Aside0.mk A60
  clear A60
  have HC7 := Aside0.mk H
  clear H
  go_enter Try.func3, Try.ntmps3
  go_upto_region 4 with (first | ((with_reducible refine gate_dst (N := 5) rfl ?_); refine box_event ?hg (N := 5) ?hd (cs := #[.int .i64 a2_0, .int .i64 a2_1]) (t := 22) ?hr ?_; (case hd => rfl); (case hg => rfl); (case hr => first | (go_simp; done) | (go_simp; rfl)); intro gb119 hg w8 hbox hb; have n0_ := Aside0.mk (below_step (by repeat (first | (with_reducible first | exact HB.out | apply below_alloc | apply pw_below_drewN | apply below_drew1) | exact HB.out)) hb); have n1_ := Aside0.mk (hbox); have n2_ := Aside0.mk ((by rw [hg]; exact (below_size (by repeat (first | (with_reducible first | exact HB.out | apply below_alloc | apply pw_below_drewN | apply below_drew1) | exact HB.out))) : w.heap.size ≤ gb119)); have n3_ := Aside0.mk ((by rw [hg]; exact (below_size (by repeat (first | (with_reducible first | exact HB.out | apply below_alloc | apply pw_below_drewN | apply below_drew1) | exact HB.out))) : w.heap.size ≤ gb119)); clear HB; have HB := n0_; have BK119 := n1_; have GW119 := n2_; have GE119 := n3_; clear n0_ n1_ n2_ n3_; clear hb hbox hg; have hcz9_0 : w8.cell? ⟨gb119, 0, none⟩ = some (.int .i64 a2_0) := (blk_cell BK119.out 0).trans rfl; have hcz9_1 : w8.cell? ⟨gb119, 1, none⟩ = some (.int .i64 a2_1) := (blk_cell BK119.out 1).trans rfl; have hfz9_0 := blk_frozen BK119.out 0; have hfz9_1 := blk_frozen BK119.out 1) | ((with_reducible refine gate_callee (f := 9) rfl ?_); refine goesL_ (some 19) rfl rfl Try.func9 (by kernel_rfl) rfl #[.string a0, .int .i64 a2_0] rfl (by (try simp only [List.map_toArray, List.map_cons, List.map_nil]); first | done | rfl | (simp only [List.length_drop, List.length_take]; rfl)) ?_; (with_reducible refine (id_Child.calls k a0 a2_0 t120 t121 _ A4.out).mono ?_); rintro e w10 ⟨rfl, hb⟩; refine ⟨_, rfl, ?_⟩; have n0_ := Aside0.mk (blk_below (g := gb119) (o := .cells #[.int .i64 a2_0, .int .i64 a2_1] 22 (0, 0)) (by (with_reducible repeat (first | refine blk_drewN ?_ _ | refine blk_drew ?_ | refine blk_alloc ?_ _)); exact BK119.out) hb); have n1_ := Aside0.mk (below_step (by repeat (first | (with_reducible first | exact HB.out | apply below_alloc | apply pw_below_drewN | apply below_drew1 | refine below_set ?_ GE119.out) | exact HB.out)) hb); clear BK119; clear HB; have BK119 := n0_; have HB := n1_; clear n0_ n1_; (try clear hb); (try clear hb2); (try clear hk); (try clear hi); have hcz11_0 : w10.cell? ⟨gb119, 0, none⟩ = some (.int .i64 a2_0) := (blk_cell BK119.out 0).trans rfl; have hcz11_1 : w10.cell? ⟨gb119, 1, none⟩ = some (.int .i64 a2_1) := (blk_cell BK119.out 1).trans rfl; have hfz11_0 := blk_frozen BK119.out 0; have hfz11_1 := blk_frozen BK119.out 1) | ((with_reducible refine gate_callee (f := 9) rfl ?_); refine goesL_ (some 26) rfl rfl Try.func9 (by kernel_rfl) rfl #[.string a1, .int .i64 a2_1] rfl (by (try simp only [List.map_toArray, List.map_cons, List.map_nil]); first | done | rfl | (simp only [List.length_drop, List.length_take]; rfl)) ?_; (with_reducible refine (id_Child.calls k a1 a2_1 t122 t123 _ A5.out).mono ?_); rintro e w12 ⟨rfl, hb⟩; refine ⟨_, rfl, ?_⟩; have n0_ := Aside0.mk (blk_below (g := gb119) (o := .cells #[.int .i64 a2_0, .int .i64 a2_1] 22 (0, 0)) (by (with_reducible repeat (first | refine blk_drewN ?_ _ | refine blk_drew ?_ | refine blk_alloc ?_ _)); exact BK119.out) hb); have n1_ := Aside0.mk (below_step (by repeat (first | (with_reducible first | exact HB.out | apply below_alloc | apply pw_below_drewN | apply below_drew1 | refine below_set ?_ GE119.out) | exact HB.out)) hb); clear BK119; clear HB; have BK119 := n0_; have HB := n1_; clear n0_ n1_; (try clear hb); (try clear hb2); (try clear hk); (try clear hi); have hcz13_0 : w12.cell? ⟨gb119, 0, none⟩ = some (.int .i64 a2_0) := (blk_cell BK119.out 0).trans rfl; have hcz13_1 : w12.cell? ⟨gb119, 1, none⟩ = some (.int .i64 a2_1) := (blk_cell BK119.out 1).trans rfl; have hfz13_0 := blk_frozen BK119.out 0; have hfz13_1 := blk_frozen BK119.out 1) | ((with_reducible refine gate_callee (f := 10) rfl ?_); refine goesL_ (some 33) rfl rfl Try.func10 (by kernel_rfl) rfl #[.string a0, .int .i64 a2_0] rfl (by (try simp only [List.map_toArray, List.map_cons, List.map_nil]); first | done | rfl | (simp only [List.length_drop, List.length_take]; rfl)) ?_; (with_reducible refine (cenotaphref01_Child.calls k a0 a2_0 t124 t125 _ A6.out).mono ?_); rintro e w' ⟨rfl, ⟨nd, rfl⟩⟩; refine ⟨_, rfl, ?_⟩))
  (try simp only [Act.put, List.setIfInBounds_toArray, List.set_cons_zero, List.set_cons_succ])
  go_cut [47] (fun v47 wc => ∃ (kq : Nat) (x47_6 : Bool), v47 = .bool x47_6 ∧ Aside0 (cenotaphlaw01_IdChilds.j0 kq a0 a1 t120 t121 t122 t123 x47_6 a2_0 a2_1 = some r) ∧ Aside0 (kq ≤ k) ∧ Aside0 (wc.heap[gb119]? = some (.cells #[.int .i64 a2_0, .int .i64 a2_1] 22 (0, 0))) ∧ Aside0 (Below w.heap.size w wc))
  case first =>
    have H := HC7.out
    clear HC7
    replace H := Option.bind_eq_some_iff.mp H
    obtain ⟨t126, A140, H⟩ := H
    replace H : (if t126 = true then (if t120.toList = t124.toList then (cenotaphlaw01_IdChilds.j0 k a0 a1 t120 t121 t122 t123 (t121 != t125) a2_0 a2_1) else (cenotaphlaw01_IdChilds.j0 k a0 a1 t120 t121 t122 t123 true a2_0 a2_1)) else (cenotaphlaw01_IdChilds.j0 k a0 a1 t120 t121 t122 t123 true a2_0 a2_1)) = some r := H
    have A14 := Aside0.mk A140
    clear A140
    by_cases c15 : t126 = true
    · subst c15
      have H1 : (if t120.toList = t124.toList then (cenotaphlaw01_IdChilds.j0 k a0 a1 t120 t121 t122 t123 (t121 != t125) a2_0 a2_1) else (cenotaphlaw01_IdChilds.j0 k a0 a1 t120 t121 t122 t123 true a2_0 a2_1)) = some r := by rw [if_pos rfl] at H; exact H
      clear H
      have H := H1
      clear H1
      by_cases c16 : t120.toList = t124.toList
      · rw [if_pos c16] at H
        have c16b0 : (t120.toList == t124.toList) = true := beq_iff_eq.mpr c16
        have c16b1 : (t120.toList != t124.toList) = false := bne_eq_false_iff_eq.mpr c16
        clear c16
        (first | rw [c16b0] | (simp only [i64_w, i32_w]; rw [c16b0]) | skip)
        have H' := Aside0.mk H
        clear H
        go_wp2_with (first | ((with_reducible refine gate_callee (f := 11) rfl ?_); refine goesL_ (some 36) rfl rfl Try.func11 (by kernel_rfl) rfl #[] rfl (by (try simp only [List.map_toArray, List.map_cons, List.map_nil]); first | done | rfl | (simp only [List.length_drop, List.length_take]; rfl)) ?_; (with_reducible refine (cenotaphlaw01_told.calls k  true _ A14.out).mono ?_); rintro e w17 ⟨rfl, hb⟩; refine ⟨_, rfl, ?_⟩; have n0_ := Aside0.mk (blk_below (g := gb119) (o := .cells #[.int .i64 a2_0, .int .i64 a2_1] 22 (0, 0)) (by (with_reducible repeat (first | refine blk_drewN ?_ _ | refine blk_drew ?_ | refine blk_alloc ?_ _)); exact BK119.out) hb); have n1_ := Aside0.mk (below_step (by repeat (first | (with_reducible first | exact HB.out | apply below_alloc | apply pw_below_drewN | apply below_drew1 | refine below_set ?_ GE119.out) | exact HB.out)) hb); clear BK119; clear HB; have BK119 := n0_; have HB := n1_; clear n0_ n1_; (try clear hb); (try clear hb2); (try clear hk); (try clear hi)))
        go_meet
        case rel => exact ⟨_, ((t121 != t125)), (by first | rfl | (simp; done) | (simp [*]; done)), H', ⟨by first | omega | exact Nat.le_refl _⟩, ⟨by (with_reducible repeat (first | refine blk_drewN ?_ _ | refine blk_drew ?_ | refine blk_alloc ?_ _)); exact BK119.out⟩, ⟨by repeat (first | (with_reducible first | exact HB.out | apply below_alloc | apply pw_below_drewN | apply below_drew1 | refine below_set ?_ GE119.out) | exact HB.out)⟩⟩
      · rw [if_neg c16] at H
        have c16b0 : (t120.toList == t124.toList) = false := beq_eq_false_iff_ne.mpr c16
        have c16b1 : (t120.toList != t124.toList) = true := bne_iff_ne.mpr c16
        (first | rw [c16b0] | (simp only [i64_w, i32_w]; rw [c16b0]) | skip)
        have H' := Aside0.mk H
        clear H
        go_wp2_with (first | ((with_reducible refine gate_callee (f := 11) rfl ?_); refine goesL_ (some 36) rfl rfl Try.func11 (by kernel_rfl) rfl #[] rfl (by (try simp only [List.map_toArray, List.map_cons, List.map_nil]); first | done | rfl | (simp only [List.length_drop, List.length_take]; rfl)) ?_; (with_reducible refine (cenotaphlaw01_told.calls k  true _ A14.out).mono ?_); rintro e w18 ⟨rfl, hb⟩; refine ⟨_, rfl, ?_⟩; have n0_ := Aside0.mk (blk_below (g := gb119) (o := .cells #[.int .i64 a2_0, .int .i64 a2_1] 22 (0, 0)) (by (with_reducible repeat (first | refine blk_drewN ?_ _ | refine blk_drew ?_ | refine blk_alloc ?_ _)); exact BK119.out) hb); have n1_ := Aside0.mk (below_step (by repeat (first | (with_reducible first | exact HB.out | apply below_alloc | apply pw_below_drewN | apply below_drew1 | refine below_set ?_ GE119.out) | exact HB.out)) hb); clear BK119; clear HB; have BK119 := n0_; have HB := n1_; clear n0_ n1_; (try clear hb); (try clear hb2); (try clear hk); (try clear hi)))
        go_meet
        case rel => exact ⟨_, (true), (by first | rfl | (simp; done) | (simp [*]; done)), H', ⟨by first | omega | exact Nat.le_refl _⟩, ⟨by (with_reducible repeat (first | refine blk_drewN ?_ _ | refine blk_drew ?_ | refine blk_alloc ?_ _)); exact BK119.out⟩, ⟨by repeat (first | (with_reducible first | exact HB.out | apply below_alloc | apply pw_below_drewN | apply below_drew1 | refine below_set ?_ GE119.out) | exact HB.out)⟩⟩
    · replace c15 := Bool.eq_false_iff.mpr c15
      subst c15
      have H1 : (cenotaphlaw01_IdChilds.j0 k a0 a1 t120 t121 t122 t123 true a2_0 a2_1) = some r := by rw [if_neg (show ¬ (false = true) by decide)] at H; exact H
      clear H
      have H := H1
      clear H1
      have H' := Aside0.mk H
      clear H
      go_wp2_with (first | ((with_reducible refine gate_callee (f := 11) rfl ?_); refine goesL_ (some 36) rfl rfl Try.func11 (by kernel_rfl) rfl #[] rfl (by (try simp only [List.map_toArray, List.map_cons, List.map_nil]); first | done | rfl | (simp only [List.length_drop, List.length_take]; rfl)) ?_; (with_reducible refine (cenotaphlaw01_told.calls k  false _ A14.out).mono ?_); rintro e w19 ⟨rfl, hb⟩; refine ⟨_, rfl, ?_⟩; have n0_ := Aside0.mk (blk_below (g := gb119) (o := .cells #[.int .i64 a2_0, .int .i64 a2_1] 22 (0, 0)) (by (with_reducible repeat (first | refine blk_drewN ?_ _ | refine blk_drew ?_ | refine blk_alloc ?_ _)); exact BK119.out) hb); have n1_ := Aside0.mk (below_step (by repeat (first | (with_reducible first | exact HB.out | apply below_alloc | apply pw_below_drewN | apply below_drew1 | refine below_set ?_ GE119.out) | exact HB.out)) hb); clear BK119; clear HB; have BK119 := n0_; have HB := n1_; clear n0_ n1_; (try clear hb); (try clear hb2); (try clear hk); (try clear hi)))
      go_meet
      case rel => exact ⟨_, (true), (by first | rfl | (simp; done) | (simp [*]; done)), H', ⟨by first | omega | exact Nat.le_refl _⟩, ⟨by (with_reducible repeat (first | refine blk_drewN ?_ _ | refine blk_drew ?_ | refine blk_alloc ?_ _)); exact BK119.out⟩, ⟨by repeat (first | (with_reducible first | exact HB.out | apply below_alloc | apply pw_below_drewN | apply below_drew1 | refine below_set ?_ GE119.out) | exact HB.out)⟩⟩
  case rest =>
    clear HC7
    try clear c1
    try clear p2
    try clear c3
    try clear c9
    try clear c10
    try clear c11
    try clear c15
    try clear c16
    try clear c16b0
    try clear c16b1
    try clear hcz11_0
    try clear hcz11_1
    try clear hcz13_0
    try clear hcz13_1
    try clear hcz9_0
    try clear hcz9_1
    try clear hfz11_0
    try clear hfz11_1
    try clear hfz13_0
    try clear hfz13_1
    try clear hfz9_0
    try clear hfz9_1
    obtain ⟨kq, x47_6, rfl, HA, HJ6, BK119, HB⟩ := hcut
    cases kq with
    | zero => exact absurd HA.out (by simp [cenotaphlaw01_IdChilds.j0])
    | succ kj6 =>
      have H := HA.out
      clear HA
      simp only [cenotaphlaw01_IdChilds.j0] at H
      by_cases c20 : x47_6 = true
      · subst c20
        have H1 : (none) = some r := by rw [if_pos rfl] at H; exact H
        clear H
        have H := H1
        clear H1
        exact absurd H (by simp)
      · replace c20 := Bool.eq_false_iff.mpr c20
        subst c20
        have H1 : (if t121 = 0 then (cenotaphlaw01_IdChilds.j1 kj6 a0 a1 t120 t122 (t123 != 0) a2_0 a2_1) else (cenotaphlaw01_IdChilds.j1 kj6 a0 a1 t120 t122 true a2_0 a2_1)) = some r := by rw [if_neg (show ¬ (false = true) by decide)] at H; exact H
        clear H
        have H := H1
        clear H1
        have HC21 := Aside0.mk H
        clear H
        go_upto_region 6 with (fail)
        go_cut [53] (fun v53 wc => ∃ (kq : Nat) (x53_20 : Bool), v53 = .bool x53_20 ∧ Aside0 (cenotaphlaw01_IdChilds.j1 kq a0 a1 t120 t122 x53_20 a2_0 a2_1 = some r) ∧ Aside0 (kq ≤ kj6) ∧ Aside0 (wc.heap[gb119]? = some (.cells #[.int .i64 a2_0, .int .i64 a2_1] 22 (0, 0))) ∧ Aside0 (Below w.heap.size w wc))
        case first =>
          have H := HC21.out
          clear HC21
          by_cases c22 : t121 = 0
          · rw [if_pos c22] at H
            have c22b0 : (t121 == 0) = true := beq_iff_eq.mpr c22
            have c22b1 : (t121 != 0) = false := bne_eq_false_iff_eq.mpr c22
            clear c22
            (first | rw [c22b0] | (simp only [i64_w, i32_w]; rw [c22b0]) | skip)
            have H' := Aside0.mk H
            clear H
            go_wp2
            go_meet
            case rel => exact ⟨_, ((t123 != 0)), (by first | rfl | (simp; done) | (simp [*]; done)), H', ⟨by have := HJ6.out; first | omega | exact Nat.le_refl _⟩, ⟨by (with_reducible repeat (first | refine blk_drewN ?_ _ | refine blk_drew ?_ | refine blk_alloc ?_ _)); exact BK119.out⟩, ⟨by repeat (first | (with_reducible first | exact HB.out | apply below_alloc | apply pw_below_drewN | apply below_drew1 | refine below_set ?_ GE119.out) | exact HB.out)⟩⟩
          · rw [if_neg c22] at H
            have c22b0 : (t121 == 0) = false := beq_eq_false_iff_ne.mpr c22
            have c22b1 : (t121 != 0) = true := bne_iff_ne.mpr c22
            (first | rw [c22b0] | (simp only [i64_w, i32_w]; rw [c22b0]) | skip)
            have H' := Aside0.mk H
            clear H
            go_wp2
            go_meet
            case rel => exact ⟨_, (true), (by first | rfl | (simp; done) | (simp [*]; done)), H', ⟨by have := HJ6.out; first | omega | exact Nat.le_refl _⟩, ⟨by (with_reducible repeat (first | refine blk_drewN ?_ _ | refine blk_drew ?_ | refine blk_alloc ?_ _)); exact BK119.out⟩, ⟨by repeat (first | (with_reducible first | exact HB.out | apply below_alloc | apply pw_below_drewN | apply below_drew1 | refine below_set ?_ GE119.out) | exact HB.out)⟩⟩
        case rest =>
          clear HC21
          try clear c1
          try clear c2
          try clear p2
          try clear c3
          try clear c9
          try clear c10
          try clear c11
          try clear c15
          try clear c16
          try clear c16b0
          try clear c16b1
          try clear c20
          try clear c22
          try clear c22b0
          try clear c22b1
          try clear hcz11_0
          try clear hcz11_1
          try clear hcz13_0
          try clear hcz13_1
          try clear hcz9_0
          try clear hcz9_1
          try clear hfz11_0
          try clear hfz11_1
          try clear hfz13_0
          try clear hfz13_1
          try clear hfz9_0
          try clear hfz9_1
          try clear p2
          obtain ⟨kq, x53_20, rfl, HA, HJ20, BK119, HB⟩ := hcut
          cases kq with
          | zero => exact absurd HA.out (by simp [cenotaphlaw01_IdChilds.j1])
          | succ kj20 =>
            have H := HA.out
            clear HA
            simp only [cenotaphlaw01_IdChilds.j1] at H
            by_cases c23 : x53_20 = true
            · subst c23
              have H1 : (some true) = some r := by rw [if_pos rfl] at H; exact H
              clear H
              have H := H1
              clear H1
              obtain rfl := Option.some.inj H
              go_wp2
              go_ret
              exact ⟨by first | rfl | (simp [errW_none, errW_some] <;> rfl) | (simp [*, errW_none, errW_some] <;> rfl), by repeat (first | (with_reducible first | exact HB.out | apply below_alloc | apply pw_below_drewN | apply below_drew1 | refine below_set ?_ GE119.out) | exact HB.out)⟩
            · replace c23 := Bool.eq_false_iff.mpr c23
              subst c23
              have H1 : ((id_Parent.f t120).bind fun bt127 => (if bt127.2 = 0 then (if bt127.1.toList = a0.toList then ((id_Above.f bt127.1 t120).bind fun t129 => (if t129 = true then (if a0.toList = a1.toList then (some ((t120.toList == t122.toList) == (a2_0 == a2_1))) else (some ((t120.toList == t122.toList) == false))) else (none))) else (none)) else (none))) = some r := by rw [if_neg (show ¬ (false = true) by decide)] at H; exact H
              clear H
              have H := H1
              clear H1
              replace H := Option.bind_eq_some_iff.mp H
              obtain ⟨⟨t127, t128⟩, A240, H⟩ := H
              replace H : (if t128 = 0 then (if t127.toList = a0.toList then ((id_Above.f t127 t120).bind fun t129 => (if t129 = true then (if a0.toList = a1.toList then (some ((t120.toList == t122.toList) == (a2_0 == a2_1))) else (some ((t120.toList == t122.toList) == false))) else (none))) else (none)) else (none)) = some r := H
              have A24 := Aside0.mk A240
              clear A240
              by_cases c25 : t128 = 0
              · rw [if_pos c25] at H
                have c25b0 : (t128 == 0) = true := beq_iff_eq.mpr c25
                have c25b1 : (t128 != 0) = false := bne_eq_false_iff_eq.mpr c25
                clear c25
                by_cases c26 : t127.toList = a0.toList
                · rw [if_pos c26] at H
                  have c26b0 : (t127.toList == a0.toList) = true := beq_iff_eq.mpr c26
                  have c26b1 : (t127.toList != a0.toList) = false := bne_eq_false_iff_eq.mpr c26
                  clear c26
                  replace H := Option.bind_eq_some_iff.mp H
                  obtain ⟨t129, A270, H⟩ := H
                  replace H : (if t129 = true then (if a0.toList = a1.toList then (some ((t120.toList == t122.toList) == (a2_0 == a2_1))) else (some ((t120.toList == t122.toList) == false))) else (none)) = some r := H
                  have A27 := Aside0.mk A270
                  clear A270
                  by_cases c28 : t129 = true
                  · subst c28
                    have H1 : (if a0.toList = a1.toList then (some ((t120.toList == t122.toList) == (a2_0 == a2_1))) else (some ((t120.toList == t122.toList) == false))) = some r := by rw [if_pos rfl] at H; exact H
                    clear H
                    have H := H1
                    clear H1
                    by_cases c29 : a0.toList = a1.toList
                    · rw [if_pos c29] at H
                      have c29b0 : (a0.toList == a1.toList) = true := beq_iff_eq.mpr c29
                      have c29b1 : (a0.toList != a1.toList) = false := bne_eq_false_iff_eq.mpr c29
                      clear c29
                      obtain rfl := Option.some.inj H
                      go_wp2_with (first | ((with_reducible refine gate_callee (f := 12) rfl ?_); refine goesL_ (some 56) rfl rfl Try.func12 (by kernel_rfl) rfl #[.string t120] rfl (by (try simp only [List.map_toArray, List.map_cons, List.map_nil]); first | done | rfl | (simp only [List.length_drop, List.length_take]; rfl)) ?_; (with_reducible refine (id_Parent.calls t120 t127 t128 _ A24.out).mono ?_); rintro e w30 ⟨rfl, hb⟩; refine ⟨_, rfl, ?_⟩; have n0_ := Aside0.mk (blk_below (g := gb119) (o := .cells #[.int .i64 a2_0, .int .i64 a2_1] 22 (0, 0)) (by (with_reducible repeat (first | refine blk_drewN ?_ _ | refine blk_drew ?_ | refine blk_alloc ?_ _)); exact BK119.out) hb); have n1_ := Aside0.mk (below_step (by repeat (first | (with_reducible first | exact HB.out | apply below_alloc | apply pw_below_drewN | apply below_drew1 | refine below_set ?_ GE119.out) | exact HB.out)) hb); clear BK119; clear HB; have BK119 := n0_; have HB := n1_; clear n0_ n1_; (try clear hb); (try clear hb2); (try clear hk); (try clear hi)) | (go_at_call 13; (with_reducible refine (id_Above.calls t127 t120 true _ A27.out).mono ?_); rintro e w31 ⟨rfl, hb⟩; have n0_ := Aside0.mk (blk_below (g := gb119) (o := .cells #[.int .i64 a2_0, .int .i64 a2_1] 22 (0, 0)) (by (with_reducible repeat (first | refine blk_drewN ?_ _ | refine blk_drew ?_ | refine blk_alloc ?_ _)); exact BK119.out) hb); have n1_ := Aside0.mk (below_step (by repeat (first | (with_reducible first | exact HB.out | apply below_alloc | apply pw_below_drewN | apply below_drew1 | refine below_set ?_ GE119.out) | exact HB.out)) hb); clear BK119; clear HB; have BK119 := n0_; have HB := n1_; clear n0_ n1_; (try clear hb); (try clear hb2); (try clear hk); (try clear hi); have hcz32_0 : w31.cell? ⟨gb119, 0, none⟩ = some (.int .i64 a2_0) := (blk_cell BK119.out 0).trans rfl; have hcz32_1 : w31.cell? ⟨gb119, 1, none⟩ = some (.int .i64 a2_1) := (blk_cell BK119.out 1).trans rfl; have hfz32_0 := blk_frozen BK119.out 0; have hfz32_1 := blk_frozen BK119.out 1))
                      go_ret
                      exact ⟨by first | rfl | (simp [errW_none, errW_some] <;> rfl) | (simp [*, errW_none, errW_some] <;> rfl), by repeat (first | (with_reducible first | exact HB.out | apply below_alloc | apply pw_below_drewN | apply below_drew1 | refine below_set ?_ GE119.out) | exact HB.out)⟩
                    · rw [if_neg c29] at H
                      have c29b0 : (a0.toList == a1.toList) = false := beq_eq_false_iff_ne.mpr c29
                      have c29b1 : (a0.toList != a1.toList) = true := bne_iff_ne.mpr c29
                      obtain rfl := Option.some.inj H
                      go_wp2_with (first | ((with_reducible refine gate_callee (f := 12) rfl ?_); refine goesL_ (some 56) rfl rfl Try.func12 (by kernel_rfl) rfl #[.string t120] rfl (by (try simp only [List.map_toArray, List.map_cons, List.map_nil]); first | done | rfl | (simp only [List.length_drop, List.length_take]; rfl)) ?_; (with_reducible refine (id_Parent.calls t120 t127 t128 _ A24.out).mono ?_); rintro e w33 ⟨rfl, hb⟩; refine ⟨_, rfl, ?_⟩; have n0_ := Aside0.mk (blk_below (g := gb119) (o := .cells #[.int .i64 a2_0, .int .i64 a2_1] 22 (0, 0)) (by (with_reducible repeat (first | refine blk_drewN ?_ _ | refine blk_drew ?_ | refine blk_alloc ?_ _)); exact BK119.out) hb); have n1_ := Aside0.mk (below_step (by repeat (first | (with_reducible first | exact HB.out | apply below_alloc | apply pw_below_drewN | apply below_drew1 | refine below_set ?_ GE119.out) | exact HB.out)) hb); clear BK119; clear HB; have BK119 := n0_; have HB := n1_; clear n0_ n1_; (try clear hb); (try clear hb2); (try clear hk); (try clear hi)) | (go_at_call 13; (with_reducible refine (id_Above.calls t127 t120 true _ A27.out).mono ?_); rintro e w34 ⟨rfl, hb⟩; have n0_ := Aside0.mk (blk_below (g := gb119) (o := .cells #[.int .i64 a2_0, .int .i64 a2_1] 22 (0, 0)) (by (with_reducible repeat (first | refine blk_drewN ?_ _ | refine blk_drew ?_ | refine blk_alloc ?_ _)); exact BK119.out) hb); have n1_ := Aside0.mk (below_step (by repeat (first | (with_reducible first | exact HB.out | apply below_alloc | apply pw_below_drewN | apply below_drew1 | refine below_set ?_ GE119.out) | exact HB.out)) hb); clear BK119; clear HB; have BK119 := n0_; have HB := n1_; clear n0_ n1_; (try clear hb); (try clear hb2); (try clear hk); (try clear hi)))
                      go_ret
                      exact ⟨by first | rfl | (simp [errW_none, errW_some] <;> rfl) | (simp [*, errW_none, errW_some] <;> rfl), by repeat (first | (with_reducible first | exact HB.out | apply below_alloc | apply pw_below_drewN | apply below_drew1 | refine below_set ?_ GE119.out) | exact HB.out)⟩
                  · replace c28 := Bool.eq_false_iff.mpr c28
                    subst c28
                    have H1 : (none) = some r := by rw [if_neg (show ¬ (false = true) by decide)] at H; exact H
                    clear H
                    have H := H1
                    clear H1
                    exact absurd H (by simp)
                · rw [if_neg c26] at H
                  exact absurd H (by simp)
              · rw [if_neg c25] at H
                exact absurd H (by simp)

/-! ### cenotaphref01_Fix: function 14 -/
def cenotaphref01_Fix.l0 : Nat → ByteArray → ByteArray → Int → Option (ByteArray)
  | 0, _, _, _ => none
  | k + 1, x0, x3, x4 => if x4 < (x0.size : Int) then (if x4 < 5 then (if 0 ≤ x4 then (if 0 ≤ (Int.tmod (bt x0 x4) 9) then (if (Int.tmod (bt x0 x4) 9) ≤ (((Int.tmod (bt x0 x4) 9) + 1) % 256) then (if (((Int.tmod (bt x0 x4) 9) + 1) % 256) ≤ 9 then (if x3.size + ((⟨#[49, 50, 51, 52, 53, 54, 55, 56, 57]⟩ : ByteArray).extract ((Int.tmod (bt x0 x4) 9) : Int).toNat ((((Int.tmod (bt x0 x4) 9) + 1) % 256) : Int).toNat).size ≤ 9223372036854775807 then (cenotaphref01_Fix.l0 k x0 (x3 ++ ((⟨#[49, 50, 51, 52, 53, 54, 55, 56, 57]⟩ : ByteArray).extract ((Int.tmod (bt x0 x4) 9) : Int).toNat ((((Int.tmod (bt x0 x4) 9) + 1) % 256) : Int).toNat)) (wrap64 (x4 + 1))) else (none)) else (none)) else (none)) else (none)) else (none)) else (some x3)) else (some x3)
def cenotaphref01_Fix.f (k : Nat) (a0 : ByteArray) : Option (ByteArray) := cenotaphref01_Fix.l0 k a0 (⟨#[48]⟩ : ByteArray) 0
theorem cenotaphref01_Fix.mono_l : ∀ k, (∀ y0 y1 y2, LeO (cenotaphref01_Fix.l0 k y0 y1 y2) (cenotaphref01_Fix.l0 (k + 1) y0 y1 y2))
  | 0 => fun _ _ _ r h => by simp [cenotaphref01_Fix.l0] at h
  | k + 1 => by
    have ih0 := cenotaphref01_Fix.mono_l k
    · intro y0 y1 y2
      unfold cenotaphref01_Fix.l0
      repeat' first
      | (with_reducible exact ih0 _ _ _)
      | (with_reducible exact LeO.refl _)
      | (with_reducible exact LeO.none _)
      | (with_reducible refine LeO.ite ?_ ?_)
      | (with_reducible refine LeO.bind ?_ (fun _ => ?_))
      | exact ih0 _ _ _
      | exact LeO.none _
      | refine LeO.ite ?_ ?_
      | refine LeO.bind ?_ (fun _ => ?_)
theorem cenotaphref01_Fix.mono : ∀ a0 k, LeO (cenotaphref01_Fix.f k a0) (cenotaphref01_Fix.f (k + 1) a0) := by
  intro a0 k
  have ih0 := cenotaphref01_Fix.mono_l k
  unfold cenotaphref01_Fix.f
  repeat' first
      | (with_reducible exact ih0 _ _ _)
      | (with_reducible exact LeO.refl _)
      | (with_reducible exact LeO.none _)
      | (with_reducible refine LeO.ite ?_ ?_)
      | (with_reducible refine LeO.bind ?_ (fun _ => ?_))
      | exact ih0 _ _ _
      | exact LeO.none _
      | refine LeO.ite ?_ ?_
      | refine LeO.bind ?_ (fun _ => ?_)
set_option maxHeartbeats 8000000 in
set_option maxRecDepth 100000 in
theorem cenotaphref01_Fix.calls (k : Nat) (a0 : ByteArray) (r : ByteArray) (w : World) (h : cenotaphref01_Fix.f k a0 = some r) :
    Calls Try.prog 14 #[.string a0] w fun e w' => e = .returned (.string r) ∧ Drawn0 w w' := by
  have H : (cenotaphref01_Fix.l0 k a0 (⟨#[48]⟩ : ByteArray) 0) = some r := h
  clear h
  have H' := Aside0.mk H
  clear H
  go_enter Try.func14, Try.ntmps14
  go_wp2
  repeat (go_quiet (fail); try go_wp2)
  go_loopg [3, 4] k (fun kq v3 v4 w' => ∃ (x3_1 : ByteArray) (x4_1 : Int), v3 = .string x3_1 ∧ v4 = .int .i64 x4_1 ∧ Aside0 (cenotaphref01_Fix.l0 kq a0 x3_1 x4_1 = some r) ∧ Aside0 (kq ≤ k) ∧ Drawn0 w w')
  case atStart => exact ⟨((⟨#[48]⟩ : ByteArray)), (0), (by first | rfl | (simp; done) | (simp [*]; done)), (by first | rfl | (simp; done) | (simp [*]; done)), H', ⟨Nat.le_refl _⟩, by repeat (first | exact Drawn0.refl _ | apply Drawn0.step)⟩
  case round =>
    clear H'
    try clear c1
    obtain ⟨x3_1, x4_1, rfl, rfl, HA, HK1, ⟨m1, rfl⟩⟩ := hrel
    cases gk with
    | zero => exact absurd HA.out (by simp [cenotaphref01_Fix.l0])
    | succ k1 =>
      have H := HA.out
      clear HA
      simp only [cenotaphref01_Fix.l0] at H
      by_cases c2 : x4_1 < (a0.size : Int)
      · rw [if_pos c2] at H
        have c2b0 : decide (x4_1 < (a0.size : Int)) = true := decide_eq_true c2
        clear c2
        by_cases c3 : x4_1 < 5
        · rw [if_pos c3] at H
          have c3b0 : decide (x4_1 < 5) = true := decide_eq_true c3
          clear c3
          by_cases c4 : 0 ≤ x4_1
          · rw [if_pos c4] at H
            have c4b0 : decide (0 ≤ x4_1) = true := decide_eq_true c4
            clear c4
            obtain ⟨ji7, hji7⟩ : ∃ j_ : Int, (Int.tmod (bt a0 x4_1) 9) = j_ := ⟨_, rfl⟩
            replace H : (if 0 ≤ (ji7) then (if (ji7) ≤ (((ji7) + 1) % 256) then (if (((ji7) + 1) % 256) ≤ 9 then (if x3_1.size + ((⟨#[49, 50, 51, 52, 53, 54, 55, 56, 57]⟩ : ByteArray).extract ((ji7) : Int).toNat ((((ji7) + 1) % 256) : Int).toNat).size ≤ 9223372036854775807 then (cenotaphref01_Fix.l0 k1 a0 (x3_1 ++ ((⟨#[49, 50, 51, 52, 53, 54, 55, 56, 57]⟩ : ByteArray).extract ((ji7) : Int).toNat ((((ji7) + 1) % 256) : Int).toNat)) (wrap64 (x4_1 + 1))) else (none)) else (none)) else (none)) else (none)) = some r := by first | (rw [hji7] at H; exact H) | (simp only [hji7] at H ⊢; exact H)
            by_cases c8 : 0 ≤ (ji7)
            · rw [if_pos c8] at H
              have c8b0 := eq_true c8
              have c8b1 : decide (0 ≤ (ji7)) = true := decide_eq_true c8
              clear c8
              by_cases c9 : (ji7) ≤ (((ji7) + 1) % 256)
              · rw [if_pos c9] at H
                have c9b0 := eq_true c9
                have c9b1 : decide ((ji7) ≤ (((ji7) + 1) % 256)) = true := decide_eq_true c9
                by_cases c10 : (((ji7) + 1) % 256) ≤ 9
                · rw [if_pos c10] at H
                  have c10b0 := eq_true c10
                  have c10b1 : decide ((((ji7) + 1) % 256) ≤ 9) = true := decide_eq_true c10
                  by_cases c11 : x3_1.size + ((⟨#[49, 50, 51, 52, 53, 54, 55, 56, 57]⟩ : ByteArray).extract ((ji7) : Int).toNat ((((ji7) + 1) % 256) : Int).toNat).size ≤ 9223372036854775807
                  · rw [if_pos c11] at H
                    have c11b0 := eq_true c11
                    have c11b1 : decide (x3_1.size + ((⟨#[49, 50, 51, 52, 53, 54, 55, 56, 57]⟩ : ByteArray).extract ((ji7) : Int).toNat ((((ji7) + 1) % 256) : Int).toNat).size ≤ 9223372036854775807) = true := decide_eq_true c11
                    try have c11b2 : (9223372036854775807 < x3_1.size + ((⟨#[49, 50, 51, 52, 53, 54, 55, 56, 57]⟩ : ByteArray).extract ((ji7) : Int).toNat ((((ji7) + 1) % 256) : Int).toNat).size) = False := eq_false (Nat.not_lt.2 c11)
                    have H' := Aside0.mk H
                    clear H
                    have p5 : 0 ≤ (x4_1 : Int) := of_decide_eq_true (by first | (with_reducible assumption) | assumption)
                    have q5 : x4_1 < (a0.size : Int) := of_decide_eq_true (by first | (with_reducible assumption) | assumption)
                    have hx5 := bt_at a0 x4_1
                    replace p5 := eq_true p5
                    replace q5 := eq_true q5
                    have p6 : 0 ≤ (x4_1 : Int) := of_decide_eq_true (by first | (with_reducible assumption) | assumption)
                    have q6 : x4_1 < (a0.size : Int) := of_decide_eq_true (by first | (with_reducible assumption) | assumption)
                    have hx6 := bt_at a0 x4_1
                    replace p6 := eq_true p6
                    replace q6 := eq_true q6
                    go_wp2
                    repeat (go_quiet (fail); try go_wp2)
                    go_roundg k1
                    case measure => have := HK1.out; omega
                    case rel => exact ⟨(x3_1 ++ ((⟨#[49, 50, 51, 52, 53, 54, 55, 56, 57]⟩ : ByteArray).extract ((ji7) : Int).toNat ((((ji7) + 1) % 256) : Int).toNat)), (wrap64 (x4_1 + 1)), (by first | rfl | (simp; done) | (simp only [← hji7] <;> (first | rfl | simp)) | (simp [*]; done)), (by first | rfl | (simp; done) | (simp [*]; done)), H', ⟨by have := HK1.out; omega⟩, by repeat (first | exact Drawn0.refl _ | apply Drawn0.step)⟩
                  · rw [if_neg c11] at H
                    exact absurd H (by simp)
                · rw [if_neg c10] at H
                  exact absurd H (by simp)
              · rw [if_neg c9] at H
                exact absurd H (by simp)
            · rw [if_neg c8] at H
              exact absurd H (by simp)
          · rw [if_neg c4] at H
            exact absurd H (by simp)
        · rw [if_neg c3] at H
          have c3b0 : decide (x4_1 < 5) = false := decide_eq_false c3
          clear c3
          obtain rfl := Option.some.inj H
          go_wp2
          repeat (go_quiet (fail); try go_wp2)
          go_ret
          exact ⟨by first | rfl | (simp; done) | (simp [*]; done), by repeat (first | exact Drawn0.refl _ | apply Drawn0.step)⟩
      · rw [if_neg c2] at H
        have c2b0 : decide (x4_1 < (a0.size : Int)) = false := decide_eq_false c2
        clear c2
        obtain rfl := Option.some.inj H
        go_wp2
        repeat (go_quiet (fail); try go_wp2)
        go_ret
        exact ⟨by first | rfl | (simp; done) | (simp [*]; done), by repeat (first | exact Drawn0.refl _ | apply Drawn0.step)⟩

/-! ### cenotaphlaw01_IdParents: function 4 -/
mutual
def cenotaphlaw01_IdParents.l0 : Nat → ByteArray → Int → ByteArray → Option (Bool)
  | 0, _, _, _ => none
  | k + 1, x3, x4, x5 => if x5.toList = ([48] : List UInt8) then (cenotaphlaw01_IdParents.j1 k x3 x4 x5 false) else (cenotaphlaw01_IdParents.j1 k x3 x4 x5 (decide (x4 < 9)))
def cenotaphlaw01_IdParents.j1 : Nat → ByteArray → Int → ByteArray → Bool → Option (Bool)
  | 0, _, _, _, _ => none
  | k + 1, x3, x4, x5, x16 => if x16 = true then ((id_Parent.f x5).bind fun bt133 => (if bt133.2 = 0 then ((id_Above.f bt133.1 x3).bind fun t135 => (if t135 = true then ((id_Above.f x3 bt133.1).bind fun t136 => (if t136 = true then (none) else ((id_Depth.f bt133.1).bind fun t137 => ((id_Depth.f x5).bind fun t138 => (if t137 = (wrap64 (t138 - 1)) then (cenotaphlaw01_IdParents.l0 k x3 (wrap64 (x4 + 1)) bt133.1) else (none)))))) else (none))) else (none))) else ((cenotaphlaw01_told.f k).bind fun t131 => (if t131 = true then ((id_Depth.f x3).bind fun t132 => (some (x4 == (wrap64 (t132 - 1))))) else (none)))
end
def cenotaphlaw01_IdParents.f (k : Nat) (a0 : ByteArray) : Option (Bool) := (cenotaphref01_Fix.f k a0).bind fun t130 => (cenotaphlaw01_IdParents.l0 k t130 0 t130)
theorem cenotaphlaw01_IdParents.mono_l : ∀ k, (∀ y0 y1 y2, LeO (cenotaphlaw01_IdParents.l0 k y0 y1 y2) (cenotaphlaw01_IdParents.l0 (k + 1) y0 y1 y2)) ∧ (∀ y0 y1 y2 y3, LeO (cenotaphlaw01_IdParents.j1 k y0 y1 y2 y3) (cenotaphlaw01_IdParents.j1 (k + 1) y0 y1 y2 y3))
  | 0 => ⟨fun _ _ _ r h => by simp [cenotaphlaw01_IdParents.l0] at h, fun _ _ _ _ r h => by simp [cenotaphlaw01_IdParents.j1] at h⟩
  | k + 1 => by
    obtain ⟨ih0, ih1⟩ := cenotaphlaw01_IdParents.mono_l k
    refine ⟨?_, ?_⟩
    · intro y0 y1 y2
      unfold cenotaphlaw01_IdParents.l0
      repeat' first
      | (with_reducible exact ih0 _ _ _)
      | (with_reducible exact ih1 _ _ _ _)
      | (with_reducible exact cenotaphlaw01_told.mono _)
      | (with_reducible exact cenotaphref01_Fix.mono _ _)
      | (with_reducible exact LeO.refl _)
      | (with_reducible exact LeO.none _)
      | (with_reducible refine LeO.ite ?_ ?_)
      | (with_reducible refine LeO.bind ?_ (fun _ => ?_))
      | exact ih0 _ _ _
      | exact ih1 _ _ _ _
      | exact cenotaphlaw01_told.mono _
      | exact cenotaphref01_Fix.mono _ _
      | exact LeO.none _
      | refine LeO.ite ?_ ?_
      | refine LeO.bind ?_ (fun _ => ?_)
    · intro y0 y1 y2 y3
      unfold cenotaphlaw01_IdParents.j1
      repeat' first
      | (with_reducible exact ih0 _ _ _)
      | (with_reducible exact ih1 _ _ _ _)
      | (with_reducible exact cenotaphlaw01_told.mono _)
      | (with_reducible exact cenotaphref01_Fix.mono _ _)
      | (with_reducible exact LeO.refl _)
      | (with_reducible exact LeO.none _)
      | (with_reducible refine LeO.ite ?_ ?_)
      | (with_reducible refine LeO.bind ?_ (fun _ => ?_))
      | exact ih0 _ _ _
      | exact ih1 _ _ _ _
      | exact cenotaphlaw01_told.mono _
      | exact cenotaphref01_Fix.mono _ _
      | exact LeO.none _
      | refine LeO.ite ?_ ?_
      | refine LeO.bind ?_ (fun _ => ?_)
theorem cenotaphlaw01_IdParents.mono : ∀ a0 k, LeO (cenotaphlaw01_IdParents.f k a0) (cenotaphlaw01_IdParents.f (k + 1) a0) := by
  intro a0 k
  obtain ⟨ih0, ih1⟩ := cenotaphlaw01_IdParents.mono_l k
  unfold cenotaphlaw01_IdParents.f
  repeat' first
      | (with_reducible exact ih0 _ _ _)
      | (with_reducible exact ih1 _ _ _ _)
      | (with_reducible exact cenotaphlaw01_told.mono _)
      | (with_reducible exact cenotaphref01_Fix.mono _ _)
      | (with_reducible exact LeO.refl _)
      | (with_reducible exact LeO.none _)
      | (with_reducible refine LeO.ite ?_ ?_)
      | (with_reducible refine LeO.bind ?_ (fun _ => ?_))
      | exact ih0 _ _ _
      | exact ih1 _ _ _ _
      | exact cenotaphlaw01_told.mono _
      | exact cenotaphref01_Fix.mono _ _
      | exact LeO.none _
      | refine LeO.ite ?_ ?_
      | refine LeO.bind ?_ (fun _ => ?_)
set_option maxHeartbeats 8000000 in
set_option maxRecDepth 100000 in
theorem cenotaphlaw01_IdParents.calls (k : Nat) (a0 : ByteArray) (r : Bool) (w : World) (h : cenotaphlaw01_IdParents.f k a0 = some r) :
    Calls Try.prog 4 #[.string a0] w fun e w' => e = .returned (.bool r) ∧ Below w.heap.size w w' := by
  have HB := Aside0.mk (Below.refl w.heap.size w)
  have H : ((cenotaphref01_Fix.f k a0).bind fun t130 => (cenotaphlaw01_IdParents.l0 k t130 0 t130)) = some r := h
  clear h
  replace H := Option.bind_eq_some_iff.mp H
  obtain ⟨t130, A20, H⟩ := H
  replace H : (cenotaphlaw01_IdParents.l0 k t130 0 t130) = some r := H
  have A2 := Aside0.mk A20
  clear A20
  have H' := Aside0.mk H
  clear H
  go_enter Try.func4, Try.ntmps4
  go_wp2_with (first | ((with_reducible refine gate_callee (f := 14) rfl ?_); refine goesL_ (some 9) rfl rfl Try.func14 (by kernel_rfl) rfl #[.string a0] rfl (by (try simp only [List.map_toArray, List.map_cons, List.map_nil]); first | done | rfl | (simp only [List.length_drop, List.length_take]; rfl)) ?_; (with_reducible refine (cenotaphref01_Fix.calls k a0 t130 _ A2.out).mono ?_); rintro e w' ⟨rfl, ⟨nd, rfl⟩⟩; refine ⟨_, rfl, ?_⟩))
  go_loopg [4, 5] k (fun kq v4 v5 w' => ∃ (x4_1 : Int) (x5_1 : ByteArray), v4 = .int .i64 x4_1 ∧ v5 = .string x5_1 ∧ Aside0 (cenotaphlaw01_IdParents.l0 kq t130 x4_1 x5_1 = some r) ∧ Aside0 (kq ≤ k) ∧ Aside0 (Below w.heap.size w w'))
  case atStart => exact ⟨(0), (t130), (by first | rfl | (simp; done) | (simp [*]; done)), (by first | rfl | (simp; done) | (simp [*]; done)), H', ⟨Nat.le_refl _⟩, ⟨by repeat (first | (with_reducible first | exact HB.out | apply below_alloc | apply pw_below_drewN | apply below_drew1) | exact HB.out)⟩⟩
  case round =>
    clear H'
    try clear c1
    try clear p2
    obtain ⟨x4_1, x5_1, rfl, rfl, HA, HK1, HB⟩ := hrel
    cases gk with
    | zero => exact absurd HA.out (by simp [cenotaphlaw01_IdParents.l0])
    | succ k1 =>
      have H := HA.out
      clear HA
      simp only [cenotaphlaw01_IdParents.l0] at H
      have HC3 := Aside0.mk H
      clear H
      go_upto_region 4 with (fail)
      go_cut [16] (fun v16 wc => ∃ (kq : Nat) (x16_2 : Bool), v16 = .bool x16_2 ∧ Aside0 (cenotaphlaw01_IdParents.j1 kq t130 x4_1 x5_1 x16_2 = some r) ∧ Aside0 (kq ≤ k1) ∧ Aside0 (Below w.heap.size w wc))
      case first =>
        have H := HC3.out
        clear HC3
        by_cases c4 : x5_1.toList = ([48] : List UInt8)
        · rw [if_pos c4] at H
          have c4b0 : (x5_1.toList == ([48] : List UInt8)) = true := beq_iff_eq.mpr c4
          have c4b1 : (x5_1.toList != ([48] : List UInt8)) = false := bne_eq_false_iff_eq.mpr c4
          clear c4
          (first | rw [c4b0] | (simp only [i64_w, i32_w]; rw [c4b0]) | skip)
          have H' := Aside0.mk H
          clear H
          go_wp2
          go_meet
          case rel => exact ⟨_, (false), (by first | rfl | (simp; done) | (simp [*]; done)), H', ⟨by have := HK1.out; first | omega | exact Nat.le_refl _⟩, ⟨by repeat (first | (with_reducible first | exact HB.out | apply below_alloc | apply pw_below_drewN | apply below_drew1) | exact HB.out)⟩⟩
        · rw [if_neg c4] at H
          have c4b0 : (x5_1.toList == ([48] : List UInt8)) = false := beq_eq_false_iff_ne.mpr c4
          have c4b1 : (x5_1.toList != ([48] : List UInt8)) = true := bne_iff_ne.mpr c4
          (first | rw [c4b0] | (simp only [i64_w, i32_w]; rw [c4b0]) | skip)
          have H' := Aside0.mk H
          clear H
          go_wp2
          go_meet
          case rel => exact ⟨_, (decide (x4_1 < 9)), (by first | rfl | (simp; done) | (simp [*]; done)), H', ⟨by have := HK1.out; first | omega | exact Nat.le_refl _⟩, ⟨by repeat (first | (with_reducible first | exact HB.out | apply below_alloc | apply pw_below_drewN | apply below_drew1) | exact HB.out)⟩⟩
      case rest =>
        clear HC3
        try clear c1
        try clear p2
        try clear c4
        try clear c4b0
        try clear c4b1
        try clear p2
        obtain ⟨kq, x16_2, rfl, HA, HJ2, HB⟩ := hcut
        cases kq with
        | zero => exact absurd HA.out (by simp [cenotaphlaw01_IdParents.j1])
        | succ kj2 =>
          have H := HA.out
          clear HA
          simp only [cenotaphlaw01_IdParents.j1] at H
          by_cases c5 : x16_2 = true
          · subst c5
            have H1 : ((id_Parent.f x5_1).bind fun bt133 => (if bt133.2 = 0 then ((id_Above.f bt133.1 t130).bind fun t135 => (if t135 = true then ((id_Above.f t130 bt133.1).bind fun t136 => (if t136 = true then (none) else ((id_Depth.f bt133.1).bind fun t137 => ((id_Depth.f x5_1).bind fun t138 => (if t137 = (wrap64 (t138 - 1)) then (cenotaphlaw01_IdParents.l0 kj2 t130 (wrap64 (x4_1 + 1)) bt133.1) else (none)))))) else (none))) else (none))) = some r := by rw [if_pos rfl] at H; exact H
            clear H
            have H := H1
            clear H1
            replace H := Option.bind_eq_some_iff.mp H
            obtain ⟨⟨t133, t134⟩, A60, H⟩ := H
            replace H : (if t134 = 0 then ((id_Above.f t133 t130).bind fun t135 => (if t135 = true then ((id_Above.f t130 t133).bind fun t136 => (if t136 = true then (none) else ((id_Depth.f t133).bind fun t137 => ((id_Depth.f x5_1).bind fun t138 => (if t137 = (wrap64 (t138 - 1)) then (cenotaphlaw01_IdParents.l0 kj2 t130 (wrap64 (x4_1 + 1)) t133) else (none)))))) else (none))) else (none)) = some r := H
            have A6 := Aside0.mk A60
            clear A60
            by_cases c7 : t134 = 0
            · rw [if_pos c7] at H
              have c7b0 : (t134 == 0) = true := beq_iff_eq.mpr c7
              have c7b1 : (t134 != 0) = false := bne_eq_false_iff_eq.mpr c7
              clear c7
              replace H := Option.bind_eq_some_iff.mp H
              obtain ⟨t135, A80, H⟩ := H
              replace H : (if t135 = true then ((id_Above.f t130 t133).bind fun t136 => (if t136 = true then (none) else ((id_Depth.f t133).bind fun t137 => ((id_Depth.f x5_1).bind fun t138 => (if t137 = (wrap64 (t138 - 1)) then (cenotaphlaw01_IdParents.l0 kj2 t130 (wrap64 (x4_1 + 1)) t133) else (none)))))) else (none)) = some r := H
              have A8 := Aside0.mk A80
              clear A80
              by_cases c9 : t135 = true
              · subst c9
                have H1 : ((id_Above.f t130 t133).bind fun t136 => (if t136 = true then (none) else ((id_Depth.f t133).bind fun t137 => ((id_Depth.f x5_1).bind fun t138 => (if t137 = (wrap64 (t138 - 1)) then (cenotaphlaw01_IdParents.l0 kj2 t130 (wrap64 (x4_1 + 1)) t133) else (none)))))) = some r := by rw [if_pos rfl] at H; exact H
                clear H
                have H := H1
                clear H1
                replace H := Option.bind_eq_some_iff.mp H
                obtain ⟨t136, A100, H⟩ := H
                replace H : (if t136 = true then (none) else ((id_Depth.f t133).bind fun t137 => ((id_Depth.f x5_1).bind fun t138 => (if t137 = (wrap64 (t138 - 1)) then (cenotaphlaw01_IdParents.l0 kj2 t130 (wrap64 (x4_1 + 1)) t133) else (none))))) = some r := H
                have A10 := Aside0.mk A100
                clear A100
                by_cases c11 : t136 = true
                · subst c11
                  have H1 : (none) = some r := by rw [if_pos rfl] at H; exact H
                  clear H
                  have H := H1
                  clear H1
                  exact absurd H (by simp)
                · replace c11 := Bool.eq_false_iff.mpr c11
                  subst c11
                  have H1 : ((id_Depth.f t133).bind fun t137 => ((id_Depth.f x5_1).bind fun t138 => (if t137 = (wrap64 (t138 - 1)) then (cenotaphlaw01_IdParents.l0 kj2 t130 (wrap64 (x4_1 + 1)) t133) else (none)))) = some r := by rw [if_neg (show ¬ (false = true) by decide)] at H; exact H
                  clear H
                  have H := H1
                  clear H1
                  replace H := Option.bind_eq_some_iff.mp H
                  obtain ⟨t137, A120, H⟩ := H
                  replace H : ((id_Depth.f x5_1).bind fun t138 => (if t137 = (wrap64 (t138 - 1)) then (cenotaphlaw01_IdParents.l0 kj2 t130 (wrap64 (x4_1 + 1)) t133) else (none))) = some r := H
                  have A12 := Aside0.mk A120
                  clear A120
                  replace H := Option.bind_eq_some_iff.mp H
                  obtain ⟨t138, A130, H⟩ := H
                  replace H : (if t137 = (wrap64 (t138 - 1)) then (cenotaphlaw01_IdParents.l0 kj2 t130 (wrap64 (x4_1 + 1)) t133) else (none)) = some r := H
                  have A13 := Aside0.mk A130
                  clear A130
                  by_cases c14 : t137 = (wrap64 (t138 - 1))
                  · rw [if_pos c14] at H
                    have c14b0 : (t137 == (wrap64 (t138 - 1))) = true := beq_iff_eq.mpr c14
                    have c14b1 : (t137 != (wrap64 (t138 - 1))) = false := bne_eq_false_iff_eq.mpr c14
                    clear c14
                    have H' := Aside0.mk H
                    clear H
                    go_wp2_with (first | ((with_reducible refine gate_callee (f := 12) rfl ?_); refine goesL_ (some 21) rfl rfl Try.func12 (by kernel_rfl) rfl #[.string x5_1] rfl (by (try simp only [List.map_toArray, List.map_cons, List.map_nil]); first | done | rfl | (simp only [List.length_drop, List.length_take]; rfl)) ?_; (with_reducible refine (id_Parent.calls x5_1 t133 t134 _ A6.out).mono ?_); rintro e w15 ⟨rfl, hb⟩; refine ⟨_, rfl, ?_⟩; have n0_ := Aside0.mk (below_step (by repeat (first | (with_reducible first | exact HB.out | apply below_alloc | apply pw_below_drewN | apply below_drew1) | exact HB.out)) hb); clear HB; have HB := n0_; clear n0_; (try clear hb); (try clear hb2); (try clear hk); (try clear hi)) | (go_at_call 13; (with_reducible refine (id_Above.calls t133 t130 true _ A8.out).mono ?_); rintro e w16 ⟨rfl, hb⟩; have n0_ := Aside0.mk (below_step (by repeat (first | (with_reducible first | exact HB.out | apply below_alloc | apply pw_below_drewN | apply below_drew1) | exact HB.out)) hb); clear HB; have HB := n0_; clear n0_; (try clear hb); (try clear hb2); (try clear hk); (try clear hi)) | (go_at_call 13; (with_reducible refine (id_Above.calls t130 t133 false _ A10.out).mono ?_); rintro e w17 ⟨rfl, hb⟩; have n0_ := Aside0.mk (below_step (by repeat (first | (with_reducible first | exact HB.out | apply below_alloc | apply pw_below_drewN | apply below_drew1) | exact HB.out)) hb); clear HB; have HB := n0_; clear n0_; (try clear hb); (try clear hb2); (try clear hk); (try clear hi)) | (go_at_call 15; (with_reducible refine (id_Depth.calls t133 t137 _ A12.out).mono ?_); rintro e w18 ⟨rfl, hb⟩; have n0_ := Aside0.mk (below_step (by repeat (first | (with_reducible first | exact HB.out | apply below_alloc | apply pw_below_drewN | apply below_drew1) | exact HB.out)) hb); clear HB; have HB := n0_; clear n0_; (try clear hb); (try clear hb2); (try clear hk); (try clear hi)) | (go_at_call 15; (with_reducible refine (id_Depth.calls x5_1 t138 _ A13.out).mono ?_); rintro e w19 ⟨rfl, hb⟩; have n0_ := Aside0.mk (below_step (by repeat (first | (with_reducible first | exact HB.out | apply below_alloc | apply pw_below_drewN | apply below_drew1) | exact HB.out)) hb); clear HB; have HB := n0_; clear n0_; (try clear hb); (try clear hb2); (try clear hk); (try clear hi)))
                    go_roundg kj2
                    case measure => have := HK1.out; have := HJ2.out; omega
                    case rel => exact ⟨(wrap64 (x4_1 + 1)), (t133), (by first | rfl | (simp; done) | (simp [*]; done)), (by first | rfl | (simp; done) | (simp [*]; done)), H', ⟨by have := HK1.out; have := HJ2.out; omega⟩, ⟨by repeat (first | (with_reducible first | exact HB.out | apply below_alloc | apply pw_below_drewN | apply below_drew1) | exact HB.out)⟩⟩
                  · rw [if_neg c14] at H
                    exact absurd H (by simp)
              · replace c9 := Bool.eq_false_iff.mpr c9
                subst c9
                have H1 : (none) = some r := by rw [if_neg (show ¬ (false = true) by decide)] at H; exact H
                clear H
                have H := H1
                clear H1
                exact absurd H (by simp)
            · rw [if_neg c7] at H
              exact absurd H (by simp)
          · replace c5 := Bool.eq_false_iff.mpr c5
            subst c5
            have H1 : ((cenotaphlaw01_told.f kj2).bind fun t131 => (if t131 = true then ((id_Depth.f t130).bind fun t132 => (some (x4_1 == (wrap64 (t132 - 1))))) else (none))) = some r := by rw [if_neg (show ¬ (false = true) by decide)] at H; exact H
            clear H
            have H := H1
            clear H1
            replace H := Option.bind_eq_some_iff.mp H
            obtain ⟨t131, A200, H⟩ := H
            replace H : (if t131 = true then ((id_Depth.f t130).bind fun t132 => (some (x4_1 == (wrap64 (t132 - 1))))) else (none)) = some r := H
            have A20 := Aside0.mk A200
            clear A200
            by_cases c21 : t131 = true
            · subst c21
              have H1 : ((id_Depth.f t130).bind fun t132 => (some (x4_1 == (wrap64 (t132 - 1))))) = some r := by rw [if_pos rfl] at H; exact H
              clear H
              have H := H1
              clear H1
              replace H := Option.bind_eq_some_iff.mp H
              obtain ⟨t132, A220, H⟩ := H
              replace H : (some (x4_1 == (wrap64 (t132 - 1)))) = some r := H
              have A22 := Aside0.mk A220
              clear A220
              obtain rfl := Option.some.inj H
              go_wp2_with (first | ((with_reducible refine gate_callee (f := 11) rfl ?_); refine goesL_ (some 46) rfl rfl Try.func11 (by kernel_rfl) rfl #[] rfl (by (try simp only [List.map_toArray, List.map_cons, List.map_nil]); first | done | rfl | (simp only [List.length_drop, List.length_take]; rfl)) ?_; (with_reducible refine (cenotaphlaw01_told.calls kj2  true _ A20.out).mono ?_); rintro e w23 ⟨rfl, hb⟩; refine ⟨_, rfl, ?_⟩; have n0_ := Aside0.mk (below_step (by repeat (first | (with_reducible first | exact HB.out | apply below_alloc | apply pw_below_drewN | apply below_drew1) | exact HB.out)) hb); clear HB; have HB := n0_; clear n0_; (try clear hb); (try clear hb2); (try clear hk); (try clear hi)) | (go_at_call 15; (with_reducible refine (id_Depth.calls t130 t132 _ A22.out).mono ?_); rintro e w24 ⟨rfl, hb⟩; have n0_ := Aside0.mk (below_step (by repeat (first | (with_reducible first | exact HB.out | apply below_alloc | apply pw_below_drewN | apply below_drew1) | exact HB.out)) hb); clear HB; have HB := n0_; clear n0_; (try clear hb); (try clear hb2); (try clear hk); (try clear hi)))
              go_ret
              exact ⟨by first | rfl | (simp [errW_none, errW_some] <;> rfl) | (simp [*, errW_none, errW_some] <;> rfl), by repeat (first | (with_reducible first | exact HB.out | apply below_alloc | apply pw_below_drewN | apply below_drew1) | exact HB.out)⟩
            · replace c21 := Bool.eq_false_iff.mpr c21
              subst c21
              have H1 : (none) = some r := by rw [if_neg (show ¬ (false = true) by decide)] at H; exact H
              clear H
              have H := H1
              clear H1
              exact absurd H (by simp)

/-- THE ONE PURE STATEMENT of cenotaphlaw01_IdParents: yours. -/
def cenotaphlaw01_IdParents.Pure : Prop := ∀ (a0 : ByteArray), a0.size ≤ 140737488351232 → ∃ k, cenotaphlaw01_IdParents.f k a0 = some true
theorem cenotaphlaw01_IdParents.walk (P : cenotaphlaw01_IdParents.Pure) (a0 : ByteArray) (w : World) (w0 : a0.size ≤ 140737488351232) :
    Calls Try.prog 4 #[.string a0] w fun e w' => e = .returned (.bool true) ∧ Below w.heap.size w w' := by
  obtain ⟨k, h⟩ := P a0 w0
  refine (cenotaphlaw01_IdParents.calls k a0 true w h).mono ?_
  rintro e w' ⟨rfl, hd⟩
  exact ⟨rfl, hd⟩

end Go.Proofs.Ytbdoablehdpdoaa.P
