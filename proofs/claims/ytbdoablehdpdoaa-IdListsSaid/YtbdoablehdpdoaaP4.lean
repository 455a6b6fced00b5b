-- Written by a program of this session (wip/pp.py over the kit's printer, with our own texts put in).
import Derived.Test.YtbdoablehdpdoaaP0
import Derived.Test.YtbdoablehdpdoaaP1
import Derived.Test.YtbdoablehdpdoaaP2
import Derived.Test.YtbdoablehdpdoaaP3
namespace Go.Proofs.Ytbdoablehdpdoaa.P
open Go.RowKit Go.Proofs.YtbdoablehdpdoaaW.PrintWords Go.Proofs.YtbdoablehdpdoaaW.PrintLast Go.Proofs.YtbdoablehdpdoaaW.PrintMore
attribute [local go_sem] max2_int min2_int max_two min_two max_three min_three max_four min_four   -- for this text's walks alone
set_option linter.unusedVariables false
set_option linter.unusedSimpArgs false

/-! ### cenotaphlaw01_IdOrders: function 6 -/
def cenotaphlaw01_IdOrders.f (k : Nat) (a0 : ByteArray) (a1 : ByteArray) (a2 : ByteArray) : Option (Bool) := (id_Compare.f a0 a1).bind fun t154 => ((id_Compare.f a1 a2).bind fun t155 => ((id_Compare.f a0 a2).bind fun t156 => ((cenotaphlaw01_told.f k).bind fun t157 => (if t157 = true then ((cenotaphref01_Compare.f k a0 a1).bind fun t158 => (if t154 = t158 then ((id_Compare.f a1 a0).bind fun t159 => (if t154 = (wrap64 (-t159)) then (if ((t154 == 0) != (a0.toList == a1.toList)) = true then (none) else ((id_Above.f a0 a1).bind fun t160 => ((cenotaphref01_Above.f k a0 a1).bind fun t161 => (if (t160 != t161) = true then (none) else (if t154 ≤ 0 then (if t155 ≤ 0 then (some (decide (t156 ≤ 0))) else (some true)) else (some true)))))) else (none))) else (none))) else (none)))))
theorem cenotaphlaw01_IdOrders.mono : ∀ a0 a1 a2 k, LeO (cenotaphlaw01_IdOrders.f k a0 a1 a2) (cenotaphlaw01_IdOrders.f (k + 1) a0 a1 a2) := by
  intro a0 a1 a2 k
  unfold cenotaphlaw01_IdOrders.f
  repeat' first
      | (with_reducible exact cenotaphlaw01_told.mono _)
      | (with_reducible exact cenotaphref01_Above.mono _ _ _)
      | (with_reducible exact cenotaphref01_Compare.mono _ _ _)
      | (with_reducible exact LeO.refl _)
      | (with_reducible exact LeO.none _)
      | (with_reducible refine LeO.ite ?_ ?_)
      | (with_reducible refine LeO.bind ?_ (fun _ => ?_))
      | exact cenotaphlaw01_told.mono _
      | exact cenotaphref01_Above.mono _ _ _
      | exact cenotaphref01_Compare.mono _ _ _
      | exact LeO.none _
      | refine LeO.ite ?_ ?_
      | refine LeO.bind ?_ (fun _ => ?_)
set_option maxHeartbeats 8000000 in
set_option maxRecDepth 100000 in
theorem cenotaphlaw01_IdOrders.calls (k : Nat) (a0 : ByteArray) (a1 : ByteArray) (a2 : ByteArray) (r : Bool) (w : World) (h : cenotaphlaw01_IdOrders.f k a0 a1 a2 = some r) :
    Calls Try.prog 6 #[.string a0, .string a1, .string a2] w fun e w' => e = .returned (.bool r) ∧ Below w.heap.size w w' := by
  have HB := Aside0.mk (Below.refl w.heap.size w)
  have H : ((id_Compare.f a0 a1).bind fun t154 => ((id_Compare.f a1 a2).bind fun t155 => ((id_Compare.f a0 a2).bind fun t156 => ((cenotaphlaw01_told.f k).bind fun t157 => (if t157 = true then ((cenotaphref01_Compare.f k a0 a1).bind fun t158 => (if t154 = t158 then ((id_Compare.f a1 a0).bind fun t159 => (if t154 = (wrap64 (-t159)) then (if ((t154 == 0) != (a0.toList == a1.toList)) = true then (none) else ((id_Above.f a0 a1).bind fun t160 => ((cenotaphref01_Above.f k a0 a1).bind fun t161 => (if (t160 != t161) = true then (none) else (if t154 ≤ 0 then (if t155 ≤ 0 then (some (decide (t156 ≤ 0))) else (some true)) else (some true)))))) else (none))) else (none))) else (none)))))) = some r := h
  clear h
  replace H := Option.bind_eq_some_iff.mp H
  obtain ⟨t154, A40, H⟩ := H
  replace H : ((id_Compare.f a1 a2).bind fun t155 => ((id_Compare.f a0 a2).bind fun t156 => ((cenotaphlaw01_told.f k).bind fun t157 => (if t157 = true then ((cenotaphref01_Compare.f k a0 a1).bind fun t158 => (if t154 = t158 then ((id_Compare.f a1 a0).bind fun t159 => (if t154 = (wrap64 (-t159)) then (if ((t154 == 0) != (a0.toList == a1.toList)) = true then (none) else ((id_Above.f a0 a1).bind fun t160 => ((cenotaphref01_Above.f k a0 a1).bind fun t161 => (if (t160 != t161) = true then (none) else (if t154 ≤ 0 then (if t155 ≤ 0 then (some (decide (t156 ≤ 0))) else (some true)) else (some true)))))) else (none))) else (none))) else (none))))) = some r := H
  have A4 := Aside0.mk A40
  clear A40
  replace H := Option.bind_eq_some_iff.mp H
  obtain ⟨t155, A50, H⟩ := H
  replace H : ((id_Compare.f a0 a2).bind fun t156 => ((cenotaphlaw01_told.f k).bind fun t157 => (if t157 = true then ((cenotaphref01_Compare.f k a0 a1).bind fun t158 => (if t154 = t158 then ((id_Compare.f a1 a0).bind fun t159 => (if t154 = (wrap64 (-t159)) then (if ((t154 == 0) != (a0.toList == a1.toList)) = true then (none) else ((id_Above.f a0 a1).bind fun t160 => ((cenotaphref01_Above.f k a0 a1).bind fun t161 => (if (t160 != t161) = true then (none) else (if t154 ≤ 0 then (if t155 ≤ 0 then (some (decide (t156 ≤ 0))) else (some true)) else (some true)))))) else (none))) else (none))) else (none)))) = some r := H
  have A5 := Aside0.mk A50
  clear A50
  replace H := Option.bind_eq_some_iff.mp H
  obtain ⟨t156, A60, H⟩ := H
  replace H : ((cenotaphlaw01_told.f k).bind fun t157 => (if t157 = true then ((cenotaphref01_Compare.f k a0 a1).bind fun t158 => (if t154 = t158 then ((id_Compare.f a1 a0).bind fun t159 => (if t154 = (wrap64 (-t159)) then (if ((t154 == 0) != (a0.toList == a1.toList)) = true then (none) else ((id_Above.f a0 a1).bind fun t160 => ((cenotaphref01_Above.f k a0 a1).bind fun t161 => (if (t160 != t161) = true then (none) else (if t154 ≤ 0 then (if t155 ≤ 0 then (some (decide (t156 ≤ 0))) else (some true)) else (some true)))))) else (none))) else (none))) else (none))) = some r := H
  have A6 := Aside0.mk A60
  clear A60
  replace H := Option.bind_eq_some_iff.mp H
  obtain ⟨t157, A70, H⟩ := H
  replace H : (if t157 = true then ((cenotaphref01_Compare.f k a0 a1).bind fun t158 => (if t154 = t158 then ((id_Compare.f a1 a0).bind fun t159 => (if t154 = (wrap64 (-t159)) then (if ((t154 == 0) != (a0.toList == a1.toList)) = true then (none) else ((id_Above.f a0 a1).bind fun t160 => ((cenotaphref01_Above.f k a0 a1).bind fun t161 => (if (t160 != t161) = true then (none) else (if t154 ≤ 0 then (if t155 ≤ 0 then (some (decide (t156 ≤ 0))) else (some true)) else (some true)))))) else (none))) else (none))) else (none)) = some r := H
  have A7 := Aside0.mk A70
  clear A70
  by_cases c8 : t157 = true
  · subst c8
    have H1 : ((cenotaphref01_Compare.f k a0 a1).bind fun t158 => (if t154 = t158 then ((id_Compare.f a1 a0).bind fun t159 => (if t154 = (wrap64 (-t159)) then (if ((t154 == 0) != (a0.toList == a1.toList)) = true then (none) else ((id_Above.f a0 a1).bind fun t160 => ((cenotaphref01_Above.f k a0 a1).bind fun t161 => (if (t160 != t161) = true then (none) else (if t154 ≤ 0 then (if t155 ≤ 0 then (some (decide (t156 ≤ 0))) else (some true)) else (some true)))))) else (none))) else (none))) = some r := by rw [if_pos rfl] at H; exact H
    clear H
    have H := H1
    clear H1
    replace H := Option.bind_eq_some_iff.mp H
    obtain ⟨t158, A90, H⟩ := H
    replace H : (if t154 = t158 then ((id_Compare.f a1 a0).bind fun t159 => (if t154 = (wrap64 (-t159)) then (if ((t154 == 0) != (a0.toList == a1.toList)) = true then (none) else ((id_Above.f a0 a1).bind fun t160 => ((cenotaphref01_Above.f k a0 a1).bind fun t161 => (if (t160 != t161) = true then (none) else (if t154 ≤ 0 then (if t155 ≤ 0 then (some (decide (t156 ≤ 0))) else (some true)) else (some true)))))) else (none))) else (none)) = some r := H
    have A9 := Aside0.mk A90
    clear A90
    by_cases c10 : t154 = t158
    · rw [if_pos c10] at H
      have c10b0 : (t154 == t158) = true := beq_iff_eq.mpr c10
      have c10b1 : (t154 != t158) = false := bne_eq_false_iff_eq.mpr c10
      clear c10
      replace H := Option.bind_eq_some_iff.mp H
      obtain ⟨t159, A110, H⟩ := H
      replace H : (if t154 = (wrap64 (-t159)) then (if ((t154 == 0) != (a0.toList == a1.toList)) = true then (none) else ((id_Above.f a0 a1).bind fun t160 => ((cenotaphref01_Above.f k a0 a1).bind fun t161 => (if (t160 != t161) = true then (none) else (if t154 ≤ 0 then (if t155 ≤ 0 then (some (decide (t156 ≤ 0))) else (some true)) else (some true)))))) else (none)) = some r := H
      have A11 := Aside0.mk A110
      clear A110
      by_cases c12 : t154 = (wrap64 (-t159))
      · rw [if_pos c12] at H
        have c12b0 : (t154 == (wrap64 (-t159))) = true := beq_iff_eq.mpr c12
        have c12b1 : (t154 != (wrap64 (-t159))) = false := bne_eq_false_iff_eq.mpr c12
        clear c12
        by_cases c13 : ((t154 == 0) != (a0.toList == a1.toList)) = true
        · rw [if_pos c13] at H
          exact absurd H (by simp)
        · rw [if_neg c13] at H
          have c13b0 : ((t154 == 0) != (a0.toList == a1.toList)) = false := by simpa using c13
          (try (have c13b1 : decide ((t154 == 0) = (a0.toList == a1.toList)) = true := by simpa using c13))
          (try (have c13b2 : ((t154 == 0) == (a0.toList == a1.toList)) = true := by simpa using c13))
          clear c13
          replace H := Option.bind_eq_some_iff.mp H
          obtain ⟨t160, A140, H⟩ := H
          replace H : ((cenotaphref01_Above.f k a0 a1).bind fun t161 => (if (t160 != t161) = true then (none) else (if t154 ≤ 0 then (if t155 ≤ 0 then (some (decide (t156 ≤ 0))) else (some true)) else (some true)))) = some r := H
          have A14 := Aside0.mk A140
          clear A140
          replace H := Option.bind_eq_some_iff.mp H
          obtain ⟨t161, A150, H⟩ := H
          replace H : (if (t160 != t161) = true then (none) else (if t154 ≤ 0 then (if t155 ≤ 0 then (some (decide (t156 ≤ 0))) else (some true)) else (some true))) = some r := H
          have A15 := Aside0.mk A150
          clear A150
          by_cases c16 : (t160 != t161) = true
          · rw [if_pos c16] at H
            exact absurd H (by simp)
          · rw [if_neg c16] at H
            have c16b0 : (t160 != t161) = false := by simpa using c16
            (try (have c16b1 : decide (t160 = t161) = true := by simpa using c16))
            (try (have c16b2 : (t160 == t161) = true := by simpa using c16))
            clear c16
            by_cases c17 : t154 ≤ 0
            · rw [if_pos c17] at H
              have c17b0 : decide (t154 ≤ 0) = true := decide_eq_true c17
              clear c17
              by_cases c18 : t155 ≤ 0
              · rw [if_pos c18] at H
                have c18b0 : decide (t155 ≤ 0) = true := decide_eq_true c18
                clear c18
                obtain rfl := Option.some.inj H
                go_enter Try.func6, Try.ntmps6
                go_wp2_with (first | ((with_reducible refine gate_callee (f := 19) rfl ?_); refine goesL_ (some 12) rfl rfl Try.func19 (by kernel_rfl) rfl #[.string a0, .string a1] rfl (by (try simp only [List.map_toArray, List.map_cons, List.map_nil]); first | done | rfl | (simp only [List.length_drop, List.length_take]; rfl)) ?_; (with_reducible refine (id_Compare.calls a0 a1 t154 _ A4.out).mono ?_); rintro e w' ⟨rfl, ⟨nd, rfl⟩⟩; refine ⟨_, rfl, ?_⟩) | ((with_reducible refine gate_callee (f := 19) rfl ?_); refine goesL_ (some 15) rfl rfl Try.func19 (by kernel_rfl) rfl #[.string a1, .string a2] rfl (by (try simp only [List.map_toArray, List.map_cons, List.map_nil]); first | done | rfl | (simp only [List.length_drop, List.length_take]; rfl)) ?_; (with_reducible refine (id_Compare.calls a1 a2 t155 _ A5.out).mono ?_); rintro e w' ⟨rfl, ⟨nd, rfl⟩⟩; refine ⟨_, rfl, ?_⟩) | ((with_reducible refine gate_callee (f := 19) rfl ?_); refine goesL_ (some 18) rfl rfl Try.func19 (by kernel_rfl) rfl #[.string a0, .string a2] rfl (by (try simp only [List.map_toArray, List.map_cons, List.map_nil]); first | done | rfl | (simp only [List.length_drop, List.length_take]; rfl)) ?_; (with_reducible refine (id_Compare.calls a0 a2 t156 _ A6.out).mono ?_); rintro e w' ⟨rfl, ⟨nd, rfl⟩⟩; refine ⟨_, rfl, ?_⟩) | ((with_reducible refine gate_callee (f := 11) rfl ?_); refine goesL_ (some 19) rfl rfl Try.func11 (by kernel_rfl) rfl #[] rfl (by (try simp only [List.map_toArray, List.map_cons, List.map_nil]); first | done | rfl | (simp only [List.length_drop, List.length_take]; rfl)) ?_; (with_reducible refine (cenotaphlaw01_told.calls k  true _ A7.out).mono ?_); rintro e w19 ⟨rfl, hb⟩; refine ⟨_, rfl, ?_⟩; have n0_ := Aside0.mk (below_step (by repeat (first | (with_reducible first | exact HB.out | apply below_alloc | apply pw_below_drewN | apply below_drew1) | exact HB.out)) hb); clear HB; have HB := n0_; clear n0_; (try clear hb); (try clear hb2); (try clear hk); (try clear hi)) | (go_at_call 20; (with_reducible refine (cenotaphref01_Compare.calls k a0 a1 t158 _ A9.out).mono ?_); rintro e w' ⟨rfl, ⟨nd, rfl⟩⟩) | (go_at_call 19; (with_reducible refine (id_Compare.calls a1 a0 t159 _ A11.out).mono ?_); rintro e w' ⟨rfl, ⟨nd, rfl⟩⟩) | (go_at_call 13; (with_reducible refine (id_Above.calls a0 a1 t160 _ A14.out).mono ?_); rintro e w20 ⟨rfl, hb⟩; have n0_ := Aside0.mk (below_step (by repeat (first | (with_reducible first | exact HB.out | apply below_alloc | apply pw_below_drewN | apply below_drew1) | exact HB.out)) hb); clear HB; have HB := n0_; clear n0_; (try clear hb); (try clear hb2); (try clear hk); (try clear hi)) | (go_at_call 21; (with_reducible refine (cenotaphref01_Above.calls k a0 a1 t161 _ A15.out).mono ?_); rintro e w' ⟨rfl, ⟨nd, rfl⟩⟩))
                go_ret
                exact ⟨by first | rfl | (simp [errW_none, errW_some] <;> rfl) | (simp [*, errW_none, errW_some] <;> rfl), by repeat (first | (with_reducible first | exact HB.out | apply below_alloc | apply pw_below_drewN | apply below_drew1) | exact HB.out)⟩
              · rw [if_neg c18] at H
                have c18b0 : decide (t155 ≤ 0) = false := decide_eq_false c18
                clear c18
                obtain rfl := Option.some.inj H
                go_enter Try.func6, Try.ntmps6
                go_wp2_with (first | ((with_reducible refine gate_callee (f := 19) rfl ?_); refine goesL_ (some 12) rfl rfl Try.func19 (by kernel_rfl) rfl #[.string a0, .string a1] rfl (by (try simp only [List.map_toArray, List.map_cons, List.map_nil]); first | done | rfl | (simp only [List.length_drop, List.length_take]; rfl)) ?_; (with_reducible refine (id_Compare.calls a0 a1 t154 _ A4.out).mono ?_); rintro e w' ⟨rfl, ⟨nd, rfl⟩⟩; refine ⟨_, rfl, ?_⟩) | ((with_reducible refine gate_callee (f := 19) rfl ?_); refine goesL_ (some 15) rfl rfl Try.func19 (by kernel_rfl) rfl #[.string a1, .string a2] rfl (by (try simp only [List.map_toArray, List.map_cons, List.map_nil]); first | done | rfl | (simp only [List.length_drop, List.length_take]; rfl)) ?_; (with_reducible refine (id_Compare.calls a1 a2 t155 _ A5.out).mono ?_); rintro e w' ⟨rfl, ⟨nd, rfl⟩⟩; refine ⟨_, rfl, ?_⟩) | ((with_reducible refine gate_callee (f := 19) rfl ?_); refine goesL_ (some 18) rfl rfl Try.func19 (by kernel_rfl) rfl #[.string a0, .string a2] rfl (by (try simp only [List.map_toArray, List.map_cons, List.map_nil]); first | done | rfl | (simp only [List.length_drop, List.length_take]; rfl)) ?_; (with_reducible refine (id_Compare.calls a0 a2 t156 _ A6.out).mono ?_); rintro e w' ⟨rfl, ⟨nd, rfl⟩⟩; refine ⟨_, rfl, ?_⟩) | ((with_reducible refine gate_callee (f := 11) rfl ?_); refine goesL_ (some 19) rfl rfl Try.func11 (by kernel_rfl) rfl #[] rfl (by (try simp only [List.map_toArray, List.map_cons, List.map_nil]); first | done | rfl | (simp only [List.length_drop, List.length_take]; rfl)) ?_; (with_reducible refine (cenotaphlaw01_told.calls k  true _ A7.out).mono ?_); rintro e w21 ⟨rfl, hb⟩; refine ⟨_, rfl, ?_⟩; have n0_ := Aside0.mk (below_step (by repeat (first | (with_reducible first | exact HB.out | apply below_alloc | apply pw_below_drewN | apply below_drew1) | exact HB.out)) hb); clear HB; have HB := n0_; clear n0_; (try clear hb); (try clear hb2); (try clear hk); (try clear hi)) | (go_at_call 20; (with_reducible refine (cenotaphref01_Compare.calls k a0 a1 t158 _ A9.out).mono ?_); rintro e w' ⟨rfl, ⟨nd, rfl⟩⟩) | (go_at_call 19; (with_reducible refine (id_Compare.calls a1 a0 t159 _ A11.out).mono ?_); rintro e w' ⟨rfl, ⟨nd, rfl⟩⟩) | (go_at_call 13; (with_reducible refine (id_Above.calls a0 a1 t160 _ A14.out).mono ?_); rintro e w22 ⟨rfl, hb⟩; have n0_ := Aside0.mk (below_step (by repeat (first | (with_reducible first | exact HB.out | apply below_alloc | apply pw_below_drewN | apply below_drew1) | exact HB.out)) hb); clear HB; have HB := n0_; clear n0_; (try clear hb); (try clear hb2); (try clear hk); (try clear hi)) | (go_at_call 21; (with_reducible refine (cenotaphref01_Above.calls k a0 a1 t161 _ A15.out).mono ?_); rintro e w' ⟨rfl, ⟨nd, rfl⟩⟩))
                go_ret
                exact ⟨by first | rfl | (simp [errW_none, errW_some] <;> rfl) | (simp [*, errW_none, errW_some] <;> rfl), by repeat (first | (with_reducible first | exact HB.out | apply below_alloc | apply pw_below_drewN | apply below_drew1) | exact HB.out)⟩
            · rw [if_neg c17] at H
              have c17b0 : decide (t154 ≤ 0) = false := decide_eq_false c17
              clear c17
              obtain rfl := Option.some.inj H
              go_enter Try.func6, Try.ntmps6
              go_wp2_with (first | ((with_reducible refine gate_callee (f := 19) rfl ?_); refine goesL_ (some 12) rfl rfl Try.func19 (by kernel_rfl) rfl #[.string a0, .string a1] rfl (by (try simp only [List.map_toArray, List.map_cons, List.map_nil]); first | done | rfl | (simp only [List.length_drop, List.length_take]; rfl)) ?_; (with_reducible refine (id_Compare.calls a0 a1 t154 _ A4.out).mono ?_); rintro e w' ⟨rfl, ⟨nd, rfl⟩⟩; refine ⟨_, rfl, ?_⟩) | ((with_reducible refine gate_callee (f := 19) rfl ?_); refine goesL_ (some 15) rfl rfl Try.func19 (by kernel_rfl) rfl #[.string a1, .string a2] rfl (by (try simp only [List.map_toArray, List.map_cons, List.map_nil]); first | done | rfl | (simp only [List.length_drop, List.length_take]; rfl)) ?_; (with_reducible refine (id_Compare.calls a1 a2 t155 _ A5.out).mono ?_); rintro e w' ⟨rfl, ⟨nd, rfl⟩⟩; refine ⟨_, rfl, ?_⟩) | ((with_reducible refine gate_callee (f := 19) rfl ?_); refine goesL_ (some 18) rfl rfl Try.func19 (by kernel_rfl) rfl #[.string a0, .string a2] rfl (by (try simp only [List.map_toArray, List.map_cons, List.map_nil]); first | done | rfl | (simp only [List.length_drop, List.length_take]; rfl)) ?_; (with_reducible refine (id_Compare.calls a0 a2 t156 _ A6.out).mono ?_); rintro e w' ⟨rfl, ⟨nd, rfl⟩⟩; refine ⟨_, rfl, ?_⟩) | ((with_reducible refine gate_callee (f := 11) rfl ?_); refine goesL_ (some 19) rfl rfl Try.func11 (by kernel_rfl) rfl #[] rfl (by (try simp only [List.map_toArray, List.map_cons, List.map_nil]); first | done | rfl | (simp only [List.length_drop, List.length_take]; rfl)) ?_; (with_reducible refine (cenotaphlaw01_told.calls k  true _ A7.out).mono ?_); rintro e w23 ⟨rfl, hb⟩; refine ⟨_, rfl, ?_⟩; have n0_ := Aside0.mk (below_step (by repeat (first | (with_reducible first | exact HB.out | apply below_alloc | apply pw_below_drewN | apply below_drew1) | exact HB.out)) hb); clear HB; have HB := n0_; clear n0_; (try clear hb); (try clear hb2); (try clear hk); (try clear hi)) | (go_at_call 20; (with_reducible refine (cenotaphref01_Compare.calls k a0 a1 t158 _ A9.out).mono ?_); rintro e w' ⟨rfl, ⟨nd, rfl⟩⟩) | (go_at_call 19; (with_reducible refine (id_Compare.calls a1 a0 t159 _ A11.out).mono ?_); rintro e w' ⟨rfl, ⟨nd, rfl⟩⟩) | (go_at_call 13; (with_reducible refine (id_Above.calls a0 a1 t160 _ A14.out).mono ?_); rintro e w24 ⟨rfl, hb⟩; have n0_ := Aside0.mk (below_step (by repeat (first | (with_reducible first | exact HB.out | apply below_alloc | apply pw_below_drewN | apply below_drew1) | exact HB.out)) hb); clear HB; have HB := n0_; clear n0_; (try clear hb); (try clear hb2); (try clear hk); (try clear hi)) | (go_at_call 21; (with_reducible refine (cenotaphref01_Above.calls k a0 a1 t161 _ A15.out).mono ?_); rintro e w' ⟨rfl, ⟨nd, rfl⟩⟩))
              go_ret
              exact ⟨by first | rfl | (simp [errW_none, errW_some] <;> rfl) | (simp [*, errW_none, errW_some] <;> rfl), by repeat (first | (with_reducible first | exact HB.out | apply below_alloc | apply pw_below_drewN | apply below_drew1) | exact HB.out)⟩
      · rw [if_neg c12] at H
        exact absurd H (by simp)
    · rw [if_neg c10] at H
      exact absurd H (by simp)
  · replace c8 := Bool.eq_false_iff.mpr c8
    subst c8
    have H1 : (none) = some r := by rw [if_neg (show ¬ (false = true) by decide)] at H; exact H
    clear H
    have H := H1
    clear H1
    exact absurd H (by simp)

/-- THE ONE PURE STATEMENT of cenotaphlaw01_IdOrders: yours. -/
def cenotaphlaw01_IdOrders.Pure : Prop := ∀ (a0 : ByteArray) (a1 : ByteArray) (a2 : ByteArray), a0.size ≤ 140737488351232 → a1.size ≤ 140737488351232 → a2.size ≤ 140737488351232 → ∃ k, cenotaphlaw01_IdOrders.f k a0 a1 a2 = some true
theorem cenotaphlaw01_IdOrders.walk (P : cenotaphlaw01_IdOrders.Pure) (a0 : ByteArray) (a1 : ByteArray) (a2 : ByteArray) (w : World) (w0 : a0.size ≤ 140737488351232) (w1 : a1.size ≤ 140737488351232) (w2 : a2.size ≤ 140737488351232) :
    Calls Try.prog 6 #[.string a0, .string a1, .string a2] w fun e w' => e = .returned (.bool true) ∧ Below w.heap.size w w' := by
  obtain ⟨k, h⟩ := P a0 a1 a2 w0 w1 w2
  refine (cenotaphlaw01_IdOrders.calls k a0 a1 a2 true w h).mono ?_
  rintro e w' ⟨rfl, hd⟩
  exact ⟨rfl, hd⟩

/-! ### cenotaphlaw01_IdAboves: function 7 -/
def cenotaphlaw01_IdAboves.j0 : Nat → ByteArray → ByteArray → ByteArray → Bool → Option (Bool)
  | 0, _, _, _, _ => none
  | k + 1, x7, x8, x9, x44 => if x44 = true then (none) else ((id_Above.f x7 x9).bind fun t171 => (if t171 = true then ((id_Above.f x8 x9).bind fun t172 => (if t172 = true then (if x7.toList = x8.toList then (some true) else ((id_Above.f x7 x8).bind fun t173 => (if t173 = true then (some true) else ((id_Above.f x8 x7).bind fun t174 => (some t174))))) else (some true))) else (some true)))
def cenotaphlaw01_IdAboves.f (k : Nat) (a0 : ByteArray) (a1 : ByteArray) (a2 : ByteArray) : Option (Bool) := (cenotaphref01_Fix.f k a0).bind fun t162 => ((cenotaphref01_Fix.f k a1).bind fun t163 => ((cenotaphref01_Fix.f k a2).bind fun t164 => ((cenotaphlaw01_told.f k).bind fun t165 => (if t165 = true then ((id_Above.f t162 t163).bind fun t166 => (if t166 = true then ((id_Above.f t163 t164).bind fun t167 => (if t167 = true then ((id_Above.f t162 t164).bind fun t168 => (if t168 = true then ((id_Compare.f t162 t163).bind fun t169 => (cenotaphlaw01_IdAboves.j0 k t162 t163 t164 (decide (t169 ≥ 0)))) else (cenotaphlaw01_IdAboves.j0 k t162 t163 t164 true))) else ((id_Compare.f t162 t163).bind fun t170 => (cenotaphlaw01_IdAboves.j0 k t162 t163 t164 (decide (t170 ≥ 0)))))) else (cenotaphlaw01_IdAboves.j0 k t162 t163 t164 false))) else (cenotaphlaw01_IdAboves.j0 k t162 t163 t164 true)))))
theorem cenotaphlaw01_IdAboves.mono_l : ∀ k, (∀ y0 y1 y2 y3, LeO (cenotaphlaw01_IdAboves.j0 k y0 y1 y2 y3) (cenotaphlaw01_IdAboves.j0 (k + 1) y0 y1 y2 y3))
  | 0 => fun _ _ _ _ r h => by simp [cenotaphlaw01_IdAboves.j0] at h
  | k + 1 => by
    have ih0 := cenotaphlaw01_IdAboves.mono_l k
    · intro y0 y1 y2 y3
      unfold cenotaphlaw01_IdAboves.j0
      repeat' first
      | (with_reducible exact ih0 _ _ _ _)
      | (with_reducible exact cenotaphlaw01_told.mono _)
      | (with_reducible exact cenotaphref01_Fix.mono _ _)
      | (with_reducible exact LeO.refl _)
      | (with_reducible exact LeO.none _)
      | (with_reducible refine LeO.ite ?_ ?_)
      | (with_reducible refine LeO.bind ?_ (fun _ => ?_))
      | exact ih0 _ _ _ _
      | exact cenotaphlaw01_told.mono _
      | exact cenotaphref01_Fix.mono _ _
      | exact LeO.none _
      | refine LeO.ite ?_ ?_
      | refine LeO.bind ?_ (fun _ => ?_)
theorem cenotaphlaw01_IdAboves.mono : ∀ a0 a1 a2 k, LeO (cenotaphlaw01_IdAboves.f k a0 a1 a2) (cenotaphlaw01_IdAboves.f (k + 1) a0 a1 a2) := by
  intro a0 a1 a2 k
  have ih0 := cenotaphlaw01_IdAboves.mono_l k
  unfold cenotaphlaw01_IdAboves.f
  repeat' first
      | (with_reducible exact ih0 _ _ _ _)
      | (with_reducible exact cenotaphlaw01_told.mono _)
      | (with_reducible exact cenotaphref01_Fix.mono _ _)
      | (with_reducible exact LeO.refl _)
      | (with_reducible exact LeO.none _)
      | (with_reducible refine LeO.ite ?_ ?_)
      | (with_reducible refine LeO.bind ?_ (fun _ => ?_))
      | exact ih0 _ _ _ _
      | exact cenotaphlaw01_told.mono _
      | exact cenotaphref01_Fix.mono _ _
      | exact LeO.none _
      | refine LeO.ite ?_ ?_
      | refine LeO.bind ?_ (fun _ => ?_)
set_option maxHeartbeats 8000000 in
set_option maxRecDepth 100000 in
theorem cenotaphlaw01_IdAboves.calls (k : Nat) (a0 : ByteArray) (a1 : ByteArray) (a2 : ByteArray) (r : Bool) (w : World) (h : cenotaphlaw01_IdAboves.f k a0 a1 a2 = some r) :
    Calls Try.prog 7 #[.string a0, .string a1, .string a2] w fun e w' => e = .returned (.bool r) ∧ Below w.heap.size w w' := by
  have HB := Aside0.mk (Below.refl w.heap.size w)
  have H : ((cenotaphref01_Fix.f k a0).bind fun t162 => ((cenotaphref01_Fix.f k a1).bind fun t163 => ((cenotaphref01_Fix.f k a2).bind fun t164 => ((cenotaphlaw01_told.f k).bind fun t165 => (if t165 = true then ((id_Above.f t162 t163).bind fun t166 => (if t166 = true then ((id_Above.f t163 t164).bind fun t167 => (if t167 = true then ((id_Above.f t162 t164).bind fun t168 => (if t168 = true then ((id_Compare.f t162 t163).bind fun t169 => (cenotaphlaw01_IdAboves.j0 k t162 t163 t164 (decide (t169 ≥ 0)))) else (cenotaphlaw01_IdAboves.j0 k t162 t163 t164 true))) else ((id_Compare.f t162 t163).bind fun t170 => (cenotaphlaw01_IdAboves.j0 k t162 t163 t164 (decide (t170 ≥ 0)))))) else (cenotaphlaw01_IdAboves.j0 k t162 t163 t164 false))) else (cenotaphlaw01_IdAboves.j0 k t162 t163 t164 true)))))) = some r := h
  clear h
  replace H := Option.bind_eq_some_iff.mp H
  obtain ⟨t162, A40, H⟩ := H
  replace H : ((cenotaphref01_Fix.f k a1).bind fun t163 => ((cenotaphref01_Fix.f k a2).bind fun t164 => ((cenotaphlaw01_told.f k).bind fun t165 => (if t165 = true then ((id_Above.f t162 t163).bind fun t166 => (if t166 = true then ((id_Above.f t163 t164).bind fun t167 => (if t167 = true then ((id_Above.f t162 t164).bind fun t168 => (if t168 = true then ((id_Compare.f t162 t163).bind fun t169 => (cenotaphlaw01_IdAboves.j0 k t162 t163 t164 (decide (t169 ≥ 0)))) else (cenotaphlaw01_IdAboves.j0 k t162 t163 t164 true))) else ((id_Compare.f t162 t163).bind fun t170 => (cenotaphlaw01_IdAboves.j0 k t162 t163 t164 (decide (t170 ≥ 0)))))) else (cenotaphlaw01_IdAboves.j0 k t162 t163 t164 false))) else (cenotaphlaw01_IdAboves.j0 k t162 t163 t164 true))))) = some r := H
  have A4 := Aside0.mk A40
  clear A40
  replace H := Option.bind_eq_some_iff.mp H
  obtain ⟨t163, A50, H⟩ := H
  replace H : ((cenotaphref01_Fix.f k a2).bind fun t164 => ((cenotaphlaw01_told.f k).bind fun t165 => (if t165 = true then ((id_Above.f t162 t163).bind fun t166 => (if t166 = true then ((id_Above.f t163 t164).bind fun t167 => (if t167 = true then ((id_Above.f t162 t164).bind fun t168 => (if t168 = true then ((id_Compare.f t162 t163).bind fun t169 => (cenotaphlaw01_IdAboves.j0 k t162 t163 t164 (decide (t169 ≥ 0)))) else (cenotaphlaw01_IdAboves.j0 k t162 t163 t164 true))) else ((id_Compare.f t162 t163).bind fun t170 => (cenotaphlaw01_IdAboves.j0 k t162 t163 t164 (decide (t170 ≥ 0)))))) else (cenotaphlaw01_IdAboves.j0 k t162 t163 t164 false))) else (cenotaphlaw01_IdAboves.j0 k t162 t163 t164 true)))) = some r := H
  have A5 := Aside0.mk A50
  clear A50
  replace H := Option.bind_eq_some_iff.mp H
  obtain ⟨t164, A60, H⟩ := H
  replace H : ((cenotaphlaw01_told.f k).bind fun t165 => (if t165 = true then ((id_Above.f t162 t163).bind fun t166 => (if t166 = true then ((id_Above.f t163 t164).bind fun t167 => (if t167 = true then ((id_Above.f t162 t164).bind fun t168 => (if t168 = true then ((id_Compare.f t162 t163).bind fun t169 => (cenotaphlaw01_IdAboves.j0 k t162 t163 t164 (decide (t169 ≥ 0)))) else (cenotaphlaw01_IdAboves.j0 k t162 t163 t164 true))) else ((id_Compare.f t162 t163).bind fun t170 => (cenotaphlaw01_IdAboves.j0 k t162 t163 t164 (decide (t170 ≥ 0)))))) else (cenotaphlaw01_IdAboves.j0 k t162 t163 t164 false))) else (cenotaphlaw01_IdAboves.j0 k t162 t163 t164 true))) = some r := H
  have A6 := Aside0.mk A60
  clear A60
  have HC7 := Aside0.mk H
  clear H
  go_enter Try.func7, Try.ntmps7
  go_upto_region 2 with (first | ((with_reducible refine gate_callee (f := 14) rfl ?_); refine goesL_ (some 11) rfl rfl Try.func14 (by kernel_rfl) rfl #[.string a0] rfl (by (try simp only [List.map_toArray, List.map_cons, List.map_nil]); first | done | rfl | (simp only [List.length_drop, List.length_take]; rfl)) ?_; (with_reducible refine (cenotaphref01_Fix.calls k a0 t162 _ A4.out).mono ?_); rintro e w' ⟨rfl, ⟨nd, rfl⟩⟩; refine ⟨_, rfl, ?_⟩) | ((with_reducible refine gate_callee (f := 14) rfl ?_); refine goesL_ (some 13) rfl rfl Try.func14 (by kernel_rfl) rfl #[.string a1] rfl (by (try simp only [List.map_toArray, List.map_cons, List.map_nil]); first | done | rfl | (simp only [List.length_drop, List.length_take]; rfl)) ?_; (with_reducible refine (cenotaphref01_Fix.calls k a1 t163 _ A5.out).mono ?_); rintro e w' ⟨rfl, ⟨nd, rfl⟩⟩; refine ⟨_, rfl, ?_⟩) | ((with_reducible refine gate_callee (f := 14) rfl ?_); refine goesL_ (some 15) rfl rfl Try.func14 (by kernel_rfl) rfl #[.string a2] rfl (by (try simp only [List.map_toArray, List.map_cons, List.map_nil]); first | done | rfl | (simp only [List.length_drop, List.length_take]; rfl)) ?_; (with_reducible refine (cenotaphref01_Fix.calls k a2 t164 _ A6.out).mono ?_); rintro e w' ⟨rfl, ⟨nd, rfl⟩⟩; refine ⟨_, rfl, ?_⟩))
  (try simp only [Act.put, List.setIfInBounds_toArray, List.set_cons_zero, List.set_cons_succ])
  go_cut [44] (fun v44 wc => ∃ (kq : Nat) (x44_6 : Bool), v44 = .bool x44_6 ∧ Aside0 (cenotaphlaw01_IdAboves.j0 kq t162 t163 t164 x44_6 = some r) ∧ Aside0 (kq ≤ k) ∧ Aside0 (Below w.heap.size w wc))
  case first =>
    have H := HC7.out
    clear HC7
    replace H := Option.bind_eq_some_iff.mp H
    obtain ⟨t165, A80, H⟩ := H
    replace H : (if t165 = true then ((id_Above.f t162 t163).bind fun t166 => (if t166 = true then ((id_Above.f t163 t164).bind fun t167 => (if t167 = true then ((id_Above.f t162 t164).bind fun t168 => (if t168 = true then ((id_Compare.f t162 t163).bind fun t169 => (cenotaphlaw01_IdAboves.j0 k t162 t163 t164 (decide (t169 ≥ 0)))) else (cenotaphlaw01_IdAboves.j0 k t162 t163 t164 true))) else ((id_Compare.f t162 t163).bind fun t170 => (cenotaphlaw01_IdAboves.j0 k t162 t163 t164 (decide (t170 ≥ 0)))))) else (cenotaphlaw01_IdAboves.j0 k t162 t163 t164 false))) else (cenotaphlaw01_IdAboves.j0 k t162 t163 t164 true)) = some r := H
    have A8 := Aside0.mk A80
    clear A80
    by_cases c9 : t165 = true
    · subst c9
      have H1 : ((id_Above.f t162 t163).bind fun t166 => (if t166 = true then ((id_Above.f t163 t164).bind fun t167 => (if t167 = true then ((id_Above.f t162 t164).bind fun t168 => (if t168 = true then ((id_Compare.f t162 t163).bind fun t169 => (cenotaphlaw01_IdAboves.j0 k t162 t163 t164 (decide (t169 ≥ 0)))) else (cenotaphlaw01_IdAboves.j0 k t162 t163 t164 true))) else ((id_Compare.f t162 t163).bind fun t170 => (cenotaphlaw01_IdAboves.j0 k t162 t163 t164 (decide (t170 ≥ 0)))))) else (cenotaphlaw01_IdAboves.j0 k t162 t163 t164 false))) = some r := by rw [if_pos rfl] at H; exact H
      clear H
      have H := H1
      clear H1
      replace H := Option.bind_eq_some_iff.mp H
      obtain ⟨t166, A100, H⟩ := H
      replace H : (if t166 = true then ((id_Above.f t163 t164).bind fun t167 => (if t167 = true then ((id_Above.f t162 t164).bind fun t168 => (if t168 = true then ((id_Compare.f t162 t163).bind fun t169 => (cenotaphlaw01_IdAboves.j0 k t162 t163 t164 (decide (t169 ≥ 0)))) else (cenotaphlaw01_IdAboves.j0 k t162 t163 t164 true))) else ((id_Compare.f t162 t163).bind fun t170 => (cenotaphlaw01_IdAboves.j0 k t162 t163 t164 (decide (t170 ≥ 0)))))) else (cenotaphlaw01_IdAboves.j0 k t162 t163 t164 false)) = some r := H
      have A10 := Aside0.mk A100
      clear A100
      by_cases c11 : t166 = true
      · subst c11
        have H1 : ((id_Above.f t163 t164).bind fun t167 => (if t167 = true then ((id_Above.f t162 t164).bind fun t168 => (if t168 = true then ((id_Compare.f t162 t163).bind fun t169 => (cenotaphlaw01_IdAboves.j0 k t162 t163 t164 (decide (t169 ≥ 0)))) else (cenotaphlaw01_IdAboves.j0 k t162 t163 t164 true))) else ((id_Compare.f t162 t163).bind fun t170 => (cenotaphlaw01_IdAboves.j0 k t162 t163 t164 (decide (t170 ≥ 0)))))) = some r := by rw [if_pos rfl] at H; exact H
        clear H
        have H := H1
        clear H1
        replace H := Option.bind_eq_some_iff.mp H
        obtain ⟨t167, A120, H⟩ := H
        replace H : (if t167 = true then ((id_Above.f t162 t164).bind fun t168 => (if t168 = true then ((id_Compare.f t162 t163).bind fun t169 => (cenotaphlaw01_IdAboves.j0 k t162 t163 t164 (decide (t169 ≥ 0)))) else (cenotaphlaw01_IdAboves.j0 k t162 t163 t164 true))) else ((id_Compare.f t162 t163).bind fun t170 => (cenotaphlaw01_IdAboves.j0 k t162 t163 t164 (decide (t170 ≥ 0))))) = some r := H
        have A12 := Aside0.mk A120
        clear A120
        by_cases c13 : t167 = true
        · subst c13
          have H1 : ((id_Above.f t162 t164).bind fun t168 => (if t168 = true then ((id_Compare.f t162 t163).bind fun t169 => (cenotaphlaw01_IdAboves.j0 k t162 t163 t164 (decide (t169 ≥ 0)))) else (cenotaphlaw01_IdAboves.j0 k t162 t163 t164 true))) = some r := by rw [if_pos rfl] at H; exact H
          clear H
          have H := H1
          clear H1
          replace H := Option.bind_eq_some_iff.mp H
          obtain ⟨t168, A140, H⟩ := H
          replace H : (if t168 = true then ((id_Compare.f t162 t163).bind fun t169 => (cenotaphlaw01_IdAboves.j0 k t162 t163 t164 (decide (t169 ≥ 0)))) else (cenotaphlaw01_IdAboves.j0 k t162 t163 t164 true)) = some r := H
          have A14 := Aside0.mk A140
          clear A140
          by_cases c15 : t168 = true
          · subst c15
            have H1 : ((id_Compare.f t162 t163).bind fun t169 => (cenotaphlaw01_IdAboves.j0 k t162 t163 t164 (decide (t169 ≥ 0)))) = some r := by rw [if_pos rfl] at H; exact H
            clear H
            have H := H1
            clear H1
            replace H := Option.bind_eq_some_iff.mp H
            obtain ⟨t169, A160, H⟩ := H
            replace H : (cenotaphlaw01_IdAboves.j0 k t162 t163 t164 (decide (t169 ≥ 0))) = some r := H
            have A16 := Aside0.mk A160
            clear A160
            have H' := Aside0.mk H
            clear H
            go_wp2_with (first | ((with_reducible refine gate_callee (f := 11) rfl ?_); refine goesL_ (some 16) rfl rfl Try.func11 (by kernel_rfl) rfl #[] rfl (by (try simp only [List.map_toArray, List.map_cons, List.map_nil]); first | done | rfl | (simp only [List.length_drop, List.length_take]; rfl)) ?_; (with_reducible refine (cenotaphlaw01_told.calls k  true _ A8.out).mono ?_); rintro e w17 ⟨rfl, hb⟩; refine ⟨_, rfl, ?_⟩; have n0_ := Aside0.mk (below_step (by repeat (first | (with_reducible first | exact HB.out | apply below_alloc | apply pw_below_drewN | apply below_drew1) | exact HB.out)) hb); clear HB; have HB := n0_; clear n0_; (try clear hb); (try clear hb2); (try clear hk); (try clear hi)) | (go_at_call 13; (with_reducible refine (id_Above.calls t162 t163 true _ A10.out).mono ?_); rintro e w18 ⟨rfl, hb⟩; have n0_ := Aside0.mk (below_step (by repeat (first | (with_reducible first | exact HB.out | apply below_alloc | apply pw_below_drewN | apply below_drew1) | exact HB.out)) hb); clear HB; have HB := n0_; clear n0_; (try clear hb); (try clear hb2); (try clear hk); (try clear hi)) | (go_at_call 13; (with_reducible refine (id_Above.calls t163 t164 true _ A12.out).mono ?_); rintro e w19 ⟨rfl, hb⟩; have n0_ := Aside0.mk (below_step (by repeat (first | (with_reducible first | exact HB.out | apply below_alloc | apply pw_below_drewN | apply below_drew1) | exact HB.out)) hb); clear HB; have HB := n0_; clear n0_; (try clear hb); (try clear hb2); (try clear hk); (try clear hi)) | (go_at_call 13; (with_reducible refine (id_Above.calls t162 t164 true _ A14.out).mono ?_); rintro e w20 ⟨rfl, hb⟩; have n0_ := Aside0.mk (below_step (by repeat (first | (with_reducible first | exact HB.out | apply below_alloc | apply pw_below_drewN | apply below_drew1) | exact HB.out)) hb); clear HB; have HB := n0_; clear n0_; (try clear hb); (try clear hb2); (try clear hk); (try clear hi)) | (go_at_call 19; (with_reducible refine (id_Compare.calls t162 t163 t169 _ A16.out).mono ?_); rintro e w' ⟨rfl, ⟨nd, rfl⟩⟩))
            go_meet
            case rel => exact ⟨_, (decide (t169 ≥ 0)), (by first | rfl | (simp; done) | (simp [*]; done)), H', ⟨by first | omega | exact Nat.le_refl _⟩, ⟨by repeat (first | (with_reducible first | exact HB.out | apply below_alloc | apply pw_below_drewN | apply below_drew1) | exact HB.out)⟩⟩
          · replace c15 := Bool.eq_false_iff.mpr c15
            subst c15
            have H1 : (cenotaphlaw01_IdAboves.j0 k t162 t163 t164 true) = some r := by rw [if_neg (show ¬ (false = true) by decide)] at H; exact H
            clear H
            have H := H1
            clear H1
            have H' := Aside0.mk H
            clear H
            go_wp2_with (first | ((with_reducible refine gate_callee (f := 11) rfl ?_); refine goesL_ (some 16) rfl rfl Try.func11 (by kernel_rfl) rfl #[] rfl (by (try simp only [List.map_toArray, List.map_cons, List.map_nil]); first | done | rfl | (simp only [List.length_drop, List.length_take]; rfl)) ?_; (with_reducible refine (cenotaphlaw01_told.calls k  true _ A8.out).mono ?_); rintro e w21 ⟨rfl, hb⟩; refine ⟨_, rfl, ?_⟩; have n0_ := Aside0.mk (below_step (by repeat (first | (with_reducible first | exact HB.out | apply below_alloc | apply pw_below_drewN | apply below_drew1) | exact HB.out)) hb); clear HB; have HB := n0_; clear n0_; (try clear hb); (try clear hb2); (try clear hk); (try clear hi)) | (go_at_call 13; (with_reducible refine (id_Above.calls t162 t163 true _ A10.out).mono ?_); rintro e w22 ⟨rfl, hb⟩; have n0_ := Aside0.mk (below_step (by repeat (first | (with_reducible first | exact HB.out | apply below_alloc | apply pw_below_drewN | apply below_drew1) | exact HB.out)) hb); clear HB; have HB := n0_; clear n0_; (try clear hb); (try clear hb2); (try clear hk); (try clear hi)) | (go_at_call 13; (with_reducible refine (id_Above.calls t163 t164 true _ A12.out).mono ?_); rintro e w23 ⟨rfl, hb⟩; have n0_ := Aside0.mk (below_step (by repeat (first | (with_reducible first | exact HB.out | apply below_alloc | apply pw_below_drewN | apply below_drew1) | exact HB.out)) hb); clear HB; have HB := n0_; clear n0_; (try clear hb); (try clear hb2); (try clear hk); (try clear hi)) | (go_at_call 13; (with_reducible refine (id_Above.calls t162 t164 false _ A14.out).mono ?_); rintro e w24 ⟨rfl, hb⟩; have n0_ := Aside0.mk (below_step (by repeat (first | (with_reducible first | exact HB.out | apply below_alloc | apply pw_below_drewN | apply below_drew1) | exact HB.out)) hb); clear HB; have HB := n0_; clear n0_; (try clear hb); (try clear hb2); (try clear hk); (try clear hi)))
            go_meet
            case rel => exact ⟨_, (true), (by first | rfl | (simp; done) | (simp [*]; done)), H', ⟨by first | omega | exact Nat.le_refl _⟩, ⟨by repeat (first | (with_reducible first | exact HB.out | apply below_alloc | apply pw_below_drewN | apply below_drew1) | exact HB.out)⟩⟩
        · replace c13 := Bool.eq_false_iff.mpr c13
          subst c13
          have H1 : ((id_Compare.f t162 t163).bind fun t170 => (cenotaphlaw01_IdAboves.j0 k t162 t163 t164 (decide (t170 ≥ 0)))) = some r := by rw [if_neg (show ¬ (false = true) by decide)] at H; exact H
          clear H
          have H := H1
          clear H1
          replace H := Option.bind_eq_some_iff.mp H
          obtain ⟨t170, A250, H⟩ := H
          replace H : (cenotaphlaw01_IdAboves.j0 k t162 t163 t164 (decide (t170 ≥ 0))) = some r := H
          have A25 := Aside0.mk A250
          clear A250
          have H' := Aside0.mk H
          clear H
          go_wp2_with (first | ((with_reducible refine gate_callee (f := 11) rfl ?_); refine goesL_ (some 16) rfl rfl Try.func11 (by kernel_rfl) rfl #[] rfl (by (try simp only [List.map_toArray, List.map_cons, List.map_nil]); first | done | rfl | (simp only [List.length_drop, List.length_take]; rfl)) ?_; (with_reducible refine (cenotaphlaw01_told.calls k  true _ A8.out).mono ?_); rintro e w26 ⟨rfl, hb⟩; refine ⟨_, rfl, ?_⟩; have n0_ := Aside0.mk (below_step (by repeat (first | (with_reducible first | exact HB.out | apply below_alloc | apply pw_below_drewN | apply below_drew1) | exact HB.out)) hb); clear HB; have HB := n0_; clear n0_; (try clear hb); (try clear hb2); (try clear hk); (try clear hi)) | (go_at_call 13; (with_reducible refine (id_Above.calls t162 t163 true _ A10.out).mono ?_); rintro e w27 ⟨rfl, hb⟩; have n0_ := Aside0.mk (below_step (by repeat (first | (with_reducible first | exact HB.out | apply below_alloc | apply pw_below_drewN | apply below_drew1) | exact HB.out)) hb); clear HB; have HB := n0_; clear n0_; (try clear hb); (try clear hb2); (try clear hk); (try clear hi)) | (go_at_call 13; (with_reducible refine (id_Above.calls t163 t164 false _ A12.out).mono ?_); rintro e w28 ⟨rfl, hb⟩; have n0_ := Aside0.mk (below_step (by repeat (first | (with_reducible first | exact HB.out | apply below_alloc | apply pw_below_drewN | apply below_drew1) | exact HB.out)) hb); clear HB; have HB := n0_; clear n0_; (try clear hb); (try clear hb2); (try clear hk); (try clear hi)) | (go_at_call 19; (with_reducible refine (id_Compare.calls t162 t163 t170 _ A25.out).mono ?_); rintro e w' ⟨rfl, ⟨nd, rfl⟩⟩))
          go_meet
          case rel => exact ⟨_, (decide (t170 ≥ 0)), (by first | rfl | (simp; done) | (simp [*]; done)), H', ⟨by first | omega | exact Nat.le_refl _⟩, ⟨by repeat (first | (with_reducible first | exact HB.out | apply below_alloc | apply pw_below_drewN | apply below_drew1) | exact HB.out)⟩⟩
      · replace c11 := Bool.eq_false_iff.mpr c11
        subst c11
        have H1 : (cenotaphlaw01_IdAboves.j0 k t162 t163 t164 false) = some r := by rw [if_neg (show ¬ (false = true) by decide)] at H; exact H
        clear H
        have H := H1
        clear H1
        have H' := Aside0.mk H
        clear H
        go_wp2_with (first | ((with_reducible refine gate_callee (f := 11) rfl ?_); refine goesL_ (some 16) rfl rfl Try.func11 (by kernel_rfl) rfl #[] rfl (by (try simp only [List.map_toArray, List.map_cons, List.map_nil]); first | done | rfl | (simp only [List.length_drop, List.length_take]; rfl)) ?_; (with_reducible refine (cenotaphlaw01_told.calls k  true _ A8.out).mono ?_); rintro e w29 ⟨rfl, hb⟩; refine ⟨_, rfl, ?_⟩; have n0_ := Aside0.mk (below_step (by repeat (first | (with_reducible first | exact HB.out | apply below_alloc | apply pw_below_drewN | apply below_drew1) | exact HB.out)) hb); clear HB; have HB := n0_; clear n0_; (try clear hb); (try clear hb2); (try clear hk); (try clear hi)) | (go_at_call 13; (with_reducible refine (id_Above.calls t162 t163 false _ A10.out).mono ?_); rintro e w30 ⟨rfl, hb⟩; have n0_ := Aside0.mk (below_step (by repeat (first | (with_reducible first | exact HB.out | apply below_alloc | apply pw_below_drewN | apply below_drew1) | exact HB.out)) hb); clear HB; have HB := n0_; clear n0_; (try clear hb); (try clear hb2); (try clear hk); (try clear hi)))
        go_meet
        case rel => exact ⟨_, (false), (by first | rfl | (simp; done) | (simp [*]; done)), H', ⟨by first | omega | exact Nat.le_refl _⟩, ⟨by repeat (first | (with_reducible first | exact HB.out | apply below_alloc | apply pw_below_drewN | apply below_drew1) | exact HB.out)⟩⟩
    · replace c9 := Bool.eq_false_iff.mpr c9
      subst c9
      have H1 : (cenotaphlaw01_IdAboves.j0 k t162 t163 t164 true) = some r := by rw [if_neg (show ¬ (false = true) by decide)] at H; exact H
      clear H
      have H := H1
      clear H1
      have H' := Aside0.mk H
      clear H
      go_wp2_with (first | ((with_reducible refine gate_callee (f := 11) rfl ?_); refine goesL_ (some 16) rfl rfl Try.func11 (by kernel_rfl) rfl #[] rfl (by (try simp only [List.map_toArray, List.map_cons, List.map_nil]); first | done | rfl | (simp only [List.length_drop, List.length_take]; rfl)) ?_; (with_reducible refine (cenotaphlaw01_told.calls k  false _ A8.out).mono ?_); rintro e w31 ⟨rfl, hb⟩; refine ⟨_, rfl, ?_⟩; have n0_ := Aside0.mk (below_step (by repeat (first | (with_reducible first | exact HB.out | apply below_alloc | apply pw_below_drewN | apply below_drew1) | exact HB.out)) hb); clear HB; have HB := n0_; clear n0_; (try clear hb); (try clear hb2); (try clear hk); (try clear hi)))
      go_meet
      case rel => exact ⟨_, (true), (by first | rfl | (simp; done) | (simp [*]; done)), H', ⟨by first | omega | exact Nat.le_refl _⟩, ⟨by repeat (first | (with_reducible first | exact HB.out | apply below_alloc | apply pw_below_drewN | apply below_drew1) | exact HB.out)⟩⟩
  case rest =>
    clear HC7
    try clear c1
    try clear p2
    try clear c7
    try clear c9
    try clear c11
    try clear c13
    try clear c14
    try clear c15
    obtain ⟨kq, x44_6, rfl, HA, HJ6, HB⟩ := hcut
    cases kq with
    | zero => exact absurd HA.out (by simp [cenotaphlaw01_IdAboves.j0])
    | succ kj6 =>
      have H := HA.out
      clear HA
      simp only [cenotaphlaw01_IdAboves.j0] at H
      by_cases c32 : x44_6 = true
      · subst c32
        have H1 : (none) = some r := by rw [if_pos rfl] at H; exact H
        clear H
        have H := H1
        clear H1
        exact absurd H (by simp)
      · replace c32 := Bool.eq_false_iff.mpr c32
        subst c32
        have H1 : ((id_Above.f t162 t164).bind fun t171 => (if t171 = true then ((id_Above.f t163 t164).bind fun t172 => (if t172 = true then (if t162.toList = t163.toList then (some true) else ((id_Above.f t162 t163).bind fun t173 => (if t173 = true then (some true) else ((id_Above.f t163 t162).bind fun t174 => (some t174))))) else (some true))) else (some true))) = some r := by rw [if_neg (show ¬ (false = true) by decide)] at H; exact H
        clear H
        have H := H1
        clear H1
        replace H := Option.bind_eq_some_iff.mp H
        obtain ⟨t171, A330, H⟩ := H
        replace H : (if t171 = true then ((id_Above.f t163 t164).bind fun t172 => (if t172 = true then (if t162.toList = t163.toList then (some true) else ((id_Above.f t162 t163).bind fun t173 => (if t173 = true then (some true) else ((id_Above.f t163 t162).bind fun t174 => (some t174))))) else (some true))) else (some true)) = some r := H
        have A33 := Aside0.mk A330
        clear A330
        by_cases c34 : t171 = true
        · subst c34
          have H1 : ((id_Above.f t163 t164).bind fun t172 => (if t172 = true then (if t162.toList = t163.toList then (some true) else ((id_Above.f t162 t163).bind fun t173 => (if t173 = true then (some true) else ((id_Above.f t163 t162).bind fun t174 => (some t174))))) else (some true))) = some r := by rw [if_pos rfl] at H; exact H
          clear H
          have H := H1
          clear H1
          replace H := Option.bind_eq_some_iff.mp H
          obtain ⟨t172, A350, H⟩ := H
          replace H : (if t172 = true then (if t162.toList = t163.toList then (some true) else ((id_Above.f t162 t163).bind fun t173 => (if t173 = true then (some true) else ((id_Above.f t163 t162).bind fun t174 => (some t174))))) else (some true)) = some r := H
          have A35 := Aside0.mk A350
          clear A350
          by_cases c36 : t172 = true
          · subst c36
            have H1 : (if t162.toList = t163.toList then (some true) else ((id_Above.f t162 t163).bind fun t173 => (if t173 = true then (some true) else ((id_Above.f t163 t162).bind fun t174 => (some t174))))) = some r := by rw [if_pos rfl] at H; exact H
            clear H
            have H := H1
            clear H1
            by_cases c37 : t162.toList = t163.toList
            · rw [if_pos c37] at H
              have c37b0 : (t162.toList == t163.toList) = true := beq_iff_eq.mpr c37
              have c37b1 : (t162.toList != t163.toList) = false := bne_eq_false_iff_eq.mpr c37
              clear c37
              obtain rfl := Option.some.inj H
              go_wp2_with (first | ((with_reducible refine gate_callee (f := 13) rfl ?_); refine goesL_ (some 47) rfl rfl Try.func13 (by kernel_rfl) rfl #[.string t162, .string t164] rfl (by (try simp only [List.map_toArray, List.map_cons, List.map_nil]); first | done | rfl | (simp only [List.length_drop, List.length_take]; rfl)) ?_; (with_reducible refine (id_Above.calls t162 t164 true _ A33.out).mono ?_); rintro e w38 ⟨rfl, hb⟩; refine ⟨_, rfl, ?_⟩; have n0_ := Aside0.mk (below_step (by repeat (first | (with_reducible first | exact HB.out | apply below_alloc | apply pw_below_drewN | apply below_drew1) | exact HB.out)) hb); clear HB; have HB := n0_; clear n0_; (try clear hb); (try clear hb2); (try clear hk); (try clear hi)) | (go_at_call 13; (with_reducible refine (id_Above.calls t163 t164 true _ A35.out).mono ?_); rintro e w39 ⟨rfl, hb⟩; have n0_ := Aside0.mk (below_step (by repeat (first | (with_reducible first | exact HB.out | apply below_alloc | apply pw_below_drewN | apply below_drew1) | exact HB.out)) hb); clear HB; have HB := n0_; clear n0_; (try clear hb); (try clear hb2); (try clear hk); (try clear hi)))
              go_ret
              exact ⟨by first | rfl | (simp [errW_none, errW_some] <;> rfl) | (simp [*, errW_none, errW_some] <;> rfl), by repeat (first | (with_reducible first | exact HB.out | apply below_alloc | apply pw_below_drewN | apply below_drew1) | exact HB.out)⟩
            · rw [if_neg c37] at H
              have c37b0 : (t162.toList == t163.toList) = false := beq_eq_false_iff_ne.mpr c37
              have c37b1 : (t162.toList != t163.toList) = true := bne_iff_ne.mpr c37
              replace H := Option.bind_eq_some_iff.mp H
              obtain ⟨t173, A400, H⟩ := H
              replace H : (if t173 = true then (some true) else ((id_Above.f t163 t162).bind fun t174 => (some t174))) = some r := H
              have A40 := Aside0.mk A400
              clear A400
              by_cases c41 : t173 = true
              · subst c41
                have H1 : (some true) = some r := by rw [if_pos rfl] at H; exact H
                clear H
                have H := H1
                clear H1
                obtain rfl := Option.some.inj H
                go_wp2_with (first | ((with_reducible refine gate_callee (f := 13) rfl ?_); refine goesL_ (some 47) rfl rfl Try.func13 (by kernel_rfl) rfl #[.string t162, .string t164] rfl (by (try simp only [List.map_toArray, List.map_cons, List.map_nil]); first | done | rfl | (simp only [List.length_drop, List.length_take]; rfl)) ?_; (with_reducible refine (id_Above.calls t162 t164 true _ A33.out).mono ?_); rintro e w42 ⟨rfl, hb⟩; refine ⟨_, rfl, ?_⟩; have n0_ := Aside0.mk (below_step (by repeat (first | (with_reducible first | exact HB.out | apply below_alloc | apply pw_below_drewN | apply below_drew1) | exact HB.out)) hb); clear HB; have HB := n0_; clear n0_; (try clear hb); (try clear hb2); (try clear hk); (try clear hi)) | (go_at_call 13; (with_reducible refine (id_Above.calls t163 t164 true _ A35.out).mono ?_); rintro e w43 ⟨rfl, hb⟩; have n0_ := Aside0.mk (below_step (by repeat (first | (with_reducible first | exact HB.out | apply below_alloc | apply pw_below_drewN | apply below_drew1) | exact HB.out)) hb); clear HB; have HB := n0_; clear n0_; (try clear hb); (try clear hb2); (try clear hk); (try clear hi)) | (go_at_call 13; (with_reducible refine (id_Above.calls t162 t163 true _ A40.out).mono ?_); rintro e w44 ⟨rfl, hb⟩; have n0_ := Aside0.mk (below_step (by repeat (first | (with_reducible first | exact HB.out | apply below_alloc | apply pw_below_drewN | apply below_drew1) | exact HB.out)) hb); clear HB; have HB := n0_; clear n0_; (try clear hb); (try clear hb2); (try clear hk); (try clear hi)))
                go_ret
                exact ⟨by first | rfl | (simp [errW_none, errW_some] <;> rfl) | (simp [*, errW_none, errW_some] <;> rfl), by repeat (first | (with_reducible first | exact HB.out | apply below_alloc | apply pw_below_drewN | apply below_drew1) | exact HB.out)⟩
              · replace c41 := Bool.eq_false_iff.mpr c41
                subst c41
                have H1 : ((id_Above.f t163 t162).bind fun t174 => (some t174)) = some r := by rw [if_neg (show ¬ (false = true) by decide)] at H; exact H
                clear H
                have H := H1
                clear H1
                replace H := Option.bind_eq_some_iff.mp H
                obtain ⟨t174, A450, H⟩ := H
                replace H : (some t174) = some r := H
                have A45 := Aside0.mk A450
                clear A450
                obtain rfl := Option.some.inj H
                go_wp2_with (first | ((with_reducible refine gate_callee (f := 13) rfl ?_); refine goesL_ (some 47) rfl rfl Try.func13 (by kernel_rfl) rfl #[.string t162, .string t164] rfl (by (try simp only [List.map_toArray, List.map_cons, List.map_nil]); first | done | rfl | (simp only [List.length_drop, List.length_take]; rfl)) ?_; (with_reducible refine (id_Above.calls t162 t164 true _ A33.out).mono ?_); rintro e w46 ⟨rfl, hb⟩; refine ⟨_, rfl, ?_⟩; have n0_ := Aside0.mk (below_step (by repeat (first | (with_reducible first | exact HB.out | apply below_alloc | apply pw_below_drewN | apply below_drew1) | exact HB.out)) hb); clear HB; have HB := n0_; clear n0_; (try clear hb); (try clear hb2); (try clear hk); (try clear hi)) | (go_at_call 13; (with_reducible refine (id_Above.calls t163 t164 true _ A35.out).mono ?_); rintro e w47 ⟨rfl, hb⟩; have n0_ := Aside0.mk (below_step (by repeat (first | (with_reducible first | exact HB.out | apply below_alloc | apply pw_below_drewN | apply below_drew1) | exact HB.out)) hb); clear HB; have HB := n0_; clear n0_; (try clear hb); (try clear hb2); (try clear hk); (try clear hi)) | (go_at_call 13; (with_reducible refine (id_Above.calls t162 t163 false _ A40.out).mono ?_); rintro e w48 ⟨rfl, hb⟩; have n0_ := Aside0.mk (below_step (by repeat (first | (with_reducible first | exact HB.out | apply below_alloc | apply pw_below_drewN | apply below_drew1) | exact HB.out)) hb); clear HB; have HB := n0_; clear n0_; (try clear hb); (try clear hb2); (try clear hk); (try clear hi)) | (go_at_call 13; (with_reducible refine (id_Above.calls t163 t162 t174 _ A45.out).mono ?_); rintro e w49 ⟨rfl, hb⟩; have n0_ := Aside0.mk (below_step (by repeat (first | (with_reducible first | exact HB.out | apply below_alloc | apply pw_below_drewN | apply below_drew1) | exact HB.out)) hb); clear HB; have HB := n0_; clear n0_; (try clear hb); (try clear hb2); (try clear hk); (try clear hi)))
                go_ret
                exact ⟨by first | rfl | (simp [errW_none, errW_some] <;> rfl) | (simp [*, errW_none, errW_some] <;> rfl), by repeat (first | (with_reducible first | exact HB.out | apply below_alloc | apply pw_below_drewN | apply below_drew1) | exact HB.out)⟩
          · replace c36 := Bool.eq_false_iff.mpr c36
            subst c36
            have H1 : (some true) = some r := by rw [if_neg (show ¬ (false = true) by decide)] at H; exact H
            clear H
            have H := H1
            clear H1
            obtain rfl := Option.some.inj H
            go_wp2_with (first | ((with_reducible refine gate_callee (f := 13) rfl ?_); refine goesL_ (some 47) rfl rfl Try.func13 (by kernel_rfl) rfl #[.string t162, .string t164] rfl (by (try simp only [List.map_toArray, List.map_cons, List.map_nil]); first | done | rfl | (simp only [List.length_drop, List.length_take]; rfl)) ?_; (with_reducible refine (id_Above.calls t162 t164 true _ A33.out).mono ?_); rintro e w50 ⟨rfl, hb⟩; refine ⟨_, rfl, ?_⟩; have n0_ := Aside0.mk (below_step (by repeat (first | (with_reducible first | exact HB.out | apply below_alloc | apply pw_below_drewN | apply below_drew1) | exact HB.out)) hb); clear HB; have HB := n0_; clear n0_; (try clear hb); (try clear hb2); (try clear hk); (try clear hi)) | (go_at_call 13; (with_reducible refine (id_Above.calls t163 t164 false _ A35.out).mono ?_); rintro e w51 ⟨rfl, hb⟩; have n0_ := Aside0.mk (below_step (by repeat (first | (with_reducible first | exact HB.out | apply below_alloc | apply pw_below_drewN | apply below_drew1) | exact HB.out)) hb); clear HB; have HB := n0_; clear n0_; (try clear hb); (try clear hb2); (try clear hk); (try clear hi)))
            go_ret
            exact ⟨by first | rfl | (simp [errW_none, errW_some] <;> rfl) | (simp [*, errW_none, errW_some] <;> rfl), by repeat (first | (with_reducible first | exact HB.out | apply below_alloc | apply pw_below_drewN | apply below_drew1) | exact HB.out)⟩
        · replace c34 := Bool.eq_false_iff.mpr c34
          subst c34
          have H1 : (some true) = some r := by rw [if_neg (show ¬ (false = true) by decide)] at H; exact H
          clear H
          have H := H1
          clear H1
          obtain rfl := Option.some.inj H
          go_wp2_with (first | ((with_reducible refine gate_callee (f := 13) rfl ?_); refine goesL_ (some 47) rfl rfl Try.func13 (by kernel_rfl) rfl #[.string t162, .string t164] rfl (by (try simp only [List.map_toArray, List.map_cons, List.map_nil]); first | done | rfl | (simp only [List.length_drop, List.length_take]; rfl)) ?_; (with_reducible refine (id_Above.calls t162 t164 false _ A33.out).mono ?_); rintro e w52 ⟨rfl, hb⟩; refine ⟨_, rfl, ?_⟩; have n0_ := Aside0.mk (below_step (by repeat (first | (with_reducible first | exact HB.out | apply below_alloc | apply pw_below_drewN | apply below_drew1) | exact HB.out)) hb); clear HB; have HB := n0_; clear n0_; (try clear hb); (try clear hb2); (try clear hk); (try clear hi)))
          go_ret
          exact ⟨by first | rfl | (simp [errW_none, errW_some] <;> rfl) | (simp [*, errW_none, errW_some] <;> rfl), by repeat (first | (with_reducible first | exact HB.out | apply below_alloc | apply pw_below_drewN | apply below_drew1) | exact HB.out)⟩

/-- THE ONE PURE STATEMENT of cenotaphlaw01_IdAboves: yours. -/
def cenotaphlaw01_IdAboves.Pure : Prop := ∀ (a0 : ByteArray) (a1 : ByteArray) (a2 : ByteArray), a0.size ≤ 140737488351232 → a1.size ≤ 140737488351232 → a2.size ≤ 140737488351232 → ∃ k, cenotaphlaw01_IdAboves.f k a0 a1 a2 = some true
theorem cenotaphlaw01_IdAboves.walk (P : cenotaphlaw01_IdAboves.Pure) (a0 : ByteArray) (a1 : ByteArray) (a2 : ByteArray) (w : World) (w0 : a0.size ≤ 140737488351232) (w1 : a1.size ≤ 140737488351232) (w2 : a2.size ≤ 140737488351232) :
    Calls Try.prog 7 #[.string a0, .string a1, .string a2] w fun e w' => e = .returned (.bool true) ∧ Below w.heap.size w w' := by
  obtain ⟨k, h⟩ := P a0 a1 a2 w0 w1 w2
  refine (cenotaphlaw01_IdAboves.calls k a0 a1 a2 true w h).mono ?_
  rintro e w' ⟨rfl, hd⟩
  exact ⟨rfl, hd⟩

/-! ### cenotaphlaw01_To: function 22 -/
def cenotaphlaw01_To.l0 : Nat → List ByteArray → List ByteArray → Int → Option (List ByteArray)
  | 0, _, _, _ => none
  | k + 1, x0, x3, x4 => if x4 < (x0.length : Int) then (if 0 ≤ x4 then (if x3.length < 8796093022208 then (cenotaphlaw01_To.l0 k x0 (x3 ++ [rdOf ByteArray.empty x0 x4]) (wrap64 (x4 + 1))) else (none)) else (none)) else (some x3)
def cenotaphlaw01_To.f (k : Nat) (l0 : List ByteArray) : Option (List ByteArray) := cenotaphlaw01_To.l0 k l0 ([] : List ByteArray) 0
theorem cenotaphlaw01_To.mono_l : ∀ k, (∀ y0 y1 y2, LeO (cenotaphlaw01_To.l0 k y0 y1 y2) (cenotaphlaw01_To.l0 (k + 1) y0 y1 y2))
  | 0 => fun _ _ _ r h => by simp [cenotaphlaw01_To.l0] at h
  | k + 1 => by
    have ih0 := cenotaphlaw01_To.mono_l k
    · intro y0 y1 y2
      unfold cenotaphlaw01_To.l0
      repeat' first
      | (with_reducible exact ih0 _ _ _)
      | (with_reducible exact LeO.refl _)
      | (with_reducible exact LeO.none _)
      | (with_reducible refine LeO.ite ?_ ?_)
      | (with_reducible refine LeO.bind ?_ (fun _ => ?_))
      | exact ih0 _ _ _
      | exact LeO.none _
      | refine LeO.ite ?_ ?_
      | refine LeO.bind ?_ (fun _ => ?_)
theorem cenotaphlaw01_To.mono : ∀ a0 k, LeO (cenotaphlaw01_To.f k a0) (cenotaphlaw01_To.f (k + 1) a0) := by
  intro a0 k
  have ih0 := cenotaphlaw01_To.mono_l k
  unfold cenotaphlaw01_To.f
  repeat' first
      | (with_reducible exact ih0 _ _ _)
      | (with_reducible exact LeO.refl _)
      | (with_reducible exact LeO.none _)
      | (with_reducible refine LeO.ite ?_ ?_)
      | (with_reducible refine LeO.bind ?_ (fun _ => ?_))
      | exact ih0 _ _ _
      | exact LeO.none _
      | refine LeO.ite ?_ ?_
      | refine LeO.bind ?_ (fun _ => ?_)
set_option maxHeartbeats 8000000 in
set_option maxRecDepth 100000 in
theorem cenotaphlaw01_To.calls (k : Nat) (A0 : Option Addr) (c0 : Nat) (l0 : List ByteArray) (r : List ByteArray) (w : World) (hr0 : Kd.C Kd.string w A0 l0.length l0) (hc0 : l0.length ≤ c0) (h : cenotaphlaw01_To.f k l0 = some r) :
    Calls Try.prog 22 #[.slice A0 l0.length c0] w fun e w' => ∃ v0_ : Value, e = .returned (v0_) ∧ Kd.R Kd.string 23 w' w.heap.size (fun _ => True) v0_ r ∧ Below w.heap.size w w' := by
  have HR0 := Aside0.mk hr0
  have HC0 := Aside0.mk hc0
  clear hr0 hc0
  have HB := Aside0.mk (Below.refl w.heap.size w)
  have H : (cenotaphlaw01_To.l0 k l0 ([] : List ByteArray) 0) = some r := h
  clear h
  have H' := Aside0.mk H
  clear H
  go_enter Try.func22, Try.ntmps22
  go_wp2
  go_loopg [3, 4] k (fun kq v3 v4 w' => ∃ (x3_1 : List ByteArray) (x4_1 : Int), v4 = .int .i64 x4_1 ∧ Aside0 (cenotaphlaw01_To.l0 kq l0 x3_1 x4_1 = some r) ∧ Aside0 (kq ≤ k) ∧ Aside0 (Kd.R Kd.string 23 w' w.heap.size (fun _ => True) v3 x3_1) ∧ Aside0 (Below w.heap.size w w'))
  case atStart => exact ⟨(([] : List ByteArray)), (0), (by first | rfl | (simp; done) | (simp [*]; done)), H', ⟨Nat.le_refl _⟩, ⟨by first | exact Kd.R_nil _ _ _ _ _ | exact Kd.N_nil _ _ _ _ _ | exact Kd.V_nil _ _ _ _ _ | exact Kd.Q_nil _ _ _ _ _ | exact Kd.S_nil _ _ _ _ _⟩, ⟨by repeat (first | (with_reducible first | exact HB.out | apply below_alloc | apply pw_below_drewN | apply below_drew1) | exact HB.out)⟩⟩
  case round =>
    clear H'
    obtain ⟨x3_1, x4_1, rfl, HA, HK1, HO_3, HB⟩ := hrel
    cases gk with
    | zero => exact absurd HA.out (by simp [cenotaphlaw01_To.l0])
    | succ k1 =>
      have H := HA.out
      clear HA
      simp only [cenotaphlaw01_To.l0] at H
      by_cases c2 : x4_1 < (l0.length : Int)
      · rw [if_pos c2] at H
        have c2b0 : decide (x4_1 < (l0.length : Int)) = true := decide_eq_true c2
        clear c2
        by_cases c3 : 0 ≤ x4_1
        · rw [if_pos c3] at H
          have c3b0 : decide (0 ≤ x4_1) = true := decide_eq_true c3
          clear c3
          by_cases c4 : x3_1.length < 8796093022208
          · rw [if_pos c4] at H
            have LMc4 := Aside0.mk c4
            clear c4
            obtain ⟨y176, hy176⟩ : ∃ y_ : List ByteArray, y_ = (x3_1 ++ [rdOf ByteArray.empty l0 x4_1]) := ⟨_, rfl⟩
            replace H : (cenotaphlaw01_To.l0 k1 l0 y176 (wrap64 (x4_1 + 1))) = some r := by first | (rw [hy176]; with_reducible exact H) | (have H2_ := (Option.bind_some _ _).symm.trans H; rw [hy176]; with_reducible exact H2_) | (have H2_ := (Option.bind_some _ _).symm.trans H; with_reducible exact H2_) | with_reducible exact H | (rw [hy176]; exact H) | exact H
            have Ny176 := Aside0.mk hy176
            clear hy176
            have H' := Aside0.mk H
            clear H
            have p175 : 0 ≤ (x4_1 : Int) := of_decide_eq_true (by first | (with_reducible assumption) | assumption)
            have q175 : x4_1 < (l0.length : Int) := of_decide_eq_true (by first | (with_reducible assumption) | assumption)
            obtain ⟨ad175, e175, hx175_0⟩ := Kd.at_string HR0.out x4_1 p175 q175
            cases e175
            replace hx175_0 := (HB.out.cell (World.block_lt_of_cell? w _ hx175_0)).trans hx175_0
            replace p175 := eq_true p175
            replace q175 := eq_true q175
            go_wp2_with (first | ((with_reducible refine gate_builtin (b := .append) (xs := #[.tmp 11, .tmp 16]) rfl ?_); at_builtin; refine Kd.R_append Kd.string (w0 := w) w.heap.size rfl (.tmp 11) (.tmp 16) 43 23 (.string ⟨#[]⟩) 16 rfl Try.underlying43 info23 rfl (by decide) (by omega) u3 x3_1 (rdOf ByteArray.empty l0 x4_1) [.string (rdOf ByteArray.empty l0 x4_1)] (fun _ => True) (fun _ => False) rfl rfl ?aP (fun _ hk => hk.elim) ?aF ?aO ?aB ?aS ?aL ?_; (case aP => exact rfl); (case aB => exact (by repeat (first | (with_reducible first | exact HB.out | apply below_alloc | apply pw_below_drewN | apply below_drew1) | exact HB.out))); (case aF => exact (fun _ _ => trivial)); (case aO => exact (by (with_reducible repeat (first | apply Kd.R_alloc | apply Kd.R_drewN | apply Kd.R_drew)); exact HO_3.out)); (case aS => exact (below_size (by repeat (first | (with_reducible first | exact HB.out | apply below_alloc | apply pw_below_drewN | apply below_drew1) | exact HB.out)))); (case aL => have := LMc4.out; omega); intro v177 w5 ho hb hg hat; rw [← Ny176.out] at ho; have n0_ := Aside0.mk (hb); have n1_ := Aside0.mk (ho); clear HB; clear HO_3; have HB := n0_; have HO178 := n1_; clear n0_ n1_; clear ho hb hg hat))
            go_roundg k1
            case measure => have := HK1.out; omega
            case rel => exact ⟨(y176), (wrap64 (x4_1 + 1)), (by first | rfl | (simp; done) | (simp [*]; done)), H', ⟨by have := HK1.out; omega⟩, ⟨by (with_reducible repeat (first | apply Kd.R_alloc | apply Kd.R_drewN | apply Kd.R_drew)); exact HO178.out⟩, ⟨by repeat (first | (with_reducible first | exact HB.out | apply below_alloc | apply pw_below_drewN | apply below_drew1) | exact HB.out)⟩⟩
          · rw [if_neg c4] at H
            exact absurd H (by simp)
        · rw [if_neg c3] at H
          exact absurd H (by simp)
      · rw [if_neg c2] at H
        have c2b0 : decide (x4_1 < (l0.length : Int)) = false := decide_eq_false c2
        clear c2
        obtain rfl := Option.some.inj H
        go_wp2
        go_ret
        exact ⟨_, by first | rfl | (simp [errW_none, errW_some] <;> rfl) | (simp [*, errW_none, errW_some] <;> rfl), by (with_reducible repeat (first | apply Kd.R_alloc | apply Kd.R_drewN | apply Kd.R_drew)); exact HO_3.out, by repeat (first | (with_reducible first | exact HB.out | apply below_alloc | apply pw_below_drewN | apply below_drew1) | exact HB.out)⟩

/-! ### cenotaphlaw01_From: function 23 -/
def cenotaphlaw01_From.l0 : Nat → List ByteArray → List ByteArray → Int → Option (List ByteArray)
  | 0, _, _, _ => none
  | k + 1, x0, x3, x4 => if x4 < (x0.length : Int) then (if 0 ≤ x4 then (if x3.length < 8796093022208 then (cenotaphlaw01_From.l0 k x0 (x3 ++ [rdOf ByteArray.empty x0 x4]) (wrap64 (x4 + 1))) else (none)) else (none)) else (some x3)
def cenotaphlaw01_From.f (k : Nat) (l0 : List ByteArray) : Option (List ByteArray) := cenotaphlaw01_From.l0 k l0 ([] : List ByteArray) 0
theorem cenotaphlaw01_From.mono_l : ∀ k, (∀ y0 y1 y2, LeO (cenotaphlaw01_From.l0 k y0 y1 y2) (cenotaphlaw01_From.l0 (k + 1) y0 y1 y2))
  | 0 => fun _ _ _ r h => by simp [cenotaphlaw01_From.l0] at h
  | k + 1 => by
    have ih0 := cenotaphlaw01_From.mono_l k
    · intro y0 y1 y2
      unfold cenotaphlaw01_From.l0
      repeat' first
      | (with_reducible exact ih0 _ _ _)
      | (with_reducible exact LeO.refl _)
      | (with_reducible exact LeO.none _)
      | (with_reducible refine LeO.ite ?_ ?_)
      | (with_reducible refine LeO.bind ?_ (fun _ => ?_))
      | exact ih0 _ _ _
      | exact LeO.none _
      | refine LeO.ite ?_ ?_
      | refine LeO.bind ?_ (fun _ => ?_)
theorem cenotaphlaw01_From.mono : ∀ a0 k, LeO (cenotaphlaw01_From.f k a0) (cenotaphlaw01_From.f (k + 1) a0) := by
  intro a0 k
  have ih0 := cenotaphlaw01_From.mono_l k
  unfold cenotaphlaw01_From.f
  repeat' first
      | (with_reducible exact ih0 _ _ _)
      | (with_reducible exact LeO.refl _)
      | (with_reducible exact LeO.none _)
      | (with_reducible refine LeO.ite ?_ ?_)
      | (with_reducible refine LeO.bind ?_ (fun _ => ?_))
      | exact ih0 _ _ _
      | exact LeO.none _
      | refine LeO.ite ?_ ?_
      | refine LeO.bind ?_ (fun _ => ?_)
set_option maxHeartbeats 8000000 in
set_option maxRecDepth 100000 in
theorem cenotaphlaw01_From.calls (k : Nat) (A0 : Option Addr) (c0 : Nat) (l0 : List ByteArray) (r : List ByteArray) (w : World) (hr0 : Kd.C Kd.string w A0 l0.length l0) (hc0 : l0.length ≤ c0) (h : cenotaphlaw01_From.f k l0 = some r) :
    Calls Try.prog 23 #[.slice A0 l0.length c0] w fun e w' => ∃ v0_ : Value, e = .returned (v0_) ∧ Kd.R Kd.string 9 w' w.heap.size (fun _ => True) v0_ r ∧ Below w.heap.size w w' := by
  have HR0 := Aside0.mk hr0
  have HC0 := Aside0.mk hc0
  clear hr0 hc0
  have HB := Aside0.mk (Below.refl w.heap.size w)
  have H : (cenotaphlaw01_From.l0 k l0 ([] : List ByteArray) 0) = some r := h
  clear h
  have H' := Aside0.mk H
  clear H
  go_enter Try.func23, Try.ntmps23
  go_wp2
  go_loopg [3, 4] k (fun kq v3 v4 w' => ∃ (x3_1 : List ByteArray) (x4_1 : Int), v4 = .int .i64 x4_1 ∧ Aside0 (cenotaphlaw01_From.l0 kq l0 x3_1 x4_1 = some r) ∧ Aside0 (kq ≤ k) ∧ Aside0 (Kd.R Kd.string 9 w' w.heap.size (fun _ => True) v3 x3_1) ∧ Aside0 (Below w.heap.size w w'))
  case atStart => exact ⟨(([] : List ByteArray)), (0), (by first | rfl | (simp; done) | (simp [*]; done)), H', ⟨Nat.le_refl _⟩, ⟨by first | exact Kd.R_nil _ _ _ _ _ | exact Kd.N_nil _ _ _ _ _ | exact Kd.V_nil _ _ _ _ _ | exact Kd.Q_nil _ _ _ _ _ | exact Kd.S_nil _ _ _ _ _⟩, ⟨by repeat (first | (with_reducible first | exact HB.out | apply below_alloc | apply pw_below_drewN | apply below_drew1) | exact HB.out)⟩⟩
  case round =>
    clear H'
    obtain ⟨x3_1, x4_1, rfl, HA, HK1, HO_3, HB⟩ := hrel
    cases gk with
    | zero => exact absurd HA.out (by simp [cenotaphlaw01_From.l0])
    | succ k1 =>
      have H := HA.out
      clear HA
      simp only [cenotaphlaw01_From.l0] at H
      by_cases c2 : x4_1 < (l0.length : Int)
      · rw [if_pos c2] at H
        have c2b0 : decide (x4_1 < (l0.length : Int)) = true := decide_eq_true c2
        clear c2
        by_cases c3 : 0 ≤ x4_1
        · rw [if_pos c3] at H
          have c3b0 : decide (0 ≤ x4_1) = true := decide_eq_true c3
          clear c3
          by_cases c4 : x3_1.length < 8796093022208
          · rw [if_pos c4] at H
            have LMc4 := Aside0.mk c4
            clear c4
            obtain ⟨y180, hy180⟩ : ∃ y_ : List ByteArray, y_ = (x3_1 ++ [rdOf ByteArray.empty l0 x4_1]) := ⟨_, rfl⟩
            replace H : (cenotaphlaw01_From.l0 k1 l0 y180 (wrap64 (x4_1 + 1))) = some r := by first | (rw [hy180]; with_reducible exact H) | (have H2_ := (Option.bind_some _ _).symm.trans H; rw [hy180]; with_reducible exact H2_) | (have H2_ := (Option.bind_some _ _).symm.trans H; with_reducible exact H2_) | with_reducible exact H | (rw [hy180]; exact H) | exact H
            have Ny180 := Aside0.mk hy180
            clear hy180
            have H' := Aside0.mk H
            clear H
            have p179 : 0 ≤ (x4_1 : Int) := of_decide_eq_true (by first | (with_reducible assumption) | assumption)
            have q179 : x4_1 < (l0.length : Int) := of_decide_eq_true (by first | (with_reducible assumption) | assumption)
            obtain ⟨ad179, e179, hx179_0⟩ := Kd.at_string HR0.out x4_1 p179 q179
            cases e179
            replace hx179_0 := (HB.out.cell (World.block_lt_of_cell? w _ hx179_0)).trans hx179_0
            replace p179 := eq_true p179
            replace q179 := eq_true q179
            go_wp2_with (first | ((with_reducible refine gate_builtin (b := .append) (xs := #[.tmp 11, .tmp 16]) rfl ?_); at_builtin; refine Kd.R_append Kd.string (w0 := w) w.heap.size rfl (.tmp 11) (.tmp 16) 42 9 (.string ⟨#[]⟩) 16 rfl Try.underlying42 info9 rfl (by decide) (by omega) u3 x3_1 (rdOf ByteArray.empty l0 x4_1) [.string (rdOf ByteArray.empty l0 x4_1)] (fun _ => True) (fun _ => False) rfl rfl ?aP (fun _ hk => hk.elim) ?aF ?aO ?aB ?aS ?aL ?_; (case aP => exact rfl); (case aB => exact (by repeat (first | (with_reducible first | exact HB.out | apply below_alloc | apply pw_below_drewN | apply below_drew1) | exact HB.out))); (case aF => exact (fun _ _ => trivial)); (case aO => exact (by (with_reducible repeat (first | apply Kd.R_alloc | apply Kd.R_drewN | apply Kd.R_drew)); exact HO_3.out)); (case aS => exact (below_size (by repeat (first | (with_reducible first | exact HB.out | apply below_alloc | apply pw_below_drewN | apply below_drew1) | exact HB.out)))); (case aL => have := LMc4.out; omega); intro v181 w5 ho hb hg hat; rw [← Ny180.out] at ho; have n0_ := Aside0.mk (hb); have n1_ := Aside0.mk (ho); clear HB; clear HO_3; have HB := n0_; have HO182 := n1_; clear n0_ n1_; clear ho hb hg hat))
            go_roundg k1
            case measure => have := HK1.out; omega
            case rel => exact ⟨(y180), (wrap64 (x4_1 + 1)), (by first | rfl | (simp; done) | (simp [*]; done)), H', ⟨by have := HK1.out; omega⟩, ⟨by (with_reducible repeat (first | apply Kd.R_alloc | apply Kd.R_drewN | apply Kd.R_drew)); exact HO182.out⟩, ⟨by repeat (first | (with_reducible first | exact HB.out | apply below_alloc | apply pw_below_drewN | apply below_drew1) | exact HB.out)⟩⟩
          · rw [if_neg c4] at H
            exact absurd H (by simp)
        · rw [if_neg c3] at H
          exact absurd H (by simp)
      · rw [if_neg c2] at H
        have c2b0 : decide (x4_1 < (l0.length : Int)) = false := decide_eq_false c2
        clear c2
        obtain rfl := Option.some.inj H
        go_wp2
        go_ret
        exact ⟨_, by first | rfl | (simp [errW_none, errW_some] <;> rfl) | (simp [*, errW_none, errW_some] <;> rfl), by (with_reducible repeat (first | apply Kd.R_alloc | apply Kd.R_drewN | apply Kd.R_drew)); exact HO_3.out, by repeat (first | (with_reducible first | exact HB.out | apply below_alloc | apply pw_below_drewN | apply below_drew1) | exact HB.out)⟩

/-! ### id_Union: function 24 -/
def laySortId_ren : Go.Shelf.Ren := ⟨fun | 6 => 33 | 15 => 40 | 14 => 39 | 28 => 50 | 29 => 51 | 20 => 42 | 21 => 43 | 22 => 44 | 23 => 45 | 24 => 46 | 25 => 47 | 26 => 48 | 27 => 49 | 46 => 52 | 47 => 53 | 48 => 54 | 49 => 55 | 50 => 56 | 57 => 57 | n => n, fun | 22 => 43 | 24 => 23 | 25 => 38 | 3 => 3 | 39 => 63 | 0 => 0 | 53 => 72 | 55 => 74 | 4 => 4 | 46 => 66 | 45 => 65 | 50 => 57 | 5 => 5 | 9 => 9 | 66 => 75 | 70 => 79 | 76 => 81 | 77 => 82 | n => n, fun | n => n⟩
theorem laySortId : Go.Proofs.SlLaysF.n6 Try.prog laySortId_ren := { mixed := by kernel_rfl, f6 := ⟨Try.f33.name, by decide, Try.func33.trans (congrArg some (by kernel_rfl))⟩, f14 := ⟨Try.f39.name, by decide, Try.func39.trans (congrArg some (by kernel_rfl))⟩, f15 := Try.func40.trans (congrArg some (by kernel_rfl)), f20 := ⟨Try.f42.name, by decide, Try.func42.trans (congrArg some (by kernel_rfl))⟩, f21 := ⟨Try.f43.name, by decide, Try.func43.trans (congrArg some (by kernel_rfl))⟩, f22 := ⟨Try.f44.name, by decide, Try.func44.trans (congrArg some (by kernel_rfl))⟩, f23 := ⟨Try.f45.name, by decide, Try.func45.trans (congrArg some (by kernel_rfl))⟩, f24 := ⟨Try.f46.name, by decide, Try.func46.trans (congrArg some (by kernel_rfl))⟩, f25 := ⟨Try.f47.name, by decide, Try.func47.trans (congrArg some (by kernel_rfl))⟩, f26 := ⟨Try.f48.name, by decide, Try.func48.trans (congrArg some (by kernel_rfl))⟩, f27 := ⟨Try.f49.name, by decide, Try.func49.trans (congrArg some (by kernel_rfl))⟩, f28 := Try.func50.trans (congrArg some (by kernel_rfl)), f29 := Try.func51.trans (congrArg some (by kernel_rfl)), f46 := ⟨Try.f52.name, by decide, Try.func52.trans (congrArg some (by kernel_rfl))⟩, f47 := Try.func53.trans (congrArg some (by kernel_rfl)), f48 := Try.func54.trans (congrArg some (by kernel_rfl)), f49 := ⟨Try.f55.name, by decide, Try.func55.trans (congrArg some (by kernel_rfl))⟩, f50 := ⟨Try.f56.name, by decide, Try.func56.trans (congrArg some (by kernel_rfl))⟩, f57 := ⟨Try.f57.name, by decide, Try.func57.trans (congrArg some (by kernel_rfl))⟩, t0 := Try.underlying0, a0 := Try.isAgg0, z0 := Try.sizeOf0, v0 := Try.zeroValue0, t3 := Try.underlying3, a3 := Try.isAgg3, z3 := Try.sizeOf3, v3 := Try.zeroValue3, t4 := Try.underlying4, a4 := Try.isAgg4, z4 := Try.sizeOf4, v4 := Try.zeroValue4, t5 := Try.underlying5, a5 := Try.isAgg5, z5 := Try.sizeOf5, v5 := Try.zeroValue5, t9 := Try.underlying9, a9 := Try.isAgg9, z9 := Try.sizeOf9, v9 := Try.zeroValue9, t22 := Try.underlying43, a22 := Try.isAgg43, z22 := Try.sizeOf43, v22 := Try.zeroValue43, a24 := Try.isAgg23, z24 := Try.sizeOf23, t25 := Try.underlying38, a25 := Try.isAgg38, z25 := Try.sizeOf38, v25 := Try.zeroValue38, t39 := Try.underlying63, a39 := Try.isAgg63, z39 := Try.sizeOf63, v39 := Try.zeroValue63, t45 := Try.underlying65, a45 := Try.isAgg65, z45 := Try.sizeOf65, v45 := Try.zeroValue65, t46 := Try.underlying66, a46 := Try.isAgg66, z46 := Try.sizeOf66, v46 := Try.zeroValue66, t50 := Try.underlying57, a50 := Try.isAgg57, z50 := Try.sizeOf57, v50 := Try.zeroValue57, t53 := Try.underlying72, a53 := Try.isAgg72, z53 := Try.sizeOf72, v53 := Try.zeroValue72, t55 := Try.underlying74, a55 := Try.isAgg74, z55 := Try.sizeOf74, v55 := Try.zeroValue74, t66 := Try.underlying75, a66 := Try.isAgg75, z66 := Try.sizeOf75, v66 := Try.zeroValue75, t70 := Try.underlying79, a70 := Try.isAgg79, z70 := Try.sizeOf79, v70 := Try.zeroValue79, t76 := Try.underlying81, a76 := Try.isAgg81, z76 := Try.sizeOf81, v76 := Try.zeroValue81, t77 := Try.underlying82, a77 := Try.isAgg82, z77 := Try.sizeOf82, v77 := Try.zeroValue82 }
def layCompactId_ren : Go.Shelf.Ren := ⟨fun | 43 => 34 | n => n, fun | 22 => 43 | 23 => 23 | 3 => 3 | 4 => 4 | 0 => 0 | n => n, fun | n => n⟩
theorem layCompactId : Go.Proofs.SlLaysE.n43 Try.prog layCompactId_ren := { mixed := by kernel_rfl, f43 := ⟨Try.f34.name, by decide, Try.func34.trans (congrArg some (by kernel_rfl))⟩, t0 := Try.underlying0, a0 := Try.isAgg0, z0 := Try.sizeOf0, v0 := Try.zeroValue0, t3 := Try.underlying3, a3 := Try.isAgg3, z3 := Try.sizeOf3, v3 := Try.zeroValue3, t4 := Try.underlying4, a4 := Try.isAgg4, z4 := Try.sizeOf4, v4 := Try.zeroValue4, t22 := Try.underlying43, a22 := Try.isAgg43, z22 := Try.sizeOf43, v22 := Try.zeroValue43, a23 := Try.isAgg23, z23 := Try.sizeOf23 }
set_option maxHeartbeats 800000 in
set_option maxRecDepth 100000 in
theorem idc_grow (n : Nat) (w : World) (hn : n * 16 ≤ 140737488355328) :
    Calls Try.prog 38 #[.slice none 0 0, .int .i64 n] w fun e w' => ∃ v : Value, e = .returned v ∧ Kd.R Kd.string 23 w' w.heap.size (fun _ => True) v ([] : List ByteArray) ∧ Below w.heap.size w w' := by
  obtain ⟨i0, hi0, hz0, hsz0, hby0⟩ := info_parts info23
  have hcut0 := cut_to (P := Try.prog) 43 23 .i64 Try.underlying43 hi0 none 0 0 0 (by omega) (by omega) (by omega)
  by_cases h0 : n = 0
  · subst h0
    go_enter Try.func38, Try.ntmps38
    go_wp2
    go_ret
    exact ⟨_, rfl, Kd.R_nil _ _ _ _ _, Below.refl _ _⟩
  · have hpos : decide ((n : Int) < 0) = false := by simp
    have hgt : decide ((0 : Int) < (n : Int)) = true := by simp; omega
    have hgt' : 0 < n := by omega
    have hg2 : (n : Int) ≤ 140737488355328 := by omega
    go_enter Try.func38, Try.ntmps38
    have hn0 : (0 : Int) ≤ (n : Int) := by omega
    go_wp2_with (first | ((with_reducible refine gate_builtin (b := .append) (xs := #[.tmp 20, .tmp 21]) rfl ?_); at_builtin; (refine Kd.R_append_zeros Kd.string (w0 := w) w.heap.size rfl (.tmp 20) (.tmp 21) 43 3 23 (.string ⟨#[]⟩) 16 rfl Try.underlying43 Try.underlying3 info23 rfl (by decide) (by omega) (.slice none 0 0) ([] : List ByteArray) (⟨#[]⟩ : ByteArray) (n : Int) (fun _ => True) rfl rfl rfl ?aF ?aO hn0 ?aB ?aS ?aL ?_); (case aF => exact fun _ _ => trivial); (case aO => exact Kd.R_nil _ _ _ _ _); (case aB => exact Below.refl _ _); (case aS => exact Nat.le_refl _); (case aL => simp; omega); intro v1 w1 ho hb hg hat; clear hg hat; obtain ⟨A1, c1, rfl, hl1, hr1⟩ := Kd.R_reads ho; clear hr1; have hL : ((([] : List ByteArray) ++ List.replicate (n : Int).toNat (⟨#[]⟩ : ByteArray)).length) = n := (by simp); rw [hL] at ho hl1 ⊢; have ht0 := Kd.R_take (m := 0) ho (Nat.zero_le _); have HT := Aside0.mk ht0; have HBb := Aside0.mk hb; clear ho hb ht0 hL; have hcut1 := cut_to (P := Try.prog) 43 23 .i64 Try.underlying43 hi0 A1 n c1 0 (by omega) (by omega) hl1))
    go_ret
    exact ⟨_, rfl, by simpa using HT.out, HBb.out⟩

set_option maxHeartbeats 1600000 in
set_option maxRecDepth 100000 in
theorem idc_concat (b : Nat) (A0 A1 : Option Addr) (c0 c1 : Nat) (l0 l1 : List ByteArray) (w : World) (hb : w.heap[b]? = some (.cells #[.slice A0 l0.length c0, .slice A1 l1.length c1] 43 (0, 0)))
    (hr0 : Kd.C Kd.string w A0 l0.length l0) (hc0 : l0.length ≤ c0) (hr1 : Kd.C Kd.string w A1 l1.length l1) (hc1 : l1.length ≤ c1) (hn : (l0.length + l1.length) * 16 ≤ 140737488355328) :
    Calls Try.prog 32 #[.slice (some ⟨b, 0, none⟩) 2 2] w fun e w' => ∃ v : Value, e = .returned v ∧ Kd.R Kd.string 23 w' w.heap.size (fun _ => True) v (l0 ++ l1) ∧ Below w.heap.size w w' := by
  have hlt : b < w.heap.size := (Array.getElem?_eq_some_iff.1 hb).1
  have hx0 : w.cell? ⟨b, 0, none⟩ = some (.slice A0 l0.length c0) := by simp [World.cell?, hb]
  have hx1 : w.cell? ⟨b, 1, none⟩ = some (.slice A1 l1.length c1) := by simp [World.cell?, hb]
  have HR0 := Aside0.mk hr0; have HR1 := Aside0.mk hr1; have HB := Aside0.mk hb
  have HX0 := Aside0.mk hx0; have HX1 := Aside0.mk hx1
  clear hr0 hr1 hb hx0 hx1
  generalize hn0 : l0.length = n0 at *
  generalize hn1 : l1.length = n1 at *
  have HN0 := Aside0.mk hn0; have HN1 := Aside0.mk hn1
  clear hn0 hn1
  have hm0 : n0 + n1 ≤ 140737488355328 := by omega
  go_enter Try.func32, Try.ntmps32
  go_wp2
  go_loop [3, 5, 11] (fun s _ i => ∃ k : Nat, k ≤ 2 ∧ i = .int .i64 k ∧ s = .int .i64 ((if k = 0 then 0 else if k = 1 then n0 else n0 + n1 : Nat))) (fun _ _ i => 2 - (intOf i).toNat)
  case atStart => exact ⟨0, Nat.zero_le _, rfl, rfl⟩
  case round =>
    obtain ⟨k, hk, rfl, rfl⟩ := hrel
    rcases (show k = 0 ∨ k = 1 ∨ k = 2 by omega) with rfl | rfl | rfl
    · have hx := HX0.out
      go_wp2
      go_round
      case rel => exact ⟨1, by omega, by go_num, by go_num⟩
      case measure => simp [intOf]
    · have hx := HX1.out
      go_wp2
      go_round
      case rel => exact ⟨2, by omega, by go_num, by go_num⟩
      case measure => simp [intOf]
    · have hg := idc_grow (n0 + n1) w (by omega)
      go_wp2_with (first | (go_at_call 38; refine hg.mono ?_; rintro e w1 ⟨v1, rfl, ho1, hb1⟩; clear hg; have HO := Aside0.mk ho1; have HBL := Aside0.mk hb1; clear ho1 hb1))
      go_loopw [6, 8, 27] (fun v _ i wr => ∃ k : Nat, k ≤ 2 ∧ i = .int .i64 k ∧ Aside0 (Kd.R Kd.string 23 wr w.heap.size (fun _ => True) v (if k = 0 then [] else if k = 1 then l0 else l0 ++ l1)) ∧ Aside0 (Below w.heap.size w wr)) (fun _ _ i _ => 2 - (intOf i).toNat)
      case atStart => exact ⟨0, Nat.zero_le _, rfl, HO, HBL⟩
      case round =>
        clear HO HBL
        obtain ⟨k, hk, rfl, HO, HBL⟩ := hrel
        rcases (show k = 0 ∨ k = 1 ∨ k = 2 by omega) with rfl | rfl | rfl
        · have hx := (HBL.out.cell (p := ⟨b, 0, none⟩) hlt).trans HX0.out
          have HRR := Aside0.mk (Kd.C_below HR0.out HBL.out)
          go_wp2_with (first | ((with_reducible refine gate_builtin (b := .append) (xs := #[.tmp 31, .tmp 32]) rfl ?_); at_builtin; (refine Kd.R_append_rows Kd.string (w0 := w) w.heap.size rfl (.tmp 31) (.tmp 32) 43 23 (.string ⟨#[]⟩) 16 rfl Try.underlying43 info23 rfl (by decide) (by omega) u6 [] l0 A0 n0 c0 (fun _ => True) (fun _ => False) rfl rfl ?aO ?aR (fun _ _ h => h) (fun _ h => h.elim) ?aF ?aB ?aS ?aL ?_); (case aR => exact HRR.out); (case aB => exact HBL.out); (case aF => exact (fun _ _ => trivial)); (case aO => exact HO.out); (case aS => exact below_size HBL.out); (case aL => have := HN0.out; simp; omega); intro v7 w7 ho7 hb7 hg7 hat7; have HO7 := Aside0.mk ho7; have HB7 := Aside0.mk hb7; clear ho7 hb7 hg7 hat7 HO HBL))
          go_roundw
          case rel => exact ⟨1, by omega, by go_num, HO7, HB7⟩
          case measure => simp [intOf]
        · have hx := (HBL.out.cell (p := ⟨b, 1, none⟩) hlt).trans HX1.out
          have HRR := Aside0.mk (Kd.C_below HR1.out HBL.out)
          go_wp2_with (first | ((with_reducible refine gate_builtin (b := .append) (xs := #[.tmp 31, .tmp 32]) rfl ?_); at_builtin; (refine Kd.R_append_rows Kd.string (w0 := w) w.heap.size rfl (.tmp 31) (.tmp 32) 43 23 (.string ⟨#[]⟩) 16 rfl Try.underlying43 info23 rfl (by decide) (by omega) u6 l0 l1 A1 n1 c1 (fun _ => True) (fun _ => False) rfl rfl ?aO ?aR (fun _ _ h => h) (fun _ h => h.elim) ?aF ?aB ?aS ?aL ?_); (case aR => exact HRR.out); (case aB => exact HBL.out); (case aF => exact (fun _ _ => trivial)); (case aO => exact HO.out); (case aS => exact below_size HBL.out); (case aL => have := HN0.out; simp; omega); intro v7 w7 ho7 hb7 hg7 hat7; have HO7 := Aside0.mk ho7; have HB7 := Aside0.mk hb7; clear ho7 hb7 hg7 hat7 HO HBL))
          go_roundw
          case rel => exact ⟨2, by omega, by go_num, HO7, HB7⟩
          case measure => simp [intOf]
        · go_wp2
          go_ret
          exact ⟨_, rfl, HO.out, HBL.out⟩

theorem cmpReads (blk off size : Nat) (w : World) : CmpReads Try.prog 19 #[] Value.string cmpB blk off size w := by
  intro m os dk _ x y
  refine (id_Compare.calls x y (cmpB x y) _ rfl).mono ?_
  rintro e w' ⟨rfl, ⟨q, rfl⟩⟩
  exact ⟨rfl, q, rfl⟩
set_option maxHeartbeats 800000 in
theorem sort_own (w0 w : World) (base : Nat) (v : Value) (l : List ByteArray) (ok : Nat → Prop) (ho : Kd.R Kd.string 23 w base ok v l) (hb : Below base w0 w) (hbase : base ≤ w.heap.size) (hn : l.length ≤ 140737488355328) :
    Calls Try.prog 33 #[v, .func (.func 19) #[] #[]] w fun e w' => e = .returned (.tuple #[]) ∧ Kd.R Kd.string 23 w' base ok v (sortB l) ∧ Below base w0 w' := by
  by_cases hl : l = []
  · subst hl
    obtain ⟨A, c, rfl, hc, _⟩ := Kd.R_reads ho
    refine (AnyF.slices_SortFunc_none (P := Try.prog) (ρ := laySortId_ren) { laySortId with } A c (.func (.func 19) #[] #[]) w).mono ?_
    rintro e w' ⟨rfl, rfl⟩
    exact ⟨rfl, by simpa [sortB] using ho, hb⟩
  · obtain ⟨g, cap, cur, rfl, hg, hk, hh, h2, h3, h4, h5⟩ := R_scalar_open ho hl
    have eg : ∀ args w, (callFunc 19 args).run Try.prog w = .ok (.enter 19 args) w := enters_of Try.func19 (by kernel_rfl) rfl
    have hc := Any.slices_SortFunc_total laySortId Value.string (fun _ => rfl) cmpB swoB 19 #[] g 0 cap l.toArray w eg ((cmpReads g 0 l.toArray.size w).lays) (holds_of_cells hh h5) (Array.getElem?_eq_some_iff.1 hh).1 (by simp; omega) totB
    have hs : l.toArray.size = l.length := by simp
    rw [hs] at hc
    refine hc.mono ?_
    rintro e w' ⟨rfl, n, os, rfl⟩
    have hlen : (sortB l).length = l.length := by simp [sortB]
    refine ⟨rfl, ?_, below_put _ hb hg hbase⟩
    have := R_scalar_mk (h1 := fun _ => rfl) (enc := Value.string) (xs := sortB l) (w := Sort.grow (Sort.putRow Value.string (Sort.ahead w n) g 0 (sortB l).toArray) os) (ok := ok) hg hk (heap_put _ hh) (by rw [hlen]; exact h2) h3 (by rw [put_size, h4]) (by have := put_take (enc := Value.string) cur (sortB l) [] (by rw [hlen]; omega); simpa using this)
    rw [hlen] at this
    exact this

theorem eqlB : EqlAt Try.prog (layCompactId_ren.t 23) Value.string (fun x y => decide (x = y)) := by
  have h := EqlAt.string Try.prog (layCompactId_ren.t 23)
  have e : (fun x y : ByteArray => x.toList == y.toList) = fun x y => decide (x = y) := by
    funext x y
    rw [Lib.toList_data, Lib.toList_data]
    by_cases hx : x = y
    · subst hx; simp
    · have : ¬ x.data.toList = y.data.toList := fun h => hx (bytes_ext h)
      rw [decide_eq_false hx]; simpa using this
  rwa [e] at h
theorem neqB : NeqAt Try.prog (layCompactId_ren.t 23) Value.string (fun x y => decide (x = y)) := by
  have h := NeqAt.string Try.prog (layCompactId_ren.t 23)
  have e : (fun x y : ByteArray => x.toList == y.toList) = fun x y => decide (x = y) := by
    funext x y
    rw [Lib.toList_data, Lib.toList_data]
    by_cases hx : x = y
    · subst hx; simp
    · have : ¬ x.data.toList = y.data.toList := fun h => hx (bytes_ext h)
      rw [decide_eq_false hx]; simpa using this
  rwa [e] at h
theorem compact_own (w0 w : World) (base : Nat) (v : Value) (l : List ByteArray) (ok : Nat → Prop) (ho : Kd.R Kd.string 23 w base ok v l) (hb : Below base w0 w) (hbase : base ≤ w.heap.size) (hn : l.length ≤ 140737488355328) :
    Calls Try.prog 34 #[v] w fun e w' => ∃ v' : Value, e = .returned v' ∧ Kd.R Kd.string 23 w' base ok v' (Lib.compactUpTo l.toArray l.toArray.size) ∧ Below base w0 w' := by
  by_cases hl : l = []
  · subst hl
    obtain ⟨A, c, rfl, hc, _⟩ := Kd.R_reads ho
    have HO := Aside0.mk ho; have HB := Aside0.mk hb
    clear ho hb
    simp only [List.length_nil]
    go_enter Try.func34, Try.ntmps34
    go_wp2
    go_ret
    exact ⟨_, rfl, HO.out, HB.out⟩
  · obtain ⟨g, cap, cur, rfl, hg, hk, hh, h2, h3, h4, h5⟩ := R_scalar_open ho hl
    have hc := AnyE.slices_Compact layCompactId Value.string (fun _ => rfl) eqlB neqB (⟨#[]⟩ : ByteArray) (Try.zeroValue23) g 0 cap l.toArray w (holds_of_cells hh h5) (by simp; omega) (by simpa using h2)
    have hs : l.toArray.size = l.length := by simp
    rw [hs] at hc ⊢
    refine hc.mono ?_
    rintro e w' ⟨rfl, q, rfl⟩
    have hlen : (Lib.compactUpTo l.toArray l.length).length ≤ l.length := by
      unfold Lib.compactUpTo
      rw [List.length_map]
      exact Nat.le_trans (List.length_filter_le _ _) (by simp)
    generalize Lib.compactUpTo l.toArray l.length = m at hlen ⊢
    rw [show Sort.putRow Value.string (Sort.ahead w q) g 0 (m ++ List.replicate (l.length - m.length) (⟨#[]⟩ : ByteArray)).toArray = Sort.grow (Sort.putRow Value.string (Sort.ahead w q) g 0 (m ++ List.replicate (l.length - m.length) (⟨#[]⟩ : ByteArray)).toArray) #[] from (Sort.grow_empty _).symm]
    refine ⟨_, rfl, ?_, below_put _ hb hg hbase⟩
    exact R_scalar_mk hg hk (heap_put _ hh) (by omega) h3 (by rw [put_size, h4]) (put_take cur m _ (by omega))

def id_Union.f (l0 : List ByteArray) (l1 : List ByteArray) : Option (List ByteArray) := if l0.length + l1.length < 8796093022208 then some (unionB (l0 ++ l1)) else none
set_option maxHeartbeats 1600000 in
set_option maxRecDepth 100000 in
theorem id_Union.calls (A0 : Option Addr) (c0 : Nat) (l0 : List ByteArray) (A1 : Option Addr) (c1 : Nat) (l1 : List ByteArray) (r : List ByteArray) (w : World) (hr0 : Kd.C Kd.string w A0 l0.length l0) (hc0 : l0.length ≤ c0) (hr1 : Kd.C Kd.string w A1 l1.length l1) (hc1 : l1.length ≤ c1) (h : id_Union.f l0 l1 = some r) :
    Calls Try.prog 24 #[.slice A0 l0.length c0, .slice A1 l1.length c1] w fun e w' => ∃ v0_ : Value, e = .returned (v0_) ∧ Kd.R Kd.string 23 w' w.heap.size (fun _ => True) v0_ r ∧ Below w.heap.size w w' := by
  have hlim : l0.length + l1.length < 8796093022208 := by
    by_cases hx : l0.length + l1.length < 8796093022208
    · exact hx
    · rw [id_Union.f, if_neg hx] at h; cases h
  have hr : unionB (l0 ++ l1) = r := by rw [id_Union.f, if_pos hlim] at h; exact Option.some.inj h
  have HR := Aside0.mk hr
  clear hr h
  have hcon := fun (W : World) (hW : W = w.alloc (.cells #[.slice A0 l0.length c0, .slice A1 l1.length c1] 43)) => idc_concat w.heap.size A0 A1 c0 c1 l0 l1 W (by rw [hW]; simp [World.alloc, -World.alloc_eq]) (by rw [hW]; exact Kd.C_below hr0 (below_alloc (Below.refl _ _) _)) hc0 (by rw [hW]; exact Kd.C_below hr1 (below_alloc (Below.refl _ _) _)) hc1 (by omega)
  have HCON := Aside0.mk (hcon _ rfl)
  clear hcon hr0 hr1
  have HL := Aside0.mk hlim
  clear hlim
  go_enter Try.func24, Try.ntmps24
  go_wp2_with fail
  refine HCON.out.mono ?_
  rintro e w1 ⟨v1, rfl, ho1, hb1⟩
  have hsz : (w.alloc (.cells #[.slice A0 l0.length c0, .slice A1 l1.length c1] 43)).heap.size = w.heap.size + 1 := by simp
  have hbb : Below w.heap.size w w1 := below_step (below_alloc (Below.refl _ _) _) hb1
  have HO := Aside0.mk (Kd.R_lower ho1 (by rw [hsz]; omega : w.heap.size ≤ _))
  have HB := Aside0.mk hbb
  clear ho1 hb1 hbb hsz HCON
  go_wp2_with fail
  refine (sort_own w w1 w.heap.size v1 (l0 ++ l1) _ HO.out HB.out HB.out.size (by have := HL.out; simp; omega)).mono ?_
  rintro e w2 ⟨rfl, ho2, hb2⟩
  have HO2 := Aside0.mk ho2
  have HB2 := Aside0.mk hb2
  clear ho2 hb2 HO HB
  go_wp2_with fail
  refine (compact_own w w2 w.heap.size v1 (sortB (l0 ++ l1)) _ HO2.out HB2.out HB2.out.size (by have := HL.out; simp [sortB]; omega)).mono ?_
  rintro e w3 ⟨v3, rfl, ho3, hb3⟩
  have HO3 := Aside0.mk ho3
  have HB3 := Aside0.mk hb3
  clear ho3 hb3 HO2 HB2
  go_wp2_with fail
  go_ret
  exact ⟨_, rfl, HR.out ▸ HO3.out, HB3.out⟩

/-! ### id_Add: function 25 -/
def id_Add.f (l0 : List ByteArray) (a1 : ByteArray) : Option (List ByteArray) := (id_Union.f l0 (([a1] : List ByteArray))).bind fun t186 => (some t186)
set_option maxHeartbeats 8000000 in
set_option maxRecDepth 100000 in
theorem id_Add.calls (A0 : Option Addr) (c0 : Nat) (l0 : List ByteArray) (a1 : ByteArray) (r : List ByteArray) (w : World) (hr0 : Kd.C Kd.string w A0 l0.length l0) (hc0 : l0.length ≤ c0) (h : id_Add.f l0 a1 = some r) :
    Calls Try.prog 25 #[.slice A0 l0.length c0, .string a1] w fun e w' => ∃ v0_ : Value, e = .returned (v0_) ∧ Kd.R Kd.string 23 w' w.heap.size (fun _ => True) v0_ r ∧ Below w.heap.size w w' := by
  have HR0 := Aside0.mk hr0
  have HC0 := Aside0.mk hc0
  clear hr0 hc0
  have HB := Aside0.mk (Below.refl w.heap.size w)
  have H : ((id_Union.f l0 (([a1] : List ByteArray))).bind fun t186 => (some t186)) = some r := h
  clear h
  obtain ⟨y183, hy183⟩ : ∃ y_ : List ByteArray, y_ = (([a1] : List ByteArray)) := ⟨_, rfl⟩
  replace H : ((id_Union.f l0 y183).bind fun t186 => (some t186)) = some r := by first | (rw [hy183]; with_reducible exact H) | (have H2_ := (Option.bind_some _ _).symm.trans H; rw [hy183]; with_reducible exact H2_) | (have H2_ := (Option.bind_some _ _).symm.trans H; with_reducible exact H2_) | with_reducible exact H | (rw [hy183]; exact H) | exact H
  have Ny183 := Aside0.mk hy183
  clear hy183
  replace H := Option.bind_eq_some_iff.mp H
  obtain ⟨t186, A30, H⟩ := H
  replace H : (some t186) = some r := H
  have A3 := Aside0.mk A30
  clear A30
  obtain rfl := Option.some.inj H
  go_enter Try.func25, Try.ntmps25
  go_wp2_with (first | ((with_reducible refine gate_dst (N := 7) rfl ?_); refine Kd.R_lit Kd.string _ 23 ?hg (N := 7) ?hd (xs := ([a1] : List ByteArray)) (inner := [.string a1]) (ok := fun _ => True) (okp := fun _ => True) ?hr ?hp (fun _ hk => hk) trivial (Below.refl _ _) (Nat.le_refl _) (by simp) ?_; (case hd => rfl); (case hg => rfl); (case hr => first | (go_simp; done) | (go_simp; rfl)); (case hp => exact (Reps.one (show Kd.M Kd.string _ _ _ a1 [.string a1] from rfl) (Reps.none _ _))); intro v184 w4 ho5 hb hg_ hnew_; clear hg_ hnew_; (first | rw [← Ny183.out] at ho5 | (simp only [Int.reduceToNat] at ho5; rw [← Ny183.out] at ho5)); have n0_ := Aside0.mk (Kd.R_lower ho5 (below_size (by repeat (first | (with_reducible first | exact HB.out | apply below_alloc | apply pw_below_drewN | apply below_drew1) | exact HB.out)))); have n1_ := Aside0.mk (below_step (by repeat (first | (with_reducible first | exact HB.out | apply below_alloc | apply pw_below_drewN | apply below_drew1) | exact HB.out)) hb); clear HB; have HO185 := n0_; have HB := n1_; clear n0_ n1_; clear hb ho5; obtain ⟨Ao6, co6, eo6⟩ := Kd.R_slice HO185.out; subst eo6) | ((with_reducible refine gate_callee (f := 24) rfl ?_); refine goesL_ (some 8) rfl rfl Try.func24 (by kernel_rfl) rfl #[.slice A0 l0.length c0, .slice Ao6 y183.length co6] rfl (by (try simp only [List.map_toArray, List.map_cons, List.map_nil]); first | done | rfl | (simp only [List.length_drop, List.length_take]; rfl)) ?_; (with_reducible refine (id_Union.calls _ _ l0 _ _ y183 t186 _ ?side1 ?side2 ?side3 ?side4 A3.out).mono ?_); (case side1 => repeat (first | exact (Kd.C_below HR0.out HB.out) | (with_reducible refine Kd.C_alloc ?_ _) | (with_reducible refine Kd.C_drewN ?_ _) | (with_reducible refine Kd.C_drew ?_))); (case side2 => exact HC0.out); (case side3 => repeat (first | exact (Kd.R_reads' HO185.out).2.2 | (with_reducible refine Kd.C_alloc ?_ _) | (with_reducible refine Kd.C_drewN ?_ _) | (with_reducible refine Kd.C_drew ?_))); (case side4 => exact (Kd.R_reads' HO185.out).2.1); rintro e w7 ⟨v187, rfl, ho0, hb⟩; refine ⟨_, rfl, ?_⟩; have n0_ := Aside0.mk (Kd.R_elder' (by (with_reducible repeat (first | apply Kd.R_alloc | apply Kd.R_drewN | apply Kd.R_drew)); exact HO185.out) (Kd.R_base ho0) hb); have n1_ := Aside0.mk (Kd.R_lower (Kd.R_new' ho0 (Kd.R_lt (by (with_reducible repeat (first | apply Kd.R_alloc | apply Kd.R_drewN | apply Kd.R_drew)); exact HO185.out))) (below_size (by repeat (first | (with_reducible first | exact HB.out | apply below_alloc | apply pw_below_drewN | apply below_drew1) | exact HB.out)))); have n2_ := Aside0.mk (below_step (by repeat (first | (with_reducible first | exact HB.out | apply below_alloc | apply pw_below_drewN | apply below_drew1) | exact HB.out)) hb); clear HO185; clear HB; have HO185 := n0_; have HO188 := n1_; have HB := n2_; clear n0_ n1_ n2_; (try clear hb); (try clear hb2); (try clear hk); (try clear hi); (try clear ho0)))
  go_ret
  exact ⟨_, by first | rfl | (simp [errW_none, errW_some] <;> rfl) | (simp [*, errW_none, errW_some] <;> rfl), by (with_reducible repeat (first | apply Kd.R_alloc | apply Kd.R_drewN | apply Kd.R_drew)); exact Kd.R_mono HO188.out (fun _ hk => trivial), by repeat (first | (with_reducible first | exact HB.out | apply below_alloc | apply pw_below_drewN | apply below_drew1) | exact HB.out)⟩

end Go.Proofs.Ytbdoablehdpdoaa.P
