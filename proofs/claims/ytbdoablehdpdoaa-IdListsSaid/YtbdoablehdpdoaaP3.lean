-- Written by a program of this session (wip/pp.py over the kit's printer, with our own texts put in).
import Derived.Test.YtbdoablehdpdoaaP0
import Derived.Test.YtbdoablehdpdoaaP1
import Derived.Test.YtbdoablehdpdoaaP2
namespace Go.Proofs.Ytbdoablehdpdoaa.P
open Go.RowKit Go.Proofs.YtbdoablehdpdoaaW.PrintWords Go.Proofs.YtbdoablehdpdoaaW.PrintLast Go.Proofs.YtbdoablehdpdoaaW.PrintMore
attribute [local go_sem] max2_int min2_int max_two min_two max_three min_three max_four min_four   -- for this text's walks alone
set_option linter.unusedVariables false
set_option linter.unusedSimpArgs false

/-! ### id_Parse: function 17 -/
def id_Parse.f (a0 : ByteArray) : Option (ByteArray × Int) := (id_Right.f a0).bind fun t139 => (if t139 = true then (some (a0, 0)) else (some ((⟨#[]⟩ : ByteArray), 20)))
set_option maxHeartbeats 8000000 in
set_option maxRecDepth 100000 in
theorem id_Parse.calls (a0 : ByteArray) (r1 : ByteArray) (r2 : Int) (w : World) (h : id_Parse.f a0 = some (r1, r2)) :
    Calls Try.prog 17 #[.string a0] w fun e w' => e = .returned (.tuple #[.string r1, .int .i64 r2]) ∧ Below w.heap.size w w' := by
  have HB := Aside0.mk (Below.refl w.heap.size w)
  have H : ((id_Right.f a0).bind fun t139 => (if t139 = true then (some (a0, 0)) else (some ((⟨#[]⟩ : ByteArray), 20)))) = some (r1, r2) := h
  clear h
  replace H := Option.bind_eq_some_iff.mp H
  obtain ⟨t139, A20, H⟩ := H
  replace H : (if t139 = true then (some (a0, 0)) else (some ((⟨#[]⟩ : ByteArray), 20))) = some (r1, r2) := H
  have A2 := Aside0.mk A20
  clear A20
  by_cases c3 : t139 = true
  · subst c3
    have H1 : (some (a0, 0)) = some (r1, r2) := by rw [if_pos rfl] at H; exact H
    clear H
    have H := H1
    clear H1
    simp only [Option.some.injEq, Prod.mk.injEq] at H
    obtain ⟨rfl, rfl⟩ := H
    go_enter Try.func17, Try.ntmps17
    go_wp2_with (first | ((with_reducible refine gate_callee (f := 18) rfl ?_); refine goesL_ (some 5) rfl rfl Try.func18 (by kernel_rfl) rfl #[.string a0] rfl (by (try simp only [List.map_toArray, List.map_cons, List.map_nil]); first | done | rfl | (simp only [List.length_drop, List.length_take]; rfl)) ?_; (with_reducible refine (id_Right.calls a0 true _ A2.out).mono ?_); rintro e w4 ⟨rfl, hb⟩; refine ⟨_, rfl, ?_⟩; have n0_ := Aside0.mk (below_step (by repeat (first | (with_reducible first | exact HB.out | apply below_alloc | apply pw_below_drewN | apply below_drew1) | exact HB.out)) hb); clear HB; have HB := n0_; clear n0_; (try clear hb); (try clear hb2); (try clear hk); (try clear hi)))
    go_ret2
    exact ⟨by first | rfl | (simp [errW_none, errW_some] <;> rfl) | (simp [*, errW_none, errW_some] <;> rfl), by repeat (first | (with_reducible first | exact HB.out | apply below_alloc | apply pw_below_drewN | apply below_drew1) | exact HB.out)⟩
  · replace c3 := Bool.eq_false_iff.mpr c3
    subst c3
    have H1 : (some ((⟨#[]⟩ : ByteArray), 20)) = some (r1, r2) := by rw [if_neg (show ¬ (false = true) by decide)] at H; exact H
    clear H
    have H := H1
    clear H1
    simp only [Option.some.injEq, Prod.mk.injEq] at H
    obtain ⟨rfl, rfl⟩ := H
    go_enter Try.func17, Try.ntmps17
    go_wp2_with (first | ((with_reducible refine gate_callee (f := 18) rfl ?_); refine goesL_ (some 5) rfl rfl Try.func18 (by kernel_rfl) rfl #[.string a0] rfl (by (try simp only [List.map_toArray, List.map_cons, List.map_nil]); first | done | rfl | (simp only [List.length_drop, List.length_take]; rfl)) ?_; (with_reducible refine (id_Right.calls a0 false _ A2.out).mono ?_); rintro e w5 ⟨rfl, hb⟩; refine ⟨_, rfl, ?_⟩; have n0_ := Aside0.mk (below_step (by repeat (first | (with_reducible first | exact HB.out | apply below_alloc | apply pw_below_drewN | apply below_drew1) | exact HB.out)) hb); clear HB; have HB := n0_; clear n0_; (try clear hb); (try clear hb2); (try clear hk); (try clear hi)))
    go_ret2
    exact ⟨by first | rfl | (simp [errW_none, errW_some] <;> rfl) | (simp [*, errW_none, errW_some] <;> rfl), by repeat (first | (with_reducible first | exact HB.out | apply below_alloc | apply pw_below_drewN | apply below_drew1) | exact HB.out)⟩

/-! ### cenotaphlaw01_IdNames: function 5 -/
def cenotaphlaw01_IdNames.j0 : Nat → ByteArray → Bool → ByteArray → ByteArray → Int → Bool → Option (Bool)
  | 0, _, _, _, _, _, _ => none
  | k + 1, x0, x3, x4, x6, x7, x58 => if x58 = true then (none) else (if x3 = true then (if (x0.size : Int) = 1 then (if x4.toList = x0.toList then (if x7 = 14 then (if x6.toList = ([] : List UInt8) then ((id_Depth.f x4).bind fun t148 => (some (t148 == 1))) else (none)) else (none)) else (none)) else (if x4.toList = x0.toList then (if x7 = 0 then (if 0 ≤ (wrap64 ((x0.size : Int) - 1)) then (if (wrap64 ((x0.size : Int) - 1)) ≤ (x0.size : Int) then (if x6.toList = (x0.extract 0 ((wrap64 ((x0.size : Int) - 1)) : Int).toNat).toList then ((id_Depth.f x4).bind fun t149 => (some (t149 == (x0.size : Int)))) else (none)) else (none)) else (none)) else (none)) else (none))) else (some true))
def cenotaphlaw01_IdNames.f (k : Nat) (a0 : ByteArray) : Option (Bool) := (cenotaphref01_Right.f k a0).bind fun t140 => ((id_Parse.f a0).bind fun bt141 => ((id_Parent.f a0).bind fun bt143 => ((cenotaphlaw01_told.f k).bind fun t145 => (if t145 = true then ((id_Right.f a0).bind fun t146 => (if (t146 != t140) = true then (cenotaphlaw01_IdNames.j0 k a0 t140 bt141.1 bt143.1 bt143.2 true) else (if (t140 != (bt141.2 == 0)) = true then (cenotaphlaw01_IdNames.j0 k a0 t140 bt141.1 bt143.1 bt143.2 true) else (if t140 = true then (cenotaphlaw01_IdNames.j0 k a0 t140 bt141.1 bt143.1 bt143.2 false) else (if bt141.2 = 20 then (if bt141.1.toList = ([] : List UInt8) then (if bt143.2 = 4 then (if bt143.1.toList = ([] : List UInt8) then ((id_Depth.f a0).bind fun t147 => (cenotaphlaw01_IdNames.j0 k a0 t140 bt141.1 bt143.1 bt143.2 (t147 != 0))) else (cenotaphlaw01_IdNames.j0 k a0 t140 bt141.1 bt143.1 bt143.2 true)) else (cenotaphlaw01_IdNames.j0 k a0 t140 bt141.1 bt143.1 bt143.2 true)) else (cenotaphlaw01_IdNames.j0 k a0 t140 bt141.1 bt143.1 bt143.2 true)) else (cenotaphlaw01_IdNames.j0 k a0 t140 bt141.1 bt143.1 bt143.2 true)))))) else (cenotaphlaw01_IdNames.j0 k a0 t140 bt141.1 bt143.1 bt143.2 true)))))
theorem cenotaphlaw01_IdNames.mono_l : ∀ k, (∀ y0 y1 y2 y3 y4 y5, LeO (cenotaphlaw01_IdNames.j0 k y0 y1 y2 y3 y4 y5) (cenotaphlaw01_IdNames.j0 (k + 1) y0 y1 y2 y3 y4 y5))
  | 0 => fun _ _ _ _ _ _ r h => by simp [cenotaphlaw01_IdNames.j0] at h
  | k + 1 => by
    have ih0 := cenotaphlaw01_IdNames.mono_l k
    · intro y0 y1 y2 y3 y4 y5
      unfold cenotaphlaw01_IdNames.j0
      repeat' first
      | (with_reducible exact ih0 _ _ _ _ _ _)
      | (with_reducible exact cenotaphlaw01_told.mono _)
      | (with_reducible exact cenotaphref01_Right.mono _ _)
      | (with_reducible exact LeO.refl _)
      | (with_reducible exact LeO.none _)
      | (with_reducible refine LeO.ite ?_ ?_)
      | (with_reducible refine LeO.bind ?_ (fun _ => ?_))
      | exact ih0 _ _ _ _ _ _
      | exact cenotaphlaw01_told.mono _
      | exact cenotaphref01_Right.mono _ _
      | exact LeO.none _
      | refine LeO.ite ?_ ?_
      | refine LeO.bind ?_ (fun _ => ?_)
theorem cenotaphlaw01_IdNames.mono : ∀ a0 k, LeO (cenotaphlaw01_IdNames.f k a0) (cenotaphlaw01_IdNames.f (k + 1) a0) := by
  intro a0 k
  have ih0 := cenotaphlaw01_IdNames.mono_l k
  unfold cenotaphlaw01_IdNames.f
  repeat' first
      | (with_reducible exact ih0 _ _ _ _ _ _)
      | (with_reducible exact cenotaphlaw01_told.mono _)
      | (with_reducible exact cenotaphref01_Right.mono _ _)
      | (with_reducible exact LeO.refl _)
      | (with_reducible exact LeO.none _)
      | (with_reducible refine LeO.ite ?_ ?_)
      | (with_reducible refine LeO.bind ?_ (fun _ => ?_))
      | exact ih0 _ _ _ _ _ _
      | exact cenotaphlaw01_told.mono _
      | exact cenotaphref01_Right.mono _ _
      | exact LeO.none _
      | refine LeO.ite ?_ ?_
      | refine LeO.bind ?_ (fun _ => ?_)
set_option maxHeartbeats 8000000 in
set_option maxRecDepth 100000 in
theorem cenotaphlaw01_IdNames.calls (k : Nat) (a0 : ByteArray) (r : Bool) (w : World) (h : cenotaphlaw01_IdNames.f k a0 = some r) :
    Calls Try.prog 5 #[.string a0] w fun e w' => e = .returned (.bool r) ∧ Below w.heap.size w w' := by
  have HB := Aside0.mk (Below.refl w.heap.size w)
  have H : ((cenotaphref01_Right.f k a0).bind fun t140 => ((id_Parse.f a0).bind fun bt141 => ((id_Parent.f a0).bind fun bt143 => ((cenotaphlaw01_told.f k).bind fun t145 => (if t145 = true then ((id_Right.f a0).bind fun t146 => (if (t146 != t140) = true then (cenotaphlaw01_IdNames.j0 k a0 t140 bt141.1 bt143.1 bt143.2 true) else (if (t140 != (bt141.2 == 0)) = true then (cenotaphlaw01_IdNames.j0 k a0 t140 bt141.1 bt143.1 bt143.2 true) else (if t140 = true then (cenotaphlaw01_IdNames.j0 k a0 t140 bt141.1 bt143.1 bt143.2 false) else (if bt141.2 = 20 then (if bt141.1.toList = ([] : List UInt8) then (if bt143.2 = 4 then (if bt143.1.toList = ([] : List UInt8) then ((id_Depth.f a0).bind fun t147 => (cenotaphlaw01_IdNames.j0 k a0 t140 bt141.1 bt143.1 bt143.2 (t147 != 0))) else (cenotaphlaw01_IdNames.j0 k a0 t140 bt141.1 bt143.1 bt143.2 true)) else (cenotaphlaw01_IdNames.j0 k a0 t140 bt141.1 bt143.1 bt143.2 true)) else (cenotaphlaw01_IdNames.j0 k a0 t140 bt141.1 bt143.1 bt143.2 true)) else (cenotaphlaw01_IdNames.j0 k a0 t140 bt141.1 bt143.1 bt143.2 true)))))) else (cenotaphlaw01_IdNames.j0 k a0 t140 bt141.1 bt143.1 bt143.2 true)))))) = some r := h
  clear h
  replace H := Option.bind_eq_some_iff.mp H
  obtain ⟨t140, A20, H⟩ := H
  replace H : ((id_Parse.f a0).bind fun bt141 => ((id_Parent.f a0).bind fun bt143 => ((cenotaphlaw01_told.f k).bind fun t145 => (if t145 = true then ((id_Right.f a0).bind fun t146 => (if (t146 != t140) = true then (cenotaphlaw01_IdNames.j0 k a0 t140 bt141.1 bt143.1 bt143.2 true) else (if (t140 != (bt141.2 == 0)) = true then (cenotaphlaw01_IdNames.j0 k a0 t140 bt141.1 bt143.1 bt143.2 true) else (if t140 = true then (cenotaphlaw01_IdNames.j0 k a0 t140 bt141.1 bt143.1 bt143.2 false) else (if bt141.2 = 20 then (if bt141.1.toList = ([] : List UInt8) then (if bt143.2 = 4 then (if bt143.1.toList = ([] : List UInt8) then ((id_Depth.f a0).bind fun t147 => (cenotaphlaw01_IdNames.j0 k a0 t140 bt141.1 bt143.1 bt143.2 (t147 != 0))) else (cenotaphlaw01_IdNames.j0 k a0 t140 bt141.1 bt143.1 bt143.2 true)) else (cenotaphlaw01_IdNames.j0 k a0 t140 bt141.1 bt143.1 bt143.2 true)) else (cenotaphlaw01_IdNames.j0 k a0 t140 bt141.1 bt143.1 bt143.2 true)) else (cenotaphlaw01_IdNames.j0 k a0 t140 bt141.1 bt143.1 bt143.2 true)))))) else (cenotaphlaw01_IdNames.j0 k a0 t140 bt141.1 bt143.1 bt143.2 true))))) = some r := H
  have A2 := Aside0.mk A20
  clear A20
  replace H := Option.bind_eq_some_iff.mp H
  obtain ⟨⟨t141, t142⟩, A30, H⟩ := H
  replace H : ((id_Parent.f a0).bind fun bt143 => ((cenotaphlaw01_told.f k).bind fun t145 => (if t145 = true then ((id_Right.f a0).bind fun t146 => (if (t146 != t140) = true then (cenotaphlaw01_IdNames.j0 k a0 t140 t141 bt143.1 bt143.2 true) else (if (t140 != (t142 == 0)) = true then (cenotaphlaw01_IdNames.j0 k a0 t140 t141 bt143.1 bt143.2 true) else (if t140 = true then (cenotaphlaw01_IdNames.j0 k a0 t140 t141 bt143.1 bt143.2 false) else (if t142 = 20 then (if t141.toList = ([] : List UInt8) then (if bt143.2 = 4 then (if bt143.1.toList = ([] : List UInt8) then ((id_Depth.f a0).bind fun t147 => (cenotaphlaw01_IdNames.j0 k a0 t140 t141 bt143.1 bt143.2 (t147 != 0))) else (cenotaphlaw01_IdNames.j0 k a0 t140 t141 bt143.1 bt143.2 true)) else (cenotaphlaw01_IdNames.j0 k a0 t140 t141 bt143.1 bt143.2 true)) else (cenotaphlaw01_IdNames.j0 k a0 t140 t141 bt143.1 bt143.2 true)) else (cenotaphlaw01_IdNames.j0 k a0 t140 t141 bt143.1 bt143.2 true)))))) else (cenotaphlaw01_IdNames.j0 k a0 t140 t141 bt143.1 bt143.2 true)))) = some r := H
  have A3 := Aside0.mk A30
  clear A30
  replace H := Option.bind_eq_some_iff.mp H
  obtain ⟨⟨t143, t144⟩, A40, H⟩ := H
  replace H : ((cenotaphlaw01_told.f k).bind fun t145 => (if t145 = true then ((id_Right.f a0).bind fun t146 => (if (t146 != t140) = true then (cenotaphlaw01_IdNames.j0 k a0 t140 t141 t143 t144 true) else (if (t140 != (t142 == 0)) = true then (cenotaphlaw01_IdNames.j0 k a0 t140 t141 t143 t144 true) else (if t140 = true then (cenotaphlaw01_IdNames.j0 k a0 t140 t141 t143 t144 false) else (if t142 = 20 then (if t141.toList = ([] : List UInt8) then (if t144 = 4 then (if t143.toList = ([] : List UInt8) then ((id_Depth.f a0).bind fun t147 => (cenotaphlaw01_IdNames.j0 k a0 t140 t141 t143 t144 (t147 != 0))) else (cenotaphlaw01_IdNames.j0 k a0 t140 t141 t143 t144 true)) else (cenotaphlaw01_IdNames.j0 k a0 t140 t141 t143 t144 true)) else (cenotaphlaw01_IdNames.j0 k a0 t140 t141 t143 t144 true)) else (cenotaphlaw01_IdNames.j0 k a0 t140 t141 t143 t144 true)))))) else (cenotaphlaw01_IdNames.j0 k a0 t140 t141 t143 t144 true))) = some r := H
  have A4 := Aside0.mk A40
  clear A40
  have HC5 := Aside0.mk H
  clear H
  go_enter Try.func5, Try.ntmps5
  go_upto_region 4 with (first | ((with_reducible refine gate_callee (f := 16) rfl ?_); refine goesL_ (some 9) rfl rfl Try.func16 (by kernel_rfl) rfl #[.string a0] rfl (by (try simp only [List.map_toArray, List.map_cons, List.map_nil]); first | done | rfl | (simp only [List.length_drop, List.length_take]; rfl)) ?_; (with_reducible refine (cenotaphref01_Right.calls k a0 t140 _ A2.out).mono ?_); rintro e w' ⟨rfl, ⟨nd, rfl⟩⟩; refine ⟨_, rfl, ?_⟩) | ((with_reducible refine gate_callee (f := 17) rfl ?_); refine goesL_ (some 12) rfl rfl Try.func17 (by kernel_rfl) rfl #[.string a0] rfl (by (try simp only [List.map_toArray, List.map_cons, List.map_nil]); first | done | rfl | (simp only [List.length_drop, List.length_take]; rfl)) ?_; (with_reducible refine (id_Parse.calls a0 t141 t142 _ A3.out).mono ?_); rintro e w6 ⟨rfl, hb⟩; refine ⟨_, rfl, ?_⟩; have n0_ := Aside0.mk (below_step (by repeat (first | (with_reducible first | exact HB.out | apply below_alloc | apply pw_below_drewN | apply below_drew1) | exact HB.out)) hb); clear HB; have HB := n0_; clear n0_; (try clear hb); (try clear hb2); (try clear hk); (try clear hi)) | ((with_reducible refine gate_callee (f := 12) rfl ?_); refine goesL_ (some 17) rfl rfl Try.func12 (by kernel_rfl) rfl #[.string a0] rfl (by (try simp only [List.map_toArray, List.map_cons, List.map_nil]); first | done | rfl | (simp only [List.length_drop, List.length_take]; rfl)) ?_; (with_reducible refine (id_Parent.calls a0 t143 t144 _ A4.out).mono ?_); rintro e w7 ⟨rfl, hb⟩; refine ⟨_, rfl, ?_⟩; have n0_ := Aside0.mk (below_step (by repeat (first | (with_reducible first | exact HB.out | apply below_alloc | apply pw_below_drewN | apply below_drew1) | exact HB.out)) hb); clear HB; have HB := n0_; clear n0_; (try clear hb); (try clear hb2); (try clear hk); (try clear hi)))
  (try simp only [Act.put, List.setIfInBounds_toArray, List.set_cons_zero, List.set_cons_succ])
  go_cut [58] (fun v58 wc => ∃ (kq : Nat) (x58_4 : Bool), v58 = .bool x58_4 ∧ Aside0 (cenotaphlaw01_IdNames.j0 kq a0 t140 t141 t143 t144 x58_4 = some r) ∧ Aside0 (kq ≤ k) ∧ Aside0 (Below w.heap.size w wc))
  case first =>
    have H := HC5.out
    clear HC5
    replace H := Option.bind_eq_some_iff.mp H
    obtain ⟨t145, A80, H⟩ := H
    replace H : (if t145 = true then ((id_Right.f a0).bind fun t146 => (if (t146 != t140) = true then (cenotaphlaw01_IdNames.j0 k a0 t140 t141 t143 t144 true) else (if (t140 != (t142 == 0)) = true then (cenotaphlaw01_IdNames.j0 k a0 t140 t141 t143 t144 true) else (if t140 = true then (cenotaphlaw01_IdNames.j0 k a0 t140 t141 t143 t144 false) else (if t142 = 20 then (if t141.toList = ([] : List UInt8) then (if t144 = 4 then (if t143.toList = ([] : List UInt8) then ((id_Depth.f a0).bind fun t147 => (cenotaphlaw01_IdNames.j0 k a0 t140 t141 t143 t144 (t147 != 0))) else (cenotaphlaw01_IdNames.j0 k a0 t140 t141 t143 t144 true)) else (cenotaphlaw01_IdNames.j0 k a0 t140 t141 t143 t144 true)) else (cenotaphlaw01_IdNames.j0 k a0 t140 t141 t143 t144 true)) else (cenotaphlaw01_IdNames.j0 k a0 t140 t141 t143 t144 true)))))) else (cenotaphlaw01_IdNames.j0 k a0 t140 t141 t143 t144 true)) = some r := H
    have A8 := Aside0.mk A80
    clear A80
    by_cases c9 : t145 = true
    · subst c9
      have H1 : ((id_Right.f a0).bind fun t146 => (if (t146 != t140) = true then (cenotaphlaw01_IdNames.j0 k a0 t140 t141 t143 t144 true) else (if (t140 != (t142 == 0)) = true then (cenotaphlaw01_IdNames.j0 k a0 t140 t141 t143 t144 true) else (if t140 = true then (cenotaphlaw01_IdNames.j0 k a0 t140 t141 t143 t144 false) else (if t142 = 20 then (if t141.toList = ([] : List UInt8) then (if t144 = 4 then (if t143.toList = ([] : List UInt8) then ((id_Depth.f a0).bind fun t147 => (cenotaphlaw01_IdNames.j0 k a0 t140 t141 t143 t144 (t147 != 0))) else (cenotaphlaw01_IdNames.j0 k a0 t140 t141 t143 t144 true)) else (cenotaphlaw01_IdNames.j0 k a0 t140 t141 t143 t144 true)) else (cenotaphlaw01_IdNames.j0 k a0 t140 t141 t143 t144 true)) else (cenotaphlaw01_IdNames.j0 k a0 t140 t141 t143 t144 true)))))) = some r := by rw [if_pos rfl] at H; exact H
      clear H
      have H := H1
      clear H1
      replace H := Option.bind_eq_some_iff.mp H
      obtain ⟨t146, A100, H⟩ := H
      replace H : (if (t146 != t140) = true then (cenotaphlaw01_IdNames.j0 k a0 t140 t141 t143 t144 true) else (if (t140 != (t142 == 0)) = true then (cenotaphlaw01_IdNames.j0 k a0 t140 t141 t143 t144 true) else (if t140 = true then (cenotaphlaw01_IdNames.j0 k a0 t140 t141 t143 t144 false) else (if t142 = 20 then (if t141.toList = ([] : List UInt8) then (if t144 = 4 then (if t143.toList = ([] : List UInt8) then ((id_Depth.f a0).bind fun t147 => (cenotaphlaw01_IdNames.j0 k a0 t140 t141 t143 t144 (t147 != 0))) else (cenotaphlaw01_IdNames.j0 k a0 t140 t141 t143 t144 true)) else (cenotaphlaw01_IdNames.j0 k a0 t140 t141 t143 t144 true)) else (cenotaphlaw01_IdNames.j0 k a0 t140 t141 t143 t144 true)) else (cenotaphlaw01_IdNames.j0 k a0 t140 t141 t143 t144 true))))) = some r := H
      have A10 := Aside0.mk A100
      clear A100
      by_cases c11 : (t146 != t140) = true
      · rw [if_pos c11] at H
        have c11b0 : (t146 != t140) = true := c11
        (try (have c11b1 : decide (t146 = t140) = false := by simpa using c11))
        (try (have c11b2 : (t146 == t140) = false := by simpa using c11))
        (try (have c11b3 : ¬ (t146 = t140) := by simpa using c11))
        clear c11
        (first | rw [c11b0] | (simp only [i64_w, i32_w]; rw [c11b0]) | skip)
        have H' := Aside0.mk H
        clear H
        go_wp2_with (first | ((with_reducible refine gate_callee (f := 11) rfl ?_); refine goesL_ (some 20) rfl rfl Try.func11 (by kernel_rfl) rfl #[] rfl (by (try simp only [List.map_toArray, List.map_cons, List.map_nil]); first | done | rfl | (simp only [List.length_drop, List.length_take]; rfl)) ?_; (with_reducible refine (cenotaphlaw01_told.calls k  true _ A8.out).mono ?_); rintro e w12 ⟨rfl, hb⟩; refine ⟨_, rfl, ?_⟩; have n0_ := Aside0.mk (below_step (by repeat (first | (with_reducible first | exact HB.out | apply below_alloc | apply pw_below_drewN | apply below_drew1) | exact HB.out)) hb); clear HB; have HB := n0_; clear n0_; (try clear hb); (try clear hb2); (try clear hk); (try clear hi)) | (go_at_call 18; (with_reducible refine (id_Right.calls a0 t146 _ A10.out).mono ?_); rintro e w13 ⟨rfl, hb⟩; have n0_ := Aside0.mk (below_step (by repeat (first | (with_reducible first | exact HB.out | apply below_alloc | apply pw_below_drewN | apply below_drew1) | exact HB.out)) hb); clear HB; have HB := n0_; clear n0_; (try clear hb); (try clear hb2); (try clear hk); (try clear hi)))
        go_meet
        case rel => exact ⟨_, (true), (by first | rfl | (simp; done) | (simp [*]; done)), H', ⟨by first | omega | exact Nat.le_refl _⟩, ⟨by repeat (first | (with_reducible first | exact HB.out | apply below_alloc | apply pw_below_drewN | apply below_drew1) | exact HB.out)⟩⟩
      · rw [if_neg c11] at H
        have c11b0 : (t146 != t140) = false := by simpa using c11
        (try (have c11b1 : decide (t146 = t140) = true := by simpa using c11))
        (try (have c11b2 : (t146 == t140) = true := by simpa using c11))
        clear c11
        (first | rw [c11b0] | (simp only [i64_w, i32_w]; rw [c11b0]) | skip)
        by_cases c14 : (t140 != (t142 == 0)) = true
        · rw [if_pos c14] at H
          have c14b0 : (t140 != (t142 == 0)) = true := c14
          (try (have c14b1 : decide (t140 = (t142 == 0)) = false := by simpa using c14))
          (try (have c14b2 : (t140 == (t142 == 0)) = false := by simpa using c14))
          (try (have c14b3 : ¬ (t140 = (t142 == 0)) := by simpa using c14))
          clear c14
          have H' := Aside0.mk H
          clear H
          go_wp2_with (first | ((with_reducible refine gate_callee (f := 11) rfl ?_); refine goesL_ (some 20) rfl rfl Try.func11 (by kernel_rfl) rfl #[] rfl (by (try simp only [List.map_toArray, List.map_cons, List.map_nil]); first | done | rfl | (simp only [List.length_drop, List.length_take]; rfl)) ?_; (with_reducible refine (cenotaphlaw01_told.calls k  true _ A8.out).mono ?_); rintro e w15 ⟨rfl, hb⟩; refine ⟨_, rfl, ?_⟩; have n0_ := Aside0.mk (below_step (by repeat (first | (with_reducible first | exact HB.out | apply below_alloc | apply pw_below_drewN | apply below_drew1) | exact HB.out)) hb); clear HB; have HB := n0_; clear n0_; (try clear hb); (try clear hb2); (try clear hk); (try clear hi)) | (go_at_call 18; (with_reducible refine (id_Right.calls a0 t146 _ A10.out).mono ?_); rintro e w16 ⟨rfl, hb⟩; have n0_ := Aside0.mk (below_step (by repeat (first | (with_reducible first | exact HB.out | apply below_alloc | apply pw_below_drewN | apply below_drew1) | exact HB.out)) hb); clear HB; have HB := n0_; clear n0_; (try clear hb); (try clear hb2); (try clear hk); (try clear hi)))
          go_meet
          case rel => exact ⟨_, (true), (by first | rfl | (simp; done) | (simp [*]; done)), H', ⟨by first | omega | exact Nat.le_refl _⟩, ⟨by repeat (first | (with_reducible first | exact HB.out | apply below_alloc | apply pw_below_drewN | apply below_drew1) | exact HB.out)⟩⟩
        · rw [if_neg c14] at H
          have c14b0 : (t140 != (t142 == 0)) = false := by simpa using c14
          (try (have c14b1 : decide (t140 = (t142 == 0)) = true := by simpa using c14))
          (try (have c14b2 : (t140 == (t142 == 0)) = true := by simpa using c14))
          clear c14
          by_cases c17 : t140 = true
          · subst c17
            have H1 : (cenotaphlaw01_IdNames.j0 k a0 true t141 t143 t144 false) = some r := by rw [if_pos rfl] at H; exact H
            clear H
            have H := H1
            clear H1
            have H' := Aside0.mk H
            clear H
            go_wp2_with (first | ((with_reducible refine gate_callee (f := 11) rfl ?_); refine goesL_ (some 20) rfl rfl Try.func11 (by kernel_rfl) rfl #[] rfl (by (try simp only [List.map_toArray, List.map_cons, List.map_nil]); first | done | rfl | (simp only [List.length_drop, List.length_take]; rfl)) ?_; (with_reducible refine (cenotaphlaw01_told.calls k  true _ A8.out).mono ?_); rintro e w18 ⟨rfl, hb⟩; refine ⟨_, rfl, ?_⟩; have n0_ := Aside0.mk (below_step (by repeat (first | (with_reducible first | exact HB.out | apply below_alloc | apply pw_below_drewN | apply below_drew1) | exact HB.out)) hb); clear HB; have HB := n0_; clear n0_; (try clear hb); (try clear hb2); (try clear hk); (try clear hi)) | (go_at_call 18; (with_reducible refine (id_Right.calls a0 t146 _ A10.out).mono ?_); rintro e w19 ⟨rfl, hb⟩; have n0_ := Aside0.mk (below_step (by repeat (first | (with_reducible first | exact HB.out | apply below_alloc | apply pw_below_drewN | apply below_drew1) | exact HB.out)) hb); clear HB; have HB := n0_; clear n0_; (try clear hb); (try clear hb2); (try clear hk); (try clear hi)))
            go_meet
            case rel => exact ⟨_, (false), (by first | rfl | (simp; done) | (simp [*]; done)), H', ⟨by first | omega | exact Nat.le_refl _⟩, ⟨by repeat (first | (with_reducible first | exact HB.out | apply below_alloc | apply pw_below_drewN | apply below_drew1) | exact HB.out)⟩⟩
          · replace c17 := Bool.eq_false_iff.mpr c17
            subst c17
            have H1 : (if t142 = 20 then (if t141.toList = ([] : List UInt8) then (if t144 = 4 then (if t143.toList = ([] : List UInt8) then ((id_Depth.f a0).bind fun t147 => (cenotaphlaw01_IdNames.j0 k a0 false t141 t143 t144 (t147 != 0))) else (cenotaphlaw01_IdNames.j0 k a0 false t141 t143 t144 true)) else (cenotaphlaw01_IdNames.j0 k a0 false t141 t143 t144 true)) else (cenotaphlaw01_IdNames.j0 k a0 false t141 t143 t144 true)) else (cenotaphlaw01_IdNames.j0 k a0 false t141 t143 t144 true)) = some r := by rw [if_neg (show ¬ (false = true) by decide)] at H; exact H
            clear H
            have H := H1
            clear H1
            by_cases c20 : t142 = 20
            · rw [if_pos c20] at H
              have c20b0 : (t142 == 20) = true := beq_iff_eq.mpr c20
              have c20b1 : (t142 != 20) = false := bne_eq_false_iff_eq.mpr c20
              clear c20
              by_cases c21 : t141.toList = ([] : List UInt8)
              · rw [if_pos c21] at H
                have c21b0 : (t141.toList == ([] : List UInt8)) = true := beq_iff_eq.mpr c21
                have c21b1 : (t141.toList != ([] : List UInt8)) = false := bne_eq_false_iff_eq.mpr c21
                clear c21
                by_cases c22 : t144 = 4
                · rw [if_pos c22] at H
                  have c22b0 : (t144 == 4) = true := beq_iff_eq.mpr c22
                  have c22b1 : (t144 != 4) = false := bne_eq_false_iff_eq.mpr c22
                  clear c22
                  by_cases c23 : t143.toList = ([] : List UInt8)
                  · rw [if_pos c23] at H
                    have c23b0 : (t143.toList == ([] : List UInt8)) = true := beq_iff_eq.mpr c23
                    have c23b1 : (t143.toList != ([] : List UInt8)) = false := bne_eq_false_iff_eq.mpr c23
                    clear c23
                    replace H := Option.bind_eq_some_iff.mp H
                    obtain ⟨t147, A240, H⟩ := H
                    replace H : (cenotaphlaw01_IdNames.j0 k a0 false t141 t143 t144 (t147 != 0)) = some r := H
                    have A24 := Aside0.mk A240
                    clear A240
                    have H' := Aside0.mk H
                    clear H
                    go_wp2_with (first | ((with_reducible refine gate_callee (f := 11) rfl ?_); refine goesL_ (some 20) rfl rfl Try.func11 (by kernel_rfl) rfl #[] rfl (by (try simp only [List.map_toArray, List.map_cons, List.map_nil]); first | done | rfl | (simp only [List.length_drop, List.length_take]; rfl)) ?_; (with_reducible refine (cenotaphlaw01_told.calls k  true _ A8.out).mono ?_); rintro e w25 ⟨rfl, hb⟩; refine ⟨_, rfl, ?_⟩; have n0_ := Aside0.mk (below_step (by repeat (first | (with_reducible first | exact HB.out | apply below_alloc | apply pw_below_drewN | apply below_drew1) | exact HB.out)) hb); clear HB; have HB := n0_; clear n0_; (try clear hb); (try clear hb2); (try clear hk); (try clear hi)) | (go_at_call 18; (with_reducible refine (id_Right.calls a0 t146 _ A10.out).mono ?_); rintro e w26 ⟨rfl, hb⟩; have n0_ := Aside0.mk (below_step (by repeat (first | (with_reducible first | exact HB.out | apply below_alloc | apply pw_below_drewN | apply below_drew1) | exact HB.out)) hb); clear HB; have HB := n0_; clear n0_; (try clear hb); (try clear hb2); (try clear hk); (try clear hi)) | (go_at_call 15; (with_reducible refine (id_Depth.calls a0 t147 _ A24.out).mono ?_); rintro e w27 ⟨rfl, hb⟩; have n0_ := Aside0.mk (below_step (by repeat (first | (with_reducible first | exact HB.out | apply below_alloc | apply pw_below_drewN | apply below_drew1) | exact HB.out)) hb); clear HB; have HB := n0_; clear n0_; (try clear hb); (try clear hb2); (try clear hk); (try clear hi)))
                    go_meet
                    case rel => exact ⟨_, ((t147 != 0)), (by first | rfl | (simp; done) | (simp [*]; done)), H', ⟨by first | omega | exact Nat.le_refl _⟩, ⟨by repeat (first | (with_reducible first | exact HB.out | apply below_alloc | apply pw_below_drewN | apply below_drew1) | exact HB.out)⟩⟩
                  · rw [if_neg c23] at H
                    have c23b0 : (t143.toList == ([] : List UInt8)) = false := beq_eq_false_iff_ne.mpr c23
                    have c23b1 : (t143.toList != ([] : List UInt8)) = true := bne_iff_ne.mpr c23
                    have H' := Aside0.mk H
                    clear H
                    go_wp2_with (first | ((with_reducible refine gate_callee (f := 11) rfl ?_); refine goesL_ (some 20) rfl rfl Try.func11 (by kernel_rfl) rfl #[] rfl (by (try simp only [List.map_toArray, List.map_cons, List.map_nil]); first | done | rfl | (simp only [List.length_drop, List.length_take]; rfl)) ?_; (with_reducible refine (cenotaphlaw01_told.calls k  true _ A8.out).mono ?_); rintro e w28 ⟨rfl, hb⟩; refine ⟨_, rfl, ?_⟩; have n0_ := Aside0.mk (below_step (by repeat (first | (with_reducible first | exact HB.out | apply below_alloc | apply pw_below_drewN | apply below_drew1) | exact HB.out)) hb); clear HB; have HB := n0_; clear n0_; (try clear hb); (try clear hb2); (try clear hk); (try clear hi)) | (go_at_call 18; (with_reducible refine (id_Right.calls a0 t146 _ A10.out).mono ?_); rintro e w29 ⟨rfl, hb⟩; have n0_ := Aside0.mk (below_step (by repeat (first | (with_reducible first | exact HB.out | apply below_alloc | apply pw_below_drewN | apply below_drew1) | exact HB.out)) hb); clear HB; have HB := n0_; clear n0_; (try clear hb); (try clear hb2); (try clear hk); (try clear hi)))
                    go_meet
                    case rel => exact ⟨_, (true), (by first | rfl | (simp; done) | (simp [*]; done)), H', ⟨by first | omega | exact Nat.le_refl _⟩, ⟨by repeat (first | (with_reducible first | exact HB.out | apply below_alloc | apply pw_below_drewN | apply below_drew1) | exact HB.out)⟩⟩
                · rw [if_neg c22] at H
                  have c22b0 : (t144 == 4) = false := beq_eq_false_iff_ne.mpr c22
                  have c22b1 : (t144 != 4) = true := bne_iff_ne.mpr c22
                  have H' := Aside0.mk H
                  clear H
                  go_wp2_with (first | ((with_reducible refine gate_callee (f := 11) rfl ?_); refine goesL_ (some 20) rfl rfl Try.func11 (by kernel_rfl) rfl #[] rfl (by (try simp only [List.map_toArray, List.map_cons, List.map_nil]); first | done | rfl | (simp only [List.length_drop, List.length_take]; rfl)) ?_; (with_reducible refine (cenotaphlaw01_told.calls k  true _ A8.out).mono ?_); rintro e w30 ⟨rfl, hb⟩; refine ⟨_, rfl, ?_⟩; have n0_ := Aside0.mk (below_step (by repeat (first | (with_reducible first | exact HB.out | apply below_alloc | apply pw_below_drewN | apply below_drew1) | exact HB.out)) hb); clear HB; have HB := n0_; clear n0_; (try clear hb); (try clear hb2); (try clear hk); (try clear hi)) | (go_at_call 18; (with_reducible refine (id_Right.calls a0 t146 _ A10.out).mono ?_); rintro e w31 ⟨rfl, hb⟩; have n0_ := Aside0.mk (below_step (by repeat (first | (with_reducible first | exact HB.out | apply below_alloc | apply pw_below_drewN | apply below_drew1) | exact HB.out)) hb); clear HB; have HB := n0_; clear n0_; (try clear hb); (try clear hb2); (try clear hk); (try clear hi)))
                  go_meet
                  case rel => exact ⟨_, (true), (by first | rfl | (simp; done) | (simp [*]; done)), H', ⟨by first | omega | exact Nat.le_refl _⟩, ⟨by repeat (first | (with_reducible first | exact HB.out | apply below_alloc | apply pw_below_drewN | apply below_drew1) | exact HB.out)⟩⟩
              · rw [if_neg c21] at H
                have c21b0 : (t141.toList == ([] : List UInt8)) = false := beq_eq_false_iff_ne.mpr c21
                have c21b1 : (t141.toList != ([] : List UInt8)) = true := bne_iff_ne.mpr c21
                have H' := Aside0.mk H
                clear H
                go_wp2_with (first | ((with_reducible refine gate_callee (f := 11) rfl ?_); refine goesL_ (some 20) rfl rfl Try.func11 (by kernel_rfl) rfl #[] rfl (by (try simp only [List.map_toArray, List.map_cons, List.map_nil]); first | done | rfl | (simp only [List.length_drop, List.length_take]; rfl)) ?_; (with_reducible refine (cenotaphlaw01_told.calls k  true _ A8.out).mono ?_); rintro e w32 ⟨rfl, hb⟩; refine ⟨_, rfl, ?_⟩; have n0_ := Aside0.mk (below_step (by repeat (first | (with_reducible first | exact HB.out | apply below_alloc | apply pw_below_drewN | apply below_drew1) | exact HB.out)) hb); clear HB; have HB := n0_; clear n0_; (try clear hb); (try clear hb2); (try clear hk); (try clear hi)) | (go_at_call 18; (with_reducible refine (id_Right.calls a0 t146 _ A10.out).mono ?_); rintro e w33 ⟨rfl, hb⟩; have n0_ := Aside0.mk (below_step (by repeat (first | (with_reducible first | exact HB.out | apply below_alloc | apply pw_below_drewN | apply below_drew1) | exact HB.out)) hb); clear HB; have HB := n0_; clear n0_; (try clear hb); (try clear hb2); (try clear hk); (try clear hi)))
                go_meet
                case rel => exact ⟨_, (true), (by first | rfl | (simp; done) | (simp [*]; done)), H', ⟨by first | omega | exact Nat.le_refl _⟩, ⟨by repeat (first | (with_reducible first | exact HB.out | apply below_alloc | apply pw_below_drewN | apply below_drew1) | exact HB.out)⟩⟩
            · rw [if_neg c20] at H
              have c20b0 : (t142 == 20) = false := beq_eq_false_iff_ne.mpr c20
              have c20b1 : (t142 != 20) = true := bne_iff_ne.mpr c20
              have H' := Aside0.mk H
              clear H
              go_wp2_with (first | ((with_reducible refine gate_callee (f := 11) rfl ?_); refine goesL_ (some 20) rfl rfl Try.func11 (by kernel_rfl) rfl #[] rfl (by (try simp only [List.map_toArray, List.map_cons, List.map_nil]); first | done | rfl | (simp only [List.length_drop, List.length_take]; rfl)) ?_; (with_reducible refine (cenotaphlaw01_told.calls k  true _ A8.out).mono ?_); rintro e w34 ⟨rfl, hb⟩; refine ⟨_, rfl, ?_⟩; have n0_ := Aside0.mk (below_step (by repeat (first | (with_reducible first | exact HB.out | apply below_alloc | apply pw_below_drewN | apply below_drew1) | exact HB.out)) hb); clear HB; have HB := n0_; clear n0_; (try clear hb); (try clear hb2); (try clear hk); (try clear hi)) | (go_at_call 18; (with_reducible refine (id_Right.calls a0 t146 _ A10.out).mono ?_); rintro e w35 ⟨rfl, hb⟩; have n0_ := Aside0.mk (below_step (by repeat (first | (with_reducible first | exact HB.out | apply below_alloc | apply pw_below_drewN | apply below_drew1) | exact HB.out)) hb); clear HB; have HB := n0_; clear n0_; (try clear hb); (try clear hb2); (try clear hk); (try clear hi)))
              go_meet
              case rel => exact ⟨_, (true), (by first | rfl | (simp; done) | (simp [*]; done)), H', ⟨by first | omega | exact Nat.le_refl _⟩, ⟨by repeat (first | (with_reducible first | exact HB.out | apply below_alloc | apply pw_below_drewN | apply below_drew1) | exact HB.out)⟩⟩
    · replace c9 := Bool.eq_false_iff.mpr c9
      subst c9
      have H1 : (cenotaphlaw01_IdNames.j0 k a0 t140 t141 t143 t144 true) = some r := by rw [if_neg (show ¬ (false = true) by decide)] at H; exact H
      clear H
      have H := H1
      clear H1
      have H' := Aside0.mk H
      clear H
      go_wp2_with (first | ((with_reducible refine gate_callee (f := 11) rfl ?_); refine goesL_ (some 20) rfl rfl Try.func11 (by kernel_rfl) rfl #[] rfl (by (try simp only [List.map_toArray, List.map_cons, List.map_nil]); first | done | rfl | (simp only [List.length_drop, List.length_take]; rfl)) ?_; (with_reducible refine (cenotaphlaw01_told.calls k  false _ A8.out).mono ?_); rintro e w36 ⟨rfl, hb⟩; refine ⟨_, rfl, ?_⟩; have n0_ := Aside0.mk (below_step (by repeat (first | (with_reducible first | exact HB.out | apply below_alloc | apply pw_below_drewN | apply below_drew1) | exact HB.out)) hb); clear HB; have HB := n0_; clear n0_; (try clear hb); (try clear hb2); (try clear hk); (try clear hi)))
      go_meet
      case rel => exact ⟨_, (true), (by first | rfl | (simp; done) | (simp [*]; done)), H', ⟨by first | omega | exact Nat.le_refl _⟩, ⟨by repeat (first | (with_reducible first | exact HB.out | apply below_alloc | apply pw_below_drewN | apply below_drew1) | exact HB.out)⟩⟩
  case rest =>
    clear HC5
    try clear c1
    try clear c2
    try clear p2
    try clear c5
    try clear c9
    try clear c11
    try clear c11b0
    try clear c11b1
    try clear c11b2
    try clear c12
    try clear c14
    try clear c14b0
    try clear c14b1
    try clear c14b2
    try clear c16
    try clear c17
    try clear c20
    try clear c20b0
    try clear c20b1
    try clear c21
    try clear c21b0
    try clear c21b1
    try clear c22
    try clear c22b0
    try clear c22b1
    try clear c23
    try clear c23b0
    try clear c23b1
    obtain ⟨kq, x58_4, rfl, HA, HJ4, HB⟩ := hcut
    cases kq with
    | zero => exact absurd HA.out (by simp [cenotaphlaw01_IdNames.j0])
    | succ kj4 =>
      have H := HA.out
      clear HA
      simp only [cenotaphlaw01_IdNames.j0] at H
      by_cases c37 : x58_4 = true
      · subst c37
        have H1 : (none) = some r := by rw [if_pos rfl] at H; exact H
        clear H
        have H := H1
        clear H1
        exact absurd H (by simp)
      · replace c37 := Bool.eq_false_iff.mpr c37
        subst c37
        have H1 : (if t140 = true then (if (a0.size : Int) = 1 then (if t141.toList = a0.toList then (if t144 = 14 then (if t143.toList = ([] : List UInt8) then ((id_Depth.f t141).bind fun t148 => (some (t148 == 1))) else (none)) else (none)) else (none)) else (if t141.toList = a0.toList then (if t144 = 0 then (if 0 ≤ (wrap64 ((a0.size : Int) - 1)) then (if (wrap64 ((a0.size : Int) - 1)) ≤ (a0.size : Int) then (if t143.toList = (a0.extract 0 ((wrap64 ((a0.size : Int) - 1)) : Int).toNat).toList then ((id_Depth.f t141).bind fun t149 => (some (t149 == (a0.size : Int)))) else (none)) else (none)) else (none)) else (none)) else (none))) else (some true)) = some r := by rw [if_neg (show ¬ (false = true) by decide)] at H; exact H
        clear H
        have H := H1
        clear H1
        by_cases c38 : t140 = true
        · subst c38
          have H1 : (if (a0.size : Int) = 1 then (if t141.toList = a0.toList then (if t144 = 14 then (if t143.toList = ([] : List UInt8) then ((id_Depth.f t141).bind fun t148 => (some (t148 == 1))) else (none)) else (none)) else (none)) else (if t141.toList = a0.toList then (if t144 = 0 then (if 0 ≤ (wrap64 ((a0.size : Int) - 1)) then (if (wrap64 ((a0.size : Int) - 1)) ≤ (a0.size : Int) then (if t143.toList = (a0.extract 0 ((wrap64 ((a0.size : Int) - 1)) : Int).toNat).toList then ((id_Depth.f t141).bind fun t149 => (some (t149 == (a0.size : Int)))) else (none)) else (none)) else (none)) else (none)) else (none))) = some r := by rw [if_pos rfl] at H; exact H
          clear H
          have H := H1
          clear H1
          by_cases c39 : (a0.size : Int) = 1
          · rw [if_pos c39] at H
            have c39b0 : ((a0.size : Int) == 1) = true := beq_iff_eq.mpr c39
            have c39b1 : ((a0.size : Int) != 1) = false := bne_eq_false_iff_eq.mpr c39
            clear c39
            by_cases c40 : t141.toList = a0.toList
            · rw [if_pos c40] at H
              have c40b0 : (t141.toList == a0.toList) = true := beq_iff_eq.mpr c40
              have c40b1 : (t141.toList != a0.toList) = false := bne_eq_false_iff_eq.mpr c40
              clear c40
              by_cases c41 : t144 = 14
              · rw [if_pos c41] at H
                have c41b0 : (t144 == 14) = true := beq_iff_eq.mpr c41
                have c41b1 : (t144 != 14) = false := bne_eq_false_iff_eq.mpr c41
                clear c41
                by_cases c42 : t143.toList = ([] : List UInt8)
                · rw [if_pos c42] at H
                  have c42b0 : (t143.toList == ([] : List UInt8)) = true := beq_iff_eq.mpr c42
                  have c42b1 : (t143.toList != ([] : List UInt8)) = false := bne_eq_false_iff_eq.mpr c42
                  clear c42
                  replace H := Option.bind_eq_some_iff.mp H
                  obtain ⟨t148, A430, H⟩ := H
                  replace H : (some (t148 == 1)) = some r := H
                  have A43 := Aside0.mk A430
                  clear A430
                  obtain rfl := Option.some.inj H
                  go_wp2_with (first | (go_at_call 15; (with_reducible refine (id_Depth.calls t141 t148 _ A43.out).mono ?_); rintro e w44 ⟨rfl, hb⟩; have n0_ := Aside0.mk (below_step (by repeat (first | (with_reducible first | exact HB.out | apply below_alloc | apply pw_below_drewN | apply below_drew1) | exact HB.out)) hb); clear HB; have HB := n0_; clear n0_; (try clear hb); (try clear hb2); (try clear hk); (try clear hi)))
                  go_ret
                  exact ⟨by first | rfl | (simp [errW_none, errW_some] <;> rfl) | (simp [*, errW_none, errW_some] <;> rfl), by repeat (first | (with_reducible first | exact HB.out | apply below_alloc | apply pw_below_drewN | apply below_drew1) | exact HB.out)⟩
                · rw [if_neg c42] at H
                  exact absurd H (by simp)
              · rw [if_neg c41] at H
                exact absurd H (by simp)
            · rw [if_neg c40] at H
              exact absurd H (by simp)
          · rw [if_neg c39] at H
            have c39b0 : ((a0.size : Int) == 1) = false := beq_eq_false_iff_ne.mpr c39
            have c39b1 : ((a0.size : Int) != 1) = true := bne_iff_ne.mpr c39
            by_cases c45 : t141.toList = a0.toList
            · rw [if_pos c45] at H
              have c45b0 : (t141.toList == a0.toList) = true := beq_iff_eq.mpr c45
              have c45b1 : (t141.toList != a0.toList) = false := bne_eq_false_iff_eq.mpr c45
              clear c45
              by_cases c46 : t144 = 0
              · rw [if_pos c46] at H
                have c46b0 : (t144 == 0) = true := beq_iff_eq.mpr c46
                have c46b1 : (t144 != 0) = false := bne_eq_false_iff_eq.mpr c46
                clear c46
                obtain ⟨ji47, hji47⟩ : ∃ j_ : Int, (wrap64 ((a0.size : Int) - 1)) = j_ := ⟨_, rfl⟩
                replace H : (if 0 ≤ (ji47) then (if (ji47) ≤ (a0.size : Int) then (if t143.toList = (a0.extract 0 ((ji47) : Int).toNat).toList then ((id_Depth.f t141).bind fun t149 => (some (t149 == (a0.size : Int)))) else (none)) else (none)) else (none)) = some r := by first | (rw [hji47] at H; exact H) | (simp only [hji47] at H ⊢; exact H)
                have hji47w : (IntKind.i64.wrap ((a0.size : Int) - 1)) = ji47 := (i64_w _).trans hji47
                by_cases c48 : 0 ≤ (ji47)
                · rw [if_pos c48] at H
                  have c48b0 := eq_true c48
                  have c48b1 : decide (0 ≤ (ji47)) = true := decide_eq_true c48
                  clear c48
                  by_cases c49 : (ji47) ≤ (a0.size : Int)
                  · rw [if_pos c49] at H
                    have c49b0 := eq_true c49
                    have c49b1 : decide ((ji47) ≤ (a0.size : Int)) = true := decide_eq_true c49
                    clear c49
                    by_cases c50 : t143.toList = (a0.extract 0 ((ji47) : Int).toNat).toList
                    · rw [if_pos c50] at H
                      have c50b0 : (t143.toList == (a0.extract 0 ((ji47) : Int).toNat).toList) = true := beq_iff_eq.mpr c50
                      have c50b1 : (t143.toList != (a0.extract 0 ((ji47) : Int).toNat).toList) = false := bne_eq_false_iff_eq.mpr c50
                      clear c50
                      replace H := Option.bind_eq_some_iff.mp H
                      obtain ⟨t149, A510, H⟩ := H
                      replace H : (some (t149 == (a0.size : Int))) = some r := H
                      have A51 := Aside0.mk A510
                      clear A510
                      obtain rfl := Option.some.inj H
                      go_wp2_with (first | (go_at_call 15; (with_reducible refine (id_Depth.calls t141 t149 _ A51.out).mono ?_); rintro e w52 ⟨rfl, hb⟩; have n0_ := Aside0.mk (below_step (by repeat (first | (with_reducible first | exact HB.out | apply below_alloc | apply pw_below_drewN | apply below_drew1) | exact HB.out)) hb); clear HB; have HB := n0_; clear n0_; (try clear hb); (try clear hb2); (try clear hk); (try clear hi)))
                      go_ret
                      exact ⟨by first | rfl | (simp [errW_none, errW_some] <;> rfl) | (simp only [← hji47]; first | rfl | (simp [errW_none, errW_some] <;> rfl)) | (simp [*, errW_none, errW_some] <;> rfl), by repeat (first | (with_reducible first | exact HB.out | apply below_alloc | apply pw_below_drewN | apply below_drew1) | exact HB.out)⟩
                    · rw [if_neg c50] at H
                      exact absurd H (by simp)
                  · rw [if_neg c49] at H
                    exact absurd H (by simp)
                · rw [if_neg c48] at H
                  exact absurd H (by simp)
              · rw [if_neg c46] at H
                exact absurd H (by simp)
            · rw [if_neg c45] at H
              exact absurd H (by simp)
        · replace c38 := Bool.eq_false_iff.mpr c38
          subst c38
          have H1 : (some true) = some r := by rw [if_neg (show ¬ (false = true) by decide)] at H; exact H
          clear H
          have H := H1
          clear H1
          obtain rfl := Option.some.inj H
          go_wp2
          go_ret
          exact ⟨by first | rfl | (simp [errW_none, errW_some] <;> rfl) | (simp [*, errW_none, errW_some] <;> rfl), by repeat (first | (with_reducible first | exact HB.out | apply below_alloc | apply pw_below_drewN | apply below_drew1) | exact HB.out)⟩

/-- THE ONE PURE STATEMENT of cenotaphlaw01_IdNames: yours. -/
def cenotaphlaw01_IdNames.Pure : Prop := ∀ (a0 : ByteArray), a0.size ≤ 140737488351232 → ∃ k, cenotaphlaw01_IdNames.f k a0 = some true
theorem cenotaphlaw01_IdNames.walk (P : cenotaphlaw01_IdNames.Pure) (a0 : ByteArray) (w : World) (w0 : a0.size ≤ 140737488351232) :
    Calls Try.prog 5 #[.string a0] w fun e w' => e = .returned (.bool true) ∧ Below w.heap.size w w' := by
  obtain ⟨k, h⟩ := P a0 w0
  refine (cenotaphlaw01_IdNames.calls k a0 true w h).mono ?_
  rintro e w' ⟨rfl, hd⟩
  exact ⟨rfl, hd⟩

/-! ### bytealg_CompareString: function 37 -/
def bytealg_CompareString.f (a0 : ByteArray) (a1 : ByteArray) : Option Int := some (Lib.compareBytes a0.data.toList a1.data.toList)
set_option maxHeartbeats 800000 in
set_option maxRecDepth 100000 in
theorem bytealg_CompareString.calls (a0 : ByteArray) (a1 : ByteArray) (r : Int) (w : World) (h : bytealg_CompareString.f a0 a1 = some r) :
    Calls Try.prog 37 #[.string a0, .string a1] w fun e w' => e = .returned (.int .i64 r) ∧ Drawn0 w w' := by
  have HR := Aside0.mk (show Lib.compareBytes a0.data.toList a1.data.toList = r from Option.some.inj h)
  clear h
  go_enter Try.func37, Try.ntmps37
  go_wp2
  rw [run_callFunc_extern Try.func41 (by kernel_rfl) (by kernel_rfl) (by kernel_rfl) (e := Extern.BytealgCompare.compare) (by kernel_rfl), Lib.run_compareString, HR.out]
  simp only [Result.andThen]
  rw [Oper.upon_value]
  go_wp2
  go_ret
  exact ⟨rfl, Drawn0.refl _⟩

/-! ### strings_Compare: function 31 -/
def strings_Compare.f (a0 : ByteArray) (a1 : ByteArray) : Option (Int) := (bytealg_CompareString.f a0 a1).bind fun t150 => (some t150)
set_option maxHeartbeats 8000000 in
set_option maxRecDepth 100000 in
theorem strings_Compare.calls (a0 : ByteArray) (a1 : ByteArray) (r : Int) (w : World) (h : strings_Compare.f a0 a1 = some r) :
    Calls Try.prog 31 #[.string a0, .string a1] w fun e w' => e = .returned (.int .i64 r) ∧ Drawn0 w w' := by
  have H : ((bytealg_CompareString.f a0 a1).bind fun t150 => (some t150)) = some r := h
  clear h
  replace H := Option.bind_eq_some_iff.mp H
  obtain ⟨t150, A30, H⟩ := H
  replace H : (some t150) = some r := H
  have A3 := Aside0.mk A30
  clear A30
  obtain rfl := Option.some.inj H
  go_enter Try.func31, Try.ntmps31
  go_wp2_with (first | ((with_reducible refine gate_callee (f := 37) rfl ?_); refine goesL_ (some 7) rfl rfl Try.func37 (by kernel_rfl) rfl #[.string a0, .string a1] rfl (by (try simp only [List.map_toArray, List.map_cons, List.map_nil]); first | done | rfl | (simp only [List.length_drop, List.length_take]; rfl)) ?_; (with_reducible refine (bytealg_CompareString.calls a0 a1 t150 _ A3.out).mono ?_); rintro e w' ⟨rfl, ⟨nd, rfl⟩⟩; refine ⟨_, rfl, ?_⟩))
  go_ret
  exact ⟨by first | rfl | (simp; done) | (simp [*]; done), by repeat (first | exact Drawn0.refl _ | apply Drawn0.step)⟩

/-! ### id_Compare: function 19 -/
def id_Compare.f (a0 : ByteArray) (a1 : ByteArray) : Option (Int) := (strings_Compare.f a0 a1).bind fun t151 => (some t151)
set_option maxHeartbeats 8000000 in
set_option maxRecDepth 100000 in
theorem id_Compare.calls (a0 : ByteArray) (a1 : ByteArray) (r : Int) (w : World) (h : id_Compare.f a0 a1 = some r) :
    Calls Try.prog 19 #[.string a0, .string a1] w fun e w' => e = .returned (.int .i64 r) ∧ Drawn0 w w' := by
  have H : ((strings_Compare.f a0 a1).bind fun t151 => (some t151)) = some r := h
  clear h
  replace H := Option.bind_eq_some_iff.mp H
  obtain ⟨t151, A30, H⟩ := H
  replace H : (some t151) = some r := H
  have A3 := Aside0.mk A30
  clear A30
  obtain rfl := Option.some.inj H
  go_enter Try.func19, Try.ntmps19
  go_wp2_with (first | ((with_reducible refine gate_callee (f := 31) rfl ?_); refine goesL_ (some 7) rfl rfl Try.func31 (by kernel_rfl) rfl #[.string a0, .string a1] rfl (by (try simp only [List.map_toArray, List.map_cons, List.map_nil]); first | done | rfl | (simp only [List.length_drop, List.length_take]; rfl)) ?_; (with_reducible refine (strings_Compare.calls a0 a1 t151 _ A3.out).mono ?_); rintro e w' ⟨rfl, ⟨nd, rfl⟩⟩; refine ⟨_, rfl, ?_⟩))
  go_ret
  exact ⟨by first | rfl | (simp; done) | (simp [*]; done), by repeat (first | exact Drawn0.refl _ | apply Drawn0.step)⟩

/-! ### cenotaphref01_Compare: function 20 -/
mutual
def cenotaphref01_Compare.l0 : Nat → ByteArray → ByteArray → Int → Option (Int)
  | 0, _, _, _ => none
  | k + 1, x0, x1, x5 => if x5 < (x0.size : Int) then (cenotaphref01_Compare.j1 k x0 x1 x5 (decide (x5 < (x1.size : Int)))) else (cenotaphref01_Compare.j1 k x0 x1 x5 false)
def cenotaphref01_Compare.j1 : Nat → ByteArray → ByteArray → Int → Bool → Option (Int)
  | 0, _, _, _, _ => none
  | k + 1, x0, x1, x5, x15 => if x15 = true then (if 0 ≤ x5 then (if x5 < (x0.size : Int) then (if x5 < (x1.size : Int) then (if (bt x0 x5) < (bt x1 x5) then (some (-1)) else (if (bt x0 x5) > (bt x1 x5) then (some 1) else (cenotaphref01_Compare.l0 k x0 x1 (wrap64 (x5 + 1))))) else (none)) else (none)) else (none)) else (if (x0.size : Int) < (x1.size : Int) then (some (-1)) else (if (x0.size : Int) > (x1.size : Int) then (some 1) else (some 0)))
end
def cenotaphref01_Compare.f (k : Nat) (a0 : ByteArray) (a1 : ByteArray) : Option (Int) := cenotaphref01_Compare.l0 k a0 a1 0
theorem cenotaphref01_Compare.mono_l : ∀ k, (∀ y0 y1 y2, LeO (cenotaphref01_Compare.l0 k y0 y1 y2) (cenotaphref01_Compare.l0 (k + 1) y0 y1 y2)) ∧ (∀ y0 y1 y2 y3, LeO (cenotaphref01_Compare.j1 k y0 y1 y2 y3) (cenotaphref01_Compare.j1 (k + 1) y0 y1 y2 y3))
  | 0 => ⟨fun _ _ _ r h => by simp [cenotaphref01_Compare.l0] at h, fun _ _ _ _ r h => by simp [cenotaphref01_Compare.j1] at h⟩
  | k + 1 => by
    obtain ⟨ih0, ih1⟩ := cenotaphref01_Compare.mono_l k
    refine ⟨?_, ?_⟩
    · intro y0 y1 y2
      unfold cenotaphref01_Compare.l0
      repeat' first
      | (with_reducible exact ih0 _ _ _)
      | (with_reducible exact ih1 _ _ _ _)
      | (with_reducible exact LeO.refl _)
      | (with_reducible exact LeO.none _)
      | (with_reducible refine LeO.ite ?_ ?_)
      | (with_reducible refine LeO.bind ?_ (fun _ => ?_))
      | exact ih0 _ _ _
      | exact ih1 _ _ _ _
      | exact LeO.none _
      | refine LeO.ite ?_ ?_
      | refine LeO.bind ?_ (fun _ => ?_)
    · intro y0 y1 y2 y3
      unfold cenotaphref01_Compare.j1
      repeat' first
      | (with_reducible exact ih0 _ _ _)
      | (with_reducible exact ih1 _ _ _ _)
      | (with_reducible exact LeO.refl _)
      | (with_reducible exact LeO.none _)
      | (with_reducible refine LeO.ite ?_ ?_)
      | (with_reducible refine LeO.bind ?_ (fun _ => ?_))
      | exact ih0 _ _ _
      | exact ih1 _ _ _ _
      | exact LeO.none _
      | refine LeO.ite ?_ ?_
      | refine LeO.bind ?_ (fun _ => ?_)
theorem cenotaphref01_Compare.mono : ∀ a0 a1 k, LeO (cenotaphref01_Compare.f k a0 a1) (cenotaphref01_Compare.f (k + 1) a0 a1) := by
  intro a0 a1 k
  obtain ⟨ih0, ih1⟩ := cenotaphref01_Compare.mono_l k
  unfold cenotaphref01_Compare.f
  repeat' first
      | (with_reducible exact ih0 _ _ _)
      | (with_reducible exact ih1 _ _ _ _)
      | (with_reducible exact LeO.refl _)
      | (with_reducible exact LeO.none _)
      | (with_reducible refine LeO.ite ?_ ?_)
      | (with_reducible refine LeO.bind ?_ (fun _ => ?_))
      | exact ih0 _ _ _
      | exact ih1 _ _ _ _
      | exact LeO.none _
      | refine LeO.ite ?_ ?_
      | refine LeO.bind ?_ (fun _ => ?_)
set_option maxHeartbeats 8000000 in
set_option maxRecDepth 100000 in
theorem cenotaphref01_Compare.calls (k : Nat) (a0 : ByteArray) (a1 : ByteArray) (r : Int) (w : World) (h : cenotaphref01_Compare.f k a0 a1 = some r) :
    Calls Try.prog 20 #[.string a0, .string a1] w fun e w' => e = .returned (.int .i64 r) ∧ Drawn0 w w' := by
  have H : (cenotaphref01_Compare.l0 k a0 a1 0) = some r := h
  clear h
  have H' := Aside0.mk H
  clear H
  go_enter Try.func20, Try.ntmps20
  go_wp2
  repeat (go_quiet (fail); try go_wp2)
  go_loopg [5] k (fun kq v5 w' => ∃ (x5_1 : Int), v5 = .int .i64 x5_1 ∧ Aside0 (cenotaphref01_Compare.l0 kq a0 a1 x5_1 = some r) ∧ Aside0 (kq ≤ k) ∧ Drawn0 w w')
  case atStart => exact ⟨(0), (by first | rfl | (simp; done) | (simp [*]; done)), H', ⟨Nat.le_refl _⟩, by repeat (first | exact Drawn0.refl _ | apply Drawn0.step)⟩
  case round =>
    clear H'
    try clear c2
    try clear p2
    obtain ⟨x5_1, rfl, HA, HK1, ⟨m1, rfl⟩⟩ := hrel
    cases gk with
    | zero => exact absurd HA.out (by simp [cenotaphref01_Compare.l0])
    | succ k1 =>
      have H := HA.out
      clear HA
      simp only [cenotaphref01_Compare.l0] at H
      have HC3 := Aside0.mk H
      clear H
      go_upto_region 2 with (fail)
      repeat (go_quiet (fail); go_upto_region 2 with (fail))
      go_cut [15] (fun v15 wc => ∃ (kq : Nat) (x15_2 : Bool), v15 = .bool x15_2 ∧ Aside0 (cenotaphref01_Compare.j1 kq a0 a1 x5_1 x15_2 = some r) ∧ Aside0 (kq ≤ k1) ∧ Drawn0 w wc)
      case first =>
        have H := HC3.out
        clear HC3
        by_cases c4 : x5_1 < (a0.size : Int)
        · rw [if_pos c4] at H
          have c4b0 : decide (x5_1 < (a0.size : Int)) = true := decide_eq_true c4
          clear c4
          (first | rw [c4b0] | (simp only [i64_w, i32_w]; rw [c4b0]) | skip)
          have H' := Aside0.mk H
          clear H
          go_wp2
          repeat (go_quiet (fail); try go_wp2)
          go_meet
          case rel => exact ⟨_, (decide (x5_1 < (a1.size : Int))), (by first | rfl | (simp; done) | (simp [*]; done)), H', ⟨by have := HK1.out; first | omega | exact Nat.le_refl _⟩, by repeat (first | exact Drawn0.refl _ | apply Drawn0.step)⟩
        · rw [if_neg c4] at H
          have c4b0 : decide (x5_1 < (a0.size : Int)) = false := decide_eq_false c4
          clear c4
          (first | rw [c4b0] | (simp only [i64_w, i32_w]; rw [c4b0]) | skip)
          have H' := Aside0.mk H
          clear H
          go_wp2
          repeat (go_quiet (fail); try go_wp2)
          go_meet
          case rel => exact ⟨_, (false), (by first | rfl | (simp; done) | (simp [*]; done)), H', ⟨by have := HK1.out; first | omega | exact Nat.le_refl _⟩, by repeat (first | exact Drawn0.refl _ | apply Drawn0.step)⟩
      case rest =>
        clear HC3
        try clear c2
        try clear p2
        try clear c4
        try clear c4b0
        try clear p2
        obtain ⟨kq, x15_2, rfl, HA, HJ2, ⟨mc2, rfl⟩⟩ := hcut
        cases kq with
        | zero => exact absurd HA.out (by simp [cenotaphref01_Compare.j1])
        | succ kj2 =>
          have H := HA.out
          clear HA
          simp only [cenotaphref01_Compare.j1] at H
          by_cases c5 : x15_2 = true
          · subst c5
            have H1 : (if 0 ≤ x5_1 then (if x5_1 < (a0.size : Int) then (if x5_1 < (a1.size : Int) then (if (bt a0 x5_1) < (bt a1 x5_1) then (some (-1)) else (if (bt a0 x5_1) > (bt a1 x5_1) then (some 1) else (cenotaphref01_Compare.l0 kj2 a0 a1 (wrap64 (x5_1 + 1))))) else (none)) else (none)) else (none)) = some r := by rw [if_pos rfl] at H; exact H
            clear H
            have H := H1
            clear H1
            by_cases c6 : 0 ≤ x5_1
            · rw [if_pos c6] at H
              have c6b0 : decide (0 ≤ x5_1) = true := decide_eq_true c6
              clear c6
              by_cases c7 : x5_1 < (a0.size : Int)
              · rw [if_pos c7] at H
                have c7b0 : decide (x5_1 < (a0.size : Int)) = true := decide_eq_true c7
                clear c7
                by_cases c9 : x5_1 < (a1.size : Int)
                · rw [if_pos c9] at H
                  have c9b0 : decide (x5_1 < (a1.size : Int)) = true := decide_eq_true c9
                  clear c9
                  by_cases c11 : (bt a0 x5_1) < (bt a1 x5_1)
                  · rw [if_pos c11] at H
                    have c11b0 : decide ((bt a0 x5_1) < (bt a1 x5_1)) = true := decide_eq_true c11
                    clear c11
                    obtain rfl := Option.some.inj H
                    have p8 : 0 ≤ (x5_1 : Int) := of_decide_eq_true (by first | (with_reducible assumption) | assumption)
                    have q8 : x5_1 < (a0.size : Int) := of_decide_eq_true (by first | (with_reducible assumption) | assumption)
                    have hx8 := bt_at a0 x5_1
                    replace p8 := eq_true p8
                    replace q8 := eq_true q8
                    have p10 : 0 ≤ (x5_1 : Int) := of_decide_eq_true (by first | (with_reducible assumption) | assumption)
                    have q10 : x5_1 < (a1.size : Int) := of_decide_eq_true (by first | (with_reducible assumption) | assumption)
                    have hx10 := bt_at a1 x5_1
                    replace p10 := eq_true p10
                    replace q10 := eq_true q10
                    go_wp2
                    repeat (go_quiet (fail); try go_wp2)
                    go_ret
                    exact ⟨by first | rfl | (simp; done) | (simp [*]; done), by repeat (first | exact Drawn0.refl _ | apply Drawn0.step)⟩
                  · rw [if_neg c11] at H
                    have c11b0 : decide ((bt a0 x5_1) < (bt a1 x5_1)) = false := decide_eq_false c11
                    clear c11
                    by_cases c14 : (bt a0 x5_1) > (bt a1 x5_1)
                    · rw [if_pos c14] at H
                      have c14b0 : decide ((bt a1 x5_1) < (bt a0 x5_1)) = true := decide_eq_true c14
                      clear c14
                      obtain rfl := Option.some.inj H
                      have p8 : 0 ≤ (x5_1 : Int) := of_decide_eq_true (by first | (with_reducible assumption) | assumption)
                      have q8 : x5_1 < (a0.size : Int) := of_decide_eq_true (by first | (with_reducible assumption) | assumption)
                      have hx8 := bt_at a0 x5_1
                      replace p8 := eq_true p8
                      replace q8 := eq_true q8
                      have p10 : 0 ≤ (x5_1 : Int) := of_decide_eq_true (by first | (with_reducible assumption) | assumption)
                      have q10 : x5_1 < (a1.size : Int) := of_decide_eq_true (by first | (with_reducible assumption) | assumption)
                      have hx10 := bt_at a1 x5_1
                      replace p10 := eq_true p10
                      replace q10 := eq_true q10
                      have p12 : 0 ≤ (x5_1 : Int) := of_decide_eq_true (by first | (with_reducible assumption) | assumption)
                      have q12 : x5_1 < (a0.size : Int) := of_decide_eq_true (by first | (with_reducible assumption) | assumption)
                      have hx12 := bt_at a0 x5_1
                      replace p12 := eq_true p12
                      replace q12 := eq_true q12
                      have p13 : 0 ≤ (x5_1 : Int) := of_decide_eq_true (by first | (with_reducible assumption) | assumption)
                      have q13 : x5_1 < (a1.size : Int) := of_decide_eq_true (by first | (with_reducible assumption) | assumption)
                      have hx13 := bt_at a1 x5_1
                      replace p13 := eq_true p13
                      replace q13 := eq_true q13
                      go_wp2
                      repeat (go_quiet (fail); try go_wp2)
                      go_ret
                      exact ⟨by first | rfl | (simp; done) | (simp [*]; done), by repeat (first | exact Drawn0.refl _ | apply Drawn0.step)⟩
                    · rw [if_neg c14] at H
                      have c14b0 : decide ((bt a1 x5_1) < (bt a0 x5_1)) = false := decide_eq_false c14
                      clear c14
                      have H' := Aside0.mk H
                      clear H
                      have p8 : 0 ≤ (x5_1 : Int) := of_decide_eq_true (by first | (with_reducible assumption) | assumption)
                      have q8 : x5_1 < (a0.size : Int) := of_decide_eq_true (by first | (with_reducible assumption) | assumption)
                      have hx8 := bt_at a0 x5_1
                      replace p8 := eq_true p8
                      replace q8 := eq_true q8
                      have p10 : 0 ≤ (x5_1 : Int) := of_decide_eq_true (by first | (with_reducible assumption) | assumption)
                      have q10 : x5_1 < (a1.size : Int) := of_decide_eq_true (by first | (with_reducible assumption) | assumption)
                      have hx10 := bt_at a1 x5_1
                      replace p10 := eq_true p10
                      replace q10 := eq_true q10
                      have p12 : 0 ≤ (x5_1 : Int) := of_decide_eq_true (by first | (with_reducible assumption) | assumption)
                      have q12 : x5_1 < (a0.size : Int) := of_decide_eq_true (by first | (with_reducible assumption) | assumption)
                      have hx12 := bt_at a0 x5_1
                      replace p12 := eq_true p12
                      replace q12 := eq_true q12
                      have p13 : 0 ≤ (x5_1 : Int) := of_decide_eq_true (by first | (with_reducible assumption) | assumption)
                      have q13 : x5_1 < (a1.size : Int) := of_decide_eq_true (by first | (with_reducible assumption) | assumption)
                      have hx13 := bt_at a1 x5_1
                      replace p13 := eq_true p13
                      replace q13 := eq_true q13
                      go_wp2
                      repeat (go_quiet (fail); try go_wp2)
                      go_roundg kj2
                      case measure => have := HK1.out; have := HJ2.out; omega
                      case rel => exact ⟨(wrap64 (x5_1 + 1)), (by first | rfl | (simp; done) | (simp [*]; done)), H', ⟨by have := HK1.out; have := HJ2.out; omega⟩, by repeat (first | exact Drawn0.refl _ | apply Drawn0.step)⟩
                · rw [if_neg c9] at H
                  exact absurd H (by simp)
              · rw [if_neg c7] at H
                exact absurd H (by simp)
            · rw [if_neg c6] at H
              exact absurd H (by simp)
          · replace c5 := Bool.eq_false_iff.mpr c5
            subst c5
            have H1 : (if (a0.size : Int) < (a1.size : Int) then (some (-1)) else (if (a0.size : Int) > (a1.size : Int) then (some 1) else (some 0))) = some r := by rw [if_neg (show ¬ (false = true) by decide)] at H; exact H
            clear H
            have H := H1
            clear H1
            by_cases c15 : (a0.size : Int) < (a1.size : Int)
            · rw [if_pos c15] at H
              have c15b0 : decide ((a0.size : Int) < (a1.size : Int)) = true := decide_eq_true c15
              have c15b1 : decide (a0.size < a1.size) = true := decide_eq_true (Int.ofNat_lt.mp c15)
              clear c15
              obtain rfl := Option.some.inj H
              go_wp2
              repeat (go_quiet (fail); try go_wp2)
              go_ret
              exact ⟨by first | rfl | (simp; done) | (simp [*]; done), by repeat (first | exact Drawn0.refl _ | apply Drawn0.step)⟩
            · rw [if_neg c15] at H
              have c15b0 : decide ((a0.size : Int) < (a1.size : Int)) = false := decide_eq_false c15
              have c15b1 : decide (a0.size < a1.size) = false := decide_eq_false (fun h => c15 (Int.ofNat_lt.mpr h))
              clear c15
              by_cases c16 : (a0.size : Int) > (a1.size : Int)
              · rw [if_pos c16] at H
                have c16b0 : decide ((a1.size : Int) < (a0.size : Int)) = true := decide_eq_true c16
                have c16b1 : decide (a1.size < a0.size) = true := decide_eq_true (Int.ofNat_lt.mp c16)
                clear c16
                obtain rfl := Option.some.inj H
                go_wp2
                repeat (go_quiet (fail); try go_wp2)
                go_ret
                exact ⟨by first | rfl | (simp; done) | (simp [*]; done), by repeat (first | exact Drawn0.refl _ | apply Drawn0.step)⟩
              · rw [if_neg c16] at H
                have c16b0 : decide ((a1.size : Int) < (a0.size : Int)) = false := decide_eq_false c16
                have c16b1 : decide (a1.size < a0.size) = false := decide_eq_false (fun h => c16 (Int.ofNat_lt.mpr h))
                clear c16
                obtain rfl := Option.some.inj H
                go_wp2
                repeat (go_quiet (fail); try go_wp2)
                go_ret
                exact ⟨by first | rfl | (simp; done) | (simp [*]; done), by repeat (first | exact Drawn0.refl _ | apply Drawn0.step)⟩

/-! ### cenotaphref01_Above: function 21 -/
def cenotaphref01_Above.f (k : Nat) (a0 : ByteArray) (a1 : ByteArray) : Option (Bool) := (cenotaphref01_Right.f k a0).bind fun t152 => (if t152 = true then ((cenotaphref01_Right.f k a1).bind fun t153 => (if t153 = true then (if (a1.size : Int) > (a0.size : Int) then (if 0 ≤ (a0.size : Int) then (if (a0.size : Int) ≤ (a1.size : Int) then (some ((a1.extract 0 ((a0.size : Int) : Int).toNat).toList == a0.toList)) else (none)) else (none)) else (some false)) else (some false))) else (some false))
theorem cenotaphref01_Above.mono : ∀ a0 a1 k, LeO (cenotaphref01_Above.f k a0 a1) (cenotaphref01_Above.f (k + 1) a0 a1) := by
  intro a0 a1 k
  unfold cenotaphref01_Above.f
  repeat' first
      | (with_reducible exact cenotaphref01_Right.mono _ _)
      | (with_reducible exact LeO.refl _)
      | (with_reducible exact LeO.none _)
      | (with_reducible refine LeO.ite ?_ ?_)
      | (with_reducible refine LeO.bind ?_ (fun _ => ?_))
      | exact cenotaphref01_Right.mono _ _
      | exact LeO.none _
      | refine LeO.ite ?_ ?_
      | refine LeO.bind ?_ (fun _ => ?_)
set_option maxHeartbeats 8000000 in
set_option maxRecDepth 100000 in
theorem cenotaphref01_Above.calls (k : Nat) (a0 : ByteArray) (a1 : ByteArray) (r : Bool) (w : World) (h : cenotaphref01_Above.f k a0 a1 = some r) :
    Calls Try.prog 21 #[.string a0, .string a1] w fun e w' => e = .returned (.bool r) ∧ Drawn0 w w' := by
  have H : ((cenotaphref01_Right.f k a0).bind fun t152 => (if t152 = true then ((cenotaphref01_Right.f k a1).bind fun t153 => (if t153 = true then (if (a1.size : Int) > (a0.size : Int) then (if 0 ≤ (a0.size : Int) then (if (a0.size : Int) ≤ (a1.size : Int) then (some ((a1.extract 0 ((a0.size : Int) : Int).toNat).toList == a0.toList)) else (none)) else (none)) else (some false)) else (some false))) else (some false))) = some r := h
  clear h
  replace H := Option.bind_eq_some_iff.mp H
  obtain ⟨t152, A30, H⟩ := H
  replace H : (if t152 = true then ((cenotaphref01_Right.f k a1).bind fun t153 => (if t153 = true then (if (a1.size : Int) > (a0.size : Int) then (if 0 ≤ (a0.size : Int) then (if (a0.size : Int) ≤ (a1.size : Int) then (some ((a1.extract 0 ((a0.size : Int) : Int).toNat).toList == a0.toList)) else (none)) else (none)) else (some false)) else (some false))) else (some false)) = some r := H
  have A3 := Aside0.mk A30
  clear A30
  by_cases c4 : t152 = true
  · subst c4
    have H1 : ((cenotaphref01_Right.f k a1).bind fun t153 => (if t153 = true then (if (a1.size : Int) > (a0.size : Int) then (if 0 ≤ (a0.size : Int) then (if (a0.size : Int) ≤ (a1.size : Int) then (some ((a1.extract 0 ((a0.size : Int) : Int).toNat).toList == a0.toList)) else (none)) else (none)) else (some false)) else (some false))) = some r := by rw [if_pos rfl] at H; exact H
    clear H
    have H := H1
    clear H1
    replace H := Option.bind_eq_some_iff.mp H
    obtain ⟨t153, A50, H⟩ := H
    replace H : (if t153 = true then (if (a1.size : Int) > (a0.size : Int) then (if 0 ≤ (a0.size : Int) then (if (a0.size : Int) ≤ (a1.size : Int) then (some ((a1.extract 0 ((a0.size : Int) : Int).toNat).toList == a0.toList)) else (none)) else (none)) else (some false)) else (some false)) = some r := H
    have A5 := Aside0.mk A50
    clear A50
    by_cases c6 : t153 = true
    · subst c6
      have H1 : (if (a1.size : Int) > (a0.size : Int) then (if 0 ≤ (a0.size : Int) then (if (a0.size : Int) ≤ (a1.size : Int) then (some ((a1.extract 0 ((a0.size : Int) : Int).toNat).toList == a0.toList)) else (none)) else (none)) else (some false)) = some r := by rw [if_pos rfl] at H; exact H
      clear H
      have H := H1
      clear H1
      by_cases c7 : (a1.size : Int) > (a0.size : Int)
      · rw [if_pos c7] at H
        have c7b0 : decide ((a0.size : Int) < (a1.size : Int)) = true := decide_eq_true c7
        have c7b1 : decide (a0.size < a1.size) = true := decide_eq_true (Int.ofNat_lt.mp c7)
        clear c7
        by_cases c8 : 0 ≤ (a0.size : Int)
        · rw [if_pos c8] at H
          have c8b0 := eq_true c8
          have c8b1 : decide (0 ≤ (a0.size : Int)) = true := decide_eq_true c8
          clear c8
          by_cases c9 : (a0.size : Int) ≤ (a1.size : Int)
          · rw [if_pos c9] at H
            have c9b0 := eq_true c9
            have c9b1 : decide ((a0.size : Int) ≤ (a1.size : Int)) = true := decide_eq_true c9
            clear c9
            obtain rfl := Option.some.inj H
            go_enter Try.func21, Try.ntmps21
            go_wp2_with (first | ((with_reducible refine gate_callee (f := 16) rfl ?_); refine goesL_ (some 6) rfl rfl Try.func16 (by kernel_rfl) rfl #[.string a0] rfl (by (try simp only [List.map_toArray, List.map_cons, List.map_nil]); first | done | rfl | (simp only [List.length_drop, List.length_take]; rfl)) ?_; (with_reducible refine (cenotaphref01_Right.calls k a0 true _ A3.out).mono ?_); rintro e w' ⟨rfl, ⟨nd, rfl⟩⟩; refine ⟨_, rfl, ?_⟩) | (go_at_call 16; (with_reducible refine (cenotaphref01_Right.calls k a1 true _ A5.out).mono ?_); rintro e w' ⟨rfl, ⟨nd, rfl⟩⟩))
            go_ret
            exact ⟨by first | rfl | (simp; done) | (simp [*]; done), by repeat (first | exact Drawn0.refl _ | apply Drawn0.step)⟩
          · rw [if_neg c9] at H
            exact absurd H (by simp)
        · rw [if_neg c8] at H
          exact absurd H (by simp)
      · rw [if_neg c7] at H
        have c7b0 : decide ((a0.size : Int) < (a1.size : Int)) = false := decide_eq_false c7
        have c7b1 : decide (a0.size < a1.size) = false := decide_eq_false (fun h => c7 (Int.ofNat_lt.mpr h))
        clear c7
        obtain rfl := Option.some.inj H
        go_enter Try.func21, Try.ntmps21
        go_wp2_with (first | ((with_reducible refine gate_callee (f := 16) rfl ?_); refine goesL_ (some 6) rfl rfl Try.func16 (by kernel_rfl) rfl #[.string a0] rfl (by (try simp only [List.map_toArray, List.map_cons, List.map_nil]); first | done | rfl | (simp only [List.length_drop, List.length_take]; rfl)) ?_; (with_reducible refine (cenotaphref01_Right.calls k a0 true _ A3.out).mono ?_); rintro e w' ⟨rfl, ⟨nd, rfl⟩⟩; refine ⟨_, rfl, ?_⟩) | (go_at_call 16; (with_reducible refine (cenotaphref01_Right.calls k a1 true _ A5.out).mono ?_); rintro e w' ⟨rfl, ⟨nd, rfl⟩⟩))
        go_ret
        exact ⟨by first | rfl | (simp; done) | (simp [*]; done), by repeat (first | exact Drawn0.refl _ | apply Drawn0.step)⟩
    · replace c6 := Bool.eq_false_iff.mpr c6
      subst c6
      have H1 : (some false) = some r := by rw [if_neg (show ¬ (false = true) by decide)] at H; exact H
      clear H
      have H := H1
      clear H1
      obtain rfl := Option.some.inj H
      go_enter Try.func21, Try.ntmps21
      go_wp2_with (first | ((with_reducible refine gate_callee (f := 16) rfl ?_); refine goesL_ (some 6) rfl rfl Try.func16 (by kernel_rfl) rfl #[.string a0] rfl (by (try simp only [List.map_toArray, List.map_cons, List.map_nil]); first | done | rfl | (simp only [List.length_drop, List.length_take]; rfl)) ?_; (with_reducible refine (cenotaphref01_Right.calls k a0 true _ A3.out).mono ?_); rintro e w' ⟨rfl, ⟨nd, rfl⟩⟩; refine ⟨_, rfl, ?_⟩) | (go_at_call 16; (with_reducible refine (cenotaphref01_Right.calls k a1 false _ A5.out).mono ?_); rintro e w' ⟨rfl, ⟨nd, rfl⟩⟩))
      go_ret
      exact ⟨by first | rfl | (simp; done) | (simp [*]; done), by repeat (first | exact Drawn0.refl _ | apply Drawn0.step)⟩
  · replace c4 := Bool.eq_false_iff.mpr c4
    subst c4
    have H1 : (some false) = some r := by rw [if_neg (show ¬ (false = true) by decide)] at H; exact H
    clear H
    have H := H1
    clear H1
    obtain rfl := Option.some.inj H
    go_enter Try.func21, Try.ntmps21
    go_wp2_with (first | ((with_reducible refine gate_callee (f := 16) rfl ?_); refine goesL_ (some 6) rfl rfl Try.func16 (by kernel_rfl) rfl #[.string a0] rfl (by (try simp only [List.map_toArray, List.map_cons, List.map_nil]); first | done | rfl | (simp only [List.length_drop, List.length_take]; rfl)) ?_; (with_reducible refine (cenotaphref01_Right.calls k a0 false _ A3.out).mono ?_); rintro e w' ⟨rfl, ⟨nd, rfl⟩⟩; refine ⟨_, rfl, ?_⟩))
    go_ret
    exact ⟨by first | rfl | (simp; done) | (simp [*]; done), by repeat (first | exact Drawn0.refl _ | apply Drawn0.step)⟩

end Go.Proofs.Ytbdoablehdpdoaa.P
