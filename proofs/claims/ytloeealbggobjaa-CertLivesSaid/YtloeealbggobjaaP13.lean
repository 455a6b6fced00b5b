-- Written by a program of this session (wip/pp.py over the kit's printer, with our own texts put in).
import Derived.Test.YtloeealbggobjaaP0
import Derived.Test.YtloeealbggobjaaP3
import Derived.Test.YtloeealbggobjaaP4
import Derived.Test.YtloeealbggobjaaP5
import Derived.Test.YtloeealbggobjaaP8
import Derived.Test.YtloeealbggobjaaP12
namespace Go.Proofs.Ytloeealbggobjaa.P
open Go.RowKit Go.Proofs.YtloeealbggobjaaW.PrintWords Go.Proofs.YtloeealbggobjaaW.PrintLast Go.Proofs.YtloeealbggobjaaW.PrintMore
attribute [local go_sem] max2_int min2_int max_two min_two max_three min_three max_four min_four   -- for this text's walks alone
set_option linter.unusedVariables false
set_option linter.unusedSimpArgs false

/-! ### cenotaphlaw09_CertLives: function 4 -/
theorem zq4_0 {p_ : Prop} (h_ : p_ := by (try simp only [List.map_toArray, List.map_cons, List.map_nil]); first | done | rfl | (simp only [List.length_drop, List.length_take]; rfl)) : p_ := h_
theorem zq4_1 {p_ : Prop} (h_ : p_ := by repeat (first | (with_reducible first | exact HB.out | apply below_alloc | apply pw_below_drewN | apply below_drew1) | exact HB.out)) : p_ := h_
theorem zq4_2 {p_ : Prop} (h_ : p_ := by (with_reducible repeat (first | apply Kd.R_alloc | apply Kd.R_drewN | apply Kd.R_drew)); exact HO302.out) : p_ := h_
theorem zq4_3 {p_ : Prop} (h_ : p_ := by (with_reducible repeat (first | apply Kd.R_alloc | apply Kd.R_drewN | apply Kd.R_drew)); exact HO305.out) : p_ := h_
theorem zq4_4 {p_ : Prop} (h_ : p_ := by (with_reducible repeat (first | apply Kd.R_alloc | apply Kd.R_drewN | apply Kd.R_drew)); exact HO308.out) : p_ := h_
theorem zq4_5 {p_ : Prop} (h_ : p_ := by (with_reducible repeat (first | apply Kd.R_alloc | apply Kd.R_drewN | apply Kd.R_drew)); exact HO311.out) : p_ := h_
theorem zq4_6 {p_ : Prop} (h_ : p_ := by (with_reducible repeat (first | apply Kd.R_alloc | apply Kd.R_drewN | apply Kd.R_drew)); exact HO314.out) : p_ := h_
theorem zq4_7 {p_ : Prop} (h_ : p_ := by (with_reducible repeat (first | apply Kd.R_alloc | apply Kd.R_drewN | apply Kd.R_drew)); exact HO317.out) : p_ := h_
theorem zq4_8 {p_ : Prop} (h_ : p_ := by (with_reducible repeat (first | apply Kd.R_alloc | apply Kd.R_drewN | apply Kd.R_drew)); exact HO320.out) : p_ := h_
theorem zq4_9 {p_ : Prop} (h_ : p_ := by (with_reducible repeat (first | apply Kd.R_alloc | apply Kd.R_drewN | apply Kd.R_drew)); exact HO323.out) : p_ := h_
theorem zq4_10 {p_ : Prop} (h_ : p_ := by (with_reducible repeat (first | apply Kd.R_alloc | apply Kd.R_drewN | apply Kd.R_drew)); exact HO326.out) : p_ := h_
theorem zq4_11 {p_ : Prop} (h_ : p_ := by (with_reducible repeat (first | apply Kd.R_alloc | apply Kd.R_drewN | apply Kd.R_drew)); exact HO329.out) : p_ := h_
theorem zq4_12 {p_ : Prop} (h_ : p_ := by (with_reducible repeat (first | apply Kd.R_alloc | apply Kd.R_drewN | apply Kd.R_drew)); exact HO344.out) : p_ := h_
theorem zq4_13 {p_ : Prop} (h_ : p_ := by (with_reducible repeat (first | apply Kd.R_alloc | apply Kd.R_drewN | apply Kd.R_drew)); exact HO_0.out) : p_ := h_
theorem zq4_14 {p_ : Prop} (h_ : p_ := by (with_reducible repeat (first | apply Kd.R_alloc | apply Kd.R_drewN | apply Kd.R_drew)); exact HO_1.out) : p_ := h_
theorem zq4_15 {p_ : Prop} (h_ : p_ := by (with_reducible repeat (first | apply Kd.R_alloc | apply Kd.R_drewN | apply Kd.R_drew)); exact HO_2.out) : p_ := h_
theorem zq4_16 {p_ : Prop} (h_ : p_ := by (with_reducible repeat (first | apply Kd.R_alloc | apply Kd.R_drewN | apply Kd.R_drew)); exact HO_7.out) : p_ := h_
theorem zq4_17 {p_ : Prop} (h_ : p_ := by (with_reducible repeat (first | apply Kd.R_alloc | apply Kd.R_drewN | apply Kd.R_drew)); exact HO_8.out) : p_ := h_
theorem zq4_18 {p_ : Prop} (h_ : p_ := by first | (with_reducible assumption) | assumption) : p_ := h_
def cenotaphlaw09_CertLives.l0 : Nat → List ByteArray → List (S56) → List (S56) → List ByteArray → List ByteArray → Int → Option (Bool)
 | 0, _, _, _, _, _, _ => none
 | k + 1, x0, x1, x2, x7, x8, x9 => if x9 < (x8.length : Int) then (if 0 ≤ x9 then ((cenotaphref01_Has.f k x7 (rdOf ByteArray.empty x8 x9)).bind fun t340 => (if t340 = true then (cenotaphlaw09_CertLives.l0 k x0 x1 x2 x7 x8 (wrap64 (x9 + 1))) else (none))) else (none)) else ((cenotaphlaw09_told.f).bind fun t341 => (if t341 = true then ((cenotaphref09_Live.f k x0 x1).bind fun t342 => ((cenotaphref01_Same.f k x7 t342).bind fun t345 => (if t345 = true then ((cenotaphref03_Join.f k x1 x2).bind fun t346 => ((cenotaphref09_Live.f k x0 t346).bind fun t349 => ((cenotaphref01_Same.f k x8 t349).bind fun t352 => (some t352)))) else (none)))) else (none)))
def cenotaphlaw09_CertLives.f (k : Nat) (l0 : List ByteArray) (l1 : List (S56)) (l2 : List (S56)) : Option (Bool) := if 0 ≤ (mn (l0.length : Int) 20) then (if (mn (l0.length : Int) 20) ≤ (l0.length : Int) then ((cenotaphref01_Union.f k (l0.take ((mn (l0.length : Int) 20) : Int).toNat) ([] : List ByteArray)).bind fun t300 => ((cenotaphref03_Fix.f k l1).bind fun t303 => ((cenotaphref03_Fix.f k l2).bind fun t306 => ((cenotaphlaw01_To.f k t300).bind fun t309 => ((cenotaphlaw03_To.f k t303).bind fun t312 => ((cert_Live.f t309 t312).bind fun t315 => ((cenotaphlaw01_From.f k t315).bind fun t318 => ((cenotaphlaw01_To.f k t300).bind fun t321 => ((cenotaphlaw03_To.f k t303).bind fun t324 => ((cenotaphlaw03_To.f k t306).bind fun t327 => ((cert_Merge.f k t324 t327).bind fun t330 => ((cert_Live.f t321 t330).bind fun t333 => ((cenotaphlaw01_From.f k t333).bind fun t336 => (cenotaphlaw09_CertLives.l0 k t300 t303 t306 t318 t336 0)))))))))))))) else (none)) else (none)
theorem cenotaphlaw09_CertLives.mono_l : ∀ k, (∀ y0 y1 y2 y3 y4 y5, LeO (cenotaphlaw09_CertLives.l0 k y0 y1 y2 y3 y4 y5) (cenotaphlaw09_CertLives.l0 (k + 1) y0 y1 y2 y3 y4 y5))
 | 0 => fun _ _ _ _ _ _ r h => by simp [cenotaphlaw09_CertLives.l0] at h
 | k + 1 => by
  have ih0 := cenotaphlaw09_CertLives.mono_l k
  ·intro y0 y1 y2 y3 y4 y5
   unfold cenotaphlaw09_CertLives.l0
   repeat' first
   | (with_reducible exact ih0 _ _ _ _ _ _)
   | (with_reducible exact cenotaphlaw01_From.mono _ _)
   | (with_reducible exact cenotaphlaw01_To.mono _ _)
   | (with_reducible exact cenotaphlaw03_To.mono _ _)
   | (with_reducible exact cenotaphref01_Has.mono _ _ _)
   | (with_reducible exact cenotaphref01_Same.mono _ _ _)
   | (with_reducible exact cenotaphref01_Union.mono _ _ _)
   | (with_reducible exact cenotaphref03_Fix.mono _ _)
   | (with_reducible exact cenotaphref03_Join.mono _ _ _)
   | (with_reducible exact cenotaphref09_Live.mono _ _ _)
   | (with_reducible exact cert_Merge.mono _ _ _)
   | (with_reducible exact LeO.refl _)
   | (with_reducible exact LeO.none _)
   | (with_reducible refine LeO.ite ?_ ?_)
   | (with_reducible refine LeO.bind ?_ (fun _ => ?_))
   | exact ih0 _ _ _ _ _ _
   | exact cenotaphlaw01_From.mono _ _
   | exact cenotaphlaw01_To.mono _ _
   | exact cenotaphlaw03_To.mono _ _
   | exact cenotaphref01_Has.mono _ _ _
   | exact cenotaphref01_Same.mono _ _ _
   | exact cenotaphref01_Union.mono _ _ _
   | exact cenotaphref03_Fix.mono _ _
   | exact cenotaphref03_Join.mono _ _ _
   | exact cenotaphref09_Live.mono _ _ _
   | exact cert_Merge.mono _ _ _
   | exact LeO.none _
   | refine LeO.ite ?_ ?_
   | refine LeO.bind ?_ (fun _ => ?_)
theorem cenotaphlaw09_CertLives.mono : ∀ a0 a1 a2 k, LeO (cenotaphlaw09_CertLives.f k a0 a1 a2) (cenotaphlaw09_CertLives.f (k + 1) a0 a1 a2) := by
 intro a0 a1 a2 k
 have ih0 := cenotaphlaw09_CertLives.mono_l k
 unfold cenotaphlaw09_CertLives.f
 repeat' first
   | (with_reducible exact ih0 _ _ _ _ _ _)
   | (with_reducible exact cenotaphlaw01_From.mono _ _)
   | (with_reducible exact cenotaphlaw01_To.mono _ _)
   | (with_reducible exact cenotaphlaw03_To.mono _ _)
   | (with_reducible exact cenotaphref01_Has.mono _ _ _)
   | (with_reducible exact cenotaphref01_Same.mono _ _ _)
   | (with_reducible exact cenotaphref01_Union.mono _ _ _)
   | (with_reducible exact cenotaphref03_Fix.mono _ _)
   | (with_reducible exact cenotaphref03_Join.mono _ _ _)
   | (with_reducible exact cenotaphref09_Live.mono _ _ _)
   | (with_reducible exact cert_Merge.mono _ _ _)
   | (with_reducible exact LeO.refl _)
   | (with_reducible exact LeO.none _)
   | (with_reducible refine LeO.ite ?_ ?_)
   | (with_reducible refine LeO.bind ?_ (fun _ => ?_))
   | exact ih0 _ _ _ _ _ _
   | exact cenotaphlaw01_From.mono _ _
   | exact cenotaphlaw01_To.mono _ _
   | exact cenotaphlaw03_To.mono _ _
   | exact cenotaphref01_Has.mono _ _ _
   | exact cenotaphref01_Same.mono _ _ _
   | exact cenotaphref01_Union.mono _ _ _
   | exact cenotaphref03_Fix.mono _ _
   | exact cenotaphref03_Join.mono _ _ _
   | exact cenotaphref09_Live.mono _ _ _
   | exact cert_Merge.mono _ _ _
   | exact LeO.none _
   | refine LeO.ite ?_ ?_
   | refine LeO.bind ?_ (fun _ => ?_)
set_option maxHeartbeats 8000000 in
set_option maxRecDepth 100000 in
theorem cenotaphlaw09_CertLives.calls (k : Nat) (A0 : Option Addr) (c0 : Nat) (l0 : List ByteArray) (A1 : Option Addr) (c1 : Nat) (l1 : List (S56)) (A2 : Option Addr) (c2 : Nat) (l2 : List (S56)) (r : Bool) (w : World) (hr0 : Kd.C Kd.string w A0 l0.length l0) (hc0 : l0.length ≤ c0) (hr1 : Kd.C k56 w A1 l1.length l1) (hc1 : l1.length ≤ c1) (hr2 : Kd.C k56 w A2 l2.length l2) (hc2 : l2.length ≤ c2) (h : cenotaphlaw09_CertLives.f k l0 l1 l2 = some r) :
  Calls Try.prog 4 #[.slice A0 l0.length c0, .slice A1 l1.length c1, .slice A2 l2.length c2] w fun e w' => e = .returned (.bool r) ∧ Below w.heap.size w w' := by
 have HR0 := Aside0.mk hr0
 have HC0 := Aside0.mk hc0
 clear hr0 hc0
 have HR1 := Aside0.mk hr1
 have HC1 := Aside0.mk hc1
 clear hr1 hc1
 have HR2 := Aside0.mk hr2
 have HC2 := Aside0.mk hc2
 clear hr2 hc2
 have HB := Aside0.mk (Below.refl w.heap.size w)
 have H : (if 0 ≤ (mn (l0.length : Int) 20) then (if (mn (l0.length : Int) 20) ≤ (l0.length : Int) then ((cenotaphref01_Union.f k (l0.take ((mn (l0.length : Int) 20) : Int).toNat) ([] : List ByteArray)).bind fun t300 => ((cenotaphref03_Fix.f k l1).bind fun t303 => ((cenotaphref03_Fix.f k l2).bind fun t306 => ((cenotaphlaw01_To.f k t300).bind fun t309 => ((cenotaphlaw03_To.f k t303).bind fun t312 => ((cert_Live.f t309 t312).bind fun t315 => ((cenotaphlaw01_From.f k t315).bind fun t318 => ((cenotaphlaw01_To.f k t300).bind fun t321 => ((cenotaphlaw03_To.f k t303).bind fun t324 => ((cenotaphlaw03_To.f k t306).bind fun t327 => ((cert_Merge.f k t324 t327).bind fun t330 => ((cert_Live.f t321 t330).bind fun t333 => ((cenotaphlaw01_From.f k t333).bind fun t336 => (cenotaphlaw09_CertLives.l0 k t300 t303 t306 t318 t336 0)))))))))))))) else (none)) else (none)) = some r := h
 clear h
 obtain ⟨ji4, hji4⟩ : ∃ j_ : Int, (mn (l0.length : Int) 20) = j_ := ⟨_, rfl⟩
 replace H : (if 0 ≤ (ji4) then (if (ji4) ≤ (l0.length : Int) then ((cenotaphref01_Union.f k (l0.take ((ji4) : Int).toNat) ([] : List ByteArray)).bind fun t300 => ((cenotaphref03_Fix.f k l1).bind fun t303 => ((cenotaphref03_Fix.f k l2).bind fun t306 => ((cenotaphlaw01_To.f k t300).bind fun t309 => ((cenotaphlaw03_To.f k t303).bind fun t312 => ((cert_Live.f t309 t312).bind fun t315 => ((cenotaphlaw01_From.f k t315).bind fun t318 => ((cenotaphlaw01_To.f k t300).bind fun t321 => ((cenotaphlaw03_To.f k t303).bind fun t324 => ((cenotaphlaw03_To.f k t306).bind fun t327 => ((cert_Merge.f k t324 t327).bind fun t330 => ((cert_Live.f t321 t330).bind fun t333 => ((cenotaphlaw01_From.f k t333).bind fun t336 => (cenotaphlaw09_CertLives.l0 k t300 t303 t306 t318 t336 0)))))))))))))) else (none)) else (none)) = some r := by first | (rw [hji4] at H; exact H) | (simp only [hji4] at H ⊢; exact H)
 (try (have hji4h : ji4 ≤ 20 := by (rw [← hji4]; unfold mn; (repeat' split) <;> omega)))
 (try (have hji4g : ji4 ≤ 64 := by omega))
 (try (have hji4l : 0 ≤ ji4 := by (rw [← hji4]; unfold mn; (repeat' split) <;> omega)))
 (try (have hji4m : 0 ≤ ji4 := by omega))
 have hji4_ : (if 20 < (l0.length : Int) then 20 else (l0.length : Int)) = ji4 := hji4
 by_cases c5 : 0 ≤ (ji4)
 ·rw [if_pos c5] at H
  have c5b0 := eq_true c5
  have c5b1 : decide (0 ≤ (ji4)) = true := decide_eq_true c5
  clear c5
  by_cases c6 : (ji4) ≤ (l0.length : Int)
  ·rw [if_pos c6] at H
   have c6b0 := eq_true c6
   have c6b1 : decide ((ji4) ≤ (l0.length : Int)) = true := decide_eq_true c6
   clear c6
   replace H := Option.bind_eq_some_iff.mp H
   obtain ⟨t300, A70, H⟩ := H
   replace H : ((cenotaphref03_Fix.f k l1).bind fun t303 => ((cenotaphref03_Fix.f k l2).bind fun t306 => ((cenotaphlaw01_To.f k t300).bind fun t309 => ((cenotaphlaw03_To.f k t303).bind fun t312 => ((cert_Live.f t309 t312).bind fun t315 => ((cenotaphlaw01_From.f k t315).bind fun t318 => ((cenotaphlaw01_To.f k t300).bind fun t321 => ((cenotaphlaw03_To.f k t303).bind fun t324 => ((cenotaphlaw03_To.f k t306).bind fun t327 => ((cert_Merge.f k t324 t327).bind fun t330 => ((cert_Live.f t321 t330).bind fun t333 => ((cenotaphlaw01_From.f k t333).bind fun t336 => (cenotaphlaw09_CertLives.l0 k t300 t303 t306 t318 t336 0))))))))))))) = some r := H
   have A7 := Aside0.mk A70
   clear A70
   replace H := Option.bind_eq_some_iff.mp H
   obtain ⟨t303, A80, H⟩ := H
   replace H : ((cenotaphref03_Fix.f k l2).bind fun t306 => ((cenotaphlaw01_To.f k t300).bind fun t309 => ((cenotaphlaw03_To.f k t303).bind fun t312 => ((cert_Live.f t309 t312).bind fun t315 => ((cenotaphlaw01_From.f k t315).bind fun t318 => ((cenotaphlaw01_To.f k t300).bind fun t321 => ((cenotaphlaw03_To.f k t303).bind fun t324 => ((cenotaphlaw03_To.f k t306).bind fun t327 => ((cert_Merge.f k t324 t327).bind fun t330 => ((cert_Live.f t321 t330).bind fun t333 => ((cenotaphlaw01_From.f k t333).bind fun t336 => (cenotaphlaw09_CertLives.l0 k t300 t303 t306 t318 t336 0)))))))))))) = some r := H
   have A8 := Aside0.mk A80
   clear A80
   replace H := Option.bind_eq_some_iff.mp H
   obtain ⟨t306, A90, H⟩ := H
   replace H : ((cenotaphlaw01_To.f k t300).bind fun t309 => ((cenotaphlaw03_To.f k t303).bind fun t312 => ((cert_Live.f t309 t312).bind fun t315 => ((cenotaphlaw01_From.f k t315).bind fun t318 => ((cenotaphlaw01_To.f k t300).bind fun t321 => ((cenotaphlaw03_To.f k t303).bind fun t324 => ((cenotaphlaw03_To.f k t306).bind fun t327 => ((cert_Merge.f k t324 t327).bind fun t330 => ((cert_Live.f t321 t330).bind fun t333 => ((cenotaphlaw01_From.f k t333).bind fun t336 => (cenotaphlaw09_CertLives.l0 k t300 t303 t306 t318 t336 0))))))))))) = some r := H
   have A9 := Aside0.mk A90
   clear A90
   replace H := Option.bind_eq_some_iff.mp H
   obtain ⟨t309, A100, H⟩ := H
   replace H : ((cenotaphlaw03_To.f k t303).bind fun t312 => ((cert_Live.f t309 t312).bind fun t315 => ((cenotaphlaw01_From.f k t315).bind fun t318 => ((cenotaphlaw01_To.f k t300).bind fun t321 => ((cenotaphlaw03_To.f k t303).bind fun t324 => ((cenotaphlaw03_To.f k t306).bind fun t327 => ((cert_Merge.f k t324 t327).bind fun t330 => ((cert_Live.f t321 t330).bind fun t333 => ((cenotaphlaw01_From.f k t333).bind fun t336 => (cenotaphlaw09_CertLives.l0 k t300 t303 t306 t318 t336 0)))))))))) = some r := H
   have A10 := Aside0.mk A100
   clear A100
   replace H := Option.bind_eq_some_iff.mp H
   obtain ⟨t312, A110, H⟩ := H
   replace H : ((cert_Live.f t309 t312).bind fun t315 => ((cenotaphlaw01_From.f k t315).bind fun t318 => ((cenotaphlaw01_To.f k t300).bind fun t321 => ((cenotaphlaw03_To.f k t303).bind fun t324 => ((cenotaphlaw03_To.f k t306).bind fun t327 => ((cert_Merge.f k t324 t327).bind fun t330 => ((cert_Live.f t321 t330).bind fun t333 => ((cenotaphlaw01_From.f k t333).bind fun t336 => (cenotaphlaw09_CertLives.l0 k t300 t303 t306 t318 t336 0))))))))) = some r := H
   have A11 := Aside0.mk A110
   clear A110
   replace H := Option.bind_eq_some_iff.mp H
   obtain ⟨t315, A120, H⟩ := H
   replace H : ((cenotaphlaw01_From.f k t315).bind fun t318 => ((cenotaphlaw01_To.f k t300).bind fun t321 => ((cenotaphlaw03_To.f k t303).bind fun t324 => ((cenotaphlaw03_To.f k t306).bind fun t327 => ((cert_Merge.f k t324 t327).bind fun t330 => ((cert_Live.f t321 t330).bind fun t333 => ((cenotaphlaw01_From.f k t333).bind fun t336 => (cenotaphlaw09_CertLives.l0 k t300 t303 t306 t318 t336 0)))))))) = some r := H
   have A12 := Aside0.mk A120
   clear A120
   replace H := Option.bind_eq_some_iff.mp H
   obtain ⟨t318, A130, H⟩ := H
   replace H : ((cenotaphlaw01_To.f k t300).bind fun t321 => ((cenotaphlaw03_To.f k t303).bind fun t324 => ((cenotaphlaw03_To.f k t306).bind fun t327 => ((cert_Merge.f k t324 t327).bind fun t330 => ((cert_Live.f t321 t330).bind fun t333 => ((cenotaphlaw01_From.f k t333).bind fun t336 => (cenotaphlaw09_CertLives.l0 k t300 t303 t306 t318 t336 0))))))) = some r := H
   have A13 := Aside0.mk A130
   clear A130
   replace H := Option.bind_eq_some_iff.mp H
   obtain ⟨t321, A140, H⟩ := H
   replace H : ((cenotaphlaw03_To.f k t303).bind fun t324 => ((cenotaphlaw03_To.f k t306).bind fun t327 => ((cert_Merge.f k t324 t327).bind fun t330 => ((cert_Live.f t321 t330).bind fun t333 => ((cenotaphlaw01_From.f k t333).bind fun t336 => (cenotaphlaw09_CertLives.l0 k t300 t303 t306 t318 t336 0)))))) = some r := H
   have A14 := Aside0.mk A140
   clear A140
   replace H := Option.bind_eq_some_iff.mp H
   obtain ⟨t324, A150, H⟩ := H
   replace H : ((cenotaphlaw03_To.f k t306).bind fun t327 => ((cert_Merge.f k t324 t327).bind fun t330 => ((cert_Live.f t321 t330).bind fun t333 => ((cenotaphlaw01_From.f k t333).bind fun t336 => (cenotaphlaw09_CertLives.l0 k t300 t303 t306 t318 t336 0))))) = some r := H
   have A15 := Aside0.mk A150
   clear A150
   replace H := Option.bind_eq_some_iff.mp H
   obtain ⟨t327, A160, H⟩ := H
   replace H : ((cert_Merge.f k t324 t327).bind fun t330 => ((cert_Live.f t321 t330).bind fun t333 => ((cenotaphlaw01_From.f k t333).bind fun t336 => (cenotaphlaw09_CertLives.l0 k t300 t303 t306 t318 t336 0)))) = some r := H
   have A16 := Aside0.mk A160
   clear A160
   replace H := Option.bind_eq_some_iff.mp H
   obtain ⟨t330, A170, H⟩ := H
   replace H : ((cert_Live.f t321 t330).bind fun t333 => ((cenotaphlaw01_From.f k t333).bind fun t336 => (cenotaphlaw09_CertLives.l0 k t300 t303 t306 t318 t336 0))) = some r := H
   have A17 := Aside0.mk A170
   clear A170
   replace H := Option.bind_eq_some_iff.mp H
   obtain ⟨t333, A180, H⟩ := H
   replace H : ((cenotaphlaw01_From.f k t333).bind fun t336 => (cenotaphlaw09_CertLives.l0 k t300 t303 t306 t318 t336 0)) = some r := H
   have A18 := Aside0.mk A180
   clear A180
   replace H := Option.bind_eq_some_iff.mp H
   obtain ⟨t336, A190, H⟩ := H
   replace H : (cenotaphlaw09_CertLives.l0 k t300 t303 t306 t318 t336 0) = some r := H
   have A19 := Aside0.mk A190
   clear A190
   have H' := Aside0.mk H
   clear H
   obtain ⟨i020, hi020, _, hsz20, _⟩ := info_parts info9
   obtain ⟨hcut20, hA20, hC20⟩ := print_take_of (P := Try.prog) Value.string (⟨#[]⟩ : ByteArray) 40 9 .i64 Try.underlying40 hi020 hsz20 A0 c0 l0 (ji4) (of_decide_eq_true zq4_18) (of_decide_eq_true zq4_18) HC0.out
   have HR299 := Aside0.mk (Kd.C_of_reads (h1 := fun _ => rfl) (hA20 _ (Kd.reads_of_C HR0.out)))
   have HC299 := Aside0.mk hC20
   clear hA20 hC20 hi020 hsz20
   obtain ⟨x20, hx20⟩ : ∃ x_, x_ = (l0.take ((ji4) : Int).toNat) := ⟨_, rfl⟩
   rw [← hx20] at hcut20 HR299 HC299
   (try rw [← hx20] at HC0) <;> (try rw [← hx20] at HC1) <;> (try rw [← hx20] at HC2) <;> (try rw [← hx20] at A7) <;> (try rw [← hx20] at A8) <;> (try rw [← hx20] at A9) <;> (try rw [← hx20] at A10) <;> (try rw [← hx20] at A11) <;> (try rw [← hx20] at A12) <;> (try rw [← hx20] at A13) <;> (try rw [← hx20] at A14) <;> (try rw [← hx20] at A15) <;> (try rw [← hx20] at A16) <;> (try rw [← hx20] at A17) <;> (try rw [← hx20] at A18) <;> (try rw [← hx20] at A19) <;> (try rw [← hx20] at H') <;> (try rw [← hx20] at HC299)
   have KX20 := Aside0.mk hx20
   clear hx20
   go_enter Try.func4, Try.ntmps4
   go_wp2_with (first | ((with_reducible refine gate_callee (f := 19) rfl ?_); refine goesL_ (some 15) rfl rfl Try.func19 (by kernel_rfl) rfl #[.slice A0 x20.length c0, .slice none 0 0] rfl (by (try simp only [List.map_toArray, List.map_cons, List.map_nil]); first | done | (rw [show x20.length = (ji4).toNat from (by rw [List.length_take]; have h_ : ((ji4) : Int) ≤ (l0.length : Int) := of_decide_eq_true zq4_18; omega)] <;> rfl) | (simp only [hji4]; rfl) | rfl | (simp only [List.length_drop, List.length_take]; rfl)) ?_; (refine (cenotaphref01_Union.calls k _ _ x20 _ _ ([] : List ByteArray) t300 _ ?side1 ?side2 ?side3 ?side4 A7.out).mono ?_); (case side1 => repeat (first | exact HR299.out | (with_reducible refine Kd.C_alloc ?_ _) | (with_reducible refine Kd.C_drewN ?_ _) | (with_reducible refine Kd.C_drew ?_))); (case side2 => exact HC299.out); (case side3 => exact Kd.C_nil _ _); (case side4 => exact Nat.le_refl _); rintro e w21 ⟨v301, rfl, ho0, hb⟩; refine ⟨_, rfl, ?_⟩; have n0_ := Aside0.mk (Kd.R_lower ho0 (below_size zq4_1)); have n1_ := Aside0.mk (below_step zq4_1 hb); clear HB; have HO302 := n0_; have HB := n1_; clear n0_ n1_; (try clear hb); (try clear hb2); (try clear hk); (try clear hi); (try clear ho0)) | ((with_reducible refine gate_callee (f := 6) rfl ?_); refine goesL_ (some 17) rfl rfl Try.func6 (by kernel_rfl) rfl #[.slice A1 l1.length c1] rfl zq4_0 ?_; (with_reducible refine (cenotaphref03_Fix.calls k _ _ l1 t303 _ ?side1 ?side2 A8.out).mono ?_); (case side1 => repeat (first | exact (Kd.C_below HR1.out HB.out) | (with_reducible refine Kd.C_alloc ?_ _) | (with_reducible refine Kd.C_drewN ?_ _) | (with_reducible refine Kd.C_drew ?_))); (case side2 => exact HC1.out); rintro e w22 ⟨v304, rfl, ho0, hb⟩; refine ⟨_, rfl, ?_⟩; have n0_ := Aside0.mk (Kd.R_below zq4_2 hb); have n1_ := Aside0.mk (Kd.R_lower ho0 (below_size zq4_1)); have n2_ := Aside0.mk (below_step zq4_1 hb); clear HO302; clear HB; have HO302 := n0_; have HO305 := n1_; have HB := n2_; clear n0_ n1_ n2_; (try clear hb); (try clear hb2); (try clear hk); (try clear hi); (try clear ho0)) | ((with_reducible refine gate_callee (f := 6) rfl ?_); refine goesL_ (some 19) rfl rfl Try.func6 (by kernel_rfl) rfl #[.slice A2 l2.length c2] rfl zq4_0 ?_; (with_reducible refine (cenotaphref03_Fix.calls k _ _ l2 t306 _ ?side1 ?side2 A9.out).mono ?_); (case side1 => repeat (first | exact (Kd.C_below HR2.out HB.out) | (with_reducible refine Kd.C_alloc ?_ _) | (with_reducible refine Kd.C_drewN ?_ _) | (with_reducible refine Kd.C_drew ?_))); (case side2 => exact HC2.out); rintro e w23 ⟨v307, rfl, ho0, hb⟩; refine ⟨_, rfl, ?_⟩; have n0_ := Aside0.mk (Kd.R_below zq4_2 hb); have n1_ := Aside0.mk (Kd.R_elder' zq4_3 (Kd.R_base ho0) hb); have n2_ := Aside0.mk (Kd.R_lower (Kd.R_new' ho0 (Kd.R_lt zq4_3)) (below_size zq4_1)); have n3_ := Aside0.mk (below_step zq4_1 hb); clear HO302; clear HO305; clear HB; have HO302 := n0_; have HO305 := n1_; have HO308 := n2_; have HB := n3_; clear n0_ n1_ n2_ n3_; (try clear hb); (try clear hb2); (try clear hk); (try clear hi); (try clear ho0); obtain ⟨Ao24, co24, eo24⟩ := Kd.R_slice HO302.out; subst eo24) | ((with_reducible refine gate_callee (f := 22) rfl ?_); refine goesL_ (some 21) rfl rfl Try.func22 (by kernel_rfl) rfl #[.slice Ao24 t300.length co24] rfl zq4_0 ?_; (with_reducible refine (cenotaphlaw01_To.calls k _ _ t300 t309 _ ?side1 ?side2 A10.out).mono ?_); (case side1 => repeat (first | exact (Kd.R_reads' HO302.out).2.2 | (with_reducible refine Kd.C_alloc ?_ _) | (with_reducible refine Kd.C_drewN ?_ _) | (with_reducible refine Kd.C_drew ?_))); (case side2 => exact (Kd.R_reads' HO302.out).2.1); rintro e w25 ⟨v310, rfl, ho0, hb⟩; refine ⟨_, rfl, ?_⟩; have n0_ := Aside0.mk (Kd.R_below zq4_2 hb); have n1_ := Aside0.mk (Kd.R_below zq4_3 hb); have n2_ := Aside0.mk (Kd.R_below zq4_4 hb); have n3_ := Aside0.mk (Kd.R_lower ho0 (below_size zq4_1)); have n4_ := Aside0.mk (below_step zq4_1 hb); clear HO302; clear HO305; clear HO308; clear HB; have HO302 := n0_; have HO305 := n1_; have HO308 := n2_; have HO311 := n3_; have HB := n4_; clear n0_ n1_ n2_ n3_ n4_; (try clear hb); (try clear hb2); (try clear hk); (try clear hi); (try clear ho0); obtain ⟨Ao26, co26, eo26⟩ := Kd.R_slice HO305.out; subst eo26) | ((with_reducible refine gate_callee (f := 7) rfl ?_); refine goesL_ (some 23) rfl rfl Try.func7 (by kernel_rfl) rfl #[.slice Ao26 t303.length co26] rfl zq4_0 ?_; (with_reducible refine (cenotaphlaw03_To.calls k _ _ t303 t312 _ ?side1 ?side2 A11.out).mono ?_); (case side1 => repeat (first | exact (Kd.R_reads' HO305.out).2.2 | (with_reducible refine Kd.C_alloc ?_ _) | (with_reducible refine Kd.C_drewN ?_ _) | (with_reducible refine Kd.C_drew ?_))); (case side2 => exact (Kd.R_reads' HO305.out).2.1); rintro e w27 ⟨v313, rfl, ho0, hb⟩; refine ⟨_, rfl, ?_⟩; have n0_ := Aside0.mk (Kd.R_below zq4_2 hb); have n1_ := Aside0.mk (Kd.R_below zq4_3 hb); have n2_ := Aside0.mk (Kd.R_below zq4_4 hb); have n3_ := Aside0.mk (Kd.R_below zq4_5 hb); have n4_ := Aside0.mk (Kd.R_lower ho0 (below_size zq4_1)); have n5_ := Aside0.mk (below_step zq4_1 hb); clear HO302; clear HO305; clear HO308; clear HO311; clear HB; have HO302 := n0_; have HO305 := n1_; have HO308 := n2_; have HO311 := n3_; have HO314 := n4_; have HB := n5_; clear n0_ n1_ n2_ n3_ n4_ n5_; (try clear hb); (try clear hb2); (try clear hk); (try clear hi); (try clear ho0); obtain ⟨Ao28, co28, eo28⟩ := Kd.R_slice HO311.out; subst eo28; obtain ⟨Ao29, co29, eo29⟩ := Kd.R_slice HO314.out; subst eo29) | ((with_reducible refine gate_callee (f := 21) rfl ?_); refine goesL_ (some 24) rfl rfl Try.func21 (by kernel_rfl) rfl #[.slice Ao28 t309.length co28, .slice Ao29 t312.length co29] rfl zq4_0 ?_; (with_reducible refine (cert_Live.calls _ _ t309 _ _ t312 t315 _ ?side1 ?side2 ?side3 ?side4 A12.out).mono ?_); (case side1 => repeat (first | exact (Kd.R_reads' HO311.out).2.2 | (with_reducible refine Kd.C_alloc ?_ _) | (with_reducible refine Kd.C_drewN ?_ _) | (with_reducible refine Kd.C_drew ?_))); (case side2 => exact (Kd.R_reads' HO311.out).2.1); (case side3 => repeat (first | exact (Kd.R_reads' HO314.out).2.2 | (with_reducible refine Kd.C_alloc ?_ _) | (with_reducible refine Kd.C_drewN ?_ _) | (with_reducible refine Kd.C_drew ?_))); (case side4 => exact (Kd.R_reads' HO314.out).2.1); rintro e w30 ⟨v316, rfl, ho0, hb⟩; refine ⟨_, rfl, ?_⟩; have n0_ := Aside0.mk (Kd.R_below zq4_2 hb); have n1_ := Aside0.mk (Kd.R_below zq4_3 hb); have n2_ := Aside0.mk (Kd.R_below zq4_4 hb); have n3_ := Aside0.mk (Kd.R_elder' zq4_5 (Kd.R_base ho0) hb); have n4_ := Aside0.mk (Kd.R_below zq4_6 hb); have n5_ := Aside0.mk (Kd.R_lower (Kd.R_new' ho0 (Kd.R_lt zq4_5)) (below_size zq4_1)); have n6_ := Aside0.mk (below_step zq4_1 hb); clear HO302; clear HO305; clear HO308; clear HO311; clear HO314; clear HB; have HO302 := n0_; have HO305 := n1_; have HO308 := n2_; have HO311 := n3_; have HO314 := n4_; have HO317 := n5_; have HB := n6_; clear n0_ n1_ n2_ n3_ n4_ n5_ n6_; (try clear hb); (try clear hb2); (try clear hk); (try clear hi); (try clear ho0); obtain ⟨Ao31, co31, eo31⟩ := Kd.R_slice HO317.out; subst eo31) | ((with_reducible refine gate_callee (f := 20) rfl ?_); refine goesL_ (some 25) rfl rfl Try.func20 (by kernel_rfl) rfl #[.slice Ao31 t315.length co31] rfl zq4_0 ?_; (with_reducible refine (cenotaphlaw01_From.calls k _ _ t315 t318 _ ?side1 ?side2 A13.out).mono ?_); (case side1 => repeat (first | exact (Kd.R_reads' HO317.out).2.2 | (with_reducible refine Kd.C_alloc ?_ _) | (with_reducible refine Kd.C_drewN ?_ _) | (with_reducible refine Kd.C_drew ?_))); (case side2 => exact (Kd.R_reads' HO317.out).2.1); rintro e w32 ⟨v319, rfl, ho0, hb⟩; refine ⟨_, rfl, ?_⟩; have n0_ := Aside0.mk (Kd.R_elder' zq4_2 (Kd.R_base ho0) hb); have n1_ := Aside0.mk (Kd.R_below zq4_3 hb); have n2_ := Aside0.mk (Kd.R_below zq4_4 hb); have n3_ := Aside0.mk (Kd.R_below zq4_5 hb); have n4_ := Aside0.mk (Kd.R_below zq4_6 hb); have n5_ := Aside0.mk (Kd.R_below zq4_7 hb); have n6_ := Aside0.mk (Kd.R_lower (Kd.R_new' ho0 (Kd.R_lt zq4_2)) (below_size zq4_1)); have n7_ := Aside0.mk (below_step zq4_1 hb); clear HO302; clear HO305; clear HO308; clear HO311; clear HO314; clear HO317; clear HB; have HO302 := n0_; have HO305 := n1_; have HO308 := n2_; have HO311 := n3_; have HO314 := n4_; have HO317 := n5_; have HO320 := n6_; have HB := n7_; clear n0_ n1_ n2_ n3_ n4_ n5_ n6_ n7_; (try clear hb); (try clear hb2); (try clear hk); (try clear hi); (try clear ho0)) | ((with_reducible refine gate_callee (f := 22) rfl ?_); refine goesL_ (some 27) rfl rfl Try.func22 (by kernel_rfl) rfl #[.slice Ao24 t300.length co24] rfl zq4_0 ?_; (with_reducible refine (cenotaphlaw01_To.calls k _ _ t300 t321 _ ?side1 ?side2 A14.out).mono ?_); (case side1 => repeat (first | exact (Kd.R_reads' HO302.out).2.2 | (with_reducible refine Kd.C_alloc ?_ _) | (with_reducible refine Kd.C_drewN ?_ _) | (with_reducible refine Kd.C_drew ?_))); (case side2 => exact (Kd.R_reads' HO302.out).2.1); rintro e w33 ⟨v322, rfl, ho0, hb⟩; refine ⟨_, rfl, ?_⟩; have n0_ := Aside0.mk (Kd.R_below zq4_2 hb); have n1_ := Aside0.mk (Kd.R_below zq4_3 hb); have n2_ := Aside0.mk (Kd.R_below zq4_4 hb); have n3_ := Aside0.mk (Kd.R_elder' zq4_5 (Kd.R_base ho0) hb); have n4_ := Aside0.mk (Kd.R_below zq4_6 hb); have n5_ := Aside0.mk (Kd.R_elder' zq4_7 (Kd.R_base ho0) hb); have n6_ := Aside0.mk (Kd.R_below zq4_8 hb); have n7_ := Aside0.mk (Kd.R_lower (Kd.R_new' (Kd.R_new' ho0 (Kd.R_lt zq4_5)) (Kd.R_lt zq4_7)) (below_size zq4_1)); have n8_ := Aside0.mk (below_step zq4_1 hb); clear HO302; clear HO305; clear HO308; clear HO311; clear HO314; clear HO317; clear HO320; clear HB; have HO302 := n0_; have HO305 := n1_; have HO308 := n2_; have HO311 := n3_; have HO314 := n4_; have HO317 := n5_; have HO320 := n6_; have HO323 := n7_; have HB := n8_; clear n0_ n1_ n2_ n3_ n4_ n5_ n6_ n7_ n8_; (try clear hb); (try clear hb2); (try clear hk); (try clear hi); (try clear ho0)) | ((with_reducible refine gate_callee (f := 7) rfl ?_); refine goesL_ (some 29) rfl rfl Try.func7 (by kernel_rfl) rfl #[.slice Ao26 t303.length co26] rfl zq4_0 ?_; (with_reducible refine (cenotaphlaw03_To.calls k _ _ t303 t324 _ ?side1 ?side2 A15.out).mono ?_); (case side1 => repeat (first | exact (Kd.R_reads' HO305.out).2.2 | (with_reducible refine Kd.C_alloc ?_ _) | (with_reducible refine Kd.C_drewN ?_ _) | (with_reducible refine Kd.C_drew ?_))); (case side2 => exact (Kd.R_reads' HO305.out).2.1); rintro e w34 ⟨v325, rfl, ho0, hb⟩; refine ⟨_, rfl, ?_⟩; have n0_ := Aside0.mk (Kd.R_below zq4_2 hb); have n1_ := Aside0.mk (Kd.R_below zq4_3 hb); have n2_ := Aside0.mk (Kd.R_below zq4_4 hb); have n3_ := Aside0.mk (Kd.R_below zq4_5 hb); have n4_ := Aside0.mk (Kd.R_elder' zq4_6 (Kd.R_base ho0) hb); have n5_ := Aside0.mk (Kd.R_below zq4_7 hb); have n6_ := Aside0.mk (Kd.R_below zq4_8 hb); have n7_ := Aside0.mk (Kd.R_below zq4_9 hb); have n8_ := Aside0.mk (Kd.R_lower (Kd.R_new' ho0 (Kd.R_lt zq4_6)) (below_size zq4_1)); have n9_ := Aside0.mk (below_step zq4_1 hb); clear HO302; clear HO305; clear HO308; clear HO311; clear HO314; clear HO317; clear HO320; clear HO323; clear HB; have HO302 := n0_; have HO305 := n1_; have HO308 := n2_; have HO311 := n3_; have HO314 := n4_; have HO317 := n5_; have HO320 := n6_; have HO323 := n7_; have HO326 := n8_; have HB := n9_; clear n0_ n1_ n2_ n3_ n4_ n5_ n6_ n7_ n8_ n9_; (try clear hb); (try clear hb2); (try clear hk); (try clear hi); (try clear ho0); obtain ⟨Ao35, co35, eo35⟩ := Kd.R_slice HO308.out; subst eo35) | ((with_reducible refine gate_callee (f := 7) rfl ?_); refine goesL_ (some 31) rfl rfl Try.func7 (by kernel_rfl) rfl #[.slice Ao35 t306.length co35] rfl zq4_0 ?_; (with_reducible refine (cenotaphlaw03_To.calls k _ _ t306 t327 _ ?side1 ?side2 A16.out).mono ?_); (case side1 => repeat (first | exact (Kd.R_reads' HO308.out).2.2 | (with_reducible refine Kd.C_alloc ?_ _) | (with_reducible refine Kd.C_drewN ?_ _) | (with_reducible refine Kd.C_drew ?_))); (case side2 => exact (Kd.R_reads' HO308.out).2.1); rintro e w36 ⟨v328, rfl, ho0, hb⟩; refine ⟨_, rfl, ?_⟩; have n0_ := Aside0.mk (Kd.R_below zq4_2 hb); have n1_ := Aside0.mk (Kd.R_below zq4_3 hb); have n2_ := Aside0.mk (Kd.R_below zq4_4 hb); have n3_ := Aside0.mk (Kd.R_below zq4_5 hb); have n4_ := Aside0.mk (Kd.R_elder' zq4_6 (Kd.R_base ho0) hb); have n5_ := Aside0.mk (Kd.R_below zq4_7 hb); have n6_ := Aside0.mk (Kd.R_below zq4_8 hb); have n7_ := Aside0.mk (Kd.R_below zq4_9 hb); have n8_ := Aside0.mk (Kd.R_elder' zq4_10 (Kd.R_base ho0) hb); have n9_ := Aside0.mk (Kd.R_lower (Kd.R_new' (Kd.R_new' ho0 (Kd.R_lt zq4_6)) (Kd.R_lt zq4_10)) (below_size zq4_1)); have n10_ := Aside0.mk (below_step zq4_1 hb); clear HO302; clear HO305; clear HO308; clear HO311; clear HO314; clear HO317; clear HO320; clear HO323; clear HO326; clear HB; have HO302 := n0_; have HO305 := n1_; have HO308 := n2_; have HO311 := n3_; have HO314 := n4_; have HO317 := n5_; have HO320 := n6_; have HO323 := n7_; have HO326 := n8_; have HO329 := n9_; have HB := n10_; clear n0_ n1_ n2_ n3_ n4_ n5_ n6_ n7_ n8_ n9_ n10_; (try clear hb); (try clear hb2); (try clear hk); (try clear hi); (try clear ho0); obtain ⟨Ao37, co37, eo37⟩ := Kd.R_slice HO326.out; subst eo37; obtain ⟨Ao38, co38, eo38⟩ := Kd.R_slice HO329.out; subst eo38) | ((with_reducible refine gate_callee (f := 23) rfl ?_); refine goesL_ (some 32) rfl rfl Try.func23 (by kernel_rfl) rfl #[.slice Ao37 t324.length co37, .slice Ao38 t327.length co38] rfl zq4_0 ?_; (with_reducible refine (cert_Merge.calls k _ _ t324 _ _ t327 t330 _ ?side1 ?side2 ?side3 ?side4 A17.out).mono ?_); (case side1 => repeat (first | exact (Kd.R_reads' HO326.out).2.2 | (with_reducible refine Kd.C_alloc ?_ _) | (with_reducible refine Kd.C_drewN ?_ _) | (with_reducible refine Kd.C_drew ?_))); (case side2 => exact (Kd.R_reads' HO326.out).2.1); (case side3 => repeat (first | exact (Kd.R_reads' HO329.out).2.2 | (with_reducible refine Kd.C_alloc ?_ _) | (with_reducible refine Kd.C_drewN ?_ _) | (with_reducible refine Kd.C_drew ?_))); (case side4 => exact (Kd.R_reads' HO329.out).2.1); rintro e w39 ⟨v331, rfl, ho0, hb⟩; refine ⟨_, rfl, ?_⟩; have n0_ := Aside0.mk (Kd.R_below zq4_2 hb); have n1_ := Aside0.mk (Kd.R_below zq4_3 hb); have n2_ := Aside0.mk (Kd.R_below zq4_4 hb); have n3_ := Aside0.mk (Kd.R_below zq4_5 hb); have n4_ := Aside0.mk (Kd.R_elder' zq4_6 (Kd.R_base ho0) hb); have n5_ := Aside0.mk (Kd.R_below zq4_7 hb); have n6_ := Aside0.mk (Kd.R_below zq4_8 hb); have n7_ := Aside0.mk (Kd.R_below zq4_9 hb); have n8_ := Aside0.mk (Kd.R_elder' zq4_10 (Kd.R_base ho0) hb); have n9_ := Aside0.mk (Kd.R_elder' zq4_11 (Kd.R_base ho0) hb); have n10_ := Aside0.mk (Kd.R_lower (Kd.R_new' (Kd.R_new' (Kd.R_new' ho0 (Kd.R_lt zq4_6)) (Kd.R_lt zq4_10)) (Kd.R_lt zq4_11)) (below_size zq4_1)); have n11_ := Aside0.mk (below_step zq4_1 hb); clear HO302; clear HO305; clear HO308; clear HO311; clear HO314; clear HO317; clear HO320; clear HO323; clear HO326; clear HO329; clear HB; have HO302 := n0_; have HO305 := n1_; have HO308 := n2_; have HO311 := n3_; have HO314 := n4_; have HO317 := n5_; have HO320 := n6_; have HO323 := n7_; have HO326 := n8_; have HO329 := n9_; have HO332 := n10_; have HB := n11_; clear n0_ n1_ n2_ n3_ n4_ n5_ n6_ n7_ n8_ n9_ n10_ n11_; (try clear hb); (try clear hb2); (try clear hk); (try clear hi); (try clear ho0); obtain ⟨Ao40, co40, eo40⟩ := Kd.R_slice HO323.out; subst eo40; obtain ⟨Ao41, co41, eo41⟩ := Kd.R_slice HO332.out; subst eo41) | ((with_reducible refine gate_callee (f := 21) rfl ?_); refine goesL_ (some 33) rfl rfl Try.func21 (by kernel_rfl) rfl #[.slice Ao40 t321.length co40, .slice Ao41 t330.length co41] rfl zq4_0 ?_; (with_reducible refine (cert_Live.calls _ _ t321 _ _ t330 t333 _ ?side1 ?side2 ?side3 ?side4 A18.out).mono ?_); (case side1 => repeat (first | exact (Kd.R_reads' HO323.out).2.2 | (with_reducible refine Kd.C_alloc ?_ _) | (with_reducible refine Kd.C_drewN ?_ _) | (with_reducible refine Kd.C_drew ?_))); (case side2 => exact (Kd.R_reads' HO323.out).2.1); (case side3 => repeat (first | exact (Kd.R_reads' HO332.out).2.2 | (with_reducible refine Kd.C_alloc ?_ _) | (with_reducible refine Kd.C_drewN ?_ _) | (with_reducible refine Kd.C_drew ?_))); (case side4 => exact (Kd.R_reads' HO332.out).2.1); rintro e w42 ⟨v334, rfl, ho0, hb⟩; refine ⟨_, rfl, ?_⟩; have n0_ := Aside0.mk (Kd.R_below zq4_2 hb); have n1_ := Aside0.mk (Kd.R_below zq4_3 hb); have n2_ := Aside0.mk (Kd.R_below zq4_4 hb); have n3_ := Aside0.mk (Kd.R_elder' zq4_5 (Kd.R_base ho0) hb); have n4_ := Aside0.mk (Kd.R_below zq4_6 hb); have n5_ := Aside0.mk (Kd.R_elder' zq4_7 (Kd.R_base ho0) hb); have n6_ := Aside0.mk (Kd.R_below zq4_8 hb); have n7_ := Aside0.mk (Kd.R_elder' zq4_9 (Kd.R_base ho0) hb); have n8_ := Aside0.mk (Kd.R_below zq4_10 hb); have n9_ := Aside0.mk (Kd.R_below zq4_11 hb); have n10_ := Aside0.mk (Kd.R_below (by (with_reducible repeat (first | apply Kd.R_alloc | apply Kd.R_drewN | apply Kd.R_drew)); exact HO332.out) hb); have n11_ := Aside0.mk (Kd.R_lower (Kd.R_new' (Kd.R_new' (Kd.R_new' ho0 (Kd.R_lt zq4_5)) (Kd.R_lt zq4_7)) (Kd.R_lt zq4_9)) (below_size zq4_1)); have n12_ := Aside0.mk (below_step zq4_1 hb); clear HO302; clear HO305; clear HO308; clear HO311; clear HO314; clear HO317; clear HO320; clear HO323; clear HO326; clear HO329; clear HO332; clear HB; have HO302 := n0_; have HO305 := n1_; have HO308 := n2_; have HO311 := n3_; have HO314 := n4_; have HO317 := n5_; have HO320 := n6_; have HO323 := n7_; have HO326 := n8_; have HO329 := n9_; have HO332 := n10_; have HO335 := n11_; have HB := n12_; clear n0_ n1_ n2_ n3_ n4_ n5_ n6_ n7_ n8_ n9_ n10_ n11_ n12_; (try clear hb); (try clear hb2); (try clear hk); (try clear hi); (try clear ho0); obtain ⟨Ao43, co43, eo43⟩ := Kd.R_slice HO335.out; subst eo43) | ((with_reducible refine gate_callee (f := 20) rfl ?_); refine goesL_ (some 34) rfl rfl Try.func20 (by kernel_rfl) rfl #[.slice Ao43 t333.length co43] rfl zq4_0 ?_; (with_reducible refine (cenotaphlaw01_From.calls k _ _ t333 t336 _ ?side1 ?side2 A19.out).mono ?_); (case side1 => repeat (first | exact (Kd.R_reads' HO335.out).2.2 | (with_reducible refine Kd.C_alloc ?_ _) | (with_reducible refine Kd.C_drewN ?_ _) | (with_reducible refine Kd.C_drew ?_))); (case side2 => exact (Kd.R_reads' HO335.out).2.1); rintro e w44 ⟨v337, rfl, ho0, hb⟩; refine ⟨_, rfl, ?_⟩; have n0_ := Aside0.mk (Kd.R_elder' zq4_2 (Kd.R_base ho0) hb); have n1_ := Aside0.mk (Kd.R_below zq4_3 hb); have n2_ := Aside0.mk (Kd.R_below zq4_4 hb); have n3_ := Aside0.mk (Kd.R_below zq4_5 hb); have n4_ := Aside0.mk (Kd.R_below zq4_6 hb); have n5_ := Aside0.mk (Kd.R_below zq4_7 hb); have n6_ := Aside0.mk (Kd.R_elder' zq4_8 (Kd.R_base ho0) hb); have n7_ := Aside0.mk (Kd.R_below zq4_9 hb); have n8_ := Aside0.mk (Kd.R_below zq4_10 hb); have n9_ := Aside0.mk (Kd.R_below zq4_11 hb); have n10_ := Aside0.mk (Kd.R_below (by (with_reducible repeat (first | apply Kd.R_alloc | apply Kd.R_drewN | apply Kd.R_drew)); exact HO332.out) hb); have n11_ := Aside0.mk (Kd.R_below (by (with_reducible repeat (first | apply Kd.R_alloc | apply Kd.R_drewN | apply Kd.R_drew)); exact HO335.out) hb); have n12_ := Aside0.mk (Kd.R_lower (Kd.R_new' (Kd.R_new' ho0 (Kd.R_lt zq4_2)) (Kd.R_lt zq4_8)) (below_size zq4_1)); have n13_ := Aside0.mk (below_step zq4_1 hb); clear HO302; clear HO305; clear HO308; clear HO311; clear HO314; clear HO317; clear HO320; clear HO323; clear HO326; clear HO329; clear HO332; clear HO335; clear HB; have HO302 := n0_; have HO305 := n1_; have HO308 := n2_; have HO311 := n3_; have HO314 := n4_; have HO317 := n5_; have HO320 := n6_; have HO323 := n7_; have HO326 := n8_; have HO329 := n9_; have HO332 := n10_; have HO335 := n11_; have HO338 := n12_; have HB := n13_; clear n0_ n1_ n2_ n3_ n4_ n5_ n6_ n7_ n8_ n9_ n10_ n11_ n12_ n13_; (try clear hb); (try clear hb2); (try clear hk); (try clear hi); (try clear ho0)))
   go_loopg [9] k (fun kq v9 w' => ∃ (x9_1 : Int), v9 = .int .i64 x9_1 ∧ Aside0 (cenotaphlaw09_CertLives.l0 kq t300 t303 t306 t318 t336 x9_1 = some r) ∧ Aside0 (kq ≤ k) ∧ Aside0 (Kd.R Kd.string 9 w' w.heap.size (fun k_ => some k_ ≠ (v319 : Value).ownBlock ∧ some k_ ≠ (v337 : Value).ownBlock) (.slice Ao24 t300.length co24) t300) ∧ Aside0 (Kd.R k56 56 w' w.heap.size (fun k_ => some k_ ≠ ((.slice Ao35 t306.length co35) : Value).ownBlock) (.slice Ao26 t303.length co26) t303) ∧ Aside0 (Kd.R k56 56 w' w.heap.size (fun k_ => some k_ ≠ ((.slice Ao26 t303.length co26) : Value).ownBlock) (.slice Ao35 t306.length co35) t306) ∧ Aside0 (Kd.R Kd.string 9 w' w.heap.size (fun k_ => some k_ ≠ ((.slice Ao24 t300.length co24) : Value).ownBlock ∧ some k_ ≠ (v337 : Value).ownBlock) v319 t318) ∧ Aside0 (Kd.R Kd.string 9 w' w.heap.size (fun k_ => some k_ ≠ ((.slice Ao24 t300.length co24) : Value).ownBlock ∧ some k_ ≠ (v319 : Value).ownBlock) v337 t336) ∧ Aside0 (Below w.heap.size w w'))
   case atStart => exact ⟨(0), (by first | rfl | (simp; done) | (simp [*]; done)), H', ⟨Nat.le_refl _⟩, ⟨by (with_reducible repeat (first | apply Kd.R_alloc | apply Kd.R_drewN | apply Kd.R_drew)); exact Kd.R_mono HO302.out (fun _ hk => ⟨hk.1.2, hk.2⟩)⟩, ⟨by (with_reducible repeat (first | apply Kd.R_alloc | apply Kd.R_drewN | apply Kd.R_drew)); exact Kd.R_mono HO305.out (fun _ hk => hk.2)⟩, ⟨by (with_reducible repeat (first | apply Kd.R_alloc | apply Kd.R_drewN | apply Kd.R_drew)); exact Kd.R_mono HO308.out (fun _ hk => hk.2)⟩, ⟨by (with_reducible repeat (first | apply Kd.R_alloc | apply Kd.R_drewN | apply Kd.R_drew)); exact Kd.R_mono HO320.out (fun _ hk => ⟨hk.1.2, hk.2⟩)⟩, ⟨by (with_reducible repeat (first | apply Kd.R_alloc | apply Kd.R_drewN | apply Kd.R_drew)); exact Kd.R_mono HO338.out (fun _ hk => ⟨hk.1.2, hk.2⟩)⟩, ⟨by repeat (first | (with_reducible first | exact HB.out | apply below_alloc | apply pw_below_drewN | apply below_drew1) | exact HB.out)⟩⟩
   case round =>
    clear H'
    try clear c1
    try clear c2
    try clear p2
    try clear c4
    try clear c5
    try clear c5b0
    try clear c5b1
    try clear c6
    try clear c6b0
    try clear c6b1
    try clear c7
    try clear c19
    try clear c20
    try clear c21
    try clear c22
    try clear c23
    obtain ⟨x9_1, rfl, HA, HK1, HO_0, HO_1, HO_2, HO_7, HO_8, HB⟩ := hrel
    cases gk with
    | zero => exact absurd HA.out (by simp [cenotaphlaw09_CertLives.l0])
    | succ k1 =>
     have H := HA.out
     clear HA
     simp only [cenotaphlaw09_CertLives.l0] at H
     by_cases c45 : x9_1 < (t336.length : Int)
     ·rw [if_pos c45] at H
      have c45b0 : decide (x9_1 < (t336.length : Int)) = true := decide_eq_true c45
      clear c45
      by_cases c46 : 0 ≤ x9_1
      ·rw [if_pos c46] at H
       have c46b0 : decide (0 ≤ x9_1) = true := decide_eq_true c46
       clear c46
       replace H := Option.bind_eq_some_iff.mp H
       obtain ⟨t340, A470, H⟩ := H
       replace H : (if t340 = true then (cenotaphlaw09_CertLives.l0 k1 t300 t303 t306 t318 t336 (wrap64 (x9_1 + 1))) else (none)) = some r := H
       have A47 := Aside0.mk A470
       clear A470
       by_cases c48 : t340 = true
       ·subst c48
        have H1 : (cenotaphlaw09_CertLives.l0 k1 t300 t303 t306 t318 t336 (wrap64 (x9_1 + 1))) = some r := by rw [if_pos rfl] at H; exact H
        clear H
        have H := H1
        clear H1
        have H' := Aside0.mk H
        clear H
        obtain ⟨Ao49, co49, eo49⟩ := Kd.R_slice HO_8.out
        subst eo49
        have p339 : 0 ≤ (x9_1 : Int) := of_decide_eq_true zq4_18
        have q339 : x9_1 < (t336.length : Int) := of_decide_eq_true zq4_18
        obtain ⟨ad339, e339, hx339_0⟩ := Kd.at_string (Kd.R_reads' HO_8.out).2.2 x9_1 p339 q339
        cases e339
        replace p339 := eq_true p339
        replace q339 := eq_true q339
        obtain ⟨Ao50, co50, eo50⟩ := Kd.R_slice HO_7.out
        subst eo50
        go_wp2_with (first | ((with_reducible refine gate_callee (f := 24) rfl ?_); refine goesL_ (some 46) rfl rfl Try.func24 (by kernel_rfl) rfl #[.slice Ao50 t318.length co50, .string (rdOf ByteArray.empty t336 x9_1)] rfl zq4_0 ?_; (with_reducible refine (cenotaphref01_Has.calls k1 _ _ t318 (rdOf ByteArray.empty t336 x9_1) true _ ?side1 ?side2 A47.out).mono ?_); (case side1 => repeat (first | exact (Kd.R_reads' HO_7.out).2.2 | (with_reducible refine Kd.C_alloc ?_ _) | (with_reducible refine Kd.C_drewN ?_ _) | (with_reducible refine Kd.C_drew ?_))); (case side2 => exact (Kd.R_reads' HO_7.out).2.1); rintro e w' ⟨rfl, ⟨nd, rfl⟩⟩; refine ⟨_, rfl, ?_⟩))
        go_roundg k1
        case measure => have := HK1.out; omega
        case rel => exact ⟨(wrap64 (x9_1 + 1)), (by first | rfl | (simp; done) | (simp [*]; done)), H', ⟨by have := HK1.out; omega⟩, ⟨by (with_reducible repeat (first | apply Kd.R_alloc | apply Kd.R_drewN | apply Kd.R_drew)); exact HO_0.out⟩, ⟨by (with_reducible repeat (first | apply Kd.R_alloc | apply Kd.R_drewN | apply Kd.R_drew)); exact HO_1.out⟩, ⟨by (with_reducible repeat (first | apply Kd.R_alloc | apply Kd.R_drewN | apply Kd.R_drew)); exact HO_2.out⟩, ⟨by (with_reducible repeat (first | apply Kd.R_alloc | apply Kd.R_drewN | apply Kd.R_drew)); exact HO_7.out⟩, ⟨by (with_reducible repeat (first | apply Kd.R_alloc | apply Kd.R_drewN | apply Kd.R_drew)); exact HO_8.out⟩, ⟨by repeat (first | (with_reducible first | exact HB.out | apply below_alloc | apply pw_below_drewN | apply below_drew1) | exact HB.out)⟩⟩
       ·replace c48 := Bool.eq_false_iff.mpr c48
        subst c48
        have H1 : (none) = some r := by rw [if_neg (show ¬ (false = true) by decide)] at H; exact H
        clear H
        have H := H1
        clear H1
        exact absurd H (by simp)
      ·rw [if_neg c46] at H
       exact absurd H (by simp)
     ·rw [if_neg c45] at H
      have c45b0 : decide (x9_1 < (t336.length : Int)) = false := decide_eq_false c45
      clear c45
      replace H := Option.bind_eq_some_iff.mp H
      obtain ⟨t341, A510, H⟩ := H
      replace H : (if t341 = true then ((cenotaphref09_Live.f k1 t300 t303).bind fun t342 => ((cenotaphref01_Same.f k1 t318 t342).bind fun t345 => (if t345 = true then ((cenotaphref03_Join.f k1 t303 t306).bind fun t346 => ((cenotaphref09_Live.f k1 t300 t346).bind fun t349 => ((cenotaphref01_Same.f k1 t336 t349).bind fun t352 => (some t352)))) else (none)))) else (none)) = some r := H
      have A51 := Aside0.mk A510
      clear A510
      by_cases c52 : t341 = true
      ·subst c52
       have H1 : ((cenotaphref09_Live.f k1 t300 t303).bind fun t342 => ((cenotaphref01_Same.f k1 t318 t342).bind fun t345 => (if t345 = true then ((cenotaphref03_Join.f k1 t303 t306).bind fun t346 => ((cenotaphref09_Live.f k1 t300 t346).bind fun t349 => ((cenotaphref01_Same.f k1 t336 t349).bind fun t352 => (some t352)))) else (none)))) = some r := by rw [if_pos rfl] at H; exact H
       clear H
       have H := H1
       clear H1
       replace H := Option.bind_eq_some_iff.mp H
       obtain ⟨t342, A530, H⟩ := H
       replace H : ((cenotaphref01_Same.f k1 t318 t342).bind fun t345 => (if t345 = true then ((cenotaphref03_Join.f k1 t303 t306).bind fun t346 => ((cenotaphref09_Live.f k1 t300 t346).bind fun t349 => ((cenotaphref01_Same.f k1 t336 t349).bind fun t352 => (some t352)))) else (none))) = some r := H
       have A53 := Aside0.mk A530
       clear A530
       replace H := Option.bind_eq_some_iff.mp H
       obtain ⟨t345, A540, H⟩ := H
       replace H : (if t345 = true then ((cenotaphref03_Join.f k1 t303 t306).bind fun t346 => ((cenotaphref09_Live.f k1 t300 t346).bind fun t349 => ((cenotaphref01_Same.f k1 t336 t349).bind fun t352 => (some t352)))) else (none)) = some r := H
       have A54 := Aside0.mk A540
       clear A540
       by_cases c55 : t345 = true
       ·subst c55
        have H1 : ((cenotaphref03_Join.f k1 t303 t306).bind fun t346 => ((cenotaphref09_Live.f k1 t300 t346).bind fun t349 => ((cenotaphref01_Same.f k1 t336 t349).bind fun t352 => (some t352)))) = some r := by rw [if_pos rfl] at H; exact H
        clear H
        have H := H1
        clear H1
        replace H := Option.bind_eq_some_iff.mp H
        obtain ⟨t346, A560, H⟩ := H
        replace H : ((cenotaphref09_Live.f k1 t300 t346).bind fun t349 => ((cenotaphref01_Same.f k1 t336 t349).bind fun t352 => (some t352))) = some r := H
        have A56 := Aside0.mk A560
        clear A560
        replace H := Option.bind_eq_some_iff.mp H
        obtain ⟨t349, A570, H⟩ := H
        replace H : ((cenotaphref01_Same.f k1 t336 t349).bind fun t352 => (some t352)) = some r := H
        have A57 := Aside0.mk A570
        clear A570
        replace H := Option.bind_eq_some_iff.mp H
        obtain ⟨t352, A580, H⟩ := H
        replace H : (some t352) = some r := H
        have A58 := Aside0.mk A580
        clear A580
        obtain rfl := Option.some.inj H
        obtain ⟨Ao59, co59, eo59⟩ := Kd.R_slice HO_8.out
        subst eo59
        go_wp2_with (first | ((with_reducible refine gate_callee (f := 10) rfl ?_); refine goesL_ (some 48) rfl rfl Try.func10 (by kernel_rfl) rfl #[] rfl zq4_0 ?_; (with_reducible refine (cenotaphlaw09_told.calls  true _ A51.out).mono ?_); rintro e w60 ⟨rfl, hb⟩; refine ⟨_, rfl, ?_⟩; have n0_ := Aside0.mk (Kd.R_below zq4_13 hb); have n1_ := Aside0.mk (Kd.R_below zq4_14 hb); have n2_ := Aside0.mk (Kd.R_below zq4_15 hb); have n3_ := Aside0.mk (Kd.R_below zq4_16 hb); have n4_ := Aside0.mk (Kd.R_below zq4_17 hb); have n5_ := Aside0.mk (below_step zq4_1 hb); clear HO_0; clear HO_1; clear HO_2; clear HO_7; clear HO_8; clear HB; have HO_0 := n0_; have HO_1 := n1_; have HO_2 := n2_; have HO_7 := n3_; have HO_8 := n4_; have HB := n5_; clear n0_ n1_ n2_ n3_ n4_ n5_; (try clear hb); (try clear hb2); (try clear hk); (try clear hi)) | (go_at_call 26; (with_reducible refine (cenotaphref09_Live.calls k1 _ _ t300 _ _ t303 t342 _ ?side1 ?side2 ?side3 ?side4 A53.out).mono ?_); (case side1 => repeat (first | exact (Kd.R_reads' HO_0.out).2.2 | (with_reducible refine Kd.C_alloc ?_ _) | (with_reducible refine Kd.C_drewN ?_ _) | (with_reducible refine Kd.C_drew ?_))); (case side2 => exact (Kd.R_reads' HO_0.out).2.1); (case side3 => repeat (first | exact (Kd.R_reads' HO_1.out).2.2 | (with_reducible refine Kd.C_alloc ?_ _) | (with_reducible refine Kd.C_drewN ?_ _) | (with_reducible refine Kd.C_drew ?_))); (case side4 => exact (Kd.R_reads' HO_1.out).2.1); rintro e w61 ⟨v343, rfl, ho0, hb⟩; have n0_ := Aside0.mk (Kd.R_elder' zq4_13 (Kd.R_base ho0) hb); have n1_ := Aside0.mk (Kd.R_below zq4_14 hb); have n2_ := Aside0.mk (Kd.R_below zq4_15 hb); have n3_ := Aside0.mk (Kd.R_elder' zq4_16 (Kd.R_base ho0) hb); have n4_ := Aside0.mk (Kd.R_elder' zq4_17 (Kd.R_base ho0) hb); have n5_ := Aside0.mk (Kd.R_lower (Kd.R_new' (Kd.R_new' (Kd.R_new' ho0 (Kd.R_lt zq4_13)) (Kd.R_lt zq4_16)) (Kd.R_lt zq4_17)) (below_size zq4_1)); have n6_ := Aside0.mk (below_step zq4_1 hb); clear HO_0; clear HO_1; clear HO_2; clear HO_7; clear HO_8; clear HB; have HO_0 := n0_; have HO_1 := n1_; have HO_2 := n2_; have HO_7 := n3_; have HO_8 := n4_; have HO344 := n5_; have HB := n6_; clear n0_ n1_ n2_ n3_ n4_ n5_ n6_; (try clear hb); (try clear hb2); (try clear hk); (try clear hi); (try clear ho0); obtain ⟨Ao62, co62, eo62⟩ := Kd.R_slice HO_7.out; subst eo62; obtain ⟨Ao63, co63, eo63⟩ := Kd.R_slice HO344.out; subst eo63) | (go_at_call 25; (with_reducible refine (cenotaphref01_Same.calls k1 _ _ t318 _ _ t342 true _ ?side1 ?side2 ?side3 ?side4 A54.out).mono ?_); (case side1 => repeat (first | exact (Kd.R_reads' HO_7.out).2.2 | (with_reducible refine Kd.C_alloc ?_ _) | (with_reducible refine Kd.C_drewN ?_ _) | (with_reducible refine Kd.C_drew ?_))); (case side2 => exact (Kd.R_reads' HO_7.out).2.1); (case side3 => repeat (first | exact (Kd.R_reads' HO344.out).2.2 | (with_reducible refine Kd.C_alloc ?_ _) | (with_reducible refine Kd.C_drewN ?_ _) | (with_reducible refine Kd.C_drew ?_))); (case side4 => exact (Kd.R_reads' HO344.out).2.1); rintro e w' ⟨rfl, ⟨nd, rfl⟩⟩) | (go_at_call 27; (with_reducible refine (cenotaphref03_Join.calls k1 _ _ t303 _ _ t306 t346 _ ?side1 ?side2 ?side3 ?side4 A56.out).mono ?_); (case side1 => repeat (first | exact (Kd.R_reads' HO_1.out).2.2 | (with_reducible refine Kd.C_alloc ?_ _) | (with_reducible refine Kd.C_drewN ?_ _) | (with_reducible refine Kd.C_drew ?_))); (case side2 => exact (Kd.R_reads' HO_1.out).2.1); (case side3 => repeat (first | exact (Kd.R_reads' HO_2.out).2.2 | (with_reducible refine Kd.C_alloc ?_ _) | (with_reducible refine Kd.C_drewN ?_ _) | (with_reducible refine Kd.C_drew ?_))); (case side4 => exact (Kd.R_reads' HO_2.out).2.1); rintro e w64 ⟨v347, rfl, ho0, hb⟩; have n0_ := Aside0.mk (Kd.R_below zq4_13 hb); have n1_ := Aside0.mk (Kd.R_elder' zq4_14 (Kd.R_base ho0) hb); have n2_ := Aside0.mk (Kd.R_elder' zq4_15 (Kd.R_base ho0) hb); have n3_ := Aside0.mk (Kd.R_below zq4_16 hb); have n4_ := Aside0.mk (Kd.R_below zq4_17 hb); have n5_ := Aside0.mk (Kd.R_below zq4_12 hb); have n6_ := Aside0.mk (Kd.R_lower (Kd.R_new' (Kd.R_new' ho0 (Kd.R_lt zq4_14)) (Kd.R_lt zq4_15)) (below_size zq4_1)); have n7_ := Aside0.mk (below_step zq4_1 hb); clear HO_0; clear HO_1; clear HO_2; clear HO_7; clear HO_8; clear HO344; clear HB; have HO_0 := n0_; have HO_1 := n1_; have HO_2 := n2_; have HO_7 := n3_; have HO_8 := n4_; have HO344 := n5_; have HO348 := n6_; have HB := n7_; clear n0_ n1_ n2_ n3_ n4_ n5_ n6_ n7_; (try clear hb); (try clear hb2); (try clear hk); (try clear hi); (try clear ho0); obtain ⟨Ao65, co65, eo65⟩ := Kd.R_slice HO348.out; subst eo65) | (go_at_call 26; (with_reducible refine (cenotaphref09_Live.calls k1 _ _ t300 _ _ t346 t349 _ ?side1 ?side2 ?side3 ?side4 A57.out).mono ?_); (case side1 => repeat (first | exact (Kd.R_reads' HO_0.out).2.2 | (with_reducible refine Kd.C_alloc ?_ _) | (with_reducible refine Kd.C_drewN ?_ _) | (with_reducible refine Kd.C_drew ?_))); (case side2 => exact (Kd.R_reads' HO_0.out).2.1); (case side3 => repeat (first | exact (Kd.R_reads' HO348.out).2.2 | (with_reducible refine Kd.C_alloc ?_ _) | (with_reducible refine Kd.C_drewN ?_ _) | (with_reducible refine Kd.C_drew ?_))); (case side4 => exact (Kd.R_reads' HO348.out).2.1); rintro e w66 ⟨v350, rfl, ho0, hb⟩; have n0_ := Aside0.mk (Kd.R_elder' zq4_13 (Kd.R_base ho0) hb); have n1_ := Aside0.mk (Kd.R_below zq4_14 hb); have n2_ := Aside0.mk (Kd.R_below zq4_15 hb); have n3_ := Aside0.mk (Kd.R_elder' zq4_16 (Kd.R_base ho0) hb); have n4_ := Aside0.mk (Kd.R_elder' zq4_17 (Kd.R_base ho0) hb); have n5_ := Aside0.mk (Kd.R_elder' zq4_12 (Kd.R_base ho0) hb); have n6_ := Aside0.mk (Kd.R_below (by (with_reducible repeat (first | apply Kd.R_alloc | apply Kd.R_drewN | apply Kd.R_drew)); exact HO348.out) hb); have n7_ := Aside0.mk (Kd.R_lower (Kd.R_new' (Kd.R_new' (Kd.R_new' (Kd.R_new' ho0 (Kd.R_lt zq4_13)) (Kd.R_lt zq4_16)) (Kd.R_lt zq4_17)) (Kd.R_lt zq4_12)) (below_size zq4_1)); have n8_ := Aside0.mk (below_step zq4_1 hb); clear HO_0; clear HO_1; clear HO_2; clear HO_7; clear HO_8; clear HO344; clear HO348; clear HB; have HO_0 := n0_; have HO_1 := n1_; have HO_2 := n2_; have HO_7 := n3_; have HO_8 := n4_; have HO344 := n5_; have HO348 := n6_; have HO351 := n7_; have HB := n8_; clear n0_ n1_ n2_ n3_ n4_ n5_ n6_ n7_ n8_; (try clear hb); (try clear hb2); (try clear hk); (try clear hi); (try clear ho0); obtain ⟨Ao67, co67, eo67⟩ := Kd.R_slice HO351.out; subst eo67) | (go_at_call 25; (with_reducible refine (cenotaphref01_Same.calls k1 _ _ t336 _ _ t349 t352 _ ?side1 ?side2 ?side3 ?side4 A58.out).mono ?_); (case side1 => repeat (first | exact (Kd.R_reads' HO_8.out).2.2 | (with_reducible refine Kd.C_alloc ?_ _) | (with_reducible refine Kd.C_drewN ?_ _) | (with_reducible refine Kd.C_drew ?_))); (case side2 => exact (Kd.R_reads' HO_8.out).2.1); (case side3 => repeat (first | exact (Kd.R_reads' HO351.out).2.2 | (with_reducible refine Kd.C_alloc ?_ _) | (with_reducible refine Kd.C_drewN ?_ _) | (with_reducible refine Kd.C_drew ?_))); (case side4 => exact (Kd.R_reads' HO351.out).2.1); rintro e w' ⟨rfl, ⟨nd, rfl⟩⟩))
        go_ret
        exact ⟨by first | rfl | (simp [errW_none, errW_some] <;> rfl) | (simp only [← hji4]; first | rfl | (simp [errW_none, errW_some] <;> rfl)) | (simp [*, errW_none, errW_some] <;> rfl), by repeat (first | (with_reducible first | exact HB.out | apply below_alloc | apply pw_below_drewN | apply below_drew1) | exact HB.out)⟩
       ·replace c55 := Bool.eq_false_iff.mpr c55
        subst c55
        have H1 : (none) = some r := by rw [if_neg (show ¬ (false = true) by decide)] at H; exact H
        clear H
        have H := H1
        clear H1
        exact absurd H (by simp)
      ·replace c52 := Bool.eq_false_iff.mpr c52
       subst c52
       have H1 : (none) = some r := by rw [if_neg (show ¬ (false = true) by decide)] at H; exact H
       clear H
       have H := H1
       clear H1
       exact absurd H (by simp)
  ·rw [if_neg c6] at H
   exact absurd H (by simp)
 ·rw [if_neg c5] at H
  exact absurd H (by simp)

end Go.Proofs.Ytloeealbggobjaa.P
