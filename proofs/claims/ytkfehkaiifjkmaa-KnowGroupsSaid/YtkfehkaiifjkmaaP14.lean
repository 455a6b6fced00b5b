-- Written by a program of this session (wip/pp.py over the kit's printer, with our own texts put in).
import Derived.Test.YtkfehkaiifjkmaaP0
import Derived.Test.YtkfehkaiifjkmaaP3
import Derived.Test.YtkfehkaiifjkmaaP4
import Derived.Test.YtkfehkaiifjkmaaP6
import Derived.Test.YtkfehkaiifjkmaaP9
namespace Go.Proofs.Ytkfehkaiifjkmaa.P
open Go.RowKit Go.Proofs.YtkfehkaiifjkmaaW.PrintWords Go.Proofs.YtkfehkaiifjkmaaW.PrintLast Go.Proofs.YtkfehkaiifjkmaaW.PrintMore
attribute [local go_sem] max2_int min2_int max_two min_two max_three min_three max_four min_four   -- for this text's walks alone
set_option linter.unusedVariables false
set_option linter.unusedSimpArgs false

/-! ### cenotaphlaw04_KnowGroups: function 6 -/
def cenotaphlaw04_KnowGroups.f (k : Nat) (l0 : List S27) (l1 : List S27) (l2 : List S27) : Option Bool := (cenotaphref04_Fix.f k l0).bind fun a => (cenotaphlaw04_To.f k a).bind fun x => (cenotaphref04_Fix.f k l1).bind fun b => (cenotaphlaw04_To.f k b).bind fun y => (cenotaphref04_Fix.f k l2).bind fun c => (cenotaphlaw04_To.f k c).bind fun z => (know_Union.f k x y).bind fun u => (know_Union.f k u z).bind fun r1 => (know_Union.f k y z).bind fun v1 => (know_Union.f k x v1).bind fun s1 => (know_Union.f k x x).bind fun p1 => (know_Count.f k u).bind fun cu => (know_Count.f k x).bind fun cx => (know_Count.f k y).bind fun cy => (know_Same.f k x y).bind fun sm => (know_Within.f k x y).bind fun i1 => (know_Within.f k y x).bind fun i2 => 
 if cenotaphlaw04_told.f k = some true ∧ know_Same.f k r1 s1 = some true ∧ know_Same.f k p1 x = some true ∧ sm = (i1 && i2) ∧ cu ≤ wrap64 (cx + cy) ∧ cu ≥ mx cx cy then some true else none
set_option maxHeartbeats 6400000 in
set_option maxRecDepth 100000 in
theorem cenotaphlaw04_KnowGroups.calls (k : Nat) (A0 : Option Addr) (c0 : Nat) (l0 : List S27) (A1 : Option Addr) (c1 : Nat) (l1 : List S27) (A2 : Option Addr) (c2 : Nat) (l2 : List S27) (r : Bool) (w : World) (hr0 : Kd.C k27 w A0 l0.length l0) (hc0 : l0.length ≤ c0) (hr1 : Kd.C k27 w A1 l1.length l1) (hc1 : l1.length ≤ c1) (hr2 : Kd.C k27 w A2 l2.length l2) (hc2 : l2.length ≤ c2) (h : cenotaphlaw04_KnowGroups.f k l0 l1 l2 = some r) :
  Calls Try.prog 6 #[.slice A0 l0.length c0, .slice A1 l1.length c1, .slice A2 l2.length c2] w fun e w' => e = .returned (.bool r) ∧ Below w.heap.size w w' := by
 unfold cenotaphlaw04_KnowGroups.f at h
 obtain ⟨a, g_a, h⟩ := Option.bind_eq_some_iff.mp h
 replace g_a := Aside0.mk g_a
 obtain ⟨x, g_x, h⟩ := Option.bind_eq_some_iff.mp h
 replace g_x := Aside0.mk g_x
 obtain ⟨b, g_b, h⟩ := Option.bind_eq_some_iff.mp h
 replace g_b := Aside0.mk g_b
 obtain ⟨y, g_y, h⟩ := Option.bind_eq_some_iff.mp h
 replace g_y := Aside0.mk g_y
 obtain ⟨c, g_c, h⟩ := Option.bind_eq_some_iff.mp h
 replace g_c := Aside0.mk g_c
 obtain ⟨z, g_z, h⟩ := Option.bind_eq_some_iff.mp h
 replace g_z := Aside0.mk g_z
 obtain ⟨u, g_u, h⟩ := Option.bind_eq_some_iff.mp h
 replace g_u := Aside0.mk g_u
 obtain ⟨r1, g_r1, h⟩ := Option.bind_eq_some_iff.mp h
 replace g_r1 := Aside0.mk g_r1
 obtain ⟨v1, g_v1, h⟩ := Option.bind_eq_some_iff.mp h
 replace g_v1 := Aside0.mk g_v1
 obtain ⟨s1, g_s1, h⟩ := Option.bind_eq_some_iff.mp h
 replace g_s1 := Aside0.mk g_s1
 obtain ⟨p1, g_p1, h⟩ := Option.bind_eq_some_iff.mp h
 replace g_p1 := Aside0.mk g_p1
 obtain ⟨cu, g_cu, h⟩ := Option.bind_eq_some_iff.mp h
 replace g_cu := Aside0.mk g_cu
 obtain ⟨cx, g_cx, h⟩ := Option.bind_eq_some_iff.mp h
 replace g_cx := Aside0.mk g_cx
 obtain ⟨cy, g_cy, h⟩ := Option.bind_eq_some_iff.mp h
 replace g_cy := Aside0.mk g_cy
 obtain ⟨sm, g_sm, h⟩ := Option.bind_eq_some_iff.mp h
 replace g_sm := Aside0.mk g_sm
 obtain ⟨i1, g_i1, h⟩ := Option.bind_eq_some_iff.mp h
 replace g_i1 := Aside0.mk g_i1
 obtain ⟨i2, g_i2, h⟩ := Option.bind_eq_some_iff.mp h
 replace g_i2 := Aside0.mk g_i2
 split at h
 rotate_left
 ·cases h
 rename_i hc
 obtain rfl := Option.some.inj h
 clear h
 obtain ⟨d0, d1, d2, e0, e1, e2⟩ := hc
 replace d0 := Aside0.mk d0
 replace d1 := Aside0.mk d1
 replace d2 := Aside0.mk d2
 replace e0 := Aside0.mk e0
 replace e1 := Aside0.mk e1
 replace e2 := Aside0.mk e2
 have hle := decide_eq_true e1.out
 have hge := decide_eq_true e2.out
 have hge1 : decide (cx ≤ cu) = true := decide_eq_true (by have := e2.out; rw [Pure.mx_max] at this; omega)
 have hge2 : decide (cy ≤ cu) = true := decide_eq_true (by have := e2.out; rw [Pure.mx_max] at this; omega)
 have hsm := e0.out
 clear e0 e1 e2
 have Hl0 := Aside0.mk (And.intro hc0 hr0)
 clear hc0 hr0
 have Hl1 := Aside0.mk (And.intro hc1 hr1)
 clear hc1 hr1
 have Hl2 := Aside0.mk (And.intro hc2 hr2)
 clear hc2 hr2
 have HB := Aside0.mk (Below.refl w.heap.size w)
 go_enter Try.func6, Try.ntmps6
 go_wp2_with fail
 refine (cenotaphref04_Fix.calls k A0 c0 l0 a w Hl0.out.2 Hl0.out.1 g_a.out).mono ?_
 rintro e w1 ⟨v, rfl, ho, hq⟩
 replace Hl0 := Aside0.mk (And.intro Hl0.out.1 (Kd.C_below Hl0.out.2 hq))
 replace Hl1 := Aside0.mk (And.intro Hl1.out.1 (Kd.C_below Hl1.out.2 hq))
 replace Hl2 := Aside0.mk (And.intro Hl2.out.1 (Kd.C_below Hl2.out.2 hq))
 replace HB := Aside0.mk (below_step HB.out hq)
 replace ho : Kd.V k27 27 w1 0 (fun _ => True) v a := Kd.V_mono ho (fun _ _ => trivial)
 obtain ⟨A_a, c_a, rfl⟩ := Kd.V_slice ho
 have Ha := Aside0.mk ho
 clear ho
 clear hq
 clear Hl0
 go_wp2_with fail
 refine (cenotaphlaw04_To.calls k A_a c_a a x w1 (Kd.V_reads' Ha.out).2.2 (Kd.V_reads' Ha.out).2.1 g_x.out).mono ?_
 rintro e w2 ⟨v, rfl, ho, hq⟩
 replace Hl1 := Aside0.mk (And.intro Hl1.out.1 (Kd.C_below Hl1.out.2 hq))
 replace Hl2 := Aside0.mk (And.intro Hl2.out.1 (Kd.C_below Hl2.out.2 hq))
 replace Ha := Aside0.mk (Kd.V_below Ha.out hq)
 replace HB := Aside0.mk (below_step HB.out hq)
 replace ho : Kd.V k61 61 w2 0 (fun _ => True) v x := Kd.V_mono (Kd.S_V ho) (fun _ _ => trivial)
 obtain ⟨A_x, c_x, rfl⟩ := Kd.V_slice ho
 have Hx := Aside0.mk ho
 clear ho
 clear hq
 clear Ha
 go_wp2_with fail
 refine (cenotaphref04_Fix.calls k A1 c1 l1 b w2 Hl1.out.2 Hl1.out.1 g_b.out).mono ?_
 rintro e w3 ⟨v, rfl, ho, hq⟩
 replace Hl1 := Aside0.mk (And.intro Hl1.out.1 (Kd.C_below Hl1.out.2 hq))
 replace Hl2 := Aside0.mk (And.intro Hl2.out.1 (Kd.C_below Hl2.out.2 hq))
 replace Hx := Aside0.mk (Kd.V_below Hx.out hq)
 replace HB := Aside0.mk (below_step HB.out hq)
 replace ho : Kd.V k27 27 w3 0 (fun _ => True) v b := Kd.V_mono ho (fun _ _ => trivial)
 obtain ⟨A_b, c_b, rfl⟩ := Kd.V_slice ho
 have Hb := Aside0.mk ho
 clear ho
 clear hq
 clear Hl1
 go_wp2_with fail
 refine (cenotaphlaw04_To.calls k A_b c_b b y w3 (Kd.V_reads' Hb.out).2.2 (Kd.V_reads' Hb.out).2.1 g_y.out).mono ?_
 rintro e w4 ⟨v, rfl, ho, hq⟩
 replace Hl2 := Aside0.mk (And.intro Hl2.out.1 (Kd.C_below Hl2.out.2 hq))
 replace Hx := Aside0.mk (Kd.V_below Hx.out hq)
 replace Hb := Aside0.mk (Kd.V_below Hb.out hq)
 replace HB := Aside0.mk (below_step HB.out hq)
 replace ho : Kd.V k61 61 w4 0 (fun _ => True) v y := Kd.V_mono (Kd.S_V ho) (fun _ _ => trivial)
 obtain ⟨A_y, c_y, rfl⟩ := Kd.V_slice ho
 have Hy := Aside0.mk ho
 clear ho
 clear hq
 clear Hb
 go_wp2_with fail
 refine (cenotaphref04_Fix.calls k A2 c2 l2 c w4 Hl2.out.2 Hl2.out.1 g_c.out).mono ?_
 rintro e w5 ⟨v, rfl, ho, hq⟩
 replace Hl2 := Aside0.mk (And.intro Hl2.out.1 (Kd.C_below Hl2.out.2 hq))
 replace Hx := Aside0.mk (Kd.V_below Hx.out hq)
 replace Hy := Aside0.mk (Kd.V_below Hy.out hq)
 replace HB := Aside0.mk (below_step HB.out hq)
 replace ho : Kd.V k27 27 w5 0 (fun _ => True) v c := Kd.V_mono ho (fun _ _ => trivial)
 obtain ⟨A_c, c_c, rfl⟩ := Kd.V_slice ho
 have Hc := Aside0.mk ho
 clear ho
 clear hq
 clear Hl2
 go_wp2_with fail
 refine (cenotaphlaw04_To.calls k A_c c_c c z w5 (Kd.V_reads' Hc.out).2.2 (Kd.V_reads' Hc.out).2.1 g_z.out).mono ?_
 rintro e w6 ⟨v, rfl, ho, hq⟩
 replace Hx := Aside0.mk (Kd.V_below Hx.out hq)
 replace Hy := Aside0.mk (Kd.V_below Hy.out hq)
 replace Hc := Aside0.mk (Kd.V_below Hc.out hq)
 replace HB := Aside0.mk (below_step HB.out hq)
 replace ho : Kd.V k61 61 w6 0 (fun _ => True) v z := Kd.V_mono (Kd.S_V ho) (fun _ _ => trivial)
 obtain ⟨A_z, c_z, rfl⟩ := Kd.V_slice ho
 have Hz := Aside0.mk ho
 clear ho
 clear hq
 clear Hc
 go_wp2_with fail
 refine (cenotaphlaw04_told.calls k  true w6  d0.out).mono ?_
 rintro e w7 ⟨rfl, hq⟩
 replace Hx := Aside0.mk (Kd.V_below Hx.out hq)
 replace Hy := Aside0.mk (Kd.V_below Hy.out hq)
 replace Hz := Aside0.mk (Kd.V_below Hz.out hq)
 replace HB := Aside0.mk (below_step HB.out hq)
 clear hq
 go_wp2_with fail
 refine (know_Union.calls k A_x c_x x A_y c_y y u w7 (Kd.V_reads' Hx.out).2.2 (Kd.V_reads' Hx.out).2.1 (Kd.V_reads' Hy.out).2.2 (Kd.V_reads' Hy.out).2.1 g_u.out).mono ?_
 rintro e w8 ⟨v, rfl, ho, hq⟩
 replace Hx := Aside0.mk (Kd.V_below Hx.out hq)
 replace Hy := Aside0.mk (Kd.V_below Hy.out hq)
 replace Hz := Aside0.mk (Kd.V_below Hz.out hq)
 replace HB := Aside0.mk (below_step HB.out hq)
 replace ho : Kd.V k61 61 w8 0 (fun _ => True) v u := Kd.V_mono ho (fun _ _ => trivial)
 obtain ⟨A_u, c_u, rfl⟩ := Kd.V_slice ho
 have Hu := Aside0.mk ho
 clear ho
 clear hq
 go_wp2_with fail
 refine (know_Union.calls k A_u c_u u A_z c_z z r1 w8 (Kd.V_reads' Hu.out).2.2 (Kd.V_reads' Hu.out).2.1 (Kd.V_reads' Hz.out).2.2 (Kd.V_reads' Hz.out).2.1 g_r1.out).mono ?_
 rintro e w9 ⟨v, rfl, ho, hq⟩
 replace Hx := Aside0.mk (Kd.V_below Hx.out hq)
 replace Hy := Aside0.mk (Kd.V_below Hy.out hq)
 replace Hz := Aside0.mk (Kd.V_below Hz.out hq)
 replace Hu := Aside0.mk (Kd.V_below Hu.out hq)
 replace HB := Aside0.mk (below_step HB.out hq)
 replace ho : Kd.V k61 61 w9 0 (fun _ => True) v r1 := Kd.V_mono ho (fun _ _ => trivial)
 obtain ⟨A_r1, c_r1, rfl⟩ := Kd.V_slice ho
 have Hr1 := Aside0.mk ho
 clear ho
 clear hq
 go_wp2_with fail
 refine (know_Union.calls k A_y c_y y A_z c_z z v1 w9 (Kd.V_reads' Hy.out).2.2 (Kd.V_reads' Hy.out).2.1 (Kd.V_reads' Hz.out).2.2 (Kd.V_reads' Hz.out).2.1 g_v1.out).mono ?_
 rintro e w10 ⟨v, rfl, ho, hq⟩
 replace Hx := Aside0.mk (Kd.V_below Hx.out hq)
 replace Hy := Aside0.mk (Kd.V_below Hy.out hq)
 replace Hz := Aside0.mk (Kd.V_below Hz.out hq)
 replace Hu := Aside0.mk (Kd.V_below Hu.out hq)
 replace Hr1 := Aside0.mk (Kd.V_below Hr1.out hq)
 replace HB := Aside0.mk (below_step HB.out hq)
 replace ho : Kd.V k61 61 w10 0 (fun _ => True) v v1 := Kd.V_mono ho (fun _ _ => trivial)
 obtain ⟨A_v1, c_v1, rfl⟩ := Kd.V_slice ho
 have Hv1 := Aside0.mk ho
 clear ho
 clear hq
 go_wp2_with fail
 refine (know_Union.calls k A_x c_x x A_v1 c_v1 v1 s1 w10 (Kd.V_reads' Hx.out).2.2 (Kd.V_reads' Hx.out).2.1 (Kd.V_reads' Hv1.out).2.2 (Kd.V_reads' Hv1.out).2.1 g_s1.out).mono ?_
 rintro e w11 ⟨v, rfl, ho, hq⟩
 replace Hx := Aside0.mk (Kd.V_below Hx.out hq)
 replace Hy := Aside0.mk (Kd.V_below Hy.out hq)
 replace Hz := Aside0.mk (Kd.V_below Hz.out hq)
 replace Hu := Aside0.mk (Kd.V_below Hu.out hq)
 replace Hr1 := Aside0.mk (Kd.V_below Hr1.out hq)
 replace Hv1 := Aside0.mk (Kd.V_below Hv1.out hq)
 replace HB := Aside0.mk (below_step HB.out hq)
 replace ho : Kd.V k61 61 w11 0 (fun _ => True) v s1 := Kd.V_mono ho (fun _ _ => trivial)
 obtain ⟨A_s1, c_s1, rfl⟩ := Kd.V_slice ho
 have Hs1 := Aside0.mk ho
 clear ho
 clear hq
 go_wp2_with fail
 refine (know_Same.calls k A_r1 c_r1 r1 A_s1 c_s1 s1 true w11 (Kd.V_reads' Hr1.out).2.2 (Kd.V_reads' Hr1.out).2.1 (Kd.V_reads' Hs1.out).2.2 (Kd.V_reads' Hs1.out).2.1 d1.out).mono ?_
 rintro e w12 ⟨rfl, hq⟩
 replace Hx := Aside0.mk (Kd.V_below Hx.out hq)
 replace Hy := Aside0.mk (Kd.V_below Hy.out hq)
 replace Hz := Aside0.mk (Kd.V_below Hz.out hq)
 replace Hu := Aside0.mk (Kd.V_below Hu.out hq)
 replace Hr1 := Aside0.mk (Kd.V_below Hr1.out hq)
 replace Hv1 := Aside0.mk (Kd.V_below Hv1.out hq)
 replace Hs1 := Aside0.mk (Kd.V_below Hs1.out hq)
 replace HB := Aside0.mk (below_step HB.out hq)
 clear hq
 clear Hr1
 clear Hs1
 clear Hv1
 clear Hu
 clear Hz
 go_wp2_with fail
 refine (know_Union.calls k A_x c_x x A_x c_x x p1 w12 (Kd.V_reads' Hx.out).2.2 (Kd.V_reads' Hx.out).2.1 (Kd.V_reads' Hx.out).2.2 (Kd.V_reads' Hx.out).2.1 g_p1.out).mono ?_
 rintro e w13 ⟨v, rfl, ho, hq⟩
 replace Hx := Aside0.mk (Kd.V_below Hx.out hq)
 replace Hy := Aside0.mk (Kd.V_below Hy.out hq)
 replace HB := Aside0.mk (below_step HB.out hq)
 replace ho : Kd.V k61 61 w13 0 (fun _ => True) v p1 := Kd.V_mono ho (fun _ _ => trivial)
 obtain ⟨A_p1, c_p1, rfl⟩ := Kd.V_slice ho
 have Hp1 := Aside0.mk ho
 clear ho
 clear hq
 go_wp2_with fail
 refine (know_Same.calls k A_p1 c_p1 p1 A_x c_x x true w13 (Kd.V_reads' Hp1.out).2.2 (Kd.V_reads' Hp1.out).2.1 (Kd.V_reads' Hx.out).2.2 (Kd.V_reads' Hx.out).2.1 d2.out).mono ?_
 rintro e w14 ⟨rfl, hq⟩
 replace Hx := Aside0.mk (Kd.V_below Hx.out hq)
 replace Hy := Aside0.mk (Kd.V_below Hy.out hq)
 replace Hp1 := Aside0.mk (Kd.V_below Hp1.out hq)
 replace HB := Aside0.mk (below_step HB.out hq)
 clear hq
 clear Hp1
 go_wp2_with fail
 refine (know_Same.calls k A_x c_x x A_y c_y y sm w14 (Kd.V_reads' Hx.out).2.2 (Kd.V_reads' Hx.out).2.1 (Kd.V_reads' Hy.out).2.2 (Kd.V_reads' Hy.out).2.1 g_sm.out).mono ?_
 rintro e w15 ⟨rfl, hq⟩
 replace Hx := Aside0.mk (Kd.V_below Hx.out hq)
 replace Hy := Aside0.mk (Kd.V_below Hy.out hq)
 replace HB := Aside0.mk (below_step HB.out hq)
 clear hq
 go_wp2_with fail
 refine (know_Within.calls k A_x c_x x A_y c_y y i1 w15 (Kd.V_reads' Hx.out).2.2 (Kd.V_reads' Hx.out).2.1 (Kd.V_reads' Hy.out).2.2 (Kd.V_reads' Hy.out).2.1 g_i1.out).mono ?_
 rintro e w16 ⟨rfl, hq⟩
 replace Hx := Aside0.mk (Kd.V_below Hx.out hq)
 replace Hy := Aside0.mk (Kd.V_below Hy.out hq)
 replace HB := Aside0.mk (below_step HB.out hq)
 clear hq
 cases i1 with
 | true =>
  replace hsm : sm = i2 := by rw [hsm]; rfl
  subst hsm
  have hee : (sm == sm) = true := beq_self_eq_true sm
  go_wp2_with fail
  refine (know_Within.calls k A_y c_y y A_x c_x x sm w16 (Kd.V_reads' Hy.out).2.2 (Kd.V_reads' Hy.out).2.1 (Kd.V_reads' Hx.out).2.2 (Kd.V_reads' Hx.out).2.1 g_i2.out).mono ?_
  rintro e w17 ⟨rfl, hq⟩
  replace Hx := Aside0.mk (Kd.V_below Hx.out hq)
  replace Hy := Aside0.mk (Kd.V_below Hy.out hq)
  replace HB := Aside0.mk (below_step HB.out hq)
  clear hq
  go_wp2_with fail
  refine (know_Union.calls k A_x c_x x A_y c_y y u w17 (Kd.V_reads' Hx.out).2.2 (Kd.V_reads' Hx.out).2.1 (Kd.V_reads' Hy.out).2.2 (Kd.V_reads' Hy.out).2.1 g_u.out).mono ?_
  rintro e w18 ⟨v, rfl, ho, hq⟩
  replace Hx := Aside0.mk (Kd.V_below Hx.out hq)
  replace Hy := Aside0.mk (Kd.V_below Hy.out hq)
  replace HB := Aside0.mk (below_step HB.out hq)
  replace ho : Kd.V k61 61 w18 0 (fun _ => True) v u := Kd.V_mono ho (fun _ _ => trivial)
  obtain ⟨A_u, c_u, rfl⟩ := Kd.V_slice ho
  have Hu := Aside0.mk ho
  clear ho
  clear hq
  go_wp2_with fail
  refine (know_Count.calls k A_u c_u u cu w18 (Kd.V_reads' Hu.out).2.2 (Kd.V_reads' Hu.out).2.1 g_cu.out).mono ?_
  rintro e w19 ⟨rfl, hq⟩
  replace Hx := Aside0.mk (Kd.V_below Hx.out hq)
  replace Hy := Aside0.mk (Kd.V_below Hy.out hq)
  replace Hu := Aside0.mk (Kd.V_below Hu.out hq)
  replace HB := Aside0.mk (below_step HB.out hq)
  clear hq
  go_wp2_with fail
  refine (know_Count.calls k A_x c_x x cx w19 (Kd.V_reads' Hx.out).2.2 (Kd.V_reads' Hx.out).2.1 g_cx.out).mono ?_
  rintro e w20 ⟨rfl, hq⟩
  replace Hx := Aside0.mk (Kd.V_below Hx.out hq)
  replace Hy := Aside0.mk (Kd.V_below Hy.out hq)
  replace Hu := Aside0.mk (Kd.V_below Hu.out hq)
  replace HB := Aside0.mk (below_step HB.out hq)
  clear hq
  go_wp2_with fail
  refine (know_Count.calls k A_y c_y y cy w20 (Kd.V_reads' Hy.out).2.2 (Kd.V_reads' Hy.out).2.1 g_cy.out).mono ?_
  rintro e w21 ⟨rfl, hq⟩
  replace Hx := Aside0.mk (Kd.V_below Hx.out hq)
  replace Hy := Aside0.mk (Kd.V_below Hy.out hq)
  replace Hu := Aside0.mk (Kd.V_below Hu.out hq)
  replace HB := Aside0.mk (below_step HB.out hq)
  clear hq
  clear Hu
  go_wp2_with fail
  refine (know_Union.calls k A_x c_x x A_y c_y y u w21 (Kd.V_reads' Hx.out).2.2 (Kd.V_reads' Hx.out).2.1 (Kd.V_reads' Hy.out).2.2 (Kd.V_reads' Hy.out).2.1 g_u.out).mono ?_
  rintro e w22 ⟨v, rfl, ho, hq⟩
  replace Hx := Aside0.mk (Kd.V_below Hx.out hq)
  replace Hy := Aside0.mk (Kd.V_below Hy.out hq)
  replace HB := Aside0.mk (below_step HB.out hq)
  replace ho : Kd.V k61 61 w22 0 (fun _ => True) v u := Kd.V_mono ho (fun _ _ => trivial)
  obtain ⟨A_u, c_u, rfl⟩ := Kd.V_slice ho
  have Hu := Aside0.mk ho
  clear ho
  clear hq
  go_wp2_with fail
  refine (know_Count.calls k A_u c_u u cu w22 (Kd.V_reads' Hu.out).2.2 (Kd.V_reads' Hu.out).2.1 g_cu.out).mono ?_
  rintro e w23 ⟨rfl, hq⟩
  replace Hx := Aside0.mk (Kd.V_below Hx.out hq)
  replace Hy := Aside0.mk (Kd.V_below Hy.out hq)
  replace Hu := Aside0.mk (Kd.V_below Hu.out hq)
  replace HB := Aside0.mk (below_step HB.out hq)
  clear hq
  go_wp2_with fail
  refine (know_Count.calls k A_x c_x x cx w23 (Kd.V_reads' Hx.out).2.2 (Kd.V_reads' Hx.out).2.1 g_cx.out).mono ?_
  rintro e w24 ⟨rfl, hq⟩
  replace Hx := Aside0.mk (Kd.V_below Hx.out hq)
  replace Hy := Aside0.mk (Kd.V_below Hy.out hq)
  replace Hu := Aside0.mk (Kd.V_below Hu.out hq)
  replace HB := Aside0.mk (below_step HB.out hq)
  clear hq
  go_wp2_with fail
  refine (know_Count.calls k A_y c_y y cy w24 (Kd.V_reads' Hy.out).2.2 (Kd.V_reads' Hy.out).2.1 g_cy.out).mono ?_
  rintro e w25 ⟨rfl, hq⟩
  replace Hx := Aside0.mk (Kd.V_below Hx.out hq)
  replace Hy := Aside0.mk (Kd.V_below Hy.out hq)
  replace Hu := Aside0.mk (Kd.V_below Hu.out hq)
  replace HB := Aside0.mk (below_step HB.out hq)
  clear hq
  clear Hu
  go_wp2_with fail
  all_goals (go_ret; exact ⟨rfl, HB.out⟩)
 | false =>
  replace hsm : sm = false := by rw [hsm]; rfl
  subst hsm
  go_wp2_with fail
  refine (know_Union.calls k A_x c_x x A_y c_y y u w16 (Kd.V_reads' Hx.out).2.2 (Kd.V_reads' Hx.out).2.1 (Kd.V_reads' Hy.out).2.2 (Kd.V_reads' Hy.out).2.1 g_u.out).mono ?_
  rintro e w17 ⟨v, rfl, ho, hq⟩
  replace Hx := Aside0.mk (Kd.V_below Hx.out hq)
  replace Hy := Aside0.mk (Kd.V_below Hy.out hq)
  replace HB := Aside0.mk (below_step HB.out hq)
  replace ho : Kd.V k61 61 w17 0 (fun _ => True) v u := Kd.V_mono ho (fun _ _ => trivial)
  obtain ⟨A_u, c_u, rfl⟩ := Kd.V_slice ho
  have Hu := Aside0.mk ho
  clear ho
  clear hq
  go_wp2_with fail
  refine (know_Count.calls k A_u c_u u cu w17 (Kd.V_reads' Hu.out).2.2 (Kd.V_reads' Hu.out).2.1 g_cu.out).mono ?_
  rintro e w18 ⟨rfl, hq⟩
  replace Hx := Aside0.mk (Kd.V_below Hx.out hq)
  replace Hy := Aside0.mk (Kd.V_below Hy.out hq)
  replace Hu := Aside0.mk (Kd.V_below Hu.out hq)
  replace HB := Aside0.mk (below_step HB.out hq)
  clear hq
  go_wp2_with fail
  refine (know_Count.calls k A_x c_x x cx w18 (Kd.V_reads' Hx.out).2.2 (Kd.V_reads' Hx.out).2.1 g_cx.out).mono ?_
  rintro e w19 ⟨rfl, hq⟩
  replace Hx := Aside0.mk (Kd.V_below Hx.out hq)
  replace Hy := Aside0.mk (Kd.V_below Hy.out hq)
  replace Hu := Aside0.mk (Kd.V_below Hu.out hq)
  replace HB := Aside0.mk (below_step HB.out hq)
  clear hq
  go_wp2_with fail
  refine (know_Count.calls k A_y c_y y cy w19 (Kd.V_reads' Hy.out).2.2 (Kd.V_reads' Hy.out).2.1 g_cy.out).mono ?_
  rintro e w20 ⟨rfl, hq⟩
  replace Hx := Aside0.mk (Kd.V_below Hx.out hq)
  replace Hy := Aside0.mk (Kd.V_below Hy.out hq)
  replace Hu := Aside0.mk (Kd.V_below Hu.out hq)
  replace HB := Aside0.mk (below_step HB.out hq)
  clear hq
  clear Hu
  go_wp2_with fail
  refine (know_Union.calls k A_x c_x x A_y c_y y u w20 (Kd.V_reads' Hx.out).2.2 (Kd.V_reads' Hx.out).2.1 (Kd.V_reads' Hy.out).2.2 (Kd.V_reads' Hy.out).2.1 g_u.out).mono ?_
  rintro e w21 ⟨v, rfl, ho, hq⟩
  replace Hx := Aside0.mk (Kd.V_below Hx.out hq)
  replace Hy := Aside0.mk (Kd.V_below Hy.out hq)
  replace HB := Aside0.mk (below_step HB.out hq)
  replace ho : Kd.V k61 61 w21 0 (fun _ => True) v u := Kd.V_mono ho (fun _ _ => trivial)
  obtain ⟨A_u, c_u, rfl⟩ := Kd.V_slice ho
  have Hu := Aside0.mk ho
  clear ho
  clear hq
  go_wp2_with fail
  refine (know_Count.calls k A_u c_u u cu w21 (Kd.V_reads' Hu.out).2.2 (Kd.V_reads' Hu.out).2.1 g_cu.out).mono ?_
  rintro e w22 ⟨rfl, hq⟩
  replace Hx := Aside0.mk (Kd.V_below Hx.out hq)
  replace Hy := Aside0.mk (Kd.V_below Hy.out hq)
  replace Hu := Aside0.mk (Kd.V_below Hu.out hq)
  replace HB := Aside0.mk (below_step HB.out hq)
  clear hq
  go_wp2_with fail
  refine (know_Count.calls k A_x c_x x cx w22 (Kd.V_reads' Hx.out).2.2 (Kd.V_reads' Hx.out).2.1 g_cx.out).mono ?_
  rintro e w23 ⟨rfl, hq⟩
  replace Hx := Aside0.mk (Kd.V_below Hx.out hq)
  replace Hy := Aside0.mk (Kd.V_below Hy.out hq)
  replace Hu := Aside0.mk (Kd.V_below Hu.out hq)
  replace HB := Aside0.mk (below_step HB.out hq)
  clear hq
  go_wp2_with fail
  refine (know_Count.calls k A_y c_y y cy w23 (Kd.V_reads' Hy.out).2.2 (Kd.V_reads' Hy.out).2.1 g_cy.out).mono ?_
  rintro e w24 ⟨rfl, hq⟩
  replace Hx := Aside0.mk (Kd.V_below Hx.out hq)
  replace Hy := Aside0.mk (Kd.V_below Hy.out hq)
  replace Hu := Aside0.mk (Kd.V_below Hu.out hq)
  replace HB := Aside0.mk (below_step HB.out hq)
  clear hq
  clear Hu
  go_wp2_with fail
  all_goals (go_ret; exact ⟨rfl, HB.out⟩)

end Go.Proofs.Ytkfehkaiifjkmaa.P
