import Derived.Test.YtkfehkaiifjkmaaGreatP0
import Derived.Test.YtkfehkaiifjkmaaGreatP4
namespace Go.Proofs.YtkfehkaiifjkmaaGreat.P
open Go.RowKit Go.Proofs.YtkfehkaiifjkmaaGreatW.PrintWords Go.Proofs.YtkfehkaiifjkmaaGreatW.PrintLast Go.Proofs.YtkfehkaiifjkmaaGreatW.PrintMore
set_option maxHeartbeats 8000000
set_option maxRecDepth 100000
attribute [local go_sem] max2_int min2_int max_two min_two max_three min_three max_four min_four
set_option linter.unusedVariables false
set_option linter.unusedSimpArgs false
theorem zq9_0 {p_ : Prop} (h_ : p_ := by (with_reducible repeat (first | apply Kd.R_alloc | apply Kd.R_drewN | apply Kd.R_drew)); exact (Kd.R_mono (Kd.R_far (p := ⟨gb247, 2, none⟩) (Kd.R_far (p := ⟨gb247, 1, none⟩) (Kd.R_far (p := ⟨gb247, 0, none⟩) (Kd.R_types HO_3.out BK247.out (by decide)) (fun _ hk => hk.2) (.string ((rd_T72 l0 x8_1).f0))) (fun _ hk => hk.2) (.int .i64 ((rd_T72 l0 x8_1).f1.f0))) (fun _ hk => hk.2) (.slice A246_2 ((rd_T72 l0 x8_1).f1.f1).length c246_2)) (fun _ h_ => h_.1))) : p_ := h_
theorem zq9_1 {p_ : Prop} (h_ : p_ := by repeat (first | (with_reducible first | exact HB.out | apply bA | apply pB | apply bW) | exact HB.out)) : p_ := h_
def know_Firsts.l0 : Nat → List (S75) → List (S72) → Int → Int → Option ((List (S75)))
 | 0, _, _, _, _ => none
 | k + 1, x3, x6, x7, x8 => if x8 < x7 then (if 0 ≤ x8 then (if x8 < (x6.length : Int) then ((vec_Set.f x3 ((rd_T72 x6 x8).f0) ((rd_T72 x6 x8).f1.f0)).bind fun t248 => (know_Firsts.l0 k t248 x6 x7 (wrap64 (x8 + 1)))) else (none)) else (none)) else (some x3)
def know_Firsts.f (k : Nat) (l0 : List (S72)) : Option ((List (S75))) := know_Firsts.l0 k ([] : List (S75)) l0 (l0.length : Int) 0
theorem know_Firsts.mono_l : ∀ k, (∀ y0 y1 y2 y3, LeO (know_Firsts.l0 k y0 y1 y2 y3) (know_Firsts.l0 (k + 1) y0 y1 y2 y3))
 | 0 => fun _ _ _ _ r h => by simp [know_Firsts.l0] at h
 | k + 1 => by
  have ih0 := know_Firsts.mono_l k
  ·intro y0 y1 y2 y3
   unfold know_Firsts.l0
   repeat' first
   | (with_reducible exact ih0 _ _ _ _)
   | (with_reducible exact LeO.refl _)
   | (with_reducible exact LeO.none _)
   | (with_reducible refine LeO.ite ?_ ?_)
   | (with_reducible refine LeO.bind ?_ (fun _ => ?_))
   | exact ih0 _ _ _ _
   | exact LeO.none _
   | refine LeO.ite ?_ ?_
   | refine LeO.bind ?_ (fun _ => ?_)
theorem know_Firsts.mono : ∀ a0 k, LeO (know_Firsts.f k a0) (know_Firsts.f (k + 1) a0) := by
 intro a0 k
 have ih0 := know_Firsts.mono_l k
 unfold know_Firsts.f
 repeat' first
   | (with_reducible exact ih0 _ _ _ _)
   | (with_reducible exact LeO.refl _)
   | (with_reducible exact LeO.none _)
   | (with_reducible refine LeO.ite ?_ ?_)
   | (with_reducible refine LeO.bind ?_ (fun _ => ?_))
   | exact ih0 _ _ _ _
   | exact LeO.none _
   | refine LeO.ite ?_ ?_
   | refine LeO.bind ?_ (fun _ => ?_)
theorem know_Firsts.calls (k : Nat) (A0 : Option Addr) (c0 : Nat) (l0 : List (S72)) (r : List (S75)) (w : World) (hr0 : Kd.C k72 w A0 l0.length l0) (hc0 : l0.length ≤ c0) (h : know_Firsts.f k l0 = some r) :
  Calls Tryz.prog 9 #[.slice A0 l0.length c0] w fun e w' => ∃ v0_ : Value, e = .returned (v0_) ∧ Kd.R k75 75 w' w.heap.size (fun _ => True) v0_ r ∧ Below w.heap.size w w' := by
 have hu72 := Tryz.underlying72
 have HR0 := aK hr0
 have HC0 := aK hc0
 clear hr0 hc0
 have HB := aK (Below.refl w.heap.size w)
 have H : (know_Firsts.l0 k ([] : List (S75)) l0 (l0.length : Int) 0) = some r := h
 clear h
 have H' := aK H
 clear H
 go_enter Tryz.func9, Tryz.ntmps9
 go_wp2
 go_loopg [3, 8] k (fun kq v3 v8 w' => ∃ (x3_1 : List (S75)) (x8_1 : Int), v8 = .int .i64 x8_1 ∧ Aside0 (know_Firsts.l0 kq x3_1 l0 (l0.length : Int) x8_1 = some r) ∧ Aside0 (kq ≤ k) ∧ Aside0 (Kd.R k75 75 w' w.heap.size (fun _ => True) v3 x3_1) ∧ Aside0 (Below w.heap.size w w'))
 case atStart => exact ⟨(([] : List (S75))), (0), (by first | rfl | (simp; done) | (simp [*]; done)), H', ⟨Nat.le_refl _⟩, ⟨by first | exact Kd.R_nil _ _ _ _ _ | exact Kd.N_nil _ _ _ _ _ | exact Kd.V_nil _ _ _ _ _ | exact Kd.Q_nil _ _ _ _ _ | exact Kd.S_nil _ _ _ _ _⟩, ⟨by repeat (first | (with_reducible first | exact HB.out | apply bA | apply pB | apply bW) | exact HB.out)⟩⟩
 case round =>
  clear H'
  obtain ⟨x3_1, x8_1, rfl, HA, HK1, HO_3, HB⟩ := hrel
  cases gk with
  | zero => exact absurd HA.out (by simp [know_Firsts.l0])
  | succ k1 =>
   have H := HA.out
   clear HA
   simp only [know_Firsts.l0] at H
   by_cases c2 : x8_1 < (l0.length : Int)
   ·rw [if_pos c2] at H
    have c2b0 : decide (x8_1 < (l0.length : Int)) = true := dT c2
    clear c2
    by_cases c3 : 0 ≤ x8_1
    ·rw [if_pos c3] at H
     have c3b0 : decide (0 ≤ x8_1) = true := dT c3
     clear c3
     by_cases c4 : x8_1 < (l0.length : Int)
     ·rw [if_pos c4] at H
      have c4b0 : decide (x8_1 < (l0.length : Int)) = true := dT c4
      clear c4
      replace H := bM H
      obtain ⟨t248, A50, H⟩ := H
      have A5 := aK A50
      clear A50
      have H' := aK H
      clear H
      have p246 : 0 ≤ (x8_1 : Int) := oD (by first | (with_reducible assumption) | assumption)
      have q246 : x8_1 < (l0.length : Int) := oD (by first | (with_reducible assumption) | assumption)
      obtain ⟨ad246, A246_2, c246_2, e246, hx246_0, hx246_1, hx246_2, hl246_2, hi246_2⟩ := at_T72 HR0.out x8_1 p246 q246
      cases e246
      replace hx246_0 := pc_ HB hx246_0
      replace hx246_1 := pc_ HB hx246_1
      replace hx246_2 := pc_ HB hx246_2
      have HR246_2 := aK hi246_2
      have HC246_2 := aK hl246_2
      clear hi246_2 hl246_2
      replace p246 := eT p246
      replace q246 := eT q246
      go_wp2_with (first | ((with_reducible refine gate_dst (N := 5) rfl ?_); refine box_event ?hg (N := 5) ?hd (cs := #[.string (⟨#[]⟩ : ByteArray), .int .i64 0, .slice none 0 0]) (t := 72) ?hr ?_; (case hd => rfl); (case hg => rfl); (case hr => first | (go_simp; done) | (go_simp; rfl)); intro gb247 hg w6 hbox hb; replace HO_3 := aK (Kd.R_below (by (with_reducible repeat (first | apply Kd.R_alloc | apply Kd.R_drewN | apply Kd.R_drew)); exact HO_3.out) hb); have BK247 := aK (hbox); have GW247 := aK (((by rw [hg]; exact (below_size zq9_1)) : w.heap.size ≤ gb247)); have GE247 := aK (((by rw [hg]; exact (below_size zq9_1)) : w.heap.size ≤ gb247)); replace HB := aK (bS zq9_1 hb); clear hb hbox hg; have hcz7_0 : w6.cell? ⟨gb247, 0, none⟩ = some (.string (⟨#[]⟩ : ByteArray)) := (bC BK247.out 0).trans rfl; have hcz7_1 : w6.cell? ⟨gb247, 1, none⟩ = some (.int .i64 0) := (bC BK247.out 1).trans rfl; have hcz7_2 : w6.cell? ⟨gb247, 2, none⟩ = some (.slice none 0 0) := (bC BK247.out 2).trans rfl; have hfz7_0 := bF_ BK247.out 0; have hfz7_1 := bF_ BK247.out 1; have hfz7_2 := bF_ BK247.out 2; obtain ⟨Ao8, co8, eo8⟩ := Kd.R_slice HO_3.out; subst eo8) | ((with_reducible refine gate_callee (f := 36) rfl ?_); refine goesL_ (some 18) rfl rfl Tryz.func36 (by kernel_rfl) rfl #[.slice Ao8 x3_1.length co8, .string ((rd_T72 l0 x8_1).f0), .int .i64 ((rd_T72 l0 x8_1).f1.f0)] rfl (by (try simp only [List.map_toArray, List.map_cons, List.map_nil]); first | done | rfl | (simp only [List.length_drop, List.length_take]; rfl)) ?_; (with_reducible refine (vec_Set.calls _ _ x3_1 ((rd_T72 l0 x8_1).f0) ((rd_T72 l0 x8_1).f1.f0) t248 _ ?side1 ?side2 A5.out).mono ?_); (case side1 => refine (Kd.R_reads' (e := 75) (base := w.heap.size) (ok := fun k_ => True) (n := x3_1.length) (c := co8) ?_).2.2; exact zq9_0); (case side2 => exact (Kd.R_reads' HO_3.out).2.1); rintro e w9 ⟨v249, rfl, ho0, hb⟩; refine ⟨_, rfl, ?_⟩; have HO250 := aK (Kd.R_lower (Kd.R_new' ho0 (Kd.R_lt zq9_0)) (below_size (by repeat (first | (with_reducible first | exact HB.out | apply bA | apply pB | apply bW | refine below_set ?_ GE247.out) | exact HB.out)))); replace HO_3 := aK (Kd.R_elder' zq9_0 (Kd.R_base ho0) hb); replace BK247 := aK (bB (g := gb247) (o := .cells #[.string ((rd_T72 l0 x8_1).f0), .int .i64 ((rd_T72 l0 x8_1).f1.f0), .slice A246_2 ((rd_T72 l0 x8_1).f1.f1).length c246_2] 72 (0, 0)) (by (with_reducible repeat (first | refine blk_drewN ?_ _ | refine blk_drew ?_ | refine blk_alloc ?_ _)); refine blk_put (cs := #[.string ((rd_T72 l0 x8_1).f0), .int .i64 ((rd_T72 l0 x8_1).f1.f0), .slice none 0 0]) ?_ 2 _ rfl; (with_reducible repeat (first | refine blk_drewN ?_ _ | refine blk_drew ?_ | refine blk_alloc ?_ _)); refine blk_put (cs := #[.string ((rd_T72 l0 x8_1).f0), .int .i64 0, .slice none 0 0]) ?_ 1 _ rfl; (with_reducible repeat (first | refine blk_drewN ?_ _ | refine blk_drew ?_ | refine blk_alloc ?_ _)); refine blk_put (cs := #[.string (⟨#[]⟩ : ByteArray), .int .i64 0, .slice none 0 0]) ?_ 0 _ rfl; (with_reducible repeat (first | refine blk_drewN ?_ _ | refine blk_drew ?_ | refine blk_alloc ?_ _)); exact BK247.out) hb); replace HB := aK (bS (by repeat (first | (with_reducible first | exact HB.out | apply bA | apply pB | apply bW | refine below_set ?_ GE247.out) | exact HB.out)) hb); (try clear hb); (try clear hb2); (try clear hk); (try clear hi); (try clear ho0)))
      go_roundg k1
      case measure => have := HK1.out; omega
      case rel => exact ⟨(t248), (wrap64 (x8_1 + 1)), (by first | rfl | (simp; done) | (simp [*]; done)), H', ⟨by have := HK1.out; omega⟩, ⟨by (with_reducible repeat (first | apply Kd.R_alloc | apply Kd.R_drewN | apply Kd.R_drew)); exact Kd.R_mono HO250.out (fun _ hk => trivial)⟩, ⟨by repeat (first | (with_reducible first | exact HB.out | apply bA | apply pB | apply bW | refine below_set ?_ GE247.out) | exact HB.out)⟩⟩
     ·rw [if_neg c4] at H
      exact absurd H (by simp)
    ·rw [if_neg c3] at H
     exact absurd H (by simp)
   ·rw [if_neg c2] at H
    have c2b0 : decide (x8_1 < (l0.length : Int)) = false := decide_eq_false c2
    clear c2
    obtain rfl := sI H
    go_wp2
    go_ret
    exact ⟨_, by first | rfl | (simp [errW_none, errW_some] <;> rfl) | (simp [*, errW_none, errW_some] <;> rfl), by (with_reducible repeat (first | apply Kd.R_alloc | apply Kd.R_drewN | apply Kd.R_drew)); exact HO_3.out, by repeat (first | (with_reducible first | exact HB.out | apply bA | apply pB | apply bW) | exact HB.out)⟩
theorem zq75_0 {p_ : Prop} (h_ : p_ := by first | (with_reducible assumption) | assumption) : p_ := h_
def slices_Equal_int_int.l0 : Nat → List Int → List Int → Int → Int → Option (Bool)
 | 0, _, _, _, _ => none
 | k + 1, x0, x1, x12, x13 => if x13 < x12 then (if 0 ≤ x13 then (if x13 < (x0.length : Int) then (if x13 < (x1.length : Int) then (if (rd x0 x13) = (rd x1 x13) then (slices_Equal_int_int.l0 k x0 x1 x12 (wrap64 (x13 + 1))) else (some false)) else (none)) else (none)) else (none)) else (some true)
def slices_Equal_int_int.f (k : Nat) (l0 : List Int) (l1 : List Int) : Option (Bool) := if (l0.length : Int) = (l1.length : Int) then (slices_Equal_int_int.l0 k l0 l1 (l0.length : Int) 0) else (some false)
theorem slices_Equal_int_int.mono_l : ∀ k, (∀ y0 y1 y2 y3, LeO (slices_Equal_int_int.l0 k y0 y1 y2 y3) (slices_Equal_int_int.l0 (k + 1) y0 y1 y2 y3))
 | 0 => fun _ _ _ _ r h => by simp [slices_Equal_int_int.l0] at h
 | k + 1 => by
  have ih0 := slices_Equal_int_int.mono_l k
  ·intro y0 y1 y2 y3
   unfold slices_Equal_int_int.l0
   repeat' first
   | (with_reducible exact ih0 _ _ _ _)
   | (with_reducible exact LeO.refl _)
   | (with_reducible exact LeO.none _)
   | (with_reducible refine LeO.ite ?_ ?_)
   | (with_reducible refine LeO.bind ?_ (fun _ => ?_))
   | exact ih0 _ _ _ _
   | exact LeO.none _
   | refine LeO.ite ?_ ?_
   | refine LeO.bind ?_ (fun _ => ?_)
theorem slices_Equal_int_int.mono : ∀ a0 a1 k, LeO (slices_Equal_int_int.f k a0 a1) (slices_Equal_int_int.f (k + 1) a0 a1) := by
 intro a0 a1 k
 have ih0 := slices_Equal_int_int.mono_l k
 unfold slices_Equal_int_int.f
 repeat' first
   | (with_reducible exact ih0 _ _ _ _)
   | (with_reducible exact LeO.refl _)
   | (with_reducible exact LeO.none _)
   | (with_reducible refine LeO.ite ?_ ?_)
   | (with_reducible refine LeO.bind ?_ (fun _ => ?_))
   | exact ih0 _ _ _ _
   | exact LeO.none _
   | refine LeO.ite ?_ ?_
   | refine LeO.bind ?_ (fun _ => ?_)
theorem slices_Equal_int_int.calls (k : Nat) (A0 : Option Addr) (c0 : Nat) (l0 : List Int) (A1 : Option Addr) (c1 : Nat) (l1 : List Int) (r : Bool) (w : World) (hr0 : Kd.C (Kd.int .i64) w A0 l0.length l0) (hc0 : l0.length ≤ c0) (hr1 : Kd.C (Kd.int .i64) w A1 l1.length l1) (hc1 : l1.length ≤ c1) (h : slices_Equal_int_int.f k l0 l1 = some r) :
  Calls Tryz.prog 75 #[.slice A0 l0.length c0, .slice A1 l1.length c1] w fun e w' => e = .returned (.bool r) ∧ Drawn0 w w' := by
 have HR0 := aK hr0
 have HC0 := aK hc0
 clear hr0 hc0
 have HR1 := aK hr1
 have HC1 := aK hc1
 clear hr1 hc1
 have H : (if (l0.length : Int) = (l1.length : Int) then (slices_Equal_int_int.l0 k l0 l1 (l0.length : Int) 0) else (some false)) = some r := h
 clear h
 by_cases c3 : (l0.length : Int) = (l1.length : Int)
 ·rw [if_pos c3] at H
  have c3b0 : ((l0.length : Int) == (l1.length : Int)) = true := beq_iff_eq.mpr c3
  have c3b1 : ((l0.length : Int) != (l1.length : Int)) = false := bne_eq_false_iff_eq.mpr c3
  have c3b2 : (l0.length == l1.length) = true := by first | simpa using c3 | (simp at c3 ⊢; omega)
  clear c3
  have H' := aK H
  clear H
  go_enter Tryz.func75, Tryz.ntmps75
  go_wp2
  repeat (go_quiet (fail); try go_wp2)
  go_loopg [13] k (fun kq v13 w' => ∃ (x13_1 : Int), v13 = .int .i64 x13_1 ∧ Aside0 (slices_Equal_int_int.l0 kq l0 l1 (l0.length : Int) x13_1 = some r) ∧ Aside0 (kq ≤ k) ∧ Drawn0 w w')
  case atStart => exact ⟨(0), (by first | rfl | (simp; done) | (simp [*]; done)), H', ⟨Nat.le_refl _⟩, by repeat (first | exact Drawn0.refl _ | apply Drawn0.step)⟩
  case round =>
   clear H'
   try clear c1
   try clear p2
   try clear c3
   try clear c3b0
   try clear c3b1
   try clear c3b2
   obtain ⟨x13_1, rfl, HA, HK1, ⟨m1, rfl⟩⟩ := hrel
   cases gk with
   | zero => exact absurd HA.out (by simp [slices_Equal_int_int.l0])
   | succ k1 =>
    have H := HA.out
    clear HA
    simp only [slices_Equal_int_int.l0] at H
    by_cases c4 : x13_1 < (l0.length : Int)
    ·rw [if_pos c4] at H
     have c4b0 : decide (x13_1 < (l0.length : Int)) = true := dT c4
     clear c4
     by_cases c5 : 0 ≤ x13_1
     ·rw [if_pos c5] at H
      have c5b0 : decide (0 ≤ x13_1) = true := dT c5
      clear c5
      by_cases c6 : x13_1 < (l0.length : Int)
      ·rw [if_pos c6] at H
       have c6b0 : decide (x13_1 < (l0.length : Int)) = true := dT c6
       clear c6
       by_cases c7 : x13_1 < (l1.length : Int)
       ·rw [if_pos c7] at H
        have c7b0 : decide (x13_1 < (l1.length : Int)) = true := dT c7
        clear c7
        by_cases c8 : (rd l0 x13_1) = (rd l1 x13_1)
        ·rw [if_pos c8] at H
         have c8b0 : ((rd l0 x13_1) == (rd l1 x13_1)) = true := beq_iff_eq.mpr c8
         have c8b1 : ((rd l0 x13_1) != (rd l1 x13_1)) = false := bne_eq_false_iff_eq.mpr c8
         clear c8
         have H' := aK H
         clear H
         have p261 : 0 ≤ (x13_1 : Int) := oD zq75_0
         have q261 : x13_1 < (l0.length : Int) := oD zq75_0
         obtain ⟨ad261, e261, hx261_0⟩ := Kd.at_int HR0.out x13_1 p261 q261
         cases e261
         replace p261 := eT p261
         replace q261 := eT q261
         have p262 : 0 ≤ (x13_1 : Int) := oD zq75_0
         have q262 : x13_1 < (l1.length : Int) := oD zq75_0
         obtain ⟨ad262, e262, hx262_0⟩ := Kd.at_int HR1.out x13_1 p262 q262
         cases e262
         replace p262 := eT p262
         replace q262 := eT q262
         go_wp2
         repeat (go_quiet (fail); try go_wp2)
         go_roundg k1
         case measure => have := HK1.out; omega
         case rel => exact ⟨(wrap64 (x13_1 + 1)), (by first | rfl | (simp; done) | (simp [*]; done)), H', ⟨by have := HK1.out; omega⟩, by repeat (first | exact Drawn0.refl _ | apply Drawn0.step)⟩
        ·rw [if_neg c8] at H
         have c8b0 : ((rd l0 x13_1) == (rd l1 x13_1)) = false := beq_eq_false_iff_ne.mpr c8
         have c8b1 : ((rd l0 x13_1) != (rd l1 x13_1)) = true := bne_iff_ne.mpr c8
         obtain rfl := sI H
         have p261 : 0 ≤ (x13_1 : Int) := oD zq75_0
         have q261 : x13_1 < (l0.length : Int) := oD zq75_0
         obtain ⟨ad261, e261, hx261_0⟩ := Kd.at_int HR0.out x13_1 p261 q261
         cases e261
         replace p261 := eT p261
         replace q261 := eT q261
         have p262 : 0 ≤ (x13_1 : Int) := oD zq75_0
         have q262 : x13_1 < (l1.length : Int) := oD zq75_0
         obtain ⟨ad262, e262, hx262_0⟩ := Kd.at_int HR1.out x13_1 p262 q262
         cases e262
         replace p262 := eT p262
         replace q262 := eT q262
         go_wp2
         repeat (go_quiet (fail); try go_wp2)
         go_ret
         exact ⟨by first | rfl | (simp; done) | (simp [*]; done), by repeat (first | exact Drawn0.refl _ | apply Drawn0.step)⟩
       ·rw [if_neg c7] at H
        exact absurd H (by simp)
      ·rw [if_neg c6] at H
       exact absurd H (by simp)
     ·rw [if_neg c5] at H
      exact absurd H (by simp)
    ·rw [if_neg c4] at H
     have c4b0 : decide (x13_1 < (l0.length : Int)) = false := decide_eq_false c4
     clear c4
     obtain rfl := sI H
     go_wp2
     repeat (go_quiet (fail); try go_wp2)
     go_ret
     exact ⟨by first | rfl | (simp; done) | (simp [*]; done), by repeat (first | exact Drawn0.refl _ | apply Drawn0.step)⟩
 ·rw [if_neg c3] at H
  have c3b0 : ((l0.length : Int) == (l1.length : Int)) = false := beq_eq_false_iff_ne.mpr c3
  have c3b1 : ((l0.length : Int) != (l1.length : Int)) = true := bne_iff_ne.mpr c3
  have c3b2 : (l0.length == l1.length) = false := by first | simpa using c3 | (simp at c3 ⊢; omega)
  obtain rfl := sI H
  go_enter Tryz.func75, Tryz.ntmps75
  go_wp2
  repeat (go_quiet (fail); try go_wp2)
  go_ret
  exact ⟨by first | rfl | (simp; done) | (simp [*]; done), by repeat (first | exact Drawn0.refl _ | apply Drawn0.step)⟩
theorem zq52_0 {p_ : Prop} (h_ : p_ := by rw [hg]; exact (below_size (by repeat (first | (with_reducible first | exact HB.out | apply bA | apply pB | apply bW | refine below_set ?_ GE263.out) | exact HB.out)))) : p_ := h_
theorem zq52_1 {p_ : Prop} (h_ : p_ := by rw [hg]; exact (below_size (by repeat (first | (with_reducible first | exact HB.out | apply bA | apply pB | apply bW) | exact HB.out)))) : p_ := h_
theorem zq52_2 {p_ : Prop} (h_ : p_ := by (with_reducible repeat (first | refine blk_drewN ?_ _ | refine blk_drew ?_ | refine blk_alloc ?_ _)); exact BK263.out) : p_ := h_
def span_Same.f (k : Nat) (a0_0 : Int) (l0_1 : List Int) (a1_0 : Int) (l1_1 : List Int) : Option (Bool) := if a0_0 = a1_0 then ((slices_Equal_int_int.f k l0_1 l1_1).bind fun t265 => (some t265)) else (some false)
theorem span_Same.mono : ∀ a0 a1 a2 a3 k, LeO (span_Same.f k a0 a1 a2 a3) (span_Same.f (k + 1) a0 a1 a2 a3) := by
 intro a0 a1 a2 a3 k
 unfold span_Same.f
 repeat' first
   | (with_reducible exact slices_Equal_int_int.mono _ _ _)
   | (with_reducible exact LeO.refl _)
   | (with_reducible exact LeO.none _)
   | (with_reducible refine LeO.ite ?_ ?_)
   | (with_reducible refine LeO.bind ?_ (fun _ => ?_))
   | exact slices_Equal_int_int.mono _ _ _
   | exact LeO.none _
   | refine LeO.ite ?_ ?_
   | refine LeO.bind ?_ (fun _ => ?_)
theorem span_Same.calls (k : Nat) (a0_0 : Int) (A0_1 : Option Addr) (c0_1 : Nat) (l0_1 : List Int) (a1_0 : Int) (A1_1 : Option Addr) (c1_1 : Nat) (l1_1 : List Int) (r : Bool) (w : World) (hr0_1 : Kd.C (Kd.int .i64) w A0_1 l0_1.length l0_1) (hc0_1 : l0_1.length ≤ c0_1) (hr1_1 : Kd.C (Kd.int .i64) w A1_1 l1_1.length l1_1) (hc1_1 : l1_1.length ≤ c1_1) (h : span_Same.f k a0_0 l0_1 a1_0 l1_1 = some r) :
  Calls Tryz.prog 52 #[.agg #[.int .i64 a0_0, .slice A0_1 l0_1.length c0_1], .agg #[.int .i64 a1_0, .slice A1_1 l1_1.length c1_1]] w fun e w' => e = .returned (.bool r) ∧ Below w.heap.size w w' := by
 have hu69 := Tryz.underlying69
 have HR0_1 := aK hr0_1
 have HC0_1 := aK hc0_1
 clear hr0_1 hc0_1
 have HR1_1 := aK hr1_1
 have HC1_1 := aK hc1_1
 clear hr1_1 hc1_1
 have HB := aK (Below.refl w.heap.size w)
 have H : (if a0_0 = a1_0 then ((slices_Equal_int_int.f k l0_1 l1_1).bind fun t265 => (some t265)) else (some false)) = some r := h
 clear h
 by_cases c3 : a0_0 = a1_0
 ·rw [if_pos c3] at H
  have c3b0 : (a0_0 == a1_0) = true := beq_iff_eq.mpr c3
  have c3b1 : (a0_0 != a1_0) = false := bne_eq_false_iff_eq.mpr c3
  clear c3
  replace H := bM H
  obtain ⟨t265, A40, H⟩ := H
  have A4 := aK A40
  clear A40
  obtain rfl := sI H
  go_enter Tryz.func52, Tryz.ntmps52
  go_wp2_with (first | ((with_reducible refine gate_dst (N := 2) rfl ?_); refine box_event ?hg (N := 2) ?hd (cs := #[.int .i64 a0_0, .slice A0_1 l0_1.length c0_1]) (t := 69) ?hr ?_; (case hd => rfl); (case hg => rfl); (case hr => first | (go_simp; done) | (go_simp; rfl)); intro gb263 hg w5 hbox hb; have BK263 := aK (hbox); have GW263 := aK ((zq52_1 : w.heap.size ≤ gb263)); have GE263 := aK ((zq52_1 : w.heap.size ≤ gb263)); replace HB := aK (bS (by repeat (first | (with_reducible first | exact HB.out | apply bA | apply pB | apply bW) | exact HB.out)) hb); clear hb hbox hg) | ((with_reducible refine gate_dst (N := 3) rfl ?_); refine box_event ?hg (N := 3) ?hd (cs := #[.int .i64 a1_0, .slice A1_1 l1_1.length c1_1]) (t := 69) ?hr ?_; (case hd => rfl); (case hg => rfl); (case hr => first | (go_simp; done) | (go_simp; rfl)); intro gb264 hg w6 hbox hb; have BK264 := aK (hbox); have GW264 := aK ((zq52_0 : w.heap.size ≤ gb264)); have GE264 := aK ((zq52_0 : w.heap.size ≤ gb264)); replace HB := aK (bS (by repeat (first | (with_reducible first | exact HB.out | apply bA | apply pB | apply bW | refine below_set ?_ GE263.out) | exact HB.out)) hb); have NB263_264 := aK (((by rw [hg]; exact Nat.ne_of_lt (blk_lt (g := gb263) (o := .cells #[.int .i64 a0_0, .slice A0_1 l0_1.length c0_1] 69 (0, 0)) zq52_2)) : gb263 ≠ gb264)); have NB264_263 := aK (((by rw [hg]; exact Nat.ne_of_gt (blk_lt (g := gb263) (o := .cells #[.int .i64 a0_0, .slice A0_1 l0_1.length c0_1] 69 (0, 0)) zq52_2)) : gb264 ≠ gb263)); replace BK263 := aK (bB (g := gb263) (o := .cells #[.int .i64 a0_0, .slice A0_1 l0_1.length c0_1] 69 (0, 0)) zq52_2 hb); clear hb hbox hg; have hnb7 := NB263_264.out; have hnc7 := NB264_263.out; have hcz8_0 : w6.cell? ⟨gb263, 0, none⟩ = some (.int .i64 a0_0) := (bC BK263.out 0).trans rfl; have hcz8_1 : w6.cell? ⟨gb263, 1, none⟩ = some (.slice A0_1 l0_1.length c0_1) := (bC BK263.out 1).trans rfl; have hfz8_0 := bF_ BK263.out 0; have hfz8_1 := bF_ BK263.out 1; have hcz9_0 : w6.cell? ⟨gb264, 0, none⟩ = some (.int .i64 a1_0) := (bC BK264.out 0).trans rfl; have hcz9_1 : w6.cell? ⟨gb264, 1, none⟩ = some (.slice A1_1 l1_1.length c1_1) := (bC BK264.out 1).trans rfl; have hfz9_0 := bF_ BK264.out 0; have hfz9_1 := bF_ BK264.out 1) | (go_at_call 75; (with_reducible refine (slices_Equal_int_int.calls k _ _ l0_1 _ _ l1_1 t265 _ ?side1 ?side2 ?side3 ?side4 A4.out).mono ?_); (case side1 => repeat (first | exact (cB HR0_1.out HB.out) | (with_reducible refine Kd.C_alloc ?_ _) | (with_reducible refine Kd.C_drewN ?_ _) | (with_reducible refine Kd.C_drew ?_))); (case side2 => exact HC0_1.out); (case side3 => repeat (first | exact (cB HR1_1.out HB.out) | (with_reducible refine Kd.C_alloc ?_ _) | (with_reducible refine Kd.C_drewN ?_ _) | (with_reducible refine Kd.C_drew ?_))); (case side4 => exact HC1_1.out); rintro e w' ⟨rfl, ⟨nd, rfl⟩⟩))
  go_ret
  exact ⟨by first | rfl | (simp [errW_none, errW_some] <;> rfl) | (simp [*, errW_none, errW_some] <;> rfl), by repeat (first | (with_reducible first | exact HB.out | apply bA | apply pB | apply bW | refine below_set ?_ GE263.out | refine below_set ?_ GE264.out) | exact HB.out)⟩
 ·rw [if_neg c3] at H
  have c3b0 : (a0_0 == a1_0) = false := beq_eq_false_iff_ne.mpr c3
  have c3b1 : (a0_0 != a1_0) = true := bne_iff_ne.mpr c3
  obtain rfl := sI H
  go_enter Tryz.func52, Tryz.ntmps52
  go_wp2_with (first | ((with_reducible refine gate_dst (N := 2) rfl ?_); refine box_event ?hg (N := 2) ?hd (cs := #[.int .i64 a0_0, .slice A0_1 l0_1.length c0_1]) (t := 69) ?hr ?_; (case hd => rfl); (case hg => rfl); (case hr => first | (go_simp; done) | (go_simp; rfl)); intro gb263 hg w10 hbox hb; have BK263 := aK (hbox); have GW263 := aK ((zq52_1 : w.heap.size ≤ gb263)); have GE263 := aK ((zq52_1 : w.heap.size ≤ gb263)); replace HB := aK (bS (by repeat (first | (with_reducible first | exact HB.out | apply bA | apply pB | apply bW) | exact HB.out)) hb); clear hb hbox hg) | ((with_reducible refine gate_dst (N := 3) rfl ?_); refine box_event ?hg (N := 3) ?hd (cs := #[.int .i64 a1_0, .slice A1_1 l1_1.length c1_1]) (t := 69) ?hr ?_; (case hd => rfl); (case hg => rfl); (case hr => first | (go_simp; done) | (go_simp; rfl)); intro gb264 hg w11 hbox hb; have BK264 := aK (hbox); have GW264 := aK ((zq52_0 : w.heap.size ≤ gb264)); have GE264 := aK ((zq52_0 : w.heap.size ≤ gb264)); replace HB := aK (bS (by repeat (first | (with_reducible first | exact HB.out | apply bA | apply pB | apply bW | refine below_set ?_ GE263.out) | exact HB.out)) hb); have NB263_264 := aK (((by rw [hg]; exact Nat.ne_of_lt (blk_lt (g := gb263) (o := .cells #[.int .i64 a0_0, .slice A0_1 l0_1.length c0_1] 69 (0, 0)) zq52_2)) : gb263 ≠ gb264)); have NB264_263 := aK (((by rw [hg]; exact Nat.ne_of_gt (blk_lt (g := gb263) (o := .cells #[.int .i64 a0_0, .slice A0_1 l0_1.length c0_1] 69 (0, 0)) zq52_2)) : gb264 ≠ gb263)); replace BK263 := aK (bB (g := gb263) (o := .cells #[.int .i64 a0_0, .slice A0_1 l0_1.length c0_1] 69 (0, 0)) zq52_2 hb); clear hb hbox hg; have hnb12 := NB263_264.out; have hnc12 := NB264_263.out; have hcz13_0 : w11.cell? ⟨gb263, 0, none⟩ = some (.int .i64 a0_0) := (bC BK263.out 0).trans rfl; have hcz13_1 : w11.cell? ⟨gb263, 1, none⟩ = some (.slice A0_1 l0_1.length c0_1) := (bC BK263.out 1).trans rfl; have hfz13_0 := bF_ BK263.out 0; have hfz13_1 := bF_ BK263.out 1; have hcz14_0 : w11.cell? ⟨gb264, 0, none⟩ = some (.int .i64 a1_0) := (bC BK264.out 0).trans rfl; have hcz14_1 : w11.cell? ⟨gb264, 1, none⟩ = some (.slice A1_1 l1_1.length c1_1) := (bC BK264.out 1).trans rfl; have hfz14_0 := bF_ BK264.out 0; have hfz14_1 := bF_ BK264.out 1))
  go_ret
  exact ⟨by first | rfl | (simp [errW_none, errW_some] <;> rfl) | (simp [*, errW_none, errW_some] <;> rfl), by repeat (first | (with_reducible first | exact HB.out | apply bA | apply pB | apply bW | refine below_set ?_ GE263.out | refine below_set ?_ GE264.out) | exact HB.out)⟩
def slices_Clone_int_int.f (l0 : List Int) : Option (List Int) := (some (([] : List Int) : List Int)).bind fun y266 => (if y266.length + l0.length < 17592186044416 then (some (y266 ++ l0)) else (none))
theorem slices_Clone_int_int.calls_some (ad0 : Addr) (c0 : Nat) (l0 : List Int) (r : List Int) (w : World) (hr0 : Kd.C (Kd.int .i64) w (some ad0) l0.length l0) (hc0 : l0.length ≤ c0) (h : slices_Clone_int_int.f l0 = some r) :
  Calls Tryz.prog 71 #[.slice (some ad0) l0.length c0] w fun e w' => ∃ v0_ : Value, e = .returned (v0_) ∧ Kd.R (Kd.int .i64) 3 w' w.heap.size (fun _ => True) v0_ r ∧ Below w.heap.size w w' := by
 have HR0 := aK hr0
 have HC0 := aK hc0
 clear hr0 hc0
 have HB := aK (Below.refl w.heap.size w)
 have H : ((some (([] : List Int) : List Int)).bind fun y266 => (if y266.length + l0.length < 17592186044416 then (some (y266 ++ l0)) else (none))) = some r := h
 clear h
 obtain ⟨y266, hy266⟩ : ∃ y_ : List Int, y_ = (([] : List Int)) := ⟨_, rfl⟩
 replace H : (if y266.length + l0.length < 17592186044416 then (some (y266 ++ l0)) else (none)) = some r := by first | (rw [hy266]; with_reducible exact H) | (have H2_ := (Option.bind_some _ _).symm.trans H; rw [hy266]; with_reducible exact H2_) | (have H2_ := (Option.bind_some _ _).symm.trans H; with_reducible exact H2_) | with_reducible exact H | (rw [hy266]; exact H) | exact H
 have Ny266 := aK hy266
 clear hy266
 by_cases c2 : y266.length + l0.length < 17592186044416
 ·rw [if_pos c2] at H
  have LMc2 := aK c2
  clear c2
  obtain ⟨y269, hy269⟩ : ∃ y_ : List Int, y_ = (y266 ++ l0) := ⟨_, rfl⟩
  replace H : (some y269) = some r := by first | (rw [hy269]; with_reducible exact H) | (have H2_ := (Option.bind_some _ _).symm.trans H; rw [hy269]; with_reducible exact H2_) | (have H2_ := (Option.bind_some _ _).symm.trans H; with_reducible exact H2_) | with_reducible exact H | (rw [hy269]; exact H) | exact H
  have Ny269 := aK hy269
  clear hy269
  obtain rfl := sI H
  have hnq_ : ∀ W : World, (binOp .eql 57 (.slice (some ad0) l0.length c0) (.slice none 0 0)).run Tryz.prog W = .ok (.bool ((some ad0) : Option Addr).isNone) W := fun W => by first | exact Lib.run_eql_slice_nil W 57 3 _ _ _ 0 0 Tryz.underlying57 | exact Lib.run_eql_slice_nil W 57 3 _ _ _ Tryz.underlying57
  go_enter Tryz.func71, Tryz.ntmps71
  go_wp2_with (first | ((with_reducible refine gate_dst (N := 5) rfl ?_); refine Kd.R_lit (Kd.int .i64) _ 3 ?hg (N := 5) ?hd (xs := ([] : List Int)) (inner := []) (ok := fun _ => True) (okp := fun _ => True) ?hr ?hp (fun _ hk => hk) trivial (Below.refl _ _) (Nat.le_refl _) (by simp) ?_; (case hd => rfl); (case hg => rfl); (case hr => first | (go_simp; done) | (go_simp; rfl)); (case hp => exact (Reps.none _ _)); intro v267 w3 ho4 hb hg_ hnew_; clear hg_ hnew_; (first | rw [← Ny266.out] at ho4 | (simp only [Int.reduceToNat] at ho4; rw [← Ny266.out] at ho4)); have HO268 := aK (Kd.R_lower ho4 (below_size (by repeat (first | (with_reducible first | exact HB.out | apply bA | apply pB | apply bW) | exact HB.out)))); replace HB := aK (bS (by repeat (first | (with_reducible first | exact HB.out | apply bA | apply pB | apply bW) | exact HB.out)) hb); clear hb ho4) | ((with_reducible refine gate_builtin (b := .append) (xs := #[.tmp 5, .tmp 6]) rfl ?_); at_builtin; refine Kd.R_append_rows (Kd.int .i64) (w0 := w) w.heap.size rfl (.tmp 5) (.tmp 6) 57 3 (.int .i64 0) 8 rfl Tryz.underlying57 info3 rfl (by decide) (by omega) v267 y266 l0 _ _ _ (fun _ => True) (fun _ => False) rfl rfl ?aO ?aR (fun _ _ h => h) (fun _ h => h.elim) ?aF ?aB ?aS ?aL ?_; (case aR => repeat (first | exact (cB HR0.out HB.out) | (with_reducible refine Kd.C_alloc ?_ _) | (with_reducible refine Kd.C_drewN ?_ _) | (with_reducible refine Kd.C_drew ?_))); (case aB => exact (by repeat (first | (with_reducible first | exact HB.out | apply bA | apply pB | apply bW) | exact HB.out))); (case aF => exact (fun _ _ => trivial)); (case aO => exact (by (with_reducible repeat (first | apply Kd.R_alloc | apply Kd.R_drewN | apply Kd.R_drew)); exact HO268.out)); (case aS => exact (below_size (by repeat (first | (with_reducible first | exact HB.out | apply bA | apply pB | apply bW) | exact HB.out)))); (case aL => have := LMc2.out; omega); intro v270 w5 ho hb hg hat; rw [← Ny269.out] at ho; replace HB := aK (hb); have HO271 := aK (ho); clear HO268; clear ho hb hg hat))
  go_ret
  exact ⟨_, by first | rfl | (simp [errW_none, errW_some] <;> rfl) | (simp [*, errW_none, errW_some] <;> rfl), by (with_reducible repeat (first | apply Kd.R_alloc | apply Kd.R_drewN | apply Kd.R_drew)); exact HO271.out, by repeat (first | (with_reducible first | exact HB.out | apply bA | apply pB | apply bW) | exact HB.out)⟩
 ·rw [if_neg c2] at H
  exact absurd H (by simp)
theorem slices_Clone_int_int.calls (A0 : Option Addr) (c0 : Nat) (l0 : List Int) (r : List Int) (w : World) (hr0 : Kd.C (Kd.int .i64) w A0 l0.length l0) (hc0 : l0.length ≤ c0) (h : slices_Clone_int_int.f l0 = some r) :
  Calls Tryz.prog 71 #[.slice A0 l0.length c0] w fun e w' => ∃ v0_ : Value, e = .returned (v0_) ∧ Kd.R (Kd.int .i64) 3 w' w.heap.size (fun _ => True) v0_ r ∧ Below w.heap.size w w' := by
 cases A0 with
 | some ad0 => exact slices_Clone_int_int.calls_some ad0 c0 l0 r w hr0 hc0 h
 | none =>
  have hl : l0 = [] := by
   cases l0 with
   | nil => rfl
   | cons x t => obtain ⟨ad, e, _⟩ := hr0.2.2 (by simp); cases e
  subst hl
  have hr : r = [] := by simpa [slices_Clone_int_int.f] using h.symm
  subst hr
  clear h hr0
  have hnq_ : ∀ W : World, (binOp .eql 57 (.slice none 0 c0) (.slice none 0 0)).run Tryz.prog W = .ok (.bool (none : Option Addr).isNone) W := fun W => by first | exact Lib.run_eql_slice_nil W 57 3 _ _ _ 0 0 Tryz.underlying57 | exact Lib.run_eql_slice_nil W 57 3 _ _ _ Tryz.underlying57
  simp only [List.length_nil]
  go_enter Tryz.func71, Tryz.ntmps71
  go_wp2
  go_ret
  exact ⟨_, rfl, Kd.R_nil _ _ _ _ _, Below.refl _ _⟩
theorem zq88_0 {p_ : Prop} (h_ : p_ := by repeat (first | (with_reducible first | exact HB.out | apply bA | apply pB | apply bW | refine below_set ?_ GE272.out) | exact HB.out)) : p_ := h_
theorem zq88_1 {p_ : Prop} (h_ : p_ := by repeat (first | (with_reducible first | exact HB.out | apply bA | apply pB | apply bW) | exact HB.out)) : p_ := h_
theorem zq88_2 {p_ : Prop} (h_ : p_ := by first | (with_reducible assumption) | assumption) : p_ := h_
theorem zq88_3 {p_ : Prop} (h_ : p_ := by first | rfl | (simp; done) | (simp [*]; done)) : p_ := h_
def span_folded.l0 : Nat → Int → List Int → Int → Option (Int × List Int)
 | 0, _, _, _ => none
 | k + 1, x0, x1, x5 => if x5 < (x1.length : Int) then (if 0 ≤ x5 then (if (rd x1 x5) ≤ (wrap64 (x0 + 1)) then (span_folded.l0 k (mx x0 (rd x1 x5)) x1 (wrap64 (x5 + 1))) else (if x5 ≤ (x1.length : Int) then ((slices_Clone_int_int.f (x1.drop (x5 : Int).toNat)).bind fun t276 => (some (x0, t276))) else (none))) else (none)) else (if 0 ≤ x5 then (if x5 ≤ (x1.length : Int) then ((slices_Clone_int_int.f (x1.drop (x5 : Int).toNat)).bind fun t280 => (some (x0, t280))) else (none)) else (none))
def span_folded.f (k : Nat) (a0 : Int) (l1 : List Int) : Option (Int × List Int) := span_folded.l0 k a0 l1 0
theorem span_folded.mono_l : ∀ k, (∀ y0 y1 y2, LeO (span_folded.l0 k y0 y1 y2) (span_folded.l0 (k + 1) y0 y1 y2))
 | 0 => fun _ _ _ r h => by simp [span_folded.l0] at h
 | k + 1 => by
  have ih0 := span_folded.mono_l k
  ·intro y0 y1 y2
   unfold span_folded.l0
   repeat' first
   | (with_reducible exact ih0 _ _ _)
   | (with_reducible exact LeO.refl _)
   | (with_reducible exact LeO.none _)
   | (with_reducible refine LeO.ite ?_ ?_)
   | (with_reducible refine LeO.bind ?_ (fun _ => ?_))
   | exact ih0 _ _ _
   | exact LeO.none _
   | refine LeO.ite ?_ ?_
   | refine LeO.bind ?_ (fun _ => ?_)
theorem span_folded.mono : ∀ a0 a1 k, LeO (span_folded.f k a0 a1) (span_folded.f (k + 1) a0 a1) := by
 intro a0 a1 k
 have ih0 := span_folded.mono_l k
 unfold span_folded.f
 repeat' first
   | (with_reducible exact ih0 _ _ _)
   | (with_reducible exact LeO.refl _)
   | (with_reducible exact LeO.none _)
   | (with_reducible refine LeO.ite ?_ ?_)
   | (with_reducible refine LeO.bind ?_ (fun _ => ?_))
   | exact ih0 _ _ _
   | exact LeO.none _
   | refine LeO.ite ?_ ?_
   | refine LeO.bind ?_ (fun _ => ?_)
theorem span_folded.calls (k : Nat) (a0 : Int) (A1 : Option Addr) (c1 : Nat) (l1 : List Int) (r1 : Int) (r2 : List Int) (w : World) (hr1 : Kd.C (Kd.int .i64) w A1 l1.length l1) (hc1 : l1.length ≤ c1) (h : span_folded.f k a0 l1 = some (r1, r2)) :
  Calls Tryz.prog 88 #[.int .i64 a0, .slice A1 l1.length c1] w fun e w' => ∃ v1_ : Value, e = .returned (.agg #[.int .i64 r1, v1_]) ∧ Kd.R (Kd.int .i64) 3 w' w.heap.size (fun _ => True) v1_ r2 ∧ Below w.heap.size w w' := by
 have hu69 := Tryz.underlying69
 have HR1 := aK hr1
 have HC1 := aK hc1
 clear hr1 hc1
 have HB := aK (Below.refl w.heap.size w)
 have H : (span_folded.l0 k a0 l1 0) = some (r1, r2) := h
 clear h
 have H' := aK H
 clear H
 go_enter Tryz.func88, Tryz.ntmps88
 go_wp2_with (first | ((with_reducible refine gate_dst (N := 4) rfl ?_); refine box_event ?hg (N := 4) ?hd (cs := #[.int .i64 0, .slice none 0 0]) (t := 69) ?hr ?_; (case hd => rfl); (case hg => rfl); (case hr => first | (go_simp; done) | (go_simp; rfl)); intro gb272 hg w3 hbox hb; have BK272 := aK (hbox); have GW272 := aK (((by rw [hg]; exact (below_size zq88_1)) : w.heap.size ≤ gb272)); have GE272 := aK (((by rw [hg]; exact (below_size zq88_1)) : w.heap.size ≤ gb272)); replace HB := aK (bS zq88_1 hb); clear hb hbox hg))
 go_loopg [0, 5] k (fun kq v0 v5 w' => ∃ (x0_1 : Int) (x5_1 : Int), v0 = .int .i64 x0_1 ∧ v5 = .int .i64 x5_1 ∧ Aside0 (span_folded.l0 kq x0_1 l1 x5_1 = some (r1, r2)) ∧ Aside0 (kq ≤ k) ∧ Aside0 (w'.heap[gb272]? = some (.cells #[.int .i64 0, (.slice none 0 0)] 69 (0, 0))) ∧ Aside0 (Below w.heap.size w w'))
 case atStart => exact ⟨(a0), (0), zq88_3, zq88_3, H', ⟨Nat.le_refl _⟩, ⟨by (with_reducible repeat (first | refine blk_drewN ?_ _ | refine blk_drew ?_ | refine blk_alloc ?_ _)); exact BK272.out⟩, ⟨by repeat (first | (with_reducible first | exact HB.out | apply bA | apply pB | apply bW | refine below_set ?_ GE272.out) | exact HB.out)⟩⟩
 case round =>
  clear H'
  try clear c1
  try clear p2
  obtain ⟨x0_1, x5_1, rfl, rfl, HA, HK1, BK272, HB⟩ := hrel
  cases gk with
  | zero => exact absurd HA.out (by simp [span_folded.l0])
  | succ k1 =>
   have H := HA.out
   clear HA
   simp only [span_folded.l0] at H
   by_cases c4 : x5_1 < (l1.length : Int)
   ·rw [if_pos c4] at H
    have c4b0 : decide (x5_1 < (l1.length : Int)) = true := dT c4
    clear c4
    by_cases c5 : 0 ≤ x5_1
    ·rw [if_pos c5] at H
     have c5b0 : decide (0 ≤ x5_1) = true := dT c5
     clear c5
     by_cases c6 : (rd l1 x5_1) ≤ (wrap64 (x0_1 + 1))
     ·rw [if_pos c6] at H
      have c6b0 : decide ((rd l1 x5_1) ≤ (wrap64 (x0_1 + 1))) = true := dT c6
      clear c6
      obtain ⟨ji7, hji7⟩ : ∃ j_ : Int, (mx x0_1 (rd l1 x5_1)) = j_ := ⟨_, rfl⟩
      replace H : (span_folded.l0 k1 ji7 l1 (wrap64 (x5_1 + 1))) = some (r1, r2) := by first | (rw [hji7] at H; exact H) | (simp only [hji7] at H ⊢; exact H)
      have hji7_ : (if x0_1 < (rd l1 x5_1) then (rd l1 x5_1) else x0_1) = ji7 := hji7
      have H' := aK H
      clear H
      have p273 : 0 ≤ (x5_1 : Int) := oD zq88_2
      have q273 : x5_1 < (l1.length : Int) := oD zq88_2
      obtain ⟨ad273, e273, hx273_0⟩ := Kd.at_int HR1.out x5_1 p273 q273
      cases e273
      replace hx273_0 := pc_ HB hx273_0
      replace p273 := eT p273
      replace q273 := eT q273
      have p274 : 0 ≤ (x5_1 : Int) := oD zq88_2
      have q274 : x5_1 < (l1.length : Int) := oD zq88_2
      obtain ⟨ad274, e274, hx274_0⟩ := Kd.at_int HR1.out x5_1 p274 q274
      obtain rfl : ad273 = ad274 := (by injection e274)
      replace hx274_0 := pc_ HB hx274_0
      replace p274 := eT p274
      replace q274 := eT q274
      go_wp2
      go_roundg k1
      case measure => have := HK1.out; omega
      case rel => exact ⟨(ji7), (wrap64 (x5_1 + 1)), (by first | rfl | (simp; done) | (simp only [← hji7] <;> (first | rfl | simp)) | (simp [*]; done)), zq88_3, H', ⟨by have := HK1.out; omega⟩, ⟨by (with_reducible repeat (first | refine blk_drewN ?_ _ | refine blk_drew ?_ | refine blk_alloc ?_ _)); exact BK272.out⟩, ⟨by repeat (first | (with_reducible first | exact HB.out | apply bA | apply pB | apply bW | refine below_set ?_ GE272.out) | exact HB.out)⟩⟩
     ·rw [if_neg c6] at H
      have c6b0 : decide ((rd l1 x5_1) ≤ (wrap64 (x0_1 + 1))) = false := decide_eq_false c6
      clear c6
      have c8b0 := eT (oD zq88_2 : 0 ≤ x5_1)
      by_cases c9 : x5_1 ≤ (l1.length : Int)
      ·rw [if_pos c9] at H
       have c9b0 := eT c9
       have c9b1 : decide (x5_1 ≤ (l1.length : Int)) = true := dT c9
       clear c9
       replace H := bM H
       obtain ⟨t276, A100, H⟩ := H
       replace H : (some (x0_1, t276)) = some (r1, r2) := H
       have A10 := aK A100
       clear A100
       simp only [Option.some.injEq, Prod.mk.injEq] at H
       obtain ⟨rfl, rfl⟩ := H
       have p273 : 0 ≤ (x5_1 : Int) := oD zq88_2
       have q273 : x5_1 < (l1.length : Int) := oD zq88_2
       obtain ⟨ad273, e273, hx273_0⟩ := Kd.at_int HR1.out x5_1 p273 q273
       cases e273
       replace hx273_0 := pc_ HB hx273_0
       replace p273 := eT p273
       replace q273 := eT q273
       obtain ⟨i011, hi011, _, hsz11, _⟩ := info_parts info3
       obtain ⟨A11, hcut11, hA11, hC11⟩ := print_drop_of (P := Tryz.prog) (Value.int .i64) 0 57 3 .i64 Tryz.underlying57 hi011 hsz11 (some ad273) c1 l1 x5_1 (oD zq88_2) (oD zq88_2) HC1.out
       have HR275 := aK (Kd.C_of_reads (h1 := fun _ => rfl) (hA11 _ (Kd.reads_of_C HR1.out)))
       have HC275 := aK hC11
       clear hA11 hC11 hi011 hsz11
       go_wp2_with (first | ((with_reducible refine gate_callee (f := 71) rfl ?_); refine goesL_ (some 31) rfl rfl Tryz.func71 (by kernel_rfl) rfl #[.slice A11 (l1.drop (x5_1 : Int).toNat).length (c1 - x5_1.toNat)] rfl (by (try simp only [List.map_toArray, List.map_cons, List.map_nil]); first | done | (rw [show (l1.drop (x5_1 : Int).toNat).length = (l1.length - x5_1.toNat) from List.length_drop] <;> rfl) | rfl | (simp only [List.length_drop, List.length_take]; rfl)) ?_; (with_reducible refine (slices_Clone_int_int.calls _ _ (l1.drop (x5_1 : Int).toNat) t276 _ ?side1 ?side2 A10.out).mono ?_); (case side1 => repeat (first | exact (cB HR275.out HB.out) | (with_reducible refine Kd.C_alloc ?_ _) | (with_reducible refine Kd.C_drewN ?_ _) | (with_reducible refine Kd.C_drew ?_))); (case side2 => exact HC275.out); rintro e w12 ⟨v277, rfl, ho0, hb⟩; refine ⟨_, rfl, ?_⟩; have HO278 := aK (Kd.R_lower ho0 (below_size zq88_0)); replace BK272 := aK (bB (g := gb272) (o := .cells #[.int .i64 0, .slice none 0 0] 69 (0, 0)) (by (with_reducible repeat (first | refine blk_drewN ?_ _ | refine blk_drew ?_ | refine blk_alloc ?_ _)); exact BK272.out) hb); replace HB := aK (bS zq88_0 hb); (try clear hb); (try clear hb2); (try clear hk); (try clear hi); (try clear ho0); obtain ⟨Ao13, co13, eo13⟩ := Kd.R_slice HO278.out; subst eo13; have hcz14_0 : w12.cell? ⟨gb272, 0, none⟩ = some (.int .i64 0) := (bC BK272.out 0).trans rfl; have hcz14_1 : w12.cell? ⟨gb272, 1, none⟩ = some (.slice none 0 0) := (bC BK272.out 1).trans rfl; have hfz14_0 := bF_ BK272.out 0; have hfz14_1 := bF_ BK272.out 1))
       refine bodyPost_ret (results_cell_row rfl _ _ gb272 69 #[.int .i64 x0_1, .slice Ao13 t276.length co13] (0, 0) _ rfl (by (with_reducible repeat (first | refine blk_drewN ?_ _ | refine blk_drew ?_ | refine blk_alloc ?_ _)); refine blk_put (cs := #[.int .i64 x0_1, .slice none 0 0]) ?_ 1 _ rfl; (with_reducible repeat (first | refine blk_drewN ?_ _ | refine blk_drew ?_ | refine blk_alloc ?_ _)); refine blk_put (cs := #[.int .i64 0, .slice none 0 0]) ?_ 0 _ rfl; (with_reducible repeat (first | refine blk_drewN ?_ _ | refine blk_drew ?_ | refine blk_alloc ?_ _)); exact BK272.out) Tryz.underlying69 rfl (by kernel_rfl)) rfl ?_
       exact ⟨_, by first | rfl | (simp [errW_none, errW_some] <;> rfl) | (simp [*, errW_none, errW_some] <;> rfl), by (with_reducible repeat (first | apply Kd.R_alloc | apply Kd.R_drewN | apply Kd.R_drew)); exact Kd.R_mono (Kd.R_far (p := ⟨gb272, 1, none⟩) (Kd.R_far (p := ⟨gb272, 0, none⟩) (Kd.R_types HO278.out BK272.out (by decide)) (fun _ hk => hk.2) (.int .i64 x0_1)) (fun _ hk => hk.2) (.slice Ao13 t276.length co13)) (fun _ hk => trivial), by repeat (first | (with_reducible first | exact HB.out | apply bA | apply pB | apply bW | refine below_set ?_ GE272.out) | exact HB.out)⟩
      ·rw [if_neg c9] at H
       exact absurd H (by simp)
    ·rw [if_neg c5] at H
     exact absurd H (by simp)
   ·rw [if_neg c4] at H
    have c4b0 : decide (x5_1 < (l1.length : Int)) = false := decide_eq_false c4
    clear c4
    by_cases c15 : 0 ≤ x5_1
    ·rw [if_pos c15] at H
     have c15b0 := eT c15
     have c15b1 : decide (0 ≤ x5_1) = true := dT c15
     clear c15
     by_cases c16 : x5_1 ≤ (l1.length : Int)
     ·rw [if_pos c16] at H
      have c16b0 := eT c16
      have c16b1 : decide (x5_1 ≤ (l1.length : Int)) = true := dT c16
      clear c16
      replace H := bM H
      obtain ⟨t280, A170, H⟩ := H
      replace H : (some (x0_1, t280)) = some (r1, r2) := H
      have A17 := aK A170
      clear A170
      simp only [Option.some.injEq, Prod.mk.injEq] at H
      obtain ⟨rfl, rfl⟩ := H
      obtain ⟨i018, hi018, _, hsz18, _⟩ := info_parts info3
      obtain ⟨A18, hcut18, hA18, hC18⟩ := print_drop_of (P := Tryz.prog) (Value.int .i64) 0 57 3 .i64 Tryz.underlying57 hi018 hsz18 A1 c1 l1 x5_1 (oD zq88_2) (oD zq88_2) HC1.out
      have HR279 := aK (Kd.C_of_reads (h1 := fun _ => rfl) (hA18 _ (Kd.reads_of_C HR1.out)))
      have HC279 := aK hC18
      clear hA18 hC18 hi018 hsz18
      go_wp2_with (first | ((with_reducible refine gate_callee (f := 71) rfl ?_); refine goesL_ (some 31) rfl rfl Tryz.func71 (by kernel_rfl) rfl #[.slice A18 (l1.drop (x5_1 : Int).toNat).length (c1 - x5_1.toNat)] rfl (by (try simp only [List.map_toArray, List.map_cons, List.map_nil]); first | done | (rw [show (l1.drop (x5_1 : Int).toNat).length = (l1.length - x5_1.toNat) from List.length_drop] <;> rfl) | rfl | (simp only [List.length_drop, List.length_take]; rfl)) ?_; (with_reducible refine (slices_Clone_int_int.calls _ _ (l1.drop (x5_1 : Int).toNat) t280 _ ?side1 ?side2 A17.out).mono ?_); (case side1 => repeat (first | exact (cB HR279.out HB.out) | (with_reducible refine Kd.C_alloc ?_ _) | (with_reducible refine Kd.C_drewN ?_ _) | (with_reducible refine Kd.C_drew ?_))); (case side2 => exact HC279.out); rintro e w19 ⟨v281, rfl, ho0, hb⟩; refine ⟨_, rfl, ?_⟩; have HO282 := aK (Kd.R_lower ho0 (below_size zq88_0)); replace BK272 := aK (bB (g := gb272) (o := .cells #[.int .i64 0, .slice none 0 0] 69 (0, 0)) (by (with_reducible repeat (first | refine blk_drewN ?_ _ | refine blk_drew ?_ | refine blk_alloc ?_ _)); exact BK272.out) hb); replace HB := aK (bS zq88_0 hb); (try clear hb); (try clear hb2); (try clear hk); (try clear hi); (try clear ho0); obtain ⟨Ao20, co20, eo20⟩ := Kd.R_slice HO282.out; subst eo20; have hcz21_0 : w19.cell? ⟨gb272, 0, none⟩ = some (.int .i64 0) := (bC BK272.out 0).trans rfl; have hcz21_1 : w19.cell? ⟨gb272, 1, none⟩ = some (.slice none 0 0) := (bC BK272.out 1).trans rfl; have hfz21_0 := bF_ BK272.out 0; have hfz21_1 := bF_ BK272.out 1))
      refine bodyPost_ret (results_cell_row rfl _ _ gb272 69 #[.int .i64 x0_1, .slice Ao20 t280.length co20] (0, 0) _ rfl (by (with_reducible repeat (first | refine blk_drewN ?_ _ | refine blk_drew ?_ | refine blk_alloc ?_ _)); refine blk_put (cs := #[.int .i64 x0_1, .slice none 0 0]) ?_ 1 _ rfl; (with_reducible repeat (first | refine blk_drewN ?_ _ | refine blk_drew ?_ | refine blk_alloc ?_ _)); refine blk_put (cs := #[.int .i64 0, .slice none 0 0]) ?_ 0 _ rfl; (with_reducible repeat (first | refine blk_drewN ?_ _ | refine blk_drew ?_ | refine blk_alloc ?_ _)); exact BK272.out) Tryz.underlying69 rfl (by kernel_rfl)) rfl ?_
      exact ⟨_, by first | rfl | (simp [errW_none, errW_some] <;> rfl) | (simp [*, errW_none, errW_some] <;> rfl), by (with_reducible repeat (first | apply Kd.R_alloc | apply Kd.R_drewN | apply Kd.R_drew)); exact Kd.R_mono (Kd.R_far (p := ⟨gb272, 1, none⟩) (Kd.R_far (p := ⟨gb272, 0, none⟩) (Kd.R_types HO282.out BK272.out (by decide)) (fun _ hk => hk.2) (.int .i64 x0_1)) (fun _ hk => hk.2) (.slice Ao20 t280.length co20)) (fun _ hk => trivial), by repeat (first | (with_reducible first | exact HB.out | apply bA | apply pB | apply bW | refine below_set ?_ GE272.out) | exact HB.out)⟩
     ·rw [if_neg c16] at H
      exact absurd H (by simp)
    ·rw [if_neg c15] at H
     exact absurd H (by simp)
def laySortInt_ren : Go.Shelf.Ren := ⟨fun | 5 => 87 | 8 => 99 | 7 => 98 | 19 => 112 | 20 => 113 | 10 => 104 | 11 => 105 | 12 => 106 | 13 => 107 | 14 => 108 | 15 => 109 | 16 => 94 | 17 => 110 | 18 => 111 | 30 => 115 | 31 => 116 | 32 => 117 | 33 => 118 | 34 => 119 | 35 => 102 | 40 => 120 | n => n, fun | 23 => 57 | 25 => 3 | 3 => 3 | 32 => 122 | 22 => 57 | 0 => 0 | 44 => 143 | 46 => 66 | 4 => 4 | 36 => 137 | 35 => 136 | 41 => 100 | 5 => 5 | 9 => 9 | 53 => 146 | 57 => 150 | 63 => 152 | 64 => 153 | n => n, fun | n => n⟩
theorem laySortInt : Go.Proofs.SlLaysM.n5 Tryz.prog laySortInt_ren := { mixed := by kernel_rfl, f5 := ⟨Tryz.f87.name, by decide, Tryz.func87.trans (congrArg some (by kernel_rfl))⟩, f7 := ⟨Tryz.f98.name, by decide, Tryz.func98.trans (congrArg some (by kernel_rfl))⟩, f8 := Tryz.func99.trans (congrArg some (by kernel_rfl)), f10 := ⟨Tryz.f104.name, by decide, Tryz.func104.trans (congrArg some (by kernel_rfl))⟩, f11 := ⟨Tryz.f105.name, by decide, Tryz.func105.trans (congrArg some (by kernel_rfl))⟩, f12 := ⟨Tryz.f106.name, by decide, Tryz.func106.trans (congrArg some (by kernel_rfl))⟩, f13 := ⟨Tryz.f107.name, by decide, Tryz.func107.trans (congrArg some (by kernel_rfl))⟩, f14 := ⟨Tryz.f108.name, by decide, Tryz.func108.trans (congrArg some (by kernel_rfl))⟩, f15 := ⟨Tryz.f109.name, by decide, Tryz.func109.trans (congrArg some (by kernel_rfl))⟩, f16 := ⟨Tryz.f94.name, by decide, Tryz.func94.trans (congrArg some (by kernel_rfl))⟩, f17 := ⟨Tryz.f110.name, by decide, Tryz.func110.trans (congrArg some (by kernel_rfl))⟩, f18 := ⟨Tryz.f111.name, by decide, Tryz.func111.trans (congrArg some (by kernel_rfl))⟩, f19 := Tryz.func112.trans (congrArg some (by kernel_rfl)), f20 := Tryz.func113.trans (congrArg some (by kernel_rfl)), f30 := ⟨Tryz.f115.name, by decide, Tryz.func115.trans (congrArg some (by kernel_rfl))⟩, f31 := Tryz.func116.trans (congrArg some (by kernel_rfl)), f32 := Tryz.func117.trans (congrArg some (by kernel_rfl)), f33 := ⟨Tryz.f118.name, by decide, Tryz.func118.trans (congrArg some (by kernel_rfl))⟩, f34 := ⟨Tryz.f119.name, by decide, Tryz.func119.trans (congrArg some (by kernel_rfl))⟩, f35 := ⟨Tryz.f102.name, by decide, Tryz.func102.trans (congrArg some (by kernel_rfl))⟩, f40 := ⟨Tryz.f120.name, by decide, Tryz.func120.trans (congrArg some (by kernel_rfl))⟩, t0 := Tryz.underlying0, a0 := Tryz.isAgg0, z0 := Tryz.sizeOf0, v0 := Tryz.zeroValue0, t3 := Tryz.underlying3, a3 := Tryz.isAgg3, z3 := Tryz.sizeOf3, v3 := Tryz.zeroValue3, t4 := Tryz.underlying4, a4 := Tryz.isAgg4, z4 := Tryz.sizeOf4, v4 := Tryz.zeroValue4, t5 := Tryz.underlying5, a5 := Tryz.isAgg5, z5 := Tryz.sizeOf5, v5 := Tryz.zeroValue5, t9 := Tryz.underlying9, a9 := Tryz.isAgg9, z9 := Tryz.sizeOf9, v9 := Tryz.zeroValue9, t22 := Tryz.underlying57, a22 := Tryz.isAgg57, z22 := Tryz.sizeOf57, v22 := Tryz.zeroValue57, t23 := Tryz.underlying57, a23 := Tryz.isAgg57, z23 := Tryz.sizeOf57, v23 := Tryz.zeroValue57, t25 := Tryz.underlying3, a25 := Tryz.isAgg3, z25 := Tryz.sizeOf3, v25 := Tryz.zeroValue3, t32 := Tryz.underlying122, a32 := Tryz.isAgg122, z32 := Tryz.sizeOf122, v32 := Tryz.zeroValue122, t35 := Tryz.underlying136, a35 := Tryz.isAgg136, z35 := Tryz.sizeOf136, v35 := Tryz.zeroValue136, t36 := Tryz.underlying137, a36 := Tryz.isAgg137, z36 := Tryz.sizeOf137, v36 := Tryz.zeroValue137, t41 := Tryz.underlying100, a41 := Tryz.isAgg100, z41 := Tryz.sizeOf100, v41 := Tryz.zeroValue100, t44 := Tryz.underlying143, a44 := Tryz.isAgg143, z44 := Tryz.sizeOf143, v44 := Tryz.zeroValue143, t46 := Tryz.underlying66, a46 := Tryz.isAgg66, z46 := Tryz.sizeOf66, v46 := Tryz.zeroValue66, t53 := Tryz.underlying146, a53 := Tryz.isAgg146, z53 := Tryz.sizeOf146, v53 := Tryz.zeroValue146, t57 := Tryz.underlying150, a57 := Tryz.isAgg150, z57 := Tryz.sizeOf150, v57 := Tryz.zeroValue150, t63 := Tryz.underlying152, a63 := Tryz.isAgg152, z63 := Tryz.sizeOf152, v63 := Tryz.zeroValue152, t64 := Tryz.underlying153, a64 := Tryz.isAgg153, z64 := Tryz.sizeOf153, v64 := Tryz.zeroValue153 }
def layCompactInt_ren : Go.Shelf.Ren := ⟨fun | 43 => 89 | n => n, fun | 22 => 57 | 23 => 3 | 3 => 3 | 4 => 4 | 0 => 0 | n => n, fun | n => n⟩
theorem layCompactInt : Go.Proofs.SlLaysE.n43 Tryz.prog layCompactInt_ren := { mixed := by kernel_rfl, f43 := ⟨Tryz.f89.name, by decide, Tryz.func89.trans (congrArg some (by kernel_rfl))⟩, t0 := Tryz.underlying0, a0 := Tryz.isAgg0, z0 := Tryz.sizeOf0, v0 := Tryz.zeroValue0, t3 := Tryz.underlying3, a3 := Tryz.isAgg3, z3 := Tryz.sizeOf3, v3 := Tryz.zeroValue3, t4 := Tryz.underlying4, a4 := Tryz.isAgg4, z4 := Tryz.sizeOf4, v4 := Tryz.zeroValue4, t22 := Tryz.underlying57, a22 := Tryz.isAgg57, z22 := Tryz.sizeOf57, v22 := Tryz.zeroValue57, a23 := Tryz.isAgg3, z23 := Tryz.sizeOf3 }
theorem spc_grow (n : Nat) (w : World) (hn : n * 8 ≤ 140737488355328) :
  Calls Tryz.prog 97 #[.slice none 0 0, .int .i64 n] w fun e w' => ∃ v : Value, e = .returned v ∧ Kd.R (Kd.int .i64) 3 w' w.heap.size (fun _ => True) v ([] : List Int) ∧ Below w.heap.size w w' := by
 obtain ⟨i0, hi0, hz0, hsz0, hby0⟩ := info_parts info3
 have hcut0 := cut_to (P := Tryz.prog) 57 3 .i64 Tryz.underlying57 hi0 none 0 0 0 (by omega) (by omega) (by omega)
 by_cases h0 : n = 0
 ·subst h0
  go_enter Tryz.func97, Tryz.ntmps97
  go_wp2
  go_ret
  exact ⟨_, rfl, Kd.R_nil _ _ _ _ _, Below.refl _ _⟩
 ·have hpos : decide ((n : Int) < 0) = false := by simp
  have hgt : decide ((0 : Int) < (n : Int)) = true := by simp; omega
  have hgt' : 0 < n := by omega
  have hg2 : (n : Int) ≤ 140737488355328 := by omega
  go_enter Tryz.func97, Tryz.ntmps97
  have hn0 : (0 : Int) ≤ (n : Int) := by omega
  go_wp2_with (first | ((with_reducible refine gate_builtin (b := .append) (xs := #[.tmp 20, .tmp 21]) rfl ?_); at_builtin; (refine Kd.R_append_zeros (Kd.int .i64) (w0 := w) w.heap.size rfl (.tmp 20) (.tmp 21) 57 3 3 (.int .i64 0) 8 rfl Tryz.underlying57 Tryz.underlying3 info3 rfl (by decide) (by omega) (.slice none 0 0) ([] : List Int) (0 : Int) (n : Int) (fun _ => True) rfl rfl rfl ?aF ?aO hn0 ?aB ?aS ?aL ?_); (case aF => exact fun _ _ => trivial); (case aO => exact Kd.R_nil _ _ _ _ _); (case aB => exact Below.refl _ _); (case aS => exact Nat.le_refl _); (case aL => simp; omega); intro v1 w1 ho hb hg hat; clear hg hat; obtain ⟨A1, c1, rfl, hl1, hr1⟩ := Kd.R_reads ho; clear hr1; have hL : ((([] : List Int) ++ List.replicate (n : Int).toNat (0 : Int)).length) = n := (by simp); rw [hL] at ho hl1 ⊢; have ht0 := Kd.R_take (m := 0) ho (Nat.zero_le _); have HT := aK ht0; have HBb := aK hb; clear ho hb ht0 hL; have hcut1 := cut_to (P := Tryz.prog) 57 3 .i64 Tryz.underlying57 hi0 A1 n c1 0 (by omega) (by omega) hl1))
  go_ret
  exact ⟨_, rfl, by simpa using HT.out, HBb.out⟩
theorem spc_concat (b : Nat) (A0 A1 : Option Addr) (c0 c1 : Nat) (l0 l1 : List Int) (w : World) (hb : w.heap[b]? = some (.cells #[.slice A0 l0.length c0, .slice A1 l1.length c1] 57 (0, 0)))
  (hr0 : Kd.C (Kd.int .i64) w A0 l0.length l0) (hc0 : l0.length ≤ c0) (hr1 : Kd.C (Kd.int .i64) w A1 l1.length l1) (hc1 : l1.length ≤ c1) (hn : (l0.length + l1.length) * 8 ≤ 140737488355328) :
  Calls Tryz.prog 86 #[.slice (some ⟨b, 0, none⟩) 2 2] w fun e w' => ∃ v : Value, e = .returned v ∧ Kd.R (Kd.int .i64) 3 w' w.heap.size (fun _ => True) v (l0 ++ l1) ∧ Below w.heap.size w w' := by
 have hlt : b < w.heap.size := (Array.getElem?_eq_some_iff.1 hb).1
 have hx0 : w.cell? ⟨b, 0, none⟩ = some (.slice A0 l0.length c0) := by simp [World.cell?, hb]
 have hx1 : w.cell? ⟨b, 1, none⟩ = some (.slice A1 l1.length c1) := by simp [World.cell?, hb]
 have HR0 := aK hr0; have HR1 := aK hr1; have HB := aK hb
 have HX0 := aK hx0; have HX1 := aK hx1
 clear hr0 hr1 hb hx0 hx1
 generalize hn0 : l0.length = n0 at *
 generalize hn1 : l1.length = n1 at *
 have HN0 := aK hn0; have HN1 := aK hn1
 clear hn0 hn1
 have hm0 : n0 + n1 ≤ 140737488355328 := by omega
 go_enter Tryz.func86, Tryz.ntmps86
 go_wp2
 go_loop [3, 5, 11] (fun s _ i => ∃ k : Nat, k ≤ 2 ∧ i = .int .i64 k ∧ s = .int .i64 ((if k = 0 then 0 else if k = 1 then n0 else n0 + n1 : Nat))) (fun _ _ i => 2 - (intOf i).toNat)
 case atStart => exact ⟨0, Nat.zero_le _, rfl, rfl⟩
 case round =>
  obtain ⟨k, hk, rfl, rfl⟩ := hrel
  rcases (show k = 0 ∨ k = 1 ∨ k = 2 by omega) with rfl | rfl | rfl
  ·have hx := HX0.out
   go_wp2
   go_round
   case rel => exact ⟨1, by omega, by go_num, by go_num⟩
   case measure => simp [intOf]
  ·have hx := HX1.out
   go_wp2
   go_round
   case rel => exact ⟨2, by omega, by go_num, by go_num⟩
   case measure => simp [intOf]
  ·have hg := spc_grow (n0 + n1) w (by omega)
   go_wp2_with (first | (go_at_call 97; refine hg.mono ?_; rintro e w1 ⟨v1, rfl, ho1, hb1⟩; clear hg; have HO := aK ho1; have HBL := aK hb1; clear ho1 hb1))
   go_loopw [6, 8, 27] (fun v _ i wr => ∃ k : Nat, k ≤ 2 ∧ i = .int .i64 k ∧ Aside0 (Kd.R (Kd.int .i64) 3 wr w.heap.size (fun _ => True) v (if k = 0 then [] else if k = 1 then l0 else l0 ++ l1)) ∧ Aside0 (Below w.heap.size w wr)) (fun _ _ i _ => 2 - (intOf i).toNat)
   case atStart => exact ⟨0, Nat.zero_le _, rfl, HO, HBL⟩
   case round =>
    clear HO HBL
    obtain ⟨k, hk, rfl, HO, HBL⟩ := hrel
    rcases (show k = 0 ∨ k = 1 ∨ k = 2 by omega) with rfl | rfl | rfl
    ·have hx := (HBL.out.cell (p := ⟨b, 0, none⟩) hlt).trans HX0.out
     have HRR := aK (cB HR0.out HBL.out)
     go_wp2_with (first | ((with_reducible refine gate_builtin (b := .append) (xs := #[.tmp 31, .tmp 32]) rfl ?_); at_builtin; (refine Kd.R_append_rows (Kd.int .i64) (w0 := w) w.heap.size rfl (.tmp 31) (.tmp 32) 57 3 (.int .i64 0) 8 rfl Tryz.underlying57 info3 rfl (by decide) (by omega) u6 [] l0 A0 n0 c0 (fun _ => True) (fun _ => False) rfl rfl ?aO ?aR (fun _ _ h => h) (fun _ h => h.elim) ?aF ?aB ?aS ?aL ?_); (case aR => exact HRR.out); (case aB => exact HBL.out); (case aF => exact (fun _ _ => trivial)); (case aO => exact HO.out); (case aS => exact below_size HBL.out); (case aL => have := HN0.out; simp; omega); intro v7 w7 ho7 hb7 hg7 hat7; have HO7 := aK ho7; have HB7 := aK hb7; clear ho7 hb7 hg7 hat7 HO HBL))
     go_roundw
     case rel => exact ⟨1, by omega, by go_num, HO7, HB7⟩
     case measure => simp [intOf]
    ·have hx := (HBL.out.cell (p := ⟨b, 1, none⟩) hlt).trans HX1.out
     have HRR := aK (cB HR1.out HBL.out)
     go_wp2_with (first | ((with_reducible refine gate_builtin (b := .append) (xs := #[.tmp 31, .tmp 32]) rfl ?_); at_builtin; (refine Kd.R_append_rows (Kd.int .i64) (w0 := w) w.heap.size rfl (.tmp 31) (.tmp 32) 57 3 (.int .i64 0) 8 rfl Tryz.underlying57 info3 rfl (by decide) (by omega) u6 l0 l1 A1 n1 c1 (fun _ => True) (fun _ => False) rfl rfl ?aO ?aR (fun _ _ h => h) (fun _ h => h.elim) ?aF ?aB ?aS ?aL ?_); (case aR => exact HRR.out); (case aB => exact HBL.out); (case aF => exact (fun _ _ => trivial)); (case aO => exact HO.out); (case aS => exact below_size HBL.out); (case aL => have := HN0.out; simp; omega); intro v7 w7 ho7 hb7 hg7 hat7; have HO7 := aK ho7; have HB7 := aK hb7; clear ho7 hb7 hg7 hat7 HO HBL))
     go_roundw
     case rel => exact ⟨2, by omega, by go_num, HO7, HB7⟩
     case measure => simp [intOf]
    ·go_wp2
     go_ret
     exact ⟨_, rfl, HO.out, HBL.out⟩
theorem spc_sort (w0 w : World) (base : Nat) (v : Value) (l : List Int) (ok : Nat → Prop) (ho : Kd.R (Kd.int .i64) 3 w base ok v l) (hb : Below base w0 w) (hbase : base ≤ w.heap.size) (hn : l.length ≤ 140737488355328) :
  Calls Tryz.prog 87 #[v] w fun e w' => e = .returned (.tuple #[]) ∧ Kd.R (Kd.int .i64) 3 w' base ok v (sortZ l) ∧ Below base w0 w' := by
 by_cases hl : l = []
 ·subst hl
  obtain ⟨A, c, rfl, hc, _⟩ := Kd.R_reads ho
  refine (AnyM.slices_Sort_int_none laySortInt A c w).mono ?_
  rintro e w' ⟨rfl, rfl⟩
  exact ⟨rfl, by simpa [sortZ] using ho, hb⟩
 ·obtain ⟨g, cap, cur, rfl, hg, hk, hh, h2, h3, h4, h5⟩ := R_scalar_open ho hl
  have hc := AnyM.slices_Sort_int laySortInt g 0 cap l w (holds_of_cells hh h5) (Array.getElem?_eq_some_iff.1 hh).1 (by omega)
  refine hc.mono ?_
  rintro e w' ⟨rfl, n, os, rfl⟩
  have hlen : (sortZ l).length = l.length := by simp [sortZ]
  refine ⟨rfl, ?_, below_put _ hb hg hbase⟩
  have := R_scalar_mk (h1 := fun _ => rfl) (enc := Value.int .i64) (xs := sortZ l) (w := Sort.grow (Sort.putRow (Value.int .i64) (Sort.ahead w n) g 0 (sortZ l).toArray) os) (ok := ok) hg hk (heap_put _ hh) (by rw [hlen]; exact h2) h3 (by rw [put_size, h4]) (by have := put_take (enc := Value.int .i64) cur (sortZ l) [] (by rw [hlen]; omega); simpa using this)
  rw [hlen] at this
  exact this
theorem spc_compact (w0 w : World) (base : Nat) (v : Value) (l : List Int) (ok : Nat → Prop) (ho : Kd.R (Kd.int .i64) 3 w base ok v l) (hb : Below base w0 w) (hbase : base ≤ w.heap.size) (hn : l.length ≤ 140737488355328) :
  Calls Tryz.prog 89 #[v] w fun e w' => ∃ v' : Value, e = .returned v' ∧ Kd.R (Kd.int .i64) 3 w' base ok v' (Lib.compactUpTo l.toArray l.toArray.size) ∧ Below base w0 w' := by
 by_cases hl : l = []
 ·subst hl
  obtain ⟨A, c, rfl, hc, _⟩ := Kd.R_reads ho
  have HO := aK ho; have HB := aK hb
  clear ho hb
  simp only [List.length_nil]
  go_enter Tryz.func89, Tryz.ntmps89
  go_wp2
  go_ret
  exact ⟨_, rfl, HO.out, HB.out⟩
 ·obtain ⟨g, cap, cur, rfl, hg, hk, hh, h2, h3, h4, h5⟩ := R_scalar_open ho hl
  have hc := AnyE.slices_Compact layCompactInt (Value.int .i64) (fun _ => rfl) (EqlAt.intD _ _ _) (NeqAt.intD _ _ _) (0 : Int) (Tryz.zeroValue3) g 0 cap l.toArray w (holds_of_cells hh h5) (by simp; omega) (by simpa using h2)
  have hs : l.toArray.size = l.length := by simp
  rw [hs] at hc ⊢
  refine hc.mono ?_
  rintro e w' ⟨rfl, q, rfl⟩
  have hlen : (Lib.compactUpTo l.toArray l.length).length ≤ l.length := by
   unfold Lib.compactUpTo
   rw [List.length_map]
   exact Nat.le_trans (List.length_filter_le _ _) (by simp)
  generalize Lib.compactUpTo l.toArray l.length = m at hlen ⊢
  rw [show Sort.putRow (Value.int .i64) (Sort.ahead w q) g 0 (m ++ List.replicate (l.length - m.length) (0 : Int)).toArray = Sort.grow (Sort.putRow (Value.int .i64) (Sort.ahead w q) g 0 (m ++ List.replicate (l.length - m.length) (0 : Int)).toArray) #[] from (Sort.grow_empty _).symm]
  refine ⟨_, rfl, ?_, below_put _ hb hg hbase⟩
  exact R_scalar_mk hg hk (heap_put _ hh) (by omega) h3 (by rw [put_size, h4]) (put_take cur m _ (by omega))
def span_Union.f (k : Nat) (a0_0 : Int) (l0_1 : List Int) (a1_0 : Int) (l1_1 : List Int) : Option (Int × List Int) := if l0_1.length + l1_1.length < 8796093022208 then span_folded.f k (mx a0_0 a1_0) (unionZ (l0_1 ++ l1_1)) else none
theorem span_Union.mono : ∀ a0 a1 a2 a3 k, LeO (span_Union.f k a0 a1 a2 a3) (span_Union.f (k + 1) a0 a1 a2 a3) := by
 intro a0 a1 a2 a3 k
 unfold span_Union.f
 exact LeO.ite (span_folded.mono _ _ _) (LeO.none _)
theorem span_Union.calls (k : Nat) (a0_0 : Int) (A0_1 : Option Addr) (c0_1 : Nat) (l0_1 : List Int) (a1_0 : Int) (A1_1 : Option Addr) (c1_1 : Nat) (l1_1 : List Int) (r1 : Int) (r2 : List Int) (w : World) (hr0_1 : Kd.C (Kd.int .i64) w A0_1 l0_1.length l0_1) (hc0_1 : l0_1.length ≤ c0_1) (hr1_1 : Kd.C (Kd.int .i64) w A1_1 l1_1.length l1_1) (hc1_1 : l1_1.length ≤ c1_1) (h : span_Union.f k a0_0 l0_1 a1_0 l1_1 = some (r1, r2)) :
  Calls Tryz.prog 74 #[.agg #[.int .i64 a0_0, .slice A0_1 l0_1.length c0_1], .agg #[.int .i64 a1_0, .slice A1_1 l1_1.length c1_1]] w fun e w' => ∃ v1_ : Value, e = .returned (.agg #[.int .i64 r1, v1_]) ∧ Kd.R (Kd.int .i64) 3 w' w.heap.size (fun _ => True) v1_ r2 ∧ Below w.heap.size w w' := by
 have hlim : l0_1.length + l1_1.length < 8796093022208 := by
  by_cases hx : l0_1.length + l1_1.length < 8796093022208
  ·exact hx
  ·rw [span_Union.f, if_neg hx] at h; cases h
 have hF : span_folded.f k (mx a0_0 a1_0) (unionZ (l0_1 ++ l1_1)) = some (r1, r2) := by rw [span_Union.f, if_pos hlim] at h; exact h
 have HF := aK hF
 clear hF h
 have hcon : ∀ W : World, Below w.heap.size w W → W.heap.size = w.heap.size + 4 → W.heap[w.heap.size]? = some (.cells #[.int .i64 a0_0, .slice A0_1 l0_1.length c0_1] 69 (0, 0)) → W.heap[w.heap.size + 1]? = some (.cells #[.int .i64 a1_0, .slice A1_1 l1_1.length c1_1] 69 (0, 0)) → W.heap[w.heap.size + 1 + 1]? = some (.cells #[.int .i64 0, .slice none 0 0] 69 (0, 0)) → W.heap[w.heap.size + 3]? = some (.cells #[.slice A0_1 l0_1.length c0_1, .slice A1_1 l1_1.length c1_1] 57 (0, 0)) →
   Calls Tryz.prog 86 #[.slice (some ⟨w.heap.size + 3, 0, none⟩) 2 2] W fun e w1 => ∃ v : Value, e = .returned v ∧ Aside0 (Kd.R (Kd.int .i64) 3 w1 (w.heap.size + 4) (fun _ => True) v (l0_1 ++ l1_1)) ∧ Aside0 (Below w.heap.size w w1) ∧ Aside0 (w.heap.size + 4 ≤ w1.heap.size) ∧ Aside0 (w1.heap[w.heap.size]? = some (.cells #[.int .i64 a0_0, .slice A0_1 l0_1.length c0_1] 69 (0, 0))) ∧ Aside0 (w1.heap[w.heap.size + 1]? = some (.cells #[.int .i64 a1_0, .slice A1_1 l1_1.length c1_1] 69 (0, 0))) ∧ Aside0 (w1.heap[w.heap.size + 1 + 1]? = some (.cells #[.int .i64 0, .slice none 0 0] 69 (0, 0))) := by
  intro W hB hs h0 h1 h2 h3
  refine (spc_concat (w.heap.size + 3) A0_1 A1_1 c0_1 c1_1 l0_1 l1_1 W h3 (cB hr0_1 hB) hc0_1 (cB hr1_1 hB) hc1_1 (by omega)).mono ?_
  rintro e w1 ⟨v1, rfl, ho1, hb1⟩
  have hz := below_size hb1
  rw [hs] at ho1 hb1 hz
  exact ⟨v1, rfl, ⟨ho1⟩, ⟨⟨hb1.os.trans hB.os, hb1.tape.trans hB.tape, hb1.output.trans hB.output, by omega, fun k hk => (hb1.block k (by omega)).trans (hB.block k hk)⟩⟩, ⟨hz⟩, ⟨(hb1.block _ (by omega)).trans h0⟩, ⟨(hb1.block _ (by omega)).trans h1⟩, ⟨(hb1.block _ (by omega)).trans h2⟩⟩
 have HCON := aK hcon
 clear hcon hr0_1 hr1_1
 have HL := aK hlim
 clear hlim
 go_enter Tryz.func74, Tryz.ntmps74
 go_wp2_with fail
 refine (HCON.out _ ?b0 ?s0 ?h0 ?h1 ?h2 ?h3).mono ?_
 case b0 => exact bA (bA (bA (bA (Below.refl _ _) _) _) _) _
 case s0 => simp
 case h0 => exact (heap_alloc_old _ _ (by simp only [size_alloc]; omega)).trans ((heap_alloc_old _ _ (by simp only [size_alloc]; omega)).trans ((heap_alloc_old _ _ (by simp only [size_alloc]; omega)).trans ((heap_alloc_new _ _ (by simp only [size_alloc])))))
 case h1 => exact (heap_alloc_old _ _ (by simp only [size_alloc]; omega)).trans ((heap_alloc_old _ _ (by simp only [size_alloc]; omega)).trans ((heap_alloc_new _ _ (by simp only [size_alloc]))))
 case h2 => exact (heap_alloc_old _ _ (by simp only [size_alloc]; omega)).trans ((heap_alloc_new _ _ (by simp only [size_alloc])))
 case h3 => exact (heap_alloc_new _ _ (by simp only [size_alloc]))
 rintro e w1 ⟨v1, rfl, HO1, HB1, HZ1, BA1, BB1, BR1⟩
 clear HCON
 go_wp2_with fail
 refine (spc_sort w1 w1 (w.heap.size + 4) v1 (l0_1 ++ l1_1) _ HO1.out (Below.refl _ _) HZ1.out (by have := HL.out; simp; omega)).mono ?_
 rintro e w2 ⟨rfl, ho2, hb2⟩
 have HO2 := aK ho2
 have HB2 := aK hb2
 clear ho2 hb2
 go_wp2_with fail
 have BA2 := aK ((HB2.out.block _ (show w.heap.size < w.heap.size + 4 by omega)).trans BA1.out)
 have BB2 := aK ((HB2.out.block _ (show w.heap.size + 1 < w.heap.size + 4 by omega)).trans BB1.out)
 have BR2 := aK ((HB2.out.block _ (show w.heap.size + 1 + 1 < w.heap.size + 4 by omega)).trans BR1.out)
 have HZ2 := aK (Nat.le_trans HZ1.out HB2.out.size)
 have HW2 := aK (show Below w.heap.size w w2 from ⟨HB2.out.os.trans HB1.out.os, HB2.out.tape.trans HB1.out.tape, HB2.out.output.trans HB1.out.output, by have := HZ2.out; omega, fun k hk => (HB2.out.block k (by omega)).trans (HB1.out.block k hk)⟩)
 clear BA1 BB1 BR1 HZ1 HB1 HB2 HO1
 refine start_ (n := 9) (S := fun w' => w'.cell? ⟨w.heap.size, 0, none⟩ = some (.int .i64 a0_0) ∧ w'.cell? ⟨w.heap.size + 1, 0, none⟩ = some (.int .i64 a1_0)) (ds := [8]) #[false, false, false, false, false, false, false, false, false] (by kernel_rfl) rfl rfl ⟨(bC (blk_drew BA2.out) 0).trans rfl, (bC (blk_drew BB2.out) 0).trans rfl⟩ (fun hHeld => ?_)
 have HO3 := aK (Kd.R_drew HO2.out)
 have BA3 := aK (blk_drew BA2.out)
 have BB3 := aK (blk_drew BB2.out)
 have BR3 := aK (blk_drew BR2.out)
 have HW3 := aK (bW HW2.out)
 have HZ3 := aK (show w.heap.size + 4 ≤ w2.drew.heap.size from HZ2.out)
 clear HO2 BA2 BB2 BR2 HW2 HZ2
 generalize w2.drew = w3 at HO3 BA3 BB3 BR3 HW3 HZ3 hHeld ⊢
 refine p_ 0 14 (mk_ 9 0x1) ?_
 refine p_ 2 16 (mk_ 9 0x5) ?_
 refine t_ 1 15 (mk_ 9 0x7) hHeld ?_
 refine t_ 3 17 (mk_ 9 0xf) hHeld ?_
 refine p_ 4 18 (mk_ 9 0x1f) ?_
 refine p_ 5 19 (mk_ 9 0x3f) ?_
 refine one_ (i := 6) (N := some 20) #[true, true, true, true, true, true, true, false, false] rfl rfl (by kernel_rfl) (by decide) (fun K hK => ?_)
 refine goes_ Tryz.func89 (by kernel_rfl) rfl #[v1] (by rfl) rfl rfl (by (try simp only [List.map_toArray, List.map_cons, List.map_nil]); first | done | rfl) ?_
 refine (spc_compact w3 w3 (w.heap.size + 4) v1 (sortZ (l0_1 ++ l1_1)) _ HO3.out (Below.refl _ _) HZ3.out (by have := HL.out; simp [sortZ]; omega)).mono ?_
 rintro e w4 ⟨v4, rfl, ho4, hb4⟩
 refine ⟨_, rfl, ?_⟩
 have HO4 := aK ho4
 have BA4 := aK ((hb4.block _ (show w.heap.size < w.heap.size + 4 by omega)).trans BA3.out)
 have BB4 := aK ((hb4.block _ (show w.heap.size + 1 < w.heap.size + 4 by omega)).trans BB3.out)
 have BR4 := aK ((hb4.block _ (show w.heap.size + 1 + 1 < w.heap.size + 4 by omega)).trans BR3.out)
 have HZ4 := aK (Nat.le_trans HZ3.out hb4.size)
 have HW4 := aK (show Below w.heap.size w w4 from ⟨hb4.os.trans HW3.out.os, hb4.tape.trans HW3.out.tape, hb4.output.trans HW3.out.output, by have := HZ4.out; omega, fun k hk => (hb4.block k (by omega)).trans (HW3.out.block k hk)⟩)
 clear ho4 hb4 HO3 BA3 BB3 BR3 HZ3 HW3
 obtain ⟨A4, c4, e4⟩ := Kd.R_slice HO4.out
 subst e4
 refine hK.out _ _ ⟨(bC BA4.out 0).trans rfl, (bC BB4.out 0).trans rfl⟩ (fun hHeld => ?_)
 clear hK K
 refine norm_ (a' := ?_) ?_ ?_
 rotate_left
 ·show Act.put _ (some 20) _ = _
  simp only [Act.put, lA, lB, lC, i64_w, i32_w]
  rfl
 refine one_ (i := 7) (N := some 21) #[true, true, true, true, true, true, true, true, false] rfl rfl (by kernel_rfl) (by decide) (fun K hK => ?_)
 refine goes_ Tryz.func88 (by kernel_rfl) rfl #[.int .i64 (mx a0_0 a1_0), .slice A4 (unionZ (l0_1 ++ l1_1)).length c4] (by rfl) rfl rfl (by (try simp only [List.map_toArray, List.map_cons, List.map_nil]); first | done | rfl) ?_
 refine (span_folded.calls k (mx a0_0 a1_0) A4 c4 (unionZ (l0_1 ++ l1_1)) r1 r2 w4 (Kd.R_reads' HO4.out).2.2 (Kd.R_reads' HO4.out).2.1 HF.out).mono ?_
 rintro e w5 ⟨v5, rfl, ho5, hb5⟩
 refine ⟨_, rfl, ?_⟩
 have HO5 := aK (Kd.R_lower ho5 (below_size HW4.out : w.heap.size ≤ w4.heap.size))
 have BA5 := aK ((hb5.block _ (show w.heap.size < w4.heap.size by have := HZ4.out; omega)).trans BA4.out)
 have BB5 := aK ((hb5.block _ (show w.heap.size + 1 < w4.heap.size by have := HZ4.out; omega)).trans BB4.out)
 have BR5 := aK ((hb5.block _ (show w.heap.size + 1 + 1 < w4.heap.size by have := HZ4.out; omega)).trans BR4.out)
 have HW5 := aK (bS HW4.out hb5)
 clear ho5 hb5 HO4 BA4 BB4 BR4 HZ4 HW4
 obtain ⟨A5, c5, e5⟩ := Kd.R_slice HO5.out
 subst e5
 refine hK.out _ _ ⟨(bC BA5.out 0).trans rfl, (bC BB5.out 0).trans rfl⟩ (fun hHeld => ?_)
 clear hK K
 refine norm_ (a' := ?_) ?_ ?_
 rotate_left
 ·show Act.put _ (some 21) _ = _
  simp only [Act.put, lA, lB, lC, i64_w, i32_w]
  rfl
 refine last_ (i := 8) (N := none) #[true, true, true, true, true, true, true, true, true] rfl rfl (by kernel_rfl) (by decide) (fun K hK => ?_)
 have hs0 : w5.cell? ⟨w.heap.size + 1 + 1, 0, none⟩ = some (.int .i64 0) := (bC BR5.out 0).trans rfl
 have hf0 := bF_ BR5.out 0
 have hs1 : w5.cell? ⟨w.heap.size + 1 + 1, 1, none⟩ = some (.slice none 0 0) := (bC BR5.out 1).trans rfl
 have hf1 := bF_ BR5.out 1
 refine skip_ (w1 := ?_) (by rfl) rfl ?_ ?_
 rotate_left
 ·go_simp
  rfl
 refine hK.out _ _ ?_
 clear hK K
 refine done_ (by kernel_rfl) ?_
 have hge : w.heap.size ≤ w.heap.size + 1 + 1 := by omega
 have HG := aK hge
 clear hge
 go_wp2_with fail
 all_goals (refine bodyPost_ret (results_cell_row rfl _ _ (w.heap.size + 1 + 1) 69 #[.int .i64 r1, .slice A5 r2.length c5] (0, 0) _ rfl (by refine blk_put (cs := #[.int .i64 r1, .slice none 0 0]) ?_ 1 _ rfl; refine blk_put (cs := #[.int .i64 0, .slice none 0 0]) ?_ 0 _ rfl; exact BR5.out) Tryz.underlying69 rfl (by kernel_rfl)) rfl ?_)
 all_goals exact ⟨_, rfl, Kd.R_mono (Kd.R_far (p := ⟨w.heap.size + 1 + 1, 1, none⟩) (Kd.R_far (p := ⟨w.heap.size + 1 + 1, 0, none⟩) (Kd.R_types HO5.out BR5.out (by decide)) (fun _ hk => hk.2) (.int .i64 r1)) (fun _ hk => hk.2) (.slice A5 r2.length c5)) (fun _ hk => trivial), below_set (below_set HW5.out HG.out) HG.out⟩
theorem zq48_0 {p_ : Prop} (h_ : p_ := by repeat (first | (with_reducible first | exact HB.out | apply bA | apply pB | apply bW | refine below_set ?_ GE283.out | refine below_set ?_ GE284.out) | exact HB.out)) : p_ := h_
theorem zq48_1 {p_ : Prop} (h_ : p_ := by repeat (first | (with_reducible first | exact HB.out | apply bA | apply pB | apply bW | refine below_set ?_ GE283.out) | exact HB.out)) : p_ := h_
theorem zq48_2 {p_ : Prop} (h_ : p_ := by repeat (first | (with_reducible first | exact HB.out | apply bA | apply pB | apply bW) | exact HB.out)) : p_ := h_
theorem zq48_3 {p_ : Prop} (h_ : p_ := by (with_reducible repeat (first | refine blk_drewN ?_ _ | refine blk_drew ?_ | refine blk_alloc ?_ _)); exact BK283.out) : p_ := h_
def span_Within.f (k : Nat) (a0_0 : Int) (l0_1 : List Int) (a1_0 : Int) (l1_1 : List Int) : Option (Bool) := (span_Union.f k a0_0 l0_1 a1_0 l1_1).bind fun bt285 => ((span_Same.f k bt285.1 bt285.2 a1_0 l1_1).bind fun t289 => (some t289))
theorem span_Within.mono : ∀ a0 a1 a2 a3 k, LeO (span_Within.f k a0 a1 a2 a3) (span_Within.f (k + 1) a0 a1 a2 a3) := by
 intro a0 a1 a2 a3 k
 unfold span_Within.f
 repeat' first
   | (with_reducible exact span_Same.mono _ _ _ _ _)
   | (with_reducible exact span_Union.mono _ _ _ _ _)
   | (with_reducible exact LeO.refl _)
   | (with_reducible exact LeO.none _)
   | (with_reducible refine LeO.ite ?_ ?_)
   | (with_reducible refine LeO.bind ?_ (fun _ => ?_))
   | exact span_Same.mono _ _ _ _ _
   | exact span_Union.mono _ _ _ _ _
   | exact LeO.none _
   | refine LeO.ite ?_ ?_
   | refine LeO.bind ?_ (fun _ => ?_)
theorem span_Within.calls (k : Nat) (a0_0 : Int) (A0_1 : Option Addr) (c0_1 : Nat) (l0_1 : List Int) (a1_0 : Int) (A1_1 : Option Addr) (c1_1 : Nat) (l1_1 : List Int) (r : Bool) (w : World) (hr0_1 : Kd.C (Kd.int .i64) w A0_1 l0_1.length l0_1) (hc0_1 : l0_1.length ≤ c0_1) (hr1_1 : Kd.C (Kd.int .i64) w A1_1 l1_1.length l1_1) (hc1_1 : l1_1.length ≤ c1_1) (h : span_Within.f k a0_0 l0_1 a1_0 l1_1 = some r) :
  Calls Tryz.prog 48 #[.agg #[.int .i64 a0_0, .slice A0_1 l0_1.length c0_1], .agg #[.int .i64 a1_0, .slice A1_1 l1_1.length c1_1]] w fun e w' => e = .returned (.bool r) ∧ Below w.heap.size w w' := by
 have hu69 := Tryz.underlying69
 have HR0_1 := aK hr0_1
 have HC0_1 := aK hc0_1
 clear hr0_1 hc0_1
 have HR1_1 := aK hr1_1
 have HC1_1 := aK hc1_1
 clear hr1_1 hc1_1
 have HB := aK (Below.refl w.heap.size w)
 have H : ((span_Union.f k a0_0 l0_1 a1_0 l1_1).bind fun bt285 => ((span_Same.f k bt285.1 bt285.2 a1_0 l1_1).bind fun t289 => (some t289))) = some r := h
 clear h
 replace H := bM H
 obtain ⟨⟨t285, t286⟩, A30, H⟩ := H
 have A3 := aK A30
 clear A30
 replace H := bM H
 obtain ⟨t289, A40, H⟩ := H
 have A4 := aK A40
 clear A40
 obtain rfl := sI H
 go_enter Tryz.func48, Tryz.ntmps48
 try go_wp2_with (first | ((with_reducible refine gate_dst (N := 2) rfl ?_); refine box_event ?hg (N := 2) ?hd (cs := #[.int .i64 a0_0, .slice A0_1 l0_1.length c0_1]) (t := 69) ?hr ?_; (case hd => rfl); (case hg => rfl); (case hr => first | (go_simp; done) | (go_simp; rfl)); intro gb283 hg w5 hbox hb; have BK283 := aK (hbox); have GW283 := aK (((by rw [hg]; exact (below_size zq48_2)) : w.heap.size ≤ gb283)); have GE283 := aK (((by rw [hg]; exact (below_size zq48_2)) : w.heap.size ≤ gb283)); replace HB := aK (bS zq48_2 hb); clear hb hbox hg) | ((with_reducible refine gate_dst (N := 3) rfl ?_); refine box_event ?hg (N := 3) ?hd (cs := #[.int .i64 a1_0, .slice A1_1 l1_1.length c1_1]) (t := 69) ?hr ?_; (case hd => rfl); (case hg => rfl); (case hr => first | (go_simp; done) | (go_simp; rfl)); intro gb284 hg w6 hbox hb; have BK284 := aK (hbox); have GW284 := aK (((by rw [hg]; exact (below_size zq48_1)) : w.heap.size ≤ gb284)); have GE284 := aK (((by rw [hg]; exact (below_size zq48_1)) : w.heap.size ≤ gb284)); replace HB := aK (bS zq48_1 hb); have NB283_284 := aK (((by rw [hg]; exact Nat.ne_of_lt (blk_lt (g := gb283) (o := .cells #[.int .i64 a0_0, .slice A0_1 l0_1.length c0_1] 69 (0, 0)) zq48_3)) : gb283 ≠ gb284)); have NB284_283 := aK (((by rw [hg]; exact Nat.ne_of_gt (blk_lt (g := gb283) (o := .cells #[.int .i64 a0_0, .slice A0_1 l0_1.length c0_1] 69 (0, 0)) zq48_3)) : gb284 ≠ gb283)); replace BK283 := aK (bB (g := gb283) (o := .cells #[.int .i64 a0_0, .slice A0_1 l0_1.length c0_1] 69 (0, 0)) zq48_3 hb); clear hb hbox hg))
 replace BK283 := aK (blk_drew BK283.out)
 replace BK284 := aK (blk_drew BK284.out)
 replace HB := aK (bW HB.out)
 refine start_ (n := 6) (S := fun w' => w'.cell? ⟨gb283, 0, none⟩ = some (.int .i64 a0_0) ∧ w'.cell? ⟨gb283, 1, none⟩ = some (.slice A0_1 l0_1.length c0_1) ∧ w'.cell? ⟨gb284, 0, none⟩ = some (.int .i64 a1_0) ∧ w'.cell? ⟨gb284, 1, none⟩ = some (.slice A1_1 l1_1.length c1_1)) (ds := []) #[false, false, false, false, false, false] (by kernel_rfl) rfl rfl ⟨(bC BK283.out 0).trans rfl, (bC BK283.out 1).trans rfl, (bC BK284.out 0).trans rfl, (bC BK284.out 1).trans rfl⟩ (fun hHeld => ?_)
 generalize w6.drew = w7 at BK283 BK284 HB hHeld ⊢
 refine t_ 0 5 (mk_ 6 0x1) hHeld ?_
 refine t_ 1 6 (mk_ 6 0x3) hHeld ?_
 refine t_ 3 8 (mk_ 6 0xb) hHeld ?_
 refine one_ (i := 2) (N := some 7) #[true, true, true, true, false, false] rfl rfl (by kernel_rfl) (by decide) (fun K hK => ?_)
 refine goes_ Tryz.func74 (by kernel_rfl) rfl #[.agg #[.int .i64 a0_0, .slice A0_1 l0_1.length c0_1], .agg #[.int .i64 a1_0, .slice A1_1 l1_1.length c1_1]] (by rfl) rfl rfl (by (try simp only [List.map_toArray, List.map_cons, List.map_nil]); first | done | rfl | (simp only [List.length_drop, List.length_take]; rfl)) ?_
 with_reducible refine (span_Union.calls k a0_0 _ _ l0_1 a1_0 _ _ l1_1 t285 t286 _ ?side1 ?side2 ?side3 ?side4 A3.out).mono ?_
 (case side1 => repeat (first | exact (cB HR0_1.out HB.out) | (with_reducible refine Kd.C_alloc ?_ _) | (with_reducible refine Kd.C_drewN ?_ _) | (with_reducible refine Kd.C_drew ?_)))
 (case side2 => exact HC0_1.out)
 (case side3 => repeat (first | exact (cB HR1_1.out HB.out) | (with_reducible refine Kd.C_alloc ?_ _) | (with_reducible refine Kd.C_drewN ?_ _) | (with_reducible refine Kd.C_drew ?_)))
 (case side4 => exact HC1_1.out)
 rintro e w8 ⟨v287, rfl, ho0, hb⟩
 refine ⟨_, rfl, ?_⟩
 have HO288 := aK (Kd.R_lower ho0 (below_size zq48_0))
 replace BK283 := aK (bB (g := gb283) (o := .cells #[.int .i64 a0_0, .slice A0_1 l0_1.length c0_1] 69 (0, 0)) zq48_3 hb)
 replace BK284 := aK (bB (g := gb284) (o := .cells #[.int .i64 a1_0, .slice A1_1 l1_1.length c1_1] 69 (0, 0)) (by (with_reducible repeat (first | refine blk_drewN ?_ _ | refine blk_drew ?_ | refine blk_alloc ?_ _)); exact BK284.out) hb)
 replace HB := aK (bS zq48_0 hb)
 (try clear hb)
 (try clear hb2)
 (try clear hk)
 (try clear hi)
 (try clear ho0)
 obtain ⟨Ao9, co9, eo9⟩ := Kd.R_slice HO288.out
 (first | subst eo9 | (injection eo9 with f1_ f2_ f3_; have f4_ := f1_.symm; have f5_ := f3_.symm; clear f1_ f2_ f3_; subst f4_; subst f5_))
 refine hK.out _ _ ⟨(bC BK283.out 0).trans rfl, (bC BK283.out 1).trans rfl, (bC BK284.out 0).trans rfl, (bC BK284.out 1).trans rfl⟩ (fun hHeld => ?_)
 clear hK K
 refine norm_ (a' := ?_) ?_ ?_
 rotate_left
 ·show Act.put _ (some 7) _ = _
  simp only [Act.put, lA, lB, lC, i64_w, i32_w]
  rfl
 refine one_ (i := 4) (N := some 9) #[true, true, true, true, true, false] rfl rfl (by kernel_rfl) (by decide) (fun K hK => ?_)
 refine goes_ Tryz.func52 (by kernel_rfl) rfl #[.agg #[.int .i64 t285, .slice Ao9 t286.length co9], .agg #[.int .i64 a1_0, .slice A1_1 l1_1.length c1_1]] (by rfl) rfl rfl (by (try simp only [List.map_toArray, List.map_cons, List.map_nil]); first | done | rfl | (simp only [List.length_drop, List.length_take]; rfl)) ?_
 with_reducible refine (span_Same.calls k t285 _ _ t286 a1_0 _ _ l1_1 t289 _ ?side1 ?side2 ?side3 ?side4 A4.out).mono ?_
 (case side1 => repeat (first | exact (Kd.R_reads' HO288.out).2.2 | (with_reducible refine Kd.C_alloc ?_ _) | (with_reducible refine Kd.C_drewN ?_ _) | (with_reducible refine Kd.C_drew ?_)))
 (case side2 => exact (Kd.R_reads' HO288.out).2.1)
 (case side3 => repeat (first | exact (cB HR1_1.out HB.out) | (with_reducible refine Kd.C_alloc ?_ _) | (with_reducible refine Kd.C_drewN ?_ _) | (with_reducible refine Kd.C_drew ?_)))
 (case side4 => exact HC1_1.out)
 rintro e w10 ⟨rfl, hb⟩
 refine ⟨_, rfl, ?_⟩
 replace HO288 := aK (Kd.R_below (by (with_reducible repeat (first | apply Kd.R_alloc | apply Kd.R_drewN | apply Kd.R_drew)); exact HO288.out) hb)
 replace BK283 := aK (bB (g := gb283) (o := .cells #[.int .i64 a0_0, .slice A0_1 l0_1.length c0_1] 69 (0, 0)) zq48_3 hb)
 replace BK284 := aK (bB (g := gb284) (o := .cells #[.int .i64 a1_0, .slice A1_1 l1_1.length c1_1] 69 (0, 0)) (by (with_reducible repeat (first | refine blk_drewN ?_ _ | refine blk_drew ?_ | refine blk_alloc ?_ _)); exact BK284.out) hb)
 replace HB := aK (bS zq48_0 hb)
 (try clear hb)
 (try clear hb2)
 (try clear hk)
 (try clear hi)
 refine hK.out _ _ ⟨(bC BK283.out 0).trans rfl, (bC BK283.out 1).trans rfl, (bC BK284.out 0).trans rfl, (bC BK284.out 1).trans rfl⟩ (fun hHeld => ?_)
 clear hK K
 refine norm_ (a' := ?_) ?_ ?_
 rotate_left
 ·show Act.put _ (some 9) _ = _
  simp only [Act.put, lA, lB, lC, i64_w, i32_w]
  rfl
 refine p_ 5 4 (mk_ 6 0x3f) ?_
 refine done_ (by kernel_rfl) ?_
 try go_wp2
 go_ret
 exact ⟨by first | rfl | (simp [errW_none, errW_some] <;> rfl) | (simp [*, errW_none, errW_some] <;> rfl), by repeat (first | (with_reducible first | exact HB.out | apply bA | apply pB | apply bW | refine below_set ?_ GE283.out | refine below_set ?_ GE284.out) | exact HB.out)⟩
theorem korder_raw (s : ByteArray) (m : Int) (A : Option Addr) (n c : Nat) (t : ByteArray) (m' : Int) (A' : Option Addr) (n' c' : Nat) (r : Int) (W : World) (hr : cmpB s t = r) :
  Calls Tryz.prog 58 #[.agg #[.string s, .int .i64 m, .slice A n c], .agg #[.string t, .int .i64 m', .slice A' n' c']] W fun e w' => e = .returned (.int .i64 r) ∧ Below W.heap.size W w' := by
 have hu := Tryz.underlying72
 have hc := fun (W : World) => id_Compare.calls s t r W (by rw [← hr]; rfl)
 have HC := aK hc
 clear hc hr
 have HB := aK (bA (bA (Below.refl W.heap.size W) (.cells #[.string s, .int .i64 m, .slice A n c] 72)) (.cells #[.string t, .int .i64 m', .slice A' n' c'] 72))
 have BK0 := aK (blk_alloc (blk_new W (.cells #[.string s, .int .i64 m, .slice A n c] 72)) (.cells #[.string t, .int .i64 m', .slice A' n' c'] 72))
 have BK1 := aK (blk_new (W.alloc (.cells #[.string s, .int .i64 m, .slice A n c] 72)) (.cells #[.string t, .int .i64 m', .slice A' n' c'] 72))
 have e : (W.alloc (.cells #[.string s, .int .i64 m, .slice A n c] 72)).heap.size = W.heap.size + 1 := Array.size_push _
 rw [e] at BK1
 clear e
 go_enter Tryz.func58, Tryz.ntmps58
 go_upto_region 1 with fail
 generalize (W.alloc _).alloc _ = w1 at BK0 BK1 HB ⊢
 have hc0 : w1.cell? ⟨W.heap.size, 0, none⟩ = some (.string s) := (bC BK0.out 0).trans rfl
 have hc1 : w1.cell? ⟨W.heap.size + 1, 0, none⟩ = some (.string t) := (bC BK1.out 0).trans rfl
 go_wp2_with fail
 refine (HC.out _).mono ?_
 rintro e w' ⟨rfl, hb⟩
 have HB1 := aK (bS HB.out hb.below)
 clear hb
 go_wp2_with fail
 go_ret
 exact ⟨rfl, HB1.out⟩
theorem matf_bsearch (A0 : Option Addr) (c0 : Nat) (l0 : List RW) (a1 : ByteArray) (w : World) (hr0 : Kd.C kRW w A0 l0.length l0) (hlim : l0.length ≤ 140737488355328) :
  Calls Tryz.prog 83 #[.slice A0 l0.length c0, .agg #[.string a1, .int .i64 0, .slice none 0 0], .func (.func 58) #[] #[]] w fun e w' => e = .returned (.tuple #[.int .i64 (bsN (fun i => cmpB (l0.getD i zRW).f0 a1) l0.length : Nat), .bool (bsB (fun i => cmpB (l0.getD i zRW).f0 a1) l0.length)]) ∧ Below w.heap.size w w' := by
 have hlen := hr0.2.1
 have HR0 := aK hr0
 clear hr0
 generalize hc : (fun i => cmpB (l0.getD i zRW).f0 a1) = c
 have HCC := aK (show ∀ i, cmpB (l0.getD i zRW).f0 a1 = c i from fun i => by rw [← hc])
 clear hc
 generalize hn : l0.length = n at *
 have HR := aK (show bsN c n = bsI c (n + 1) 0 n from rfl)
 clear hn
 have HB := aK (bA (Below.refl w.heap.size w) (.cells #[.string a1, .int .i64 0, .slice none 0 0] 72))
 have BK := aK (blk_new w (.cells #[.string a1, .int .i64 0, .slice none 0 0] 72))
 have hut := Tryz.underlying72
 go_enter Tryz.func83, Tryz.ntmps83
 go_wp2
 go_loopw [9, 10, 11] (fun vi vj _ wr => ∃ i j fu : Nat, vi = .int .i64 i ∧ vj = .int .i64 j ∧ i ≤ j ∧ j ≤ n ∧ j - i < fu ∧ Aside0 (bsI c fu i j = bsN c n) ∧ Aside0 (Below w.heap.size w wr) ∧ Aside0 (wr.heap[w.heap.size]? = some (.cells #[.string a1, .int .i64 0, .slice none 0 0] 72 (0, 0)))) (fun vi vj _ _ => ((intOf vj).toNat - (intOf vi).toNat))
 case atStart => exact ⟨0, n, n + 1, rfl, rfl, Nat.zero_le _, Nat.le_refl _, by omega, ⟨HR.out.symm⟩, HB, BK⟩
 case round =>
  clear HB BK
  obtain ⟨i, j, fu, rfl, rfl, hij, hjn, hfu, HI, HB, BK⟩ := hrel
  by_cases hlt : i < j
  ·obtain ⟨ad, hA, hx0, hx1, hx2⟩ := at_RW HR0.out (((i : Int) + (j : Int)) / 2) (by omega) (by omega)
   obtain rfl := hA
   have hw0 := hx0; have hw1 := hx1; have hw2 := hx2; replace hx2 := pc_ HB hx2; replace hx0 := pc_ HB hx0; replace hx1 := pc_ HB hx1
   have hm : (((i : Int) + (j : Int)) / 2).toNat = (i + j) / 2 := by omega
   have e2 : cmpB (l0.getD (((i : Int) + (j : Int)) / 2).toNat zRW).f0 a1 = c ((i + j) / 2) := by rw [hm]; exact HCC.out _
   have pm := eT (show (0 : Int) ≤ ((i : Int) + (j : Int)) / 2 by omega)
   have qm := eT (show ((i : Int) + (j : Int)) / 2 < (n : Int) by omega)
   clear hm
   have hub : bsI c (fu - 1 + 1) i j = if c ((i + j) / 2) < 0 then bsI c (fu - 1) ((i + j) / 2 + 1) j else bsI c (fu - 1) i ((i + j) / 2) := by
    simp only [bsI]; rw [if_pos hlt]
   have HU := aK hub
   have hcalls := fun W => korder_raw (rd_RW l0 (((i : Int) + (j : Int)) / 2)).f0 (rd_RW l0 (((i : Int) + (j : Int)) / 2)).u (rd_RW l0 (((i : Int) + (j : Int)) / 2)).A (rd_RW l0 (((i : Int) + (j : Int)) / 2)).n (rd_RW l0 (((i : Int) + (j : Int)) / 2)).c a1 0 none 0 0 (c ((i + j) / 2)) W e2
   clear hub e2
   have HK := aK hcalls
   clear hcalls
   have hfu1 : fu - 1 + 1 = fu := by omega
   have HF := aK hfu1
   clear hfu1
   by_cases hneg : c ((i + j) / 2) < 0
   ·have HN := aK hneg
    have hdn : decide (c ((i + j) / 2) < 0) = true := dT hneg
    generalize hq : c ((i + j) / 2) = q at hdn HK hneg
    have HQ := aK hq
    clear hq
    go_wp2_with fail
    refine start_ (n := 8) (S := fun w' => w'.cell? (ad.add ((((i : Int) + (j : Int)) / 2).toNat * 3)) = some (.string (rd_RW l0 (((i : Int) + (j : Int)) / 2)).f0) ∧ w'.cell? ⟨(ad.add ((((i : Int) + (j : Int)) / 2).toNat * 3)).block, (ad.add ((((i : Int) + (j : Int)) / 2).toNat * 3)).off + 1, none⟩ = some (.int .i64 (rd_RW l0 (((i : Int) + (j : Int)) / 2)).u) ∧ w'.cell? ⟨(ad.add ((((i : Int) + (j : Int)) / 2).toNat * 3)).block, (ad.add ((((i : Int) + (j : Int)) / 2).toNat * 3)).off + 2, none⟩ = some (.slice (rd_RW l0 (((i : Int) + (j : Int)) / 2)).A (rd_RW l0 (((i : Int) + (j : Int)) / 2)).n (rd_RW l0 (((i : Int) + (j : Int)) / 2)).c) ∧ w'.cell? ⟨w.heap.size, 0, none⟩ = some (.string a1) ∧ w'.cell? ⟨w.heap.size, 1, none⟩ = some (.int .i64 0) ∧ w'.cell? ⟨w.heap.size, 2, none⟩ = some (.slice none 0 0)) (ds := []) #[false, false, false, false, false, false, false, false] (by kernel_rfl) rfl rfl ⟨hx0, hx1, hx2, (bC (blk_drew BK.out) 0).trans rfl, (bC (blk_drew BK.out) 1).trans rfl, (bC (blk_drew BK.out) 2).trans rfl⟩ (fun hHeld => ?_)
    refine p_ 0 24 (mk_ 8 0x1) ?_
    refine p_ 1 25 (mk_ 8 0x3) ?_
    refine p_ 2 26 (mk_ 8 0x7) ?_
    refine p_ 3 27 (mk_ 8 0xf) ?_
    refine t_ 4 28 (mk_ 8 0x1f) hHeld ?_
    refine t_ 5 29 (mk_ 8 0x3f) hHeld ?_
    refine one_ (i := 6) (N := some 30) #[true, true, true, true, true, true, true, false] rfl rfl (by kernel_rfl) (by decide) (fun K hK => ?_)
    refine goesV_ Tryz.func58 (by kernel_rfl) rfl #[.agg #[.string (rd_RW l0 (((i : Int) + (j : Int)) / 2)).f0, .int .i64 (rd_RW l0 (((i : Int) + (j : Int)) / 2)).u, .slice (rd_RW l0 (((i : Int) + (j : Int)) / 2)).A (rd_RW l0 (((i : Int) + (j : Int)) / 2)).n (rd_RW l0 (((i : Int) + (j : Int)) / 2)).c], .agg #[.string a1, .int .i64 0, .slice none 0 0]] (by rfl) rfl rfl rfl (by (try simp only [List.map_toArray, List.map_cons, List.map_nil]); first | done | rfl) ?_
    refine (HK.out _).mono ?_
    rintro e w' ⟨rfl, hb1⟩
    refine ⟨_, rfl, ?_⟩
    have HB1 := aK (bS (bW HB.out) hb1)
    have BK1 := aK (bB (blk_drew BK.out) hb1)
    clear hb1
    refine hK.out _ _ ⟨pc_ HB1 hw0, pc_ HB1 hw1, pc_ HB1 hw2, (bC BK1.out 0).trans rfl, (bC BK1.out 1).trans rfl, (bC BK1.out 2).trans rfl⟩ (fun hHeld => ?_)
    clear hK K
    refine norm_ (a' := ?_) ?_ ?_
    rotate_left
    ·show Act.put _ (some 30) _ = _
     simp only [Act.put, lA, lB, lC, i64_w, i32_w]
     rfl
    refine p_ 7 31 (mk_ 8 0xff) ?_
    refine done_ (by kernel_rfl) ?_
    go_wp2_with fail
    go_roundw
    case rel => exact ⟨(i + j) / 2 + 1, j, fu - 1, by go_num, rfl, by omega, hjn, by omega, ⟨by have := HU.out; rw [HF.out, HI.out, if_pos HN.out] at this; exact this.symm⟩, HB1, BK1⟩
    case measure => simp [intOf]; omega
   ·have HN := aK hneg
    have hdn : decide (c ((i + j) / 2) < 0) = false := decide_eq_false hneg
    generalize hq : c ((i + j) / 2) = q at hdn HK hneg
    have HQ := aK hq
    clear hq
    go_wp2_with fail
    refine start_ (n := 8) (S := fun w' => w'.cell? (ad.add ((((i : Int) + (j : Int)) / 2).toNat * 3)) = some (.string (rd_RW l0 (((i : Int) + (j : Int)) / 2)).f0) ∧ w'.cell? ⟨(ad.add ((((i : Int) + (j : Int)) / 2).toNat * 3)).block, (ad.add ((((i : Int) + (j : Int)) / 2).toNat * 3)).off + 1, none⟩ = some (.int .i64 (rd_RW l0 (((i : Int) + (j : Int)) / 2)).u) ∧ w'.cell? ⟨(ad.add ((((i : Int) + (j : Int)) / 2).toNat * 3)).block, (ad.add ((((i : Int) + (j : Int)) / 2).toNat * 3)).off + 2, none⟩ = some (.slice (rd_RW l0 (((i : Int) + (j : Int)) / 2)).A (rd_RW l0 (((i : Int) + (j : Int)) / 2)).n (rd_RW l0 (((i : Int) + (j : Int)) / 2)).c) ∧ w'.cell? ⟨w.heap.size, 0, none⟩ = some (.string a1) ∧ w'.cell? ⟨w.heap.size, 1, none⟩ = some (.int .i64 0) ∧ w'.cell? ⟨w.heap.size, 2, none⟩ = some (.slice none 0 0)) (ds := []) #[false, false, false, false, false, false, false, false] (by kernel_rfl) rfl rfl ⟨hx0, hx1, hx2, (bC (blk_drew BK.out) 0).trans rfl, (bC (blk_drew BK.out) 1).trans rfl, (bC (blk_drew BK.out) 2).trans rfl⟩ (fun hHeld => ?_)
    refine p_ 0 24 (mk_ 8 0x1) ?_
    refine p_ 1 25 (mk_ 8 0x3) ?_
    refine p_ 2 26 (mk_ 8 0x7) ?_
    refine p_ 3 27 (mk_ 8 0xf) ?_
    refine t_ 4 28 (mk_ 8 0x1f) hHeld ?_
    refine t_ 5 29 (mk_ 8 0x3f) hHeld ?_
    refine one_ (i := 6) (N := some 30) #[true, true, true, true, true, true, true, false] rfl rfl (by kernel_rfl) (by decide) (fun K hK => ?_)
    refine goesV_ Tryz.func58 (by kernel_rfl) rfl #[.agg #[.string (rd_RW l0 (((i : Int) + (j : Int)) / 2)).f0, .int .i64 (rd_RW l0 (((i : Int) + (j : Int)) / 2)).u, .slice (rd_RW l0 (((i : Int) + (j : Int)) / 2)).A (rd_RW l0 (((i : Int) + (j : Int)) / 2)).n (rd_RW l0 (((i : Int) + (j : Int)) / 2)).c], .agg #[.string a1, .int .i64 0, .slice none 0 0]] (by rfl) rfl rfl rfl (by (try simp only [List.map_toArray, List.map_cons, List.map_nil]); first | done | rfl) ?_
    refine (HK.out _).mono ?_
    rintro e w' ⟨rfl, hb1⟩
    refine ⟨_, rfl, ?_⟩
    have HB1 := aK (bS (bW HB.out) hb1)
    have BK1 := aK (bB (blk_drew BK.out) hb1)
    clear hb1
    refine hK.out _ _ ⟨pc_ HB1 hw0, pc_ HB1 hw1, pc_ HB1 hw2, (bC BK1.out 0).trans rfl, (bC BK1.out 1).trans rfl, (bC BK1.out 2).trans rfl⟩ (fun hHeld => ?_)
    clear hK K
    refine norm_ (a' := ?_) ?_ ?_
    rotate_left
    ·show Act.put _ (some 30) _ = _
     simp only [Act.put, lA, lB, lC, i64_w, i32_w]
     rfl
    refine p_ 7 31 (mk_ 8 0xff) ?_
    refine done_ (by kernel_rfl) ?_
    go_wp2_with fail
    go_roundw
    case rel => exact ⟨i, (i + j) / 2, fu - 1, rfl, by go_num, by omega, by omega, by omega, ⟨by have := HU.out; rw [HF.out, HI.out, if_neg (by have := HN.out; omega)] at this; exact this.symm⟩, HB1, BK1⟩
    case measure => simp [intOf]; omega
  ·have hres : bsN c n = i := by
    rw [← HI.out]
    obtain ⟨f, rfl⟩ : ∃ f, fu = f + 1 := ⟨fu - 1, by omega⟩
    simp only [bsI]; rw [if_neg hlt]
   have HRS := aK hres
   clear hres
   have hge : decide ((i : Int) < (j : Int)) = false := by simp; omega
   by_cases hin : i < n
   ·obtain ⟨ad, hA, hx0, hx1, hx2⟩ := at_RW HR0.out (i : Int) (by omega) (by omega)
    obtain rfl := hA
    have pm := eT (show (0 : Int) ≤ (i : Int) by omega)
    have qm := eT (show (i : Int) < (n : Int) by omega)
    have hw0 := hx0; have hw1 := hx1; have hw2 := hx2; replace hx2 := pc_ HB hx2; replace hx0 := pc_ HB hx0; replace hx1 := pc_ HB hx1
    have hcalls := fun W => korder_raw (rd_RW l0 (i : Int)).f0 (rd_RW l0 (i : Int)).u (rd_RW l0 (i : Int)).A (rd_RW l0 (i : Int)).n (rd_RW l0 (i : Int)).c a1 0 none 0 0 (c i) W (HCC.out i)
    have HK := aK hcalls
    clear hcalls
    have hbb : bsB c n = decide (c i = 0) := by unfold bsB; rw [HRS.out, dT hin, Bool.true_and]
    have HBB := aK hbb
    clear hbb
    have hin2 : decide ((i : Int) < (n : Int)) = true := by simp; omega
    generalize hq : c i = q at HK HBB
    have HQ := aK hq
    clear hq
    go_wp2_with fail
    refine start_ (n := 16) (S := fun w' => w'.cell? (ad.add (i * 3)) = some (.string (rd_RW l0 (i : Int)).f0) ∧ w'.cell? ⟨(ad.add (i * 3)).block, (ad.add (i * 3)).off + 1, none⟩ = some (.int .i64 (rd_RW l0 (i : Int)).u) ∧ w'.cell? ⟨(ad.add (i * 3)).block, (ad.add (i * 3)).off + 2, none⟩ = some (.slice (rd_RW l0 (i : Int)).A (rd_RW l0 (i : Int)).n (rd_RW l0 (i : Int)).c) ∧ w'.cell? ⟨w.heap.size, 0, none⟩ = some (.string a1) ∧ w'.cell? ⟨w.heap.size, 1, none⟩ = some (.int .i64 0) ∧ w'.cell? ⟨w.heap.size, 2, none⟩ = some (.slice none 0 0)) (ds := []) #[false, false, false, false, false, false, false, false, false, false, false, false, false, false, false, false] (by kernel_rfl) rfl rfl ⟨hx0, hx1, hx2, (bC (blk_drew BK.out) 0).trans rfl, (bC (blk_drew BK.out) 1).trans rfl, (bC (blk_drew BK.out) 2).trans rfl⟩ (fun hHeld => ?_)
    refine p_ 0 35 (mk_ 16 0x1) ?_
    refine p_ 1 36 (mk_ 16 0x3) ?_
    refine p_ 2 37 (mk_ 16 0x7) ?_
    refine p_ 3 38 (mk_ 16 0xf) ?_
    refine p_ 4 39 (mk_ 16 0x1f) ?_
    refine p_ 5 40 (mk_ 16 0x3f) ?_
    refine p_ 6 41 (mk_ 16 0x7f) ?_
    refine p_ 7 42 (mk_ 16 0xff) ?_
    refine p_ 8 43 (mk_ 16 0x1ff) ?_
    refine t_ 9 44 (mk_ 16 0x3ff) hHeld ?_
    refine t_ 10 45 (mk_ 16 0x7ff) hHeld ?_
    refine one_ (i := 11) (N := some 46) #[true, true, true, true, true, true, true, true, true, true, true, true, false, false, false, false] rfl rfl (by kernel_rfl) (by decide) (fun K hK => ?_)
    refine goesV_ Tryz.func58 (by kernel_rfl) rfl #[.agg #[.string (rd_RW l0 (i : Int)).f0, .int .i64 (rd_RW l0 (i : Int)).u, .slice (rd_RW l0 (i : Int)).A (rd_RW l0 (i : Int)).n (rd_RW l0 (i : Int)).c], .agg #[.string a1, .int .i64 0, .slice none 0 0]] (by rfl) rfl rfl rfl (by (try simp only [List.map_toArray, List.map_cons, List.map_nil]); first | done | rfl) ?_
    refine (HK.out _).mono ?_
    rintro e w' ⟨rfl, hb1⟩
    refine ⟨_, rfl, ?_⟩
    have HB1 := aK (bS (bW HB.out) hb1)
    have BK1 := aK (bB (blk_drew BK.out) hb1)
    clear hb1
    refine hK.out _ _ ⟨pc_ HB1 hw0, pc_ HB1 hw1, pc_ HB1 hw2, (bC BK1.out 0).trans rfl, (bC BK1.out 1).trans rfl, (bC BK1.out 2).trans rfl⟩ (fun hHeld => ?_)
    clear hK K
    refine norm_ (a' := ?_) ?_ ?_
    rotate_left
    ·show Act.put _ (some 46) _ = _
     simp only [Act.put, lA, lB, lC, i64_w, i32_w]
     rfl
    refine p_ 12 47 (mk_ 16 0x1fff) ?_
    refine p_ 13 48 (mk_ 16 0x3fff) ?_
    refine p_ 14 6 (mk_ 16 0x7fff) ?_
    refine p_ 15 7 (mk_ 16 0xffff) ?_
    refine done_ (by kernel_rfl) ?_
    go_wp2_with fail
    go_ret2
    exact ⟨by rw [HRS.out, HBB.out]; rfl, HB1.out⟩
   ·have hbb : bsB c n = false := by unfold bsB; rw [HRS.out, decide_eq_false hin, Bool.false_and]
    have HBB := aK hbb
    clear hbb
    have hin2 : decide ((i : Int) < (n : Int)) = false := by simp; omega
    go_wp2_with fail
    go_quiet (fail)
    try go_wp2
    go_ret2
    exact ⟨by rw [HRS.out, HBB.out]; rfl, pB HB.out _⟩
theorem know_find.raw (A0 : Option Addr) (c0 : Nat) (l0 : List RW) (a1 : ByteArray) (w : World) (hr0 : Kd.C kRW w A0 l0.length l0) (hlim : l0.length < 1000000000) :
  Calls Tryz.prog 67 #[.slice A0 l0.length c0, .string a1] w fun e w' => e = .returned (.tuple #[.int .i64 (bsN (fun i => cmpB (l0.getD i zRW).f0 a1) l0.length : Nat), .bool (bsB (fun i => cmpB (l0.getD i zRW).f0 a1) l0.length)]) ∧ Below w.heap.size w w' := by
 have HB := aK (Below.refl w.heap.size w)
 have hc := fun (W : World) (hW : Below w.heap.size w W) => matf_bsearch A0 c0 l0 a1 W (cB hr0 hW) (by omega)
 generalize ((bsN (fun i => cmpB (l0.getD i zRW).f0 a1) l0.length : Nat) : Int) = r1 at hc ⊢
 generalize bsB (fun i => cmpB (l0.getD i zRW).f0 a1) l0.length = r2 at hc ⊢
 have HC := aK hc
 clear hc hlim hr0
 have hut := Tryz.underlying72
 go_enter Tryz.func67, Tryz.ntmps67
 go_wp2_with fail
 refine (HC.out _ (by repeat (first | (with_reducible first | exact HB.out | apply bA | apply pB | apply bW) | exact HB.out))).mono ?_
 rintro e w' ⟨rfl, hb⟩
 have HB1 := aK (bS HB.out hb)
 clear hb
 go_wp2_with fail
 go_ret2
 exact ⟨rfl, HB1.out⟩
def okM (l : List S72) : Prop := l.length < 1000000000 ∧ ∀ x ∈ l, x.f1.f1.length < 1000000000
theorem lead_m : LeadK k72 (Kd.int .i64) S72.f0 (fun x => x.f1.f0) (fun x => x.f1.f1) := ⟨rfl, (Kd.heap_int .i64), fun h => k72_open h, fun h1 h2 => k72_mk _ _ h1 h2⟩
def mN (l : List S72) (a : ByteArray) : Nat := bsN (fun i => cmpB (l.getD i z72).f0 a) l.length
def mB (l : List S72) (a : ByteArray) : Bool := bsB (fun i => cmpB (l.getD i z72).f0 a) l.length
theorem mN_le (l : List S72) (a : ByteArray) : mN l a ≤ l.length := bsI_le _ _ _ _ (Nat.zero_le _)
theorem mN_lt {l : List S72} {a : ByteArray} (h : mB l a = true) : mN l a < l.length := by
 unfold mB bsB at h
 rw [Bool.and_eq_true, decide_eq_true_eq] at h
 exact h.1
theorem mfind_raw (A0 : Option Addr) (c0 : Nat) (rs : List RW) (l0 : List S72) (a1 : ByteArray) (w : World) (ok : Nat → Prop) (hr0 : Kd.C kRW w A0 l0.length rs) (hI : INs (Kd.int .i64) S72.f0 (fun x => x.f1.f0) (fun x => x.f1.f1) w ok rs l0) (hlim : l0.length < 1000000000) :
  Calls Tryz.prog 67 #[.slice A0 l0.length c0, .string a1] w fun e w' => e = .returned (.tuple #[.int .i64 (mN l0 a1 : Nat), .bool (mB l0 a1)]) ∧ Below w.heap.size w w' := by
 have hl := F2.len hI
 have h := know_find.raw A0 c0 rs a1 w (by rw [hl]; exact hr0) (by omega)
 have hf : (fun i => cmpB (rs.getD i zRW).f0 a1) = fun i => cmpB (l0.getD i z72).f0 a1 := funext fun i => by rw [INs.f0 hI z72 rfl]
 rw [hf, hl] at h
 exact h
theorem mfind (A0 : Option Addr) (c0 : Nat) (l0 : List S72) (a1 : ByteArray) (w : World) (hr0 : Kd.C k72 w A0 l0.length l0) (hlim : l0.length < 1000000000) :
  Calls Tryz.prog 67 #[.slice A0 l0.length c0, .string a1] w fun e w' => e = .returned (.tuple #[.int .i64 (mN l0 a1 : Nat), .bool (mB l0 a1)]) ∧ Below w.heap.size w w' := by
 obtain ⟨rs, hC, hI⟩ := lead_raw lead_m hr0
 exact mfind_raw A0 c0 rs l0 a1 w _ hC hI hlim
def know_find.f (l0 : List S72) (a1 : ByteArray) : Option (Int × Bool) := if l0.length < 1000000000 then some ((mN l0 a1 : Nat), mB l0 a1) else none
theorem know_find.calls (A0 : Option Addr) (c0 : Nat) (l0 : List S72) (a1 : ByteArray) (r1 : Int) (r2 : Bool) (w : World) (hr0 : Kd.C k72 w A0 l0.length l0) (hc0 : l0.length ≤ c0) (h : know_find.f l0 a1 = some (r1, r2)) :
  Calls Tryz.prog 67 #[.slice A0 l0.length c0, .string a1] w fun e w' => e = .returned (.tuple #[.int .i64 r1, .bool r2]) ∧ Below w.heap.size w w' := by
 unfold know_find.f at h
 by_cases hc : l0.length < 1000000000
 ·rw [if_pos hc] at h
  obtain ⟨e1, e2⟩ := Prod.mk.inj (sI h)
  rw [← e1, ← e2]
  exact mfind A0 c0 l0 a1 w hr0 hc
 ·rw [if_neg hc] at h; cases h
theorem zq49_0 {p_ : Prop} (h_ : p_ := by rw [hg]; exact (below_size (by repeat (first | (with_reducible first | exact HB.out | apply bA | apply pB | apply bW) | exact HB.out)))) : p_ := h_
theorem zq49_1 {p_ : Prop} (h_ : p_ := by repeat (first | (with_reducible first | exact HB.out | apply bA | apply pB | apply bW | refine below_set ?_ GE290.out) | exact HB.out)) : p_ := h_
theorem zq49_2 {p_ : Prop} (h_ : p_ := by (try simp only [List.map_toArray, List.map_cons, List.map_nil]); first | done | rfl | (simp only [List.length_drop, List.length_take]; rfl)) : p_ := h_
theorem zq49_3 {p_ : Prop} (h_ : p_ := by (with_reducible repeat (first | refine blk_drewN ?_ _ | refine blk_drew ?_ | refine blk_alloc ?_ _)); exact BK290.out) : p_ := h_
theorem zq49_4 {p_ : Prop} (h_ : p_ := by first | (with_reducible assumption) | assumption) : p_ := h_
def know_Of.f (l0 : List (S72)) (a1 : ByteArray) : Option (Int × List Int) := (know_find.f l0 a1).bind fun bt291 => (if bt291.2 = true then (if 0 ≤ bt291.1 then (if bt291.1 < (l0.length : Int) then ((slices_Clone_int_int.f ((rd_T72 l0 bt291.1).f1.f1)).bind fun t295 => (some ((rd_T72 l0 bt291.1).f1.f0, t295))) else (none)) else (none)) else (some (0, ([] : List Int))))
def know_Of.T4 : Bool × List (List Nat × List Nat) := (true, [([], []), ([], []), ([0, 1], [0, 1]), ([2], [2]), ([3], [3]), ([4], [4]), ([], []), ([], []), ([6, 7], [6, 7]), ([8], [8]), ([9], [9]), ([10], [10]), ([11], [11]), ([5, 12], [5, 12]), ([13, 12, 0, 1, 2, 3, 4, 5, 6, 7, 8, 9, 10, 11, 12, 13], [13])])
def know_Of.B4 : List Nat := [0, 0, 3, 7, 15, 31, 0, 0, 192, 448, 960, 1984, 4032, 8191, 16383]
theorem know_Of.tab4 : rtab .any (opsOf Tryz.f49 4) = know_Of.T4 := by kernel_rfl
theorem know_Of.bits4 : waitsOk know_Of.T4.2 know_Of.B4 = true := by kernel_rfl
theorem know_Of.calls (A0 : Option Addr) (c0 : Nat) (l0 : List (S72)) (a1 : ByteArray) (r1 : Int) (r2 : List Int) (w : World) (hr0 : Kd.C k72 w A0 l0.length l0) (hc0 : l0.length ≤ c0) (h : know_Of.f l0 a1 = some (r1, r2)) :
  Calls Tryz.prog 49 #[.slice A0 l0.length c0, .string a1] w fun e w' => ∃ v1_ : Value, e = .returned (.agg #[.int .i64 r1, v1_]) ∧ Kd.R (Kd.int .i64) 3 w' w.heap.size (fun _ => True) v1_ r2 ∧ Below w.heap.size w w' := by
 have hu69 := Tryz.underlying69
 have HR0 := aK hr0
 have HC0 := aK hc0
 clear hr0 hc0
 have HB := aK (Below.refl w.heap.size w)
 have H : ((know_find.f l0 a1).bind fun bt291 => (if bt291.2 = true then (if 0 ≤ bt291.1 then (if bt291.1 < (l0.length : Int) then ((slices_Clone_int_int.f ((rd_T72 l0 bt291.1).f1.f1)).bind fun t295 => (some ((rd_T72 l0 bt291.1).f1.f0, t295))) else (none)) else (none)) else (some (0, ([] : List Int))))) = some (r1, r2) := h
 clear h
 replace H := bM H
 obtain ⟨⟨t291, t292⟩, A30, H⟩ := H
 replace H : (if t292 = true then (if 0 ≤ t291 then (if t291 < (l0.length : Int) then ((slices_Clone_int_int.f ((rd_T72 l0 t291).f1.f1)).bind fun t295 => (some ((rd_T72 l0 t291).f1.f0, t295))) else (none)) else (none)) else (some (0, ([] : List Int)))) = some (r1, r2) := H
 have A3 := aK A30
 clear A30
 by_cases c4 : t292 = true
 ·subst c4
  have H1 : (if 0 ≤ t291 then (if t291 < (l0.length : Int) then ((slices_Clone_int_int.f ((rd_T72 l0 t291).f1.f1)).bind fun t295 => (some ((rd_T72 l0 t291).f1.f0, t295))) else (none)) else (none)) = some (r1, r2) := by rw [if_pos rfl] at H; exact H
  clear H
  have H := H1
  clear H1
  by_cases c5 : 0 ≤ t291
  ·rw [if_pos c5] at H
   have c5b0 : decide (0 ≤ t291) = true := dT c5
   clear c5
   by_cases c6 : t291 < (l0.length : Int)
   ·rw [if_pos c6] at H
    have c6b0 : decide (t291 < (l0.length : Int)) = true := dT c6
    clear c6
    replace H := bM H
    obtain ⟨t295, A70, H⟩ := H
    replace H : (some ((rd_T72 l0 t291).f1.f0, t295)) = some (r1, r2) := H
    have A7 := aK A70
    clear A70
    simp only [Option.some.injEq, Prod.mk.injEq] at H
    obtain ⟨rfl, rfl⟩ := H
    go_enter Tryz.func49, Tryz.ntmps49
    try go_wp2_with (first | ((with_reducible refine gate_dst (N := 4) rfl ?_); refine box_event ?hg (N := 4) ?hd (cs := #[.int .i64 0, .slice none 0 0]) (t := 69) ?hr ?_; (case hd => rfl); (case hg => rfl); (case hr => first | (go_simp; done) | (go_simp; rfl)); intro gb290 hg w8 hbox hb; have BK290 := aK (hbox); have GW290 := aK ((zq49_0 : w.heap.size ≤ gb290)); have GE290 := aK ((zq49_0 : w.heap.size ≤ gb290)); replace HB := aK (bS (by repeat (first | (with_reducible first | exact HB.out | apply bA | apply pB | apply bW) | exact HB.out)) hb); clear hb hbox hg) | ((with_reducible refine gate_callee (f := 67) rfl ?_); refine goesL_ (some 10) rfl rfl Tryz.func67 (by kernel_rfl) rfl #[.slice A0 l0.length c0, .string a1] rfl zq49_2 ?_; (with_reducible refine (know_find.calls _ _ l0 a1 t291 true _ ?side1 ?side2 A3.out).mono ?_); (case side1 => repeat (first | exact (cB HR0.out HB.out) | (with_reducible refine Kd.C_alloc ?_ _) | (with_reducible refine Kd.C_drewN ?_ _) | (with_reducible refine Kd.C_drew ?_))); (case side2 => exact HC0.out); rintro e w9 ⟨rfl, hb⟩; refine ⟨_, rfl, ?_⟩; replace BK290 := aK (bB (g := gb290) (o := .cells #[.int .i64 0, .slice none 0 0] 69 (0, 0)) zq49_3 hb); replace HB := aK (bS zq49_1 hb); (try clear hb); (try clear hb2); (try clear hk); (try clear hi)))
    replace BK290 := aK (blk_drew BK290.out)
    replace HB := aK (bW HB.out)
    have p293 : 0 ≤ (t291 : Int) := oD zq49_4
    have q293 : t291 < (l0.length : Int) := oD zq49_4
    obtain ⟨ad293, A293_2, c293_2, e293, hx293_0, hx293_1, hx293_2, hl293_2, hi293_2⟩ := at_T72 HR0.out t291 p293 q293
    have hw293_2 := hx293_2
    have hw293_1 := hx293_1
    have hw293_0 := hx293_0
    cases e293
    replace hx293_0 := pc_ HB hx293_0
    replace hx293_1 := pc_ HB hx293_1
    replace hx293_2 := pc_ HB hx293_2
    have HR293_2 := aK hi293_2
    have HC293_2 := aK hl293_2
    clear hi293_2 hl293_2
    replace p293 := eT p293
    replace q293 := eT q293
    have p294 : 0 ≤ (t291 : Int) := oD zq49_4
    have q294 : t291 < (l0.length : Int) := oD zq49_4
    obtain ⟨ad294, A294_2, c294_2, e294, hx294_0, hx294_1, hx294_2, hl294_2, hi294_2⟩ := at_T72 HR0.out t291 p294 q294
    have hw294_2 := hx294_2
    have hw294_1 := hx294_1
    have hw294_0 := hx294_0
    obtain rfl : ad293 = ad294 := (by injection e294)
    replace hx294_0 := pc_ HB hx294_0
    replace hx294_1 := pc_ HB hx294_1
    replace hx294_2 := pc_ HB hx294_2
    have HR294_2 := aK hi294_2
    have HC294_2 := aK hl294_2
    clear hi294_2 hl294_2
    replace p294 := eT p294
    replace q294 := eT q294
    have ea_ := sI (hx293_2.symm.trans hx294_2)
    injection ea_ with ea_ en_ ec_
    subst ea_
    subst ec_
    clear en_
    refine start_ (n := 15) (S := fun w' => w'.cell? (ad293.add ((t291).toNat * 3)) = some (.string ((rd_T72 l0 t291).f0)) ∧ w'.cell? ⟨(ad293.add ((t291).toNat * 3)).block, (ad293.add ((t291).toNat * 3)).off + 1, none⟩ = some (.int .i64 ((rd_T72 l0 t291).f1.f0)) ∧ w'.cell? ⟨(ad293.add ((t291).toNat * 3)).block, (ad293.add ((t291).toNat * 3)).off + 2, none⟩ = some (.slice A293_2 ((rd_T72 l0 t291).f1.f1).length c293_2) ∧ w'.cell? (ad293.add ((t291).toNat * 3)) = some (.string ((rd_T72 l0 t291).f0)) ∧ w'.cell? ⟨(ad293.add ((t291).toNat * 3)).block, (ad293.add ((t291).toNat * 3)).off + 1, none⟩ = some (.int .i64 ((rd_T72 l0 t291).f1.f0)) ∧ w'.cell? ⟨(ad293.add ((t291).toNat * 3)).block, (ad293.add ((t291).toNat * 3)).off + 2, none⟩ = some (.slice A293_2 ((rd_T72 l0 t291).f1.f1).length c293_2)) (ds := []) #[false, false, false, false, false, false, false, false, false, false, false, false, false, false, false] (by kernel_rfl) rfl rfl ⟨(pc_ HB hw293_0), (pc_ HB hw293_1), (pc_ HB hw293_2), (pc_ HB hw294_0), (pc_ HB hw294_1), (pc_ HB hw294_2)⟩ (fun hHeld => ?_); refine with_tabW know_Of.tab4 know_Of.bits4 (fun HT_ HW_ => ?_)
    generalize w9.drew = w10 at BK290 HB HR293_2 HR294_2 hx293_0 hx293_1 hx293_2 hx294_0 hx294_1 hx294_2 hHeld ⊢
    refine p_ 0 16 (mk_ 15 0x1) ?_
    refine p_ 1 17 (mk_ 15 0x3) ?_
    refine p_ 2 18 (mk_ 15 0x7) ?_
    refine p_ 3 19 (mk_ 15 0xf) ?_
    refine p_ 4 20 (mk_ 15 0x1f) ?_
    refine p_ 6 22 (mk_ 15 0x5f) ?_
    refine p_ 7 23 (mk_ 15 0xdf) ?_
    refine p_ 8 24 (mk_ 15 0x1df) ?_
    refine p_ 9 25 (mk_ 15 0x3df) ?_
    refine p_ 10 26 (mk_ 15 0x7df) ?_
    refine t_ 5 21 (mk_ 15 0x7ff) hHeld ?_
    refine t_ 11 27 (mk_ 15 0xfff) hHeld ?_
    refine one_ (i := 12) (N := some 28) #[true, true, true, true, true, true, true, true, true, true, true, true, true, false, false] rfl rfl (one_of HT_.out (by kernel_rfl)) (by decide) (fun K hK => ?_)
    refine goes_ Tryz.func71 (by kernel_rfl) rfl #[.slice A293_2 ((rd_T72 l0 t291).f1.f1).length c293_2] (by rfl) rfl rfl zq49_2 ?_
    with_reducible refine (slices_Clone_int_int.calls _ _ ((rd_T72 l0 t291).f1.f1) t295 _ ?side1 ?side2 A7.out).mono ?_
    (case side1 => repeat (first | exact (cB HR294_2.out HB.out) | (with_reducible refine Kd.C_alloc ?_ _) | (with_reducible refine Kd.C_drewN ?_ _) | (with_reducible refine Kd.C_drew ?_)))
    (case side2 => exact HC294_2.out)
    rintro e w11 ⟨v296, rfl, ho0, hb⟩
    refine ⟨_, rfl, ?_⟩
    have HO297 := aK (Kd.R_lower ho0 (below_size zq49_1))
    replace BK290 := aK (bB (g := gb290) (o := .cells #[.int .i64 0, .slice none 0 0] 69 (0, 0)) zq49_3 hb)
    replace HB := aK (bS zq49_1 hb)
    (try clear hb)
    (try clear hb2)
    (try clear hk)
    (try clear hi)
    (try clear ho0)
    obtain ⟨Ao12, co12, eo12⟩ := Kd.R_slice HO297.out
    (first | subst eo12 | (injection eo12 with f1_ f2_ f3_; have f4_ := f1_.symm; have f5_ := f3_.symm; clear f1_ f2_ f3_; subst f4_; subst f5_))
    refine hK.out _ _ ⟨(pc_ HB hw293_0), (pc_ HB hw293_1), (pc_ HB hw293_2), (pc_ HB hw294_0), (pc_ HB hw294_1), (pc_ HB hw294_2)⟩ (fun hHeld => ?_)
    clear hK K
    refine norm_ (a' := ?_) ?_ ?_
    rotate_left
    ·show Act.put _ (some 28) _ = _
     simp only [Act.put, lA, lB, lC, i64_w, i32_w]
     rfl
    refine p_ 13 29 (mk_ 15 0x3fff) ?_
    refine one_ (i := 14) (N := none) #[true, true, true, true, true, true, true, true, true, true, true, true, true, true, true] rfl rfl (one_of HT_.out (by kernel_rfl)) (by decide) (fun K hK => ?_)
    have hs13 : w11.cell? ⟨gb290, 0, none⟩ = some (.int .i64 0) := (bC BK290.out 0).trans rfl
    have hfs13 := bF_ BK290.out 0
    have hs14 : w11.cell? ⟨gb290, 1, none⟩ = some (.slice none 0 0) := (bC BK290.out 1).trans rfl
    have hfs14 := bF_ BK290.out 1
    refine skip_ (w1 := ?_) (by rfl) rfl ?_ ?_
    rotate_left
    ·go_simp
     rfl
    refine hK.out _ _ ⟨((cell_far (p := ⟨gb290, _, none⟩) (by first | exact Nat.ne_of_lt (Nat.lt_of_lt_of_le (by have := wl_ _ _ hw293_0; first | rwa [add_block] at this | exact this) GW290.out) | (rw [add_block]; exact Nat.ne_of_lt (Nat.lt_of_lt_of_le (by have := wl_ _ _ hw293_0; first | rwa [add_block] at this | exact this) GW290.out)) | (show (Addr.add _ _).block ≠ _; rw [add_block]; exact Nat.ne_of_lt (Nat.lt_of_lt_of_le (by have := wl_ _ _ hw293_0; first | rwa [add_block] at this | exact this) GW290.out)) | (dsimp only; exact Nat.ne_of_lt (Nat.lt_of_lt_of_le (by have := wl_ _ _ hw293_0; first | rwa [add_block] at this | exact this) GW290.out))) _).trans (((cell_far (p := ⟨gb290, _, none⟩) (by first | exact Nat.ne_of_lt (Nat.lt_of_lt_of_le (by have := wl_ _ _ hw293_0; first | rwa [add_block] at this | exact this) GW290.out) | (rw [add_block]; exact Nat.ne_of_lt (Nat.lt_of_lt_of_le (by have := wl_ _ _ hw293_0; first | rwa [add_block] at this | exact this) GW290.out)) | (show (Addr.add _ _).block ≠ _; rw [add_block]; exact Nat.ne_of_lt (Nat.lt_of_lt_of_le (by have := wl_ _ _ hw293_0; first | rwa [add_block] at this | exact this) GW290.out)) | (dsimp only; exact Nat.ne_of_lt (Nat.lt_of_lt_of_le (by have := wl_ _ _ hw293_0; first | rwa [add_block] at this | exact this) GW290.out))) _).trans (hHeld.1)))), ((cell_far (p := ⟨gb290, _, none⟩) (by first | exact Nat.ne_of_lt (Nat.lt_of_lt_of_le (by have := wl_ _ _ hw293_1; first | rwa [add_block] at this | exact this) GW290.out) | (rw [add_block]; exact Nat.ne_of_lt (Nat.lt_of_lt_of_le (by have := wl_ _ _ hw293_1; first | rwa [add_block] at this | exact this) GW290.out)) | (show (Addr.add _ _).block ≠ _; rw [add_block]; exact Nat.ne_of_lt (Nat.lt_of_lt_of_le (by have := wl_ _ _ hw293_1; first | rwa [add_block] at this | exact this) GW290.out)) | (dsimp only; exact Nat.ne_of_lt (Nat.lt_of_lt_of_le (by have := wl_ _ _ hw293_1; first | rwa [add_block] at this | exact this) GW290.out))) _).trans (((cell_far (p := ⟨gb290, _, none⟩) (by first | exact Nat.ne_of_lt (Nat.lt_of_lt_of_le (by have := wl_ _ _ hw293_1; first | rwa [add_block] at this | exact this) GW290.out) | (rw [add_block]; exact Nat.ne_of_lt (Nat.lt_of_lt_of_le (by have := wl_ _ _ hw293_1; first | rwa [add_block] at this | exact this) GW290.out)) | (show (Addr.add _ _).block ≠ _; rw [add_block]; exact Nat.ne_of_lt (Nat.lt_of_lt_of_le (by have := wl_ _ _ hw293_1; first | rwa [add_block] at this | exact this) GW290.out)) | (dsimp only; exact Nat.ne_of_lt (Nat.lt_of_lt_of_le (by have := wl_ _ _ hw293_1; first | rwa [add_block] at this | exact this) GW290.out))) _).trans (hHeld.2.1)))), ((cell_far (p := ⟨gb290, _, none⟩) (by first | exact Nat.ne_of_lt (Nat.lt_of_lt_of_le (by have := wl_ _ _ hw293_2; first | rwa [add_block] at this | exact this) GW290.out) | (rw [add_block]; exact Nat.ne_of_lt (Nat.lt_of_lt_of_le (by have := wl_ _ _ hw293_2; first | rwa [add_block] at this | exact this) GW290.out)) | (show (Addr.add _ _).block ≠ _; rw [add_block]; exact Nat.ne_of_lt (Nat.lt_of_lt_of_le (by have := wl_ _ _ hw293_2; first | rwa [add_block] at this | exact this) GW290.out)) | (dsimp only; exact Nat.ne_of_lt (Nat.lt_of_lt_of_le (by have := wl_ _ _ hw293_2; first | rwa [add_block] at this | exact this) GW290.out))) _).trans (((cell_far (p := ⟨gb290, _, none⟩) (by first | exact Nat.ne_of_lt (Nat.lt_of_lt_of_le (by have := wl_ _ _ hw293_2; first | rwa [add_block] at this | exact this) GW290.out) | (rw [add_block]; exact Nat.ne_of_lt (Nat.lt_of_lt_of_le (by have := wl_ _ _ hw293_2; first | rwa [add_block] at this | exact this) GW290.out)) | (show (Addr.add _ _).block ≠ _; rw [add_block]; exact Nat.ne_of_lt (Nat.lt_of_lt_of_le (by have := wl_ _ _ hw293_2; first | rwa [add_block] at this | exact this) GW290.out)) | (dsimp only; exact Nat.ne_of_lt (Nat.lt_of_lt_of_le (by have := wl_ _ _ hw293_2; first | rwa [add_block] at this | exact this) GW290.out))) _).trans (hHeld.2.2.1)))), ((cell_far (p := ⟨gb290, _, none⟩) (by first | exact Nat.ne_of_lt (Nat.lt_of_lt_of_le (by have := wl_ _ _ hw294_0; first | rwa [add_block] at this | exact this) GW290.out) | (rw [add_block]; exact Nat.ne_of_lt (Nat.lt_of_lt_of_le (by have := wl_ _ _ hw294_0; first | rwa [add_block] at this | exact this) GW290.out)) | (show (Addr.add _ _).block ≠ _; rw [add_block]; exact Nat.ne_of_lt (Nat.lt_of_lt_of_le (by have := wl_ _ _ hw294_0; first | rwa [add_block] at this | exact this) GW290.out)) | (dsimp only; exact Nat.ne_of_lt (Nat.lt_of_lt_of_le (by have := wl_ _ _ hw294_0; first | rwa [add_block] at this | exact this) GW290.out))) _).trans (((cell_far (p := ⟨gb290, _, none⟩) (by first | exact Nat.ne_of_lt (Nat.lt_of_lt_of_le (by have := wl_ _ _ hw294_0; first | rwa [add_block] at this | exact this) GW290.out) | (rw [add_block]; exact Nat.ne_of_lt (Nat.lt_of_lt_of_le (by have := wl_ _ _ hw294_0; first | rwa [add_block] at this | exact this) GW290.out)) | (show (Addr.add _ _).block ≠ _; rw [add_block]; exact Nat.ne_of_lt (Nat.lt_of_lt_of_le (by have := wl_ _ _ hw294_0; first | rwa [add_block] at this | exact this) GW290.out)) | (dsimp only; exact Nat.ne_of_lt (Nat.lt_of_lt_of_le (by have := wl_ _ _ hw294_0; first | rwa [add_block] at this | exact this) GW290.out))) _).trans (hHeld.2.2.2.1)))), ((cell_far (p := ⟨gb290, _, none⟩) (by first | exact Nat.ne_of_lt (Nat.lt_of_lt_of_le (by have := wl_ _ _ hw294_1; first | rwa [add_block] at this | exact this) GW290.out) | (rw [add_block]; exact Nat.ne_of_lt (Nat.lt_of_lt_of_le (by have := wl_ _ _ hw294_1; first | rwa [add_block] at this | exact this) GW290.out)) | (show (Addr.add _ _).block ≠ _; rw [add_block]; exact Nat.ne_of_lt (Nat.lt_of_lt_of_le (by have := wl_ _ _ hw294_1; first | rwa [add_block] at this | exact this) GW290.out)) | (dsimp only; exact Nat.ne_of_lt (Nat.lt_of_lt_of_le (by have := wl_ _ _ hw294_1; first | rwa [add_block] at this | exact this) GW290.out))) _).trans (((cell_far (p := ⟨gb290, _, none⟩) (by first | exact Nat.ne_of_lt (Nat.lt_of_lt_of_le (by have := wl_ _ _ hw294_1; first | rwa [add_block] at this | exact this) GW290.out) | (rw [add_block]; exact Nat.ne_of_lt (Nat.lt_of_lt_of_le (by have := wl_ _ _ hw294_1; first | rwa [add_block] at this | exact this) GW290.out)) | (show (Addr.add _ _).block ≠ _; rw [add_block]; exact Nat.ne_of_lt (Nat.lt_of_lt_of_le (by have := wl_ _ _ hw294_1; first | rwa [add_block] at this | exact this) GW290.out)) | (dsimp only; exact Nat.ne_of_lt (Nat.lt_of_lt_of_le (by have := wl_ _ _ hw294_1; first | rwa [add_block] at this | exact this) GW290.out))) _).trans (hHeld.2.2.2.2.1)))), ((cell_far (p := ⟨gb290, _, none⟩) (by first | exact Nat.ne_of_lt (Nat.lt_of_lt_of_le (by have := wl_ _ _ hw294_2; first | rwa [add_block] at this | exact this) GW290.out) | (rw [add_block]; exact Nat.ne_of_lt (Nat.lt_of_lt_of_le (by have := wl_ _ _ hw294_2; first | rwa [add_block] at this | exact this) GW290.out)) | (show (Addr.add _ _).block ≠ _; rw [add_block]; exact Nat.ne_of_lt (Nat.lt_of_lt_of_le (by have := wl_ _ _ hw294_2; first | rwa [add_block] at this | exact this) GW290.out)) | (dsimp only; exact Nat.ne_of_lt (Nat.lt_of_lt_of_le (by have := wl_ _ _ hw294_2; first | rwa [add_block] at this | exact this) GW290.out))) _).trans (((cell_far (p := ⟨gb290, _, none⟩) (by first | exact Nat.ne_of_lt (Nat.lt_of_lt_of_le (by have := wl_ _ _ hw294_2; first | rwa [add_block] at this | exact this) GW290.out) | (rw [add_block]; exact Nat.ne_of_lt (Nat.lt_of_lt_of_le (by have := wl_ _ _ hw294_2; first | rwa [add_block] at this | exact this) GW290.out)) | (show (Addr.add _ _).block ≠ _; rw [add_block]; exact Nat.ne_of_lt (Nat.lt_of_lt_of_le (by have := wl_ _ _ hw294_2; first | rwa [add_block] at this | exact this) GW290.out)) | (dsimp only; exact Nat.ne_of_lt (Nat.lt_of_lt_of_le (by have := wl_ _ _ hw294_2; first | rwa [add_block] at this | exact this) GW290.out))) _).trans (hHeld.2.2.2.2.2))))⟩ (fun hHeld => ?_)
    clear hK K
    refine done_ (done_of HT_.out (by kernel_rfl)) ?_
    try go_wp2
    refine bodyPost_ret (results_cell_row rfl _ _ gb290 69 #[.int .i64 ((rd_T72 l0 t291).f1.f0), .slice Ao12 t295.length co12] (0, 0) _ rfl (by (with_reducible repeat (first | refine blk_drewN ?_ _ | refine blk_drew ?_ | refine blk_alloc ?_ _)); refine blk_put (cs := #[.int .i64 ((rd_T72 l0 t291).f1.f0), .slice none 0 0]) ?_ 1 _ rfl; (with_reducible repeat (first | refine blk_drewN ?_ _ | refine blk_drew ?_ | refine blk_alloc ?_ _)); refine blk_put (cs := #[.int .i64 0, .slice none 0 0]) ?_ 0 _ rfl; (with_reducible repeat (first | refine blk_drewN ?_ _ | refine blk_drew ?_ | refine blk_alloc ?_ _)); exact BK290.out) Tryz.underlying69 rfl (by kernel_rfl)) rfl ?_
    exact ⟨_, by first | rfl | (simp [errW_none, errW_some] <;> rfl) | (simp [*, errW_none, errW_some] <;> rfl), by (with_reducible repeat (first | apply Kd.R_alloc | apply Kd.R_drewN | apply Kd.R_drew)); exact Kd.R_mono (Kd.R_far (p := ⟨gb290, 1, none⟩) (Kd.R_far (p := ⟨gb290, 0, none⟩) (Kd.R_types HO297.out BK290.out (by decide)) (fun _ hk => hk.2) (.int .i64 ((rd_T72 l0 t291).f1.f0))) (fun _ hk => hk.2) (.slice Ao12 t295.length co12)) (fun _ hk => trivial), by repeat (first | (with_reducible first | exact HB.out | apply bA | apply pB | apply bW | refine below_set ?_ GE290.out) | exact HB.out)⟩
   ·rw [if_neg c6] at H
    exact absurd H (by simp)
  ·rw [if_neg c5] at H
   exact absurd H (by simp)
 ·replace c4 := Bool.eq_false_iff.mpr c4
  subst c4
  have H1 : (some (0, ([] : List Int))) = some (r1, r2) := by rw [if_neg (show ¬ (false = true) by decide)] at H; exact H
  clear H
  have H := H1
  clear H1
  simp only [Option.some.injEq, Prod.mk.injEq] at H
  obtain ⟨rfl, rfl⟩ := H
  go_enter Tryz.func49, Tryz.ntmps49
  go_wp2_with (first | ((with_reducible refine gate_dst (N := 4) rfl ?_); refine box_event ?hg (N := 4) ?hd (cs := #[.int .i64 0, .slice none 0 0]) (t := 69) ?hr ?_; (case hd => rfl); (case hg => rfl); (case hr => first | (go_simp; done) | (go_simp; rfl)); intro gb290 hg w15 hbox hb; have BK290 := aK (hbox); have GW290 := aK ((zq49_0 : w.heap.size ≤ gb290)); have GE290 := aK ((zq49_0 : w.heap.size ≤ gb290)); replace HB := aK (bS (by repeat (first | (with_reducible first | exact HB.out | apply bA | apply pB | apply bW) | exact HB.out)) hb); clear hb hbox hg) | ((with_reducible refine gate_callee (f := 67) rfl ?_); refine goesL_ (some 10) rfl rfl Tryz.func67 (by kernel_rfl) rfl #[.slice A0 l0.length c0, .string a1] rfl zq49_2 ?_; (with_reducible refine (know_find.calls _ _ l0 a1 t291 false _ ?side1 ?side2 A3.out).mono ?_); (case side1 => repeat (first | exact (cB HR0.out HB.out) | (with_reducible refine Kd.C_alloc ?_ _) | (with_reducible refine Kd.C_drewN ?_ _) | (with_reducible refine Kd.C_drew ?_))); (case side2 => exact HC0.out); rintro e w16 ⟨rfl, hb⟩; refine ⟨_, rfl, ?_⟩; replace BK290 := aK (bB (g := gb290) (o := .cells #[.int .i64 0, .slice none 0 0] 69 (0, 0)) zq49_3 hb); replace HB := aK (bS zq49_1 hb); (try clear hb); (try clear hb2); (try clear hk); (try clear hi); have hcz17_0 : w16.cell? ⟨gb290, 0, none⟩ = some (.int .i64 0) := (bC BK290.out 0).trans rfl; have hcz17_1 : w16.cell? ⟨gb290, 1, none⟩ = some (.slice none 0 0) := (bC BK290.out 1).trans rfl; have hfz17_0 := bF_ BK290.out 0; have hfz17_1 := bF_ BK290.out 1))
  refine bodyPost_ret (results_cell_row rfl _ _ gb290 69 #[.int .i64 0, .slice none 0 0] (0, 0) _ rfl (by (with_reducible repeat (first | refine blk_drewN ?_ _ | refine blk_drew ?_ | refine blk_alloc ?_ _)); refine blk_put (cs := #[.int .i64 0, .slice none 0 0]) ?_ 1 _ rfl; (with_reducible repeat (first | refine blk_drewN ?_ _ | refine blk_drew ?_ | refine blk_alloc ?_ _)); refine blk_put (cs := #[.int .i64 0, .slice none 0 0]) ?_ 0 _ rfl; (with_reducible repeat (first | refine blk_drewN ?_ _ | refine blk_drew ?_ | refine blk_alloc ?_ _)); exact BK290.out) Tryz.underlying69 rfl (by kernel_rfl)) rfl ?_
  exact ⟨_, by first | rfl | (simp [errW_none, errW_some] <;> rfl) | (simp [*, errW_none, errW_some] <;> rfl), by first | exact Kd.R_nil _ _ _ _ _ | exact Kd.N_nil _ _ _ _ _ | exact Kd.V_nil _ _ _ _ _ | exact Kd.Q_nil _ _ _ _ _ | exact Kd.S_nil _ _ _ _ _, by repeat (first | (with_reducible first | exact HB.out | apply bA | apply pB | apply bW | refine below_set ?_ GE290.out) | exact HB.out)⟩
theorem knw_index (A0 : Option Addr) (c0 : Nat) (l0 : List S72) (cb : Value) (p : S72 → Bool) (w : World) (hr0 : Kd.C k72 w A0 l0.length l0)
  (hp : ∀ (x : S72) (A1 : Option Addr) (c1 : Nat) (hle : x.f1.f1.length ≤ c1) (hC : Kd.C (Kd.int .i64) w A1 x.f1.f1.length x.f1.f1) (W : World), x ∈ l0 → Below w.heap.size w W → Calls Tryz.prog 47 #[.agg #[.string x.f0, .int .i64 x.f1.f0, .slice A1 x.f1.f1.length c1], cb] W fun e w' => e = .returned (.bool (p x)) ∧ Below W.heap.size W w') :
  Calls Tryz.prog 69 #[.slice A0 l0.length c0, .func (.func 47) #[] #[cb]] w fun e w' => e = .returned (.int .i64 (idxI p l0)) ∧ Below w.heap.size w w' := by
 have hlen := hr0.2.1
 have HR0 := aK hr0
 have HP := aK hp
 clear hr0 hp
 have HF := aK (fun i hi hn h => idxI_found p z72 l0 i hi hn h)
 have HN := aK (fun hn => idxI_none p z72 l0 hn)
 generalize idxI p l0 = r at *
 generalize hn : l0.length = n at *
 have HL := aK hn
 clear hn
 have HB := aK (Below.refl w.heap.size w)
 have hut := Tryz.underlying72
 go_enter Tryz.func69, Tryz.ntmps69
 go_wp2
 go_loopw [8] (fun vi wr => ∃ i : Nat, vi = .int .i64 i ∧ i ≤ n ∧ Aside0 (∀ j, j < i → p (l0.getD j z72) = false) ∧ Aside0 (Below w.heap.size w wr)) (fun vi _ => n - (intOf vi).toNat)
 case atStart => exact ⟨0, rfl, Nat.zero_le _, ⟨fun j hj => absurd hj (Nat.not_lt_zero _)⟩, HB⟩
 case round =>
  clear HB
  obtain ⟨i, rfl, hin, HA, HB⟩ := hrel
  by_cases hlt : i < n
  ·obtain ⟨ad, A1, c1, hA, hx0, hx1, hx2, hle, hC⟩ := at_T72 HR0.out (i : Int) (by omega) (by omega)
   obtain rfl := hA
   have pm := eT (show (0 : Int) ≤ (i : Int) by omega)
   have qm := eT (show (i : Int) < (n : Int) by omega)
   replace hx0 := pc_ HB hx0; replace hx1 := pc_ HB hx1; replace hx2 := pc_ HB hx2
   have hel : rd_T72 l0 (i : Int) = l0.getD i z72 := rfl
   simp only [Int.toNat_natCast, hel] at hx0 hx1 hx2 hle hC
   have HK := aK (HP.out (l0.getD i z72) A1 c1 hle hC wr (by rw [← List.getElem_eq_getD (h := by have := HL.out; omega)]; exact List.getElem_mem _) HB.out)
   by_cases hpx : p (l0.getD i z72) = true
   ·have HRES := aK (HF.out i (by have := HL.out; omega) HA.out hpx)
    rw [hpx] at HK
    clear hel hpx
    go_wp2_with fail
    refine HK.out.mono ?_
    rintro e w' ⟨rfl, hb1⟩
    have HB1 := aK (bS HB.out hb1)
    clear hb1
    go_wp2_with fail
    go_ret
    exact ⟨by rw [HRES.out]; rfl, HB1.out⟩
   ·have hpf : p (l0.getD i z72) = false := by simpa using hpx
    rw [hpf] at HK
    have HPF := aK hpf
    clear hel hpx hpf
    go_wp2_with fail
    refine HK.out.mono ?_
    rintro e w' ⟨rfl, hb1⟩
    have HB1 := aK (bS HB.out hb1)
    clear hb1
    go_wp2_with fail
    go_roundw
    case rel => exact ⟨i + 1, by go_num, by omega, ⟨fun j hj => by
     by_cases e : j = i
     ·subst e; exact HPF.out
     ·exact HA.out j (by omega)⟩, HB1⟩
    case measure => simp [intOf]; omega
  ·have hge : decide ((i : Int) < (n : Int)) = false := by simp; omega
   have HRES := aK (HN.out (fun j hj => HA.out j (by have := HL.out; omega)))
   go_wp2_with fail
   go_ret
   exact ⟨by rw [HRES.out]; rfl, HB.out⟩
theorem knw_contains (A0 : Option Addr) (n c0 : Nat) (fv : Value) (q : Int) (w : World) (h : Calls Tryz.prog 69 #[.slice A0 n c0, fv] w fun e w' => e = .returned (.int .i64 q) ∧ Below w.heap.size w w') :
  Calls Tryz.prog 46 #[.slice A0 n c0, fv] w fun e w' => e = .returned (.bool (decide (q ≥ 0))) ∧ Below w.heap.size w w' := by
 have H := aK h
 clear h
 go_enter Tryz.func46, Tryz.ntmps46
 go_wp2_with fail
 refine H.out.mono ?_
 rintro e w' ⟨rfl, hb⟩
 have HB := aK hb
 clear hb
 go_wp2_with fail
 go_ret
 exact ⟨rfl, HB.out⟩
theorem knw_pred (k : Nat) (x : S72) (A1 : Option Addr) (c1 : Nat) (B : Nat) (A2 : Option Addr) (c2 : Nat) (l1 : List S72) (pu : Int) (pe : List Int) (b : Bool) (W : World) (hle : x.f1.f1.length ≤ c1) (hC : Kd.C (Kd.int .i64) W A1 x.f1.f1.length x.f1.f1) (hB : W.heap[B]? = some (.cells #[.slice A2 l1.length c2] 29 (0, 0))) (hr1 : Kd.C k72 W A2 l1.length l1) (hc1 : l1.length ≤ c2) (hof : know_Of.f l1 x.f0 = some (pu, pe)) (hw : span_Within.f k x.f1.f0 x.f1.f1 pu pe = some b) :
  Calls Tryz.prog 47 #[.agg #[.string x.f0, .int .i64 x.f1.f0, .slice A1 x.f1.f1.length c1], .pointer (some ⟨B, 0, none⟩)] W fun e w' => e = .returned (.bool (!b)) ∧ Below W.heap.size W w' := by
 have hu := Tryz.underlying72
 have HC := aK (cB hC (bA (Below.refl W.heap.size W) (.cells #[.string x.f0, .int .i64 x.f1.f0, .slice A1 x.f1.f1.length c1] 72)))
 have HR1 := aK (cB hr1 (bA (Below.refl W.heap.size W) (.cells #[.string x.f0, .int .i64 x.f1.f0, .slice A1 x.f1.f1.length c1] 72)))
 have BK := aK (blk_new W (.cells #[.string x.f0, .int .i64 x.f1.f0, .slice A1 x.f1.f1.length c1] 72))
 have BB := aK (blk_alloc hB (.cells #[.string x.f0, .int .i64 x.f1.f0, .slice A1 x.f1.f1.length c1] 72))
 have HB := aK (bA (Below.refl W.heap.size W) (.cells #[.string x.f0, .int .i64 x.f1.f0, .slice A1 x.f1.f1.length c1] 72))
 have HOF := aK hof
 have HW := aK hw
 clear hC hr1 hB hof hw
 go_enter Tryz.func47, Tryz.ntmps47
 go_upto_region 1 with fail
 generalize (W.alloc (.cells #[.string x.f0, .int .i64 x.f1.f0, .slice A1 x.f1.f1.length c1] 72)) = w1 at HC HR1 BK BB HB ⊢
 refine start_ (n := 9) (S := fun w' => w'.cell? ⟨W.heap.size, 0, none⟩ = some (.string x.f0) ∧ w'.cell? ⟨W.heap.size, 1, none⟩ = some (.int .i64 x.f1.f0) ∧ w'.cell? ⟨W.heap.size, 2, none⟩ = some (.slice A1 x.f1.f1.length c1) ∧ w'.cell? ⟨B, 0, none⟩ = some (.slice A2 l1.length c2)) (ds := []) #[false, false, false, false, false, false, false, false, false] (by kernel_rfl) rfl rfl ⟨(bC (blk_drew BK.out) 0).trans rfl, (bC (blk_drew BK.out) 1).trans rfl, (bC (blk_drew BK.out) 2).trans rfl, (bC (blk_drew BB.out) 0).trans rfl⟩ (fun hHeld => ?_)
 have hb := bW (Below.refl w1.heap.size w1)
 replace BK := aK (bB BK.out hb)
 replace BB := aK (bB BB.out hb)
 replace HC := aK (cB HC.out hb)
 replace HR1 := aK (cB HR1.out hb)
 replace HB := aK (bS HB.out hb)
 clear hb
 generalize w1.drew = w2 at HC HR1 BK BB HB hHeld ⊢
 refine p_ 0 4 (mk_ 9 0x1) ?_
 refine t_ 1 5 (mk_ 9 0x3) hHeld ?_
 refine t_ 2 6 (mk_ 9 0x7) hHeld ?_
 refine p_ 3 7 (mk_ 9 0xf) ?_
 refine t_ 4 8 (mk_ 9 0x1f) hHeld ?_
 refine one_ (i := 5) (N := some 9) #[true, true, true, true, true, true, false, false, false] rfl rfl (by kernel_rfl) (by decide) (fun K hK => ?_)
 refine goes_ Tryz.func49 (by kernel_rfl) rfl #[.slice A2 l1.length c2, .string x.f0] (by rfl) rfl rfl (by (try simp only [List.map_toArray, List.map_cons, List.map_nil]); first | done | rfl) ?_
 refine (know_Of.calls A2 c2 l1 x.f0 pu pe w2 HR1.out hc1 HOF.out).mono ?_
 rintro ev w3 ⟨v3, rfl, ho3, hb⟩
 obtain ⟨A3, c3, rfl⟩ := Kd.R_slice ho3
 refine ⟨_, rfl, ?_⟩
 have HO3 := aK (Kd.R_reads' ho3)
 clear ho3
 replace BK := aK (bB BK.out hb)
 replace BB := aK (bB BB.out hb)
 replace HC := aK (cB HC.out hb)
 replace HR1 := aK (cB HR1.out hb)
 replace HB := aK (bS HB.out hb)
 clear hb
 refine hK.out _ _ ⟨(bC BK.out 0).trans rfl, (bC BK.out 1).trans rfl, (bC BK.out 2).trans rfl, (bC BB.out 0).trans rfl⟩ (fun hHeld => ?_)
 clear hK K
 refine norm_ (a' := ?_) ?_ ?_
 rotate_left
 ·show Act.put _ (some 9) _ = _
  simp only [Act.put, lA, lB, lC, i64_w, i32_w]
  rfl
 refine one_ (i := 6) (N := some 10) #[true, true, true, true, true, true, true, false, false] rfl rfl (by kernel_rfl) (by decide) (fun K hK => ?_)
 refine goes_ Tryz.func48 (by kernel_rfl) rfl #[.agg #[.int .i64 x.f1.f0, .slice A1 x.f1.f1.length c1], .agg #[.int .i64 pu, .slice A3 pe.length c3]] (by rfl) rfl rfl (by (try simp only [List.map_toArray, List.map_cons, List.map_nil]); first | done | rfl) ?_
 refine (span_Within.calls k x.f1.f0 A1 c1 x.f1.f1 pu A3 c3 pe b w3 HC.out hle HO3.out.2.2 HO3.out.2.1 HW.out).mono ?_
 rintro ev w4 ⟨rfl, hb⟩
 refine ⟨_, rfl, ?_⟩
 clear HO3
 replace BK := aK (bB BK.out hb)
 replace BB := aK (bB BB.out hb)
 replace HC := aK (cB HC.out hb)
 replace HR1 := aK (cB HR1.out hb)
 replace HB := aK (bS HB.out hb)
 clear hb
 refine hK.out _ _ ⟨(bC BK.out 0).trans rfl, (bC BK.out 1).trans rfl, (bC BK.out 2).trans rfl, (bC BB.out 0).trans rfl⟩ (fun hHeld => ?_)
 clear hK K
 refine norm_ (a' := ?_) ?_ ?_
 rotate_left
 ·show Act.put _ (some 10) _ = _
  simp only [Act.put, lA, lB, lC, i64_w, i32_w]
  rfl
 refine p_ 7 11 (mk_ 9 0xff) ?_
 refine p_ 8 3 (mk_ 9 0x1ff) ?_
 refine done_ (by kernel_rfl) ?_
 go_wp2_with fail
 go_ret
 exact ⟨rfl, HB.out⟩
def withinQ (k : Nat) (l1 : List S72) (x : S72) : Option Bool := (know_Of.f l1 x.f0).bind fun p => span_Within.f k x.f1.f0 x.f1.f1 p.1 p.2
def withinAll (k : Nat) (l0 l1 : List S72) : Prop := ∀ x ∈ l0, (withinQ k l1 x).isSome = true
instance (k : Nat) (l0 l1 : List S72) : Decidable (withinAll k l0 l1) := by unfold withinAll; infer_instance
def know_Within.f (k : Nat) (l0 : List S72) (l1 : List S72) : Option Bool := if withinAll k l0 l1 then some (!(l0.any fun x => !((withinQ k l1 x).getD false))) else none
theorem withinQ_mono (k : Nat) (l1 : List S72) (x : S72) : LeO (withinQ k l1 x) (withinQ (k + 1) l1 x) := by unfold withinQ; exact LeO.bind (LeO.refl _) (fun _ => span_Within.mono _ _ _ _ _)
theorem know_Within.mono : ∀ a0 a1 k, LeO (know_Within.f k a0 a1) (know_Within.f (k + 1) a0 a1) := by
 intro a0 a1 k r h
 unfold know_Within.f at h ⊢
 by_cases hc : withinAll k a0 a1
 ·rw [if_pos hc] at h
  have hs : ∀ x ∈ a0, withinQ (k + 1) a1 x = withinQ k a1 x := fun x hx => by
   obtain ⟨b, hb⟩ := Option.isSome_iff_exists.mp (hc x hx)
   rw [hb]; exact withinQ_mono _ _ _ _ hb
  have hc2 : withinAll (k + 1) a0 a1 := fun x hx => by rw [hs x hx]; exact hc x hx
  rw [if_pos hc2, ← h]
  congr 2
  rw [Bool.eq_iff_iff, List.any_eq_true, List.any_eq_true]
  exact ⟨fun ⟨x, hx, h⟩ => ⟨x, hx, by rw [← hs x hx]; exact h⟩, fun ⟨x, hx, h⟩ => ⟨x, hx, by rw [hs x hx]; exact h⟩⟩
 ·rw [if_neg hc] at h; cases h
theorem know_Within.calls (k : Nat) (A0 : Option Addr) (c0 : Nat) (l0 : List S72) (A1 : Option Addr) (c1 : Nat) (l1 : List S72) (r : Bool) (w : World) (hr0 : Kd.C k72 w A0 l0.length l0) (hc0 : l0.length ≤ c0) (hr1 : Kd.C k72 w A1 l1.length l1) (hc1 : l1.length ≤ c1) (h : know_Within.f k l0 l1 = some r) :
  Calls Tryz.prog 22 #[.slice A0 l0.length c0, .slice A1 l1.length c1] w fun e w' => e = .returned (.bool r) ∧ Below w.heap.size w w' := by
 unfold know_Within.f at h
 by_cases hall : withinAll k l0 l1
 rotate_left
 ·rw [if_neg hall] at h; cases h
 rw [if_pos hall] at h
 have hr := sI h
 rw [← idxI_any] at hr
 have hix := fun (W : World) (hW : Below w.heap.size w W) (hb : W.heap[w.heap.size]? = some (.cells #[.slice A1 l1.length c1] 29 (0, 0))) => knw_index A0 c0 l0 (.pointer (some ⟨w.heap.size, 0, none⟩)) (fun x => !((withinQ k l1 x).getD false)) W (cB hr0 hW) (fun x Ax cx hle hC W2 hx hW2 => by
  obtain ⟨b, hq⟩ := Option.isSome_iff_exists.mp (hall x hx)
  obtain ⟨p, hp, hw⟩ := bM (show (know_Of.f l1 x.f0).bind (fun p => span_Within.f k x.f1.f0 x.f1.f1 p.1 p.2) = some b from hq)
  have := knw_pred k x Ax cx w.heap.size A1 c1 l1 p.1 p.2 b W2 hle (cB hC hW2) (bB hb hW2) (cB (cB hr1 hW) hW2) hc1 hp hw
  rw [hq]; exact this)
 generalize idxI (fun x => !((withinQ k l1 x).getD false)) l0 = q at hr hix
 have HR := aK hr
 have HIX := aK hix
 have HB := aK (Below.refl w.heap.size w)
 clear hr hix hr0 hr1 h hall
 go_enter Tryz.func22, Tryz.ntmps22
 go_wp2_with fail
 refine (knw_contains A0 l0.length c0 _ q _ (HIX.out _ (bA HB.out _) (blk_new w _))).mono ?_
 rintro e w' ⟨rfl, hb⟩
 have HB1 := aK (bS (bA HB.out _) hb)
 clear hb
 go_wp2_with fail
 go_ret
 exact ⟨by rw [← HR.out]; rfl, HB1.out⟩
end Go.Proofs.YtkfehkaiifjkmaaGreat.P
