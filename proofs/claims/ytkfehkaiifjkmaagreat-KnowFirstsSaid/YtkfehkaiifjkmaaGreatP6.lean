import Derived.Test.YtkfehkaiifjkmaaGreatP0
import Derived.Test.YtkfehkaiifjkmaaGreatP4
import Derived.Test.YtkfehkaiifjkmaaGreatP5
namespace Go.Proofs.YtkfehkaiifjkmaaGreat.P
open Go.RowKit Go.Proofs.YtkfehkaiifjkmaaGreatW.PrintWords Go.Proofs.YtkfehkaiifjkmaaGreatW.PrintLast Go.Proofs.YtkfehkaiifjkmaaGreatW.PrintMore
set_option maxHeartbeats 8000000
set_option maxRecDepth 100000
attribute [local go_sem] max2_int min2_int max_two min_two max_three min_three max_four min_four
set_option linter.unusedVariables false
set_option linter.unusedSimpArgs false
theorem zq24_0 {p_ : Prop} (h_ : p_ := by repeat (first | (with_reducible first | exact HB.out | apply bA | apply pB | apply bW) | exact HB.out)) : p_ := h_
theorem zq24_1 {p_ : Prop} (h_ : p_ := by first | rfl | (simp; done) | (simp [*]; done)) : p_ := h_
def know_Extras.l0 : Nat → Int → List (S72) → Int → Int → Option (Int)
 | 0, _, _, _, _ => none
 | k + 1, x3, x6, x7, x8 => if x8 < x7 then (if 0 ≤ x8 then (if x8 < (x6.length : Int) then (know_Extras.l0 k (wrap64 (x3 + (((rd_T72 x6 x8).f1.f1).length : Int))) x6 x7 (wrap64 (x8 + 1))) else (none)) else (none)) else (some x3)
def know_Extras.f (k : Nat) (l0 : List (S72)) : Option (Int) := know_Extras.l0 k 0 l0 (l0.length : Int) 0
theorem know_Extras.mono_l : ∀ k, (∀ y0 y1 y2 y3, LeO (know_Extras.l0 k y0 y1 y2 y3) (know_Extras.l0 (k + 1) y0 y1 y2 y3))
 | 0 => fun _ _ _ _ r h => by simp [know_Extras.l0] at h
 | k + 1 => by
  have ih0 := know_Extras.mono_l k
  ·intro y0 y1 y2 y3
   unfold know_Extras.l0
   repeat' first
   | (with_reducible exact ih0 _ _ _ _)
   | (with_reducible exact LeO.refl _)
   | (with_reducible exact LeO.none _)
   | (with_reducible refine LeO.ite ?_ ?_)
   | (with_reducible refine LeO.bind ?_ (fun _ => ?_))
   | exact ih0 _ _ _ _
   | exact LeO.none _
   | refine LeO.ite ?_ ?_
   | refine LeO.bind ?_ (fun _ => ?_)
theorem know_Extras.mono : ∀ a0 k, LeO (know_Extras.f k a0) (know_Extras.f (k + 1) a0) := by
 intro a0 k
 have ih0 := know_Extras.mono_l k
 unfold know_Extras.f
 repeat' first
   | (with_reducible exact ih0 _ _ _ _)
   | (with_reducible exact LeO.refl _)
   | (with_reducible exact LeO.none _)
   | (with_reducible refine LeO.ite ?_ ?_)
   | (with_reducible refine LeO.bind ?_ (fun _ => ?_))
   | exact ih0 _ _ _ _
   | exact LeO.none _
   | refine LeO.ite ?_ ?_
   | refine LeO.bind ?_ (fun _ => ?_)
theorem know_Extras.calls (k : Nat) (A0 : Option Addr) (c0 : Nat) (l0 : List (S72)) (r : Int) (w : World) (hr0 : Kd.C k72 w A0 l0.length l0) (hc0 : l0.length ≤ c0) (h : know_Extras.f k l0 = some r) :
  Calls Tryz.prog 24 #[.slice A0 l0.length c0] w fun e w' => e = .returned (.int .i64 r) ∧ Below w.heap.size w w' := by
 have hu72 := Tryz.underlying72
 have HR0 := aK hr0
 have HC0 := aK hc0
 clear hr0 hc0
 have HB := aK (Below.refl w.heap.size w)
 have H : (know_Extras.l0 k 0 l0 (l0.length : Int) 0) = some r := h
 clear h
 have H' := aK H
 clear H
 go_enter Tryz.func24, Tryz.ntmps24
 go_wp2
 go_loopg [3, 8] k (fun kq v3 v8 w' => ∃ (x3_1 : Int) (x8_1 : Int), v3 = .int .i64 x3_1 ∧ v8 = .int .i64 x8_1 ∧ Aside0 (know_Extras.l0 kq x3_1 l0 (l0.length : Int) x8_1 = some r) ∧ Aside0 (kq ≤ k) ∧ Aside0 (Below w.heap.size w w'))
 case atStart => exact ⟨(0), (0), zq24_1, zq24_1, H', ⟨Nat.le_refl _⟩, ⟨by repeat (first | (with_reducible first | exact HB.out | apply bA | apply pB | apply bW) | exact HB.out)⟩⟩
 case round =>
  clear H'
  obtain ⟨x3_1, x8_1, rfl, rfl, HA, HK1, HB⟩ := hrel
  cases gk with
  | zero => exact absurd HA.out (by simp [know_Extras.l0])
  | succ k1 =>
   have H := HA.out
   clear HA
   simp only [know_Extras.l0] at H
   by_cases c2 : x8_1 < (l0.length : Int)
   ·rw [if_pos c2] at H
    have c2b0 : decide (x8_1 < (l0.length : Int)) = true := dT c2
    clear c2
    by_cases c3 : 0 ≤ x8_1
    ·rw [if_pos c3] at H
     have c3b0 : decide (0 ≤ x8_1) = true := dT c3
     clear c3
     by_cases c4 : x8_1 < (l0.length : Int)
     ·rw [if_pos c4] at H
      have c4b0 : decide (x8_1 < (l0.length : Int)) = true := dT c4
      clear c4
      have H' := aK H
      clear H
      have p298 : 0 ≤ (x8_1 : Int) := oD (by first | (with_reducible assumption) | assumption)
      have q298 : x8_1 < (l0.length : Int) := oD (by first | (with_reducible assumption) | assumption)
      obtain ⟨ad298, A298_2, c298_2, e298, hx298_0, hx298_1, hx298_2, hl298_2, hi298_2⟩ := at_T72 HR0.out x8_1 p298 q298
      cases e298
      replace hx298_0 := pc_ HB hx298_0
      replace hx298_1 := pc_ HB hx298_1
      replace hx298_2 := pc_ HB hx298_2
      have HR298_2 := aK hi298_2
      have HC298_2 := aK hl298_2
      clear hi298_2 hl298_2
      replace p298 := eT p298
      replace q298 := eT q298
      go_wp2_with (first | ((with_reducible refine gate_dst (N := 5) rfl ?_); refine box_event ?hg (N := 5) ?hd (cs := #[.string (⟨#[]⟩ : ByteArray), .int .i64 0, .slice none 0 0]) (t := 72) ?hr ?_; (case hd => rfl); (case hg => rfl); (case hr => first | (go_simp; done) | (go_simp; rfl)); intro gb299 hg w5 hbox hb; have BK299 := aK (hbox); have GW299 := aK (((by rw [hg]; exact (below_size zq24_0)) : w.heap.size ≤ gb299)); have GE299 := aK (((by rw [hg]; exact (below_size zq24_0)) : w.heap.size ≤ gb299)); replace HB := aK (bS zq24_0 hb); clear hb hbox hg; have hcz6_0 : w5.cell? ⟨gb299, 0, none⟩ = some (.string (⟨#[]⟩ : ByteArray)) := (bC BK299.out 0).trans rfl; have hcz6_1 : w5.cell? ⟨gb299, 1, none⟩ = some (.int .i64 0) := (bC BK299.out 1).trans rfl; have hcz6_2 : w5.cell? ⟨gb299, 2, none⟩ = some (.slice none 0 0) := (bC BK299.out 2).trans rfl; have hfz6_0 := bF_ BK299.out 0; have hfz6_1 := bF_ BK299.out 1; have hfz6_2 := bF_ BK299.out 2))
      go_roundg k1
      case measure => have := HK1.out; omega
      case rel => exact ⟨(wrap64 (x3_1 + (((rd_T72 l0 x8_1).f1.f1).length : Int))), (wrap64 (x8_1 + 1)), zq24_1, zq24_1, H', ⟨by have := HK1.out; omega⟩, ⟨by repeat (first | (with_reducible first | exact HB.out | apply bA | apply pB | apply bW | refine below_set ?_ GE299.out) | exact HB.out)⟩⟩
     ·rw [if_neg c4] at H
      exact absurd H (by simp)
    ·rw [if_neg c3] at H
     exact absurd H (by simp)
   ·rw [if_neg c2] at H
    have c2b0 : decide (x8_1 < (l0.length : Int)) = false := decide_eq_false c2
    clear c2
    obtain rfl := sI H
    go_wp2
    go_ret
    exact ⟨by first | rfl | (simp [errW_none, errW_some] <;> rfl) | (simp [*, errW_none, errW_some] <;> rfl), by repeat (first | (with_reducible first | exact HB.out | apply bA | apply pB | apply bW) | exact HB.out)⟩
def span_Count.f (a0_0 : Int) (l0_1 : List Int) : Option (Int) := some (wrap64 (a0_0 + (l0_1.length : Int)))
theorem span_Count.calls (a0_0 : Int) (A0_1 : Option Addr) (c0_1 : Nat) (l0_1 : List Int) (r : Int) (w : World) (hr0_1 : Kd.C (Kd.int .i64) w A0_1 l0_1.length l0_1) (hc0_1 : l0_1.length ≤ c0_1) (h : span_Count.f a0_0 l0_1 = some r) :
  Calls Tryz.prog 55 #[.agg #[.int .i64 a0_0, .slice A0_1 l0_1.length c0_1]] w fun e w' => e = .returned (.int .i64 r) ∧ Below w.heap.size w w' := by
 have hu69 := Tryz.underlying69
 have HR0_1 := aK hr0_1
 have HC0_1 := aK hc0_1
 clear hr0_1 hc0_1
 have HB := aK (Below.refl w.heap.size w)
 have H : (some (wrap64 (a0_0 + (l0_1.length : Int)))) = some r := h
 clear h
 obtain rfl := sI H
 go_enter Tryz.func55, Tryz.ntmps55
 go_wp2_with (first | ((with_reducible refine gate_dst (N := 1) rfl ?_); refine box_event ?hg (N := 1) ?hd (cs := #[.int .i64 a0_0, .slice A0_1 l0_1.length c0_1]) (t := 69) ?hr ?_; (case hd => rfl); (case hg => rfl); (case hr => first | (go_simp; done) | (go_simp; rfl)); intro gb300 hg w2 hbox hb; have BK300 := aK (hbox); have GW300 := aK ((by rw [hg]; exact (below_size (by repeat (first | (with_reducible first | exact HB.out | apply bA | apply pB | apply bW) | exact HB.out))) : w.heap.size ≤ gb300)); have GE300 := aK ((by rw [hg]; exact (below_size (by repeat (first | (with_reducible first | exact HB.out | apply bA | apply pB | apply bW) | exact HB.out))) : w.heap.size ≤ gb300)); replace HB := aK (bS (by repeat (first | (with_reducible first | exact HB.out | apply bA | apply pB | apply bW) | exact HB.out)) hb); clear hb hbox hg; have hcz3_0 : w2.cell? ⟨gb300, 0, none⟩ = some (.int .i64 a0_0) := (bC BK300.out 0).trans rfl; have hcz3_1 : w2.cell? ⟨gb300, 1, none⟩ = some (.slice A0_1 l0_1.length c0_1) := (bC BK300.out 1).trans rfl; have hfz3_0 := bF_ BK300.out 0; have hfz3_1 := bF_ BK300.out 1))
 go_ret
 exact ⟨by first | rfl | (simp [errW_none, errW_some] <;> rfl) | (simp [*, errW_none, errW_some] <;> rfl), by repeat (first | (with_reducible first | exact HB.out | apply bA | apply pB | apply bW | refine below_set ?_ GE300.out) | exact HB.out)⟩
theorem zq27_0 {p_ : Prop} (h_ : p_ := by repeat (first | (with_reducible first | exact HB.out | apply bA | apply pB | apply bW) | exact HB.out)) : p_ := h_
theorem zq27_1 {p_ : Prop} (h_ : p_ := by first | rfl | (simp; done) | (simp [*]; done)) : p_ := h_
def know_Count.l0 : Nat → Int → List (S72) → Int → Int → Option (Int)
 | 0, _, _, _, _ => none
 | k + 1, x3, x6, x7, x8 => if x8 < x7 then (if 0 ≤ x8 then (if x8 < (x6.length : Int) then ((span_Count.f ((rd_T72 x6 x8).f1.f0) ((rd_T72 x6 x8).f1.f1)).bind fun t303 => (know_Count.l0 k (wrap64 (x3 + t303)) x6 x7 (wrap64 (x8 + 1)))) else (none)) else (none)) else (some x3)
def know_Count.f (k : Nat) (l0 : List (S72)) : Option (Int) := know_Count.l0 k 0 l0 (l0.length : Int) 0
theorem know_Count.mono_l : ∀ k, (∀ y0 y1 y2 y3, LeO (know_Count.l0 k y0 y1 y2 y3) (know_Count.l0 (k + 1) y0 y1 y2 y3))
 | 0 => fun _ _ _ _ r h => by simp [know_Count.l0] at h
 | k + 1 => by
  have ih0 := know_Count.mono_l k
  ·intro y0 y1 y2 y3
   unfold know_Count.l0
   repeat' first
   | (with_reducible exact ih0 _ _ _ _)
   | (with_reducible exact LeO.refl _)
   | (with_reducible exact LeO.none _)
   | (with_reducible refine LeO.ite ?_ ?_)
   | (with_reducible refine LeO.bind ?_ (fun _ => ?_))
   | exact ih0 _ _ _ _
   | exact LeO.none _
   | refine LeO.ite ?_ ?_
   | refine LeO.bind ?_ (fun _ => ?_)
theorem know_Count.mono : ∀ a0 k, LeO (know_Count.f k a0) (know_Count.f (k + 1) a0) := by
 intro a0 k
 have ih0 := know_Count.mono_l k
 unfold know_Count.f
 repeat' first
   | (with_reducible exact ih0 _ _ _ _)
   | (with_reducible exact LeO.refl _)
   | (with_reducible exact LeO.none _)
   | (with_reducible refine LeO.ite ?_ ?_)
   | (with_reducible refine LeO.bind ?_ (fun _ => ?_))
   | exact ih0 _ _ _ _
   | exact LeO.none _
   | refine LeO.ite ?_ ?_
   | refine LeO.bind ?_ (fun _ => ?_)
theorem know_Count.calls (k : Nat) (A0 : Option Addr) (c0 : Nat) (l0 : List (S72)) (r : Int) (w : World) (hr0 : Kd.C k72 w A0 l0.length l0) (hc0 : l0.length ≤ c0) (h : know_Count.f k l0 = some r) :
  Calls Tryz.prog 27 #[.slice A0 l0.length c0] w fun e w' => e = .returned (.int .i64 r) ∧ Below w.heap.size w w' := by
 have hu72 := Tryz.underlying72
 have hu69 := Tryz.underlying69
 have HR0 := aK hr0
 have HC0 := aK hc0
 clear hr0 hc0
 have HB := aK (Below.refl w.heap.size w)
 have H : (know_Count.l0 k 0 l0 (l0.length : Int) 0) = some r := h
 clear h
 have H' := aK H
 clear H
 go_enter Tryz.func27, Tryz.ntmps27
 go_wp2
 go_loopg [3, 8] k (fun kq v3 v8 w' => ∃ (x3_1 : Int) (x8_1 : Int), v3 = .int .i64 x3_1 ∧ v8 = .int .i64 x8_1 ∧ Aside0 (know_Count.l0 kq x3_1 l0 (l0.length : Int) x8_1 = some r) ∧ Aside0 (kq ≤ k) ∧ Aside0 (Below w.heap.size w w'))
 case atStart => exact ⟨(0), (0), zq27_1, zq27_1, H', ⟨Nat.le_refl _⟩, ⟨by repeat (first | (with_reducible first | exact HB.out | apply bA | apply pB | apply bW) | exact HB.out)⟩⟩
 case round =>
  clear H'
  obtain ⟨x3_1, x8_1, rfl, rfl, HA, HK1, HB⟩ := hrel
  cases gk with
  | zero => exact absurd HA.out (by simp [know_Count.l0])
  | succ k1 =>
   have H := HA.out
   clear HA
   simp only [know_Count.l0] at H
   by_cases c2 : x8_1 < (l0.length : Int)
   ·rw [if_pos c2] at H
    have c2b0 : decide (x8_1 < (l0.length : Int)) = true := dT c2
    clear c2
    by_cases c3 : 0 ≤ x8_1
    ·rw [if_pos c3] at H
     have c3b0 : decide (0 ≤ x8_1) = true := dT c3
     clear c3
     by_cases c4 : x8_1 < (l0.length : Int)
     ·rw [if_pos c4] at H
      have c4b0 : decide (x8_1 < (l0.length : Int)) = true := dT c4
      clear c4
      replace H := bM H
      obtain ⟨t303, A50, H⟩ := H
      have A5 := aK A50
      clear A50
      have H' := aK H
      clear H
      have p301 : 0 ≤ (x8_1 : Int) := oD (by first | (with_reducible assumption) | assumption)
      have q301 : x8_1 < (l0.length : Int) := oD (by first | (with_reducible assumption) | assumption)
      obtain ⟨ad301, A301_2, c301_2, e301, hx301_0, hx301_1, hx301_2, hl301_2, hi301_2⟩ := at_T72 HR0.out x8_1 p301 q301
      cases e301
      replace hx301_0 := pc_ HB hx301_0
      replace hx301_1 := pc_ HB hx301_1
      replace hx301_2 := pc_ HB hx301_2
      have HR301_2 := aK hi301_2
      have HC301_2 := aK hl301_2
      clear hi301_2 hl301_2
      replace p301 := eT p301
      replace q301 := eT q301
      go_wp2_with (first | ((with_reducible refine gate_dst (N := 5) rfl ?_); refine box_event ?hg (N := 5) ?hd (cs := #[.string (⟨#[]⟩ : ByteArray), .int .i64 0, .slice none 0 0]) (t := 72) ?hr ?_; (case hd => rfl); (case hg => rfl); (case hr => first | (go_simp; done) | (go_simp; rfl)); intro gb302 hg w6 hbox hb; have BK302 := aK (hbox); have GW302 := aK (((by rw [hg]; exact (below_size zq27_0)) : w.heap.size ≤ gb302)); have GE302 := aK (((by rw [hg]; exact (below_size zq27_0)) : w.heap.size ≤ gb302)); replace HB := aK (bS zq27_0 hb); clear hb hbox hg; have hcz7_0 : w6.cell? ⟨gb302, 0, none⟩ = some (.string (⟨#[]⟩ : ByteArray)) := (bC BK302.out 0).trans rfl; have hcz7_1 : w6.cell? ⟨gb302, 1, none⟩ = some (.int .i64 0) := (bC BK302.out 1).trans rfl; have hcz7_2 : w6.cell? ⟨gb302, 2, none⟩ = some (.slice none 0 0) := (bC BK302.out 2).trans rfl; have hfz7_0 := bF_ BK302.out 0; have hfz7_1 := bF_ BK302.out 1; have hfz7_2 := bF_ BK302.out 2) | ((with_reducible refine gate_callee (f := 55) rfl ?_); refine goesL_ (some 15) rfl rfl Tryz.func55 (by kernel_rfl) rfl #[.agg #[.int .i64 ((rd_T72 l0 x8_1).f1.f0), .slice A301_2 ((rd_T72 l0 x8_1).f1.f1).length c301_2]] rfl (by (try simp only [List.map_toArray, List.map_cons, List.map_nil]); first | done | rfl | (simp only [List.length_drop, List.length_take]; rfl)) ?_; (with_reducible refine (span_Count.calls ((rd_T72 l0 x8_1).f1.f0) _ _ ((rd_T72 l0 x8_1).f1.f1) t303 _ ?side1 ?side2 A5.out).mono ?_); (case side1 => exact cB HR301_2.out (by repeat (first | (with_reducible first | exact HB.out | apply bA | apply pB | apply bW | refine below_set ?_ GE302.out) | exact HB.out))); (case side2 => exact HC301_2.out); rintro e w8 ⟨rfl, hb⟩; refine ⟨_, rfl, ?_⟩; replace BK302 := aK (bB (g := gb302) (o := .cells #[.string ((rd_T72 l0 x8_1).f0), .int .i64 ((rd_T72 l0 x8_1).f1.f0), .slice A301_2 ((rd_T72 l0 x8_1).f1.f1).length c301_2] 72 (0, 0)) (by (with_reducible repeat (first | refine blk_drewN ?_ _ | refine blk_drew ?_ | refine blk_alloc ?_ _)); refine blk_put (cs := #[.string ((rd_T72 l0 x8_1).f0), .int .i64 ((rd_T72 l0 x8_1).f1.f0), .slice none 0 0]) ?_ 2 _ rfl; (with_reducible repeat (first | refine blk_drewN ?_ _ | refine blk_drew ?_ | refine blk_alloc ?_ _)); refine blk_put (cs := #[.string ((rd_T72 l0 x8_1).f0), .int .i64 0, .slice none 0 0]) ?_ 1 _ rfl; (with_reducible repeat (first | refine blk_drewN ?_ _ | refine blk_drew ?_ | refine blk_alloc ?_ _)); refine blk_put (cs := #[.string (⟨#[]⟩ : ByteArray), .int .i64 0, .slice none 0 0]) ?_ 0 _ rfl; (with_reducible repeat (first | refine blk_drewN ?_ _ | refine blk_drew ?_ | refine blk_alloc ?_ _)); exact BK302.out) hb); replace HB := aK (bS (by repeat (first | (with_reducible first | exact HB.out | apply bA | apply pB | apply bW | refine below_set ?_ GE302.out) | exact HB.out)) hb); (try clear hb); (try clear hb2); (try clear hk); (try clear hi)))
      go_roundg k1
      case measure => have := HK1.out; omega
      case rel => exact ⟨(wrap64 (x3_1 + t303)), (wrap64 (x8_1 + 1)), zq27_1, zq27_1, H', ⟨by have := HK1.out; omega⟩, ⟨by repeat (first | (with_reducible first | exact HB.out | apply bA | apply pB | apply bW | refine below_set ?_ GE302.out) | exact HB.out)⟩⟩
     ·rw [if_neg c4] at H
      exact absurd H (by simp)
    ·rw [if_neg c3] at H
     exact absurd H (by simp)
   ·rw [if_neg c2] at H
    have c2b0 : decide (x8_1 < (l0.length : Int)) = false := decide_eq_false c2
    clear c2
    obtain rfl := sI H
    go_wp2
    go_ret
    exact ⟨by first | rfl | (simp [errW_none, errW_some] <;> rfl) | (simp [*, errW_none, errW_some] <;> rfl), by repeat (first | (with_reducible first | exact HB.out | apply bA | apply pB | apply bW) | exact HB.out)⟩
theorem zq57_0 {p_ : Prop} (h_ : p_ := by repeat (first | (with_reducible first | exact HB.out | apply bA | apply pB | apply bW) | exact HB.out)) : p_ := h_
theorem zq57_1 {p_ : Prop} (h_ : p_ := by first | (with_reducible assumption) | assumption) : p_ := h_
theorem zq57_2 {p_ : Prop} (h_ : p_ := by first | rfl | (simp; done) | (simp [*]; done)) : p_ := h_
mutual
def span_Right.j0 : Nat → Bool → Int → List Int → Option (Bool)
 | 0, _, _, _ => none
 | k + 1, x19, x305000, x305001 => if x19 = true then (some false) else (span_Right.l0 k (wrap64 (x305000 + 1)) x305001 (x305001.length : Int) 0)
def span_Right.l0 : Nat → Int → List Int → Int → Int → Option (Bool)
 | 0, _, _, _, _ => none
 | k + 1, x3, x24, x25, x26 => if x26 < x25 then (if 0 ≤ x26 then (if x26 < (x24.length : Int) then (if (rd x24 x26) ≤ x3 then (some false) else (if (rd x24 x26) > 1048576 then (some false) else (span_Right.l0 k (rd x24 x26) x24 x25 (wrap64 (x26 + 1))))) else (none)) else (none)) else (some true)
end
def span_Right.f (k : Nat) (a0_0 : Int) (l0_1 : List Int) : Option (Bool) := if a0_0 < 0 then (span_Right.j0 k true a0_0 l0_1) else (if a0_0 > 1048576 then (span_Right.j0 k true a0_0 l0_1) else (span_Right.j0 k (decide ((l0_1.length : Int) > 4096)) a0_0 l0_1))
theorem span_Right.mono_l : ∀ k, (∀ y0 y1 y2, LeO (span_Right.j0 k y0 y1 y2) (span_Right.j0 (k + 1) y0 y1 y2)) ∧ (∀ y0 y1 y2 y3, LeO (span_Right.l0 k y0 y1 y2 y3) (span_Right.l0 (k + 1) y0 y1 y2 y3))
 | 0 => ⟨fun _ _ _ r h => by simp [span_Right.j0] at h, fun _ _ _ _ r h => by simp [span_Right.l0] at h⟩
 | k + 1 => by
  obtain ⟨ih0, ih1⟩ := span_Right.mono_l k
  refine ⟨?_, ?_⟩
  ·intro y0 y1 y2
   unfold span_Right.j0
   repeat' first
   | (with_reducible exact ih0 _ _ _)
   | (with_reducible exact ih1 _ _ _ _)
   | (with_reducible exact LeO.refl _)
   | (with_reducible exact LeO.none _)
   | (with_reducible refine LeO.ite ?_ ?_)
   | (with_reducible refine LeO.bind ?_ (fun _ => ?_))
   | exact ih0 _ _ _
   | exact ih1 _ _ _ _
   | exact LeO.none _
   | refine LeO.ite ?_ ?_
   | refine LeO.bind ?_ (fun _ => ?_)
  ·intro y0 y1 y2 y3
   unfold span_Right.l0
   repeat' first
   | (with_reducible exact ih0 _ _ _)
   | (with_reducible exact ih1 _ _ _ _)
   | (with_reducible exact LeO.refl _)
   | (with_reducible exact LeO.none _)
   | (with_reducible refine LeO.ite ?_ ?_)
   | (with_reducible refine LeO.bind ?_ (fun _ => ?_))
   | exact ih0 _ _ _
   | exact ih1 _ _ _ _
   | exact LeO.none _
   | refine LeO.ite ?_ ?_
   | refine LeO.bind ?_ (fun _ => ?_)
theorem span_Right.mono : ∀ a0 a1 k, LeO (span_Right.f k a0 a1) (span_Right.f (k + 1) a0 a1) := by
 intro a0 a1 k
 obtain ⟨ih0, ih1⟩ := span_Right.mono_l k
 unfold span_Right.f
 repeat' first
   | (with_reducible exact ih0 _ _ _)
   | (with_reducible exact ih1 _ _ _ _)
   | (with_reducible exact LeO.refl _)
   | (with_reducible exact LeO.none _)
   | (with_reducible refine LeO.ite ?_ ?_)
   | (with_reducible refine LeO.bind ?_ (fun _ => ?_))
   | exact ih0 _ _ _
   | exact ih1 _ _ _ _
   | exact LeO.none _
   | refine LeO.ite ?_ ?_
   | refine LeO.bind ?_ (fun _ => ?_)
theorem span_Right.calls (k : Nat) (a0_0 : Int) (A0_1 : Option Addr) (c0_1 : Nat) (l0_1 : List Int) (r : Bool) (w : World) (hr0_1 : Kd.C (Kd.int .i64) w A0_1 l0_1.length l0_1) (hc0_1 : l0_1.length ≤ c0_1) (h : span_Right.f k a0_0 l0_1 = some r) :
  Calls Tryz.prog 57 #[.agg #[.int .i64 a0_0, .slice A0_1 l0_1.length c0_1]] w fun e w' => e = .returned (.bool r) ∧ Below w.heap.size w w' := by
 have hu69 := Tryz.underlying69
 have HR0_1 := aK hr0_1
 have HC0_1 := aK hc0_1
 clear hr0_1 hc0_1
 have HB := aK (Below.refl w.heap.size w)
 have H := h
 unfold span_Right.f at H
 clear h
 have HC2 := aK H
 clear H
 go_enter Tryz.func57, Tryz.ntmps57
 go_upto_region 1 with (first | ((with_reducible refine gate_dst (N := 1) rfl ?_); (try (refine gate_guard (by rfl) ?_; dsimp only)); refine box_event ?hg (N := 1) ?hd (cs := #[.int .i64 a0_0, .slice A0_1 l0_1.length c0_1]) (t := 69) ?hr ?_; (case hd => rfl); (case hg => rfl); (case hr => first | (go_simp; done) | (go_simp; rfl)); intro gb304 hg w3 hbox hb; have BK304 := aK (hbox); have GW304 := aK (((by rw [hg]; exact (below_size zq57_0)) : w.heap.size ≤ gb304)); have GE304 := aK (((by rw [hg]; exact (below_size zq57_0)) : w.heap.size ≤ gb304)); replace HB := aK (bS zq57_0 hb); clear hb hbox hg))
 (try simp only [Act.put, lA, lB, lC])
 go_cut [19] (fun v19 wc => ∃ (kq : Nat) (x19_1 : Bool), v19 = .bool x19_1 ∧ Aside0 (span_Right.j0 kq x19_1 a0_0 l0_1 = some r) ∧ Aside0 (kq ≤ k) ∧ Aside0 (wc.heap[gb304]? = some (.cells #[.int .i64 a0_0, (.slice A0_1 l0_1.length c0_1)] 69 (0, 0))) ∧ Aside0 (Below w.heap.size w wc))
 case first =>
  have H := HC2.out
  clear HC2
  by_cases c4 : a0_0 < 0
  ·rw [if_pos c4] at H
   have c4b0 : decide (a0_0 < 0) = true := dT c4
   clear c4
   (first | rw [c4b0] | (simp only [i64_w, i32_w]; rw [c4b0]) | skip)
   have H' := aK H
   clear H
   have hcz5_0 : w3.cell? ⟨gb304, 0, none⟩ = some (.int .i64 a0_0) := (bC BK304.out 0).trans rfl
   have hcz5_1 : w3.cell? ⟨gb304, 1, none⟩ = some (.slice A0_1 l0_1.length c0_1) := (bC BK304.out 1).trans rfl
   have hfz5_0 := bF_ BK304.out 0
   have hfz5_1 := bF_ BK304.out 1
   go_wp2
   go_meet
   case rel => exact ⟨_, (true), zq57_2, H', ⟨by first | omega | exact Nat.le_refl _⟩, ⟨by (with_reducible repeat (first | refine blk_drewN ?_ _ | refine blk_drew ?_ | refine blk_alloc ?_ _)); exact BK304.out⟩, ⟨by repeat (first | (with_reducible first | exact HB.out | apply bA | apply pB | apply bW | refine below_set ?_ GE304.out) | exact HB.out)⟩⟩
  ·rw [if_neg c4] at H
   have c4b0 : decide (a0_0 < 0) = false := decide_eq_false c4
   clear c4
   (first | rw [c4b0] | (simp only [i64_w, i32_w]; rw [c4b0]) | skip)
   by_cases c6 : a0_0 > 1048576
   ·rw [if_pos c6] at H
    have c6b0 : decide (1048576 < a0_0) = true := dT c6
    clear c6
    have H' := aK H
    clear H
    have hcz7_0 : w3.cell? ⟨gb304, 0, none⟩ = some (.int .i64 a0_0) := (bC BK304.out 0).trans rfl
    have hcz7_1 : w3.cell? ⟨gb304, 1, none⟩ = some (.slice A0_1 l0_1.length c0_1) := (bC BK304.out 1).trans rfl
    have hfz7_0 := bF_ BK304.out 0
    have hfz7_1 := bF_ BK304.out 1
    go_wp2
    go_meet
    case rel => exact ⟨_, (true), zq57_2, H', ⟨by first | omega | exact Nat.le_refl _⟩, ⟨by (with_reducible repeat (first | refine blk_drewN ?_ _ | refine blk_drew ?_ | refine blk_alloc ?_ _)); exact BK304.out⟩, ⟨by repeat (first | (with_reducible first | exact HB.out | apply bA | apply pB | apply bW | refine below_set ?_ GE304.out) | exact HB.out)⟩⟩
   ·rw [if_neg c6] at H
    have c6b0 : decide (1048576 < a0_0) = false := decide_eq_false c6
    clear c6
    have H' := aK H
    clear H
    have hcz8_0 : w3.cell? ⟨gb304, 0, none⟩ = some (.int .i64 a0_0) := (bC BK304.out 0).trans rfl
    have hcz8_1 : w3.cell? ⟨gb304, 1, none⟩ = some (.slice A0_1 l0_1.length c0_1) := (bC BK304.out 1).trans rfl
    have hfz8_0 := bF_ BK304.out 0
    have hfz8_1 := bF_ BK304.out 1
    go_wp2
    go_meet
    case rel => exact ⟨_, (decide ((l0_1.length : Int) > 4096)), zq57_2, H', ⟨by first | omega | exact Nat.le_refl _⟩, ⟨by (with_reducible repeat (first | refine blk_drewN ?_ _ | refine blk_drew ?_ | refine blk_alloc ?_ _)); exact BK304.out⟩, ⟨by repeat (first | (with_reducible first | exact HB.out | apply bA | apply pB | apply bW | refine below_set ?_ GE304.out) | exact HB.out)⟩⟩
 case rest =>
  clear HC2
  try clear p2
  try clear c4
  try clear c4b0
  try clear c5
  try clear c6
  try clear c6b0
  try clear hcz5_0
  try clear hcz5_1
  try clear hcz7_0
  try clear hcz7_1
  try clear hcz8_0
  try clear hcz8_1
  try clear hfz5_0
  try clear hfz5_1
  try clear hfz7_0
  try clear hfz7_1
  try clear hfz8_0
  try clear hfz8_1
  obtain ⟨kq, x19_1, rfl, HA, HJ1, BK304, HB⟩ := hcut
  cases kq with
  | zero => exact absurd HA.out (by simp [span_Right.j0])
  | succ kj1 =>
   have H := HA.out
   clear HA
   simp only [span_Right.j0] at H
   by_cases c9 : x19_1 = true
   ·subst c9
    have H1 : (some false) = some r := by rw [if_pos rfl] at H; exact H
    clear H
    have H := H1
    clear H1
    obtain rfl := sI H
    go_wp2
    go_ret
    exact ⟨by first | rfl | (simp [errW_none, errW_some] <;> rfl) | (simp [*, errW_none, errW_some] <;> rfl), by repeat (first | (with_reducible first | exact HB.out | apply bA | apply pB | apply bW | refine below_set ?_ GE304.out) | exact HB.out)⟩
   ·replace c9 := Bool.eq_false_iff.mpr c9
    subst c9
    have H1 : (span_Right.l0 kj1 (wrap64 (a0_0 + 1)) l0_1 (l0_1.length : Int) 0) = some r := by rw [if_neg (show ¬ (false = true) by decide)] at H; exact H
    clear H
    have H := H1
    clear H1
    have H' := aK H
    clear H
    have hcz10_0 : wc.cell? ⟨gb304, 0, none⟩ = some (.int .i64 a0_0) := (bC BK304.out 0).trans rfl
    have hcz10_1 : wc.cell? ⟨gb304, 1, none⟩ = some (.slice A0_1 l0_1.length c0_1) := (bC BK304.out 1).trans rfl
    have hfz10_0 := bF_ BK304.out 0
    have hfz10_1 := bF_ BK304.out 1
    go_wp2
    go_loopg [3, 26] kj1 (fun kq v3 v26 w' => ∃ (x3_2 : Int) (x26_2 : Int), v3 = .int .i64 x3_2 ∧ v26 = .int .i64 x26_2 ∧ Aside0 (span_Right.l0 kq x3_2 l0_1 (l0_1.length : Int) x26_2 = some r) ∧ Aside0 (kq ≤ kj1) ∧ Aside0 (w'.heap[gb304]? = some (.cells #[.int .i64 a0_0, (.slice A0_1 l0_1.length c0_1)] 69 (0, 0))) ∧ Aside0 (Below w.heap.size w w'))
    case atStart => exact ⟨(wrap64 (a0_0 + 1)), (0), zq57_2, zq57_2, H', ⟨Nat.le_refl _⟩, ⟨by (with_reducible repeat (first | refine blk_drewN ?_ _ | refine blk_drew ?_ | refine blk_alloc ?_ _)); exact BK304.out⟩, ⟨by repeat (first | (with_reducible first | exact HB.out | apply bA | apply pB | apply bW | refine below_set ?_ GE304.out) | exact HB.out)⟩⟩
    case round =>
     clear H'
     try clear p2
     try clear c4
     try clear c4b0
     try clear c5
     try clear c6
     try clear c6b0
     try clear p6
     try clear c9
     try clear hcz10_0
     try clear hcz10_1
     try clear hcz5_0
     try clear hcz5_1
     try clear hcz7_0
     try clear hcz7_1
     try clear hcz8_0
     try clear hcz8_1
     try clear hfz10_0
     try clear hfz10_1
     try clear hfz5_0
     try clear hfz5_1
     try clear hfz7_0
     try clear hfz7_1
     try clear hfz8_0
     try clear hfz8_1
     try clear p2
     obtain ⟨x3_2, x26_2, rfl, rfl, HA, HK2, BK304, HB⟩ := hrel
     cases gk with
     | zero => exact absurd HA.out (by simp [span_Right.l0])
     | succ k2 =>
      have H := HA.out
      clear HA
      simp only [span_Right.l0] at H
      by_cases c11 : x26_2 < (l0_1.length : Int)
      ·rw [if_pos c11] at H
       have c11b0 : decide (x26_2 < (l0_1.length : Int)) = true := dT c11
       clear c11
       by_cases c12 : 0 ≤ x26_2
       ·rw [if_pos c12] at H
        have c12b0 : decide (0 ≤ x26_2) = true := dT c12
        clear c12
        by_cases c13 : x26_2 < (l0_1.length : Int)
        ·rw [if_pos c13] at H
         have c13b0 : decide (x26_2 < (l0_1.length : Int)) = true := dT c13
         clear c13
         by_cases c14 : (rd l0_1 x26_2) ≤ x3_2
         ·rw [if_pos c14] at H
          have c14b0 : decide ((rd l0_1 x26_2) ≤ x3_2) = true := dT c14
          clear c14
          obtain rfl := sI H
          have p305 : 0 ≤ (x26_2 : Int) := oD zq57_1
          have q305 : x26_2 < (l0_1.length : Int) := oD zq57_1
          obtain ⟨ad305, e305, hx305_0⟩ := Kd.at_int HR0_1.out x26_2 p305 q305
          cases e305
          replace hx305_0 := pc_ HB hx305_0
          replace p305 := eT p305
          replace q305 := eT q305
          go_wp2
          go_ret
          exact ⟨by first | rfl | (simp [errW_none, errW_some] <;> rfl) | (simp [*, errW_none, errW_some] <;> rfl), by repeat (first | (with_reducible first | exact HB.out | apply bA | apply pB | apply bW | refine below_set ?_ GE304.out) | exact HB.out)⟩
         ·rw [if_neg c14] at H
          have c14b0 : decide ((rd l0_1 x26_2) ≤ x3_2) = false := decide_eq_false c14
          clear c14
          by_cases c15 : (rd l0_1 x26_2) > 1048576
          ·rw [if_pos c15] at H
           have c15b0 : decide (1048576 < (rd l0_1 x26_2)) = true := dT c15
           clear c15
           obtain rfl := sI H
           have p305 : 0 ≤ (x26_2 : Int) := oD zq57_1
           have q305 : x26_2 < (l0_1.length : Int) := oD zq57_1
           obtain ⟨ad305, e305, hx305_0⟩ := Kd.at_int HR0_1.out x26_2 p305 q305
           cases e305
           replace hx305_0 := pc_ HB hx305_0
           replace p305 := eT p305
           replace q305 := eT q305
           go_wp2
           go_ret
           exact ⟨by first | rfl | (simp [errW_none, errW_some] <;> rfl) | (simp [*, errW_none, errW_some] <;> rfl), by repeat (first | (with_reducible first | exact HB.out | apply bA | apply pB | apply bW | refine below_set ?_ GE304.out) | exact HB.out)⟩
          ·rw [if_neg c15] at H
           have c15b0 : decide (1048576 < (rd l0_1 x26_2)) = false := decide_eq_false c15
           clear c15
           have H' := aK H
           clear H
           have p305 : 0 ≤ (x26_2 : Int) := oD zq57_1
           have q305 : x26_2 < (l0_1.length : Int) := oD zq57_1
           obtain ⟨ad305, e305, hx305_0⟩ := Kd.at_int HR0_1.out x26_2 p305 q305
           cases e305
           replace hx305_0 := pc_ HB hx305_0
           replace p305 := eT p305
           replace q305 := eT q305
           go_wp2
           go_roundg k2
           case measure => have := HJ1.out; have := HK2.out; omega
           case rel => exact ⟨(rd l0_1 x26_2), (wrap64 (x26_2 + 1)), zq57_2, zq57_2, H', ⟨by have := HJ1.out; have := HK2.out; omega⟩, ⟨by (with_reducible repeat (first | refine blk_drewN ?_ _ | refine blk_drew ?_ | refine blk_alloc ?_ _)); exact BK304.out⟩, ⟨by repeat (first | (with_reducible first | exact HB.out | apply bA | apply pB | apply bW | refine below_set ?_ GE304.out) | exact HB.out)⟩⟩
        ·rw [if_neg c13] at H
         exact absurd H (by simp)
       ·rw [if_neg c12] at H
        exact absurd H (by simp)
      ·rw [if_neg c11] at H
       have c11b0 : decide (x26_2 < (l0_1.length : Int)) = false := decide_eq_false c11
       clear c11
       obtain rfl := sI H
       go_wp2
       go_ret
       exact ⟨by first | rfl | (simp [errW_none, errW_some] <;> rfl) | (simp [*, errW_none, errW_some] <;> rfl), by repeat (first | (with_reducible first | exact HB.out | apply bA | apply pB | apply bW | refine below_set ?_ GE304.out) | exact HB.out)⟩
theorem zq58_0 {p_ : Prop} (h_ : p_ := by repeat (first | (with_reducible first | exact HB.out | apply bA | apply pB | apply bW | refine below_set ?_ GE306.out) | exact HB.out)) : p_ := h_
theorem zq58_1 {p_ : Prop} (h_ : p_ := by repeat (first | (with_reducible first | exact HB.out | apply bA | apply pB | apply bW) | exact HB.out)) : p_ := h_
theorem zq58_2 {p_ : Prop} (h_ : p_ := by (with_reducible repeat (first | refine blk_drewN ?_ _ | refine blk_drew ?_ | refine blk_alloc ?_ _)); exact BK306.out) : p_ := h_
def know_order.f (a0_0 : ByteArray) (a0_1 : Int) (l0_2 : List Int) (a1_0 : ByteArray) (a1_1 : Int) (l1_2 : List Int) : Option (Int) := (id_Compare.f a0_0 a1_0).bind fun t308 => (some t308)
theorem know_order.calls (a0_0 : ByteArray) (a0_1 : Int) (A0_2 : Option Addr) (c0_2 : Nat) (l0_2 : List Int) (a1_0 : ByteArray) (a1_1 : Int) (A1_2 : Option Addr) (c1_2 : Nat) (l1_2 : List Int) (r : Int) (w : World) (hr0_2 : Kd.C (Kd.int .i64) w A0_2 l0_2.length l0_2) (hc0_2 : l0_2.length ≤ c0_2) (hr1_2 : Kd.C (Kd.int .i64) w A1_2 l1_2.length l1_2) (hc1_2 : l1_2.length ≤ c1_2) (h : know_order.f a0_0 a0_1 l0_2 a1_0 a1_1 l1_2 = some r) :
  Calls Tryz.prog 58 #[.agg #[.string a0_0, .int .i64 a0_1, .slice A0_2 l0_2.length c0_2], .agg #[.string a1_0, .int .i64 a1_1, .slice A1_2 l1_2.length c1_2]] w fun e w' => e = .returned (.int .i64 r) ∧ Below w.heap.size w w' := by
 have hu72 := Tryz.underlying72
 have HR0_2 := aK hr0_2
 have HC0_2 := aK hc0_2
 clear hr0_2 hc0_2
 have HR1_2 := aK hr1_2
 have HC1_2 := aK hc1_2
 clear hr1_2 hc1_2
 have HB := aK (Below.refl w.heap.size w)
 have H : ((id_Compare.f a0_0 a1_0).bind fun t308 => (some t308)) = some r := h
 clear h
 replace H := bM H
 obtain ⟨t308, A30, H⟩ := H
 have A3 := aK A30
 clear A30
 obtain rfl := sI H
 go_enter Tryz.func58, Tryz.ntmps58
 go_wp2_with (first | ((with_reducible refine gate_dst (N := 2) rfl ?_); refine box_event ?hg (N := 2) ?hd (cs := #[.string a0_0, .int .i64 a0_1, .slice A0_2 l0_2.length c0_2]) (t := 72) ?hr ?_; (case hd => rfl); (case hg => rfl); (case hr => first | (go_simp; done) | (go_simp; rfl)); intro gb306 hg w4 hbox hb; have BK306 := aK (hbox); have GW306 := aK (((by rw [hg]; exact (below_size zq58_1)) : w.heap.size ≤ gb306)); have GE306 := aK (((by rw [hg]; exact (below_size zq58_1)) : w.heap.size ≤ gb306)); replace HB := aK (bS zq58_1 hb); clear hb hbox hg) | ((with_reducible refine gate_dst (N := 3) rfl ?_); refine box_event ?hg (N := 3) ?hd (cs := #[.string a1_0, .int .i64 a1_1, .slice A1_2 l1_2.length c1_2]) (t := 72) ?hr ?_; (case hd => rfl); (case hg => rfl); (case hr => first | (go_simp; done) | (go_simp; rfl)); intro gb307 hg w5 hbox hb; have BK307 := aK (hbox); have GW307 := aK (((by rw [hg]; exact (below_size zq58_0)) : w.heap.size ≤ gb307)); have GE307 := aK (((by rw [hg]; exact (below_size zq58_0)) : w.heap.size ≤ gb307)); replace HB := aK (bS zq58_0 hb); have NB306_307 := aK (((by rw [hg]; exact Nat.ne_of_lt (blk_lt (g := gb306) (o := .cells #[.string a0_0, .int .i64 a0_1, .slice A0_2 l0_2.length c0_2] 72 (0, 0)) zq58_2)) : gb306 ≠ gb307)); have NB307_306 := aK (((by rw [hg]; exact Nat.ne_of_gt (blk_lt (g := gb306) (o := .cells #[.string a0_0, .int .i64 a0_1, .slice A0_2 l0_2.length c0_2] 72 (0, 0)) zq58_2)) : gb307 ≠ gb306)); replace BK306 := aK (bB (g := gb306) (o := .cells #[.string a0_0, .int .i64 a0_1, .slice A0_2 l0_2.length c0_2] 72 (0, 0)) zq58_2 hb); clear hb hbox hg; have hnb6 := NB306_307.out; have hnc6 := NB307_306.out; have hcz7_0 : w5.cell? ⟨gb306, 0, none⟩ = some (.string a0_0) := (bC BK306.out 0).trans rfl; have hcz7_1 : w5.cell? ⟨gb306, 1, none⟩ = some (.int .i64 a0_1) := (bC BK306.out 1).trans rfl; have hcz7_2 : w5.cell? ⟨gb306, 2, none⟩ = some (.slice A0_2 l0_2.length c0_2) := (bC BK306.out 2).trans rfl; have hfz7_0 := bF_ BK306.out 0; have hfz7_1 := bF_ BK306.out 1; have hfz7_2 := bF_ BK306.out 2; have hcz8_0 : w5.cell? ⟨gb307, 0, none⟩ = some (.string a1_0) := (bC BK307.out 0).trans rfl; have hcz8_1 : w5.cell? ⟨gb307, 1, none⟩ = some (.int .i64 a1_1) := (bC BK307.out 1).trans rfl; have hcz8_2 : w5.cell? ⟨gb307, 2, none⟩ = some (.slice A1_2 l1_2.length c1_2) := (bC BK307.out 2).trans rfl; have hfz8_0 := bF_ BK307.out 0; have hfz8_1 := bF_ BK307.out 1; have hfz8_2 := bF_ BK307.out 2) | ((with_reducible refine gate_callee (f := 73) rfl ?_); refine goesL_ (some 9) rfl rfl Tryz.func73 (by kernel_rfl) rfl #[.string a0_0, .string a1_0] rfl (by (try simp only [List.map_toArray, List.map_cons, List.map_nil]); first | done | rfl | (simp only [List.length_drop, List.length_take]; rfl)) ?_; (with_reducible refine (id_Compare.calls a0_0 a1_0 t308 _ A3.out).mono ?_); rintro e w' ⟨rfl, ⟨nd, rfl⟩⟩; refine ⟨_, rfl, ?_⟩))
 go_ret
 exact ⟨by first | rfl | (simp [errW_none, errW_some] <;> rfl) | (simp [*, errW_none, errW_some] <;> rfl), by repeat (first | (with_reducible first | exact HB.out | apply bA | apply pB | apply bW | refine below_set ?_ GE306.out | refine below_set ?_ GE307.out) | exact HB.out)⟩
theorem zq28_0 {p_ : Prop} (h_ : p_ := by rw [hg]; exact (below_size (by repeat (first | (with_reducible first | exact HB.out | apply bA | apply pB | apply bW) | exact HB.out)))) : p_ := h_
theorem zq28_1 {p_ : Prop} (h_ : p_ := by repeat (first | (with_reducible first | exact HB.out | apply bA | apply pB | apply bW | refine below_set ?_ GE310.out) | exact HB.out)) : p_ := h_
theorem zq28_2 {p_ : Prop} (h_ : p_ := by (try simp only [List.map_toArray, List.map_cons, List.map_nil]); first | done | rfl | (simp only [List.length_drop, List.length_take]; rfl)) : p_ := h_
theorem zq28_3 {p_ : Prop} (h_ : p_ := by repeat (first | (with_reducible first | exact HB.out | apply bA | apply pB | apply bW) | exact HB.out)) : p_ := h_
theorem zq28_4 {p_ : Prop} (h_ : p_ := by (with_reducible repeat (first | refine blk_drewN ?_ _ | refine blk_drew ?_ | refine blk_alloc ?_ _)); exact BK310.out) : p_ := h_
theorem zq28_5 {p_ : Prop} (h_ : p_ := by first | (with_reducible assumption) | assumption) : p_ := h_
theorem zq28_6 {p_ : Prop} (h_ : p_ := by first | rfl | (simp; done) | (simp [*]; done)) : p_ := h_
def know_Right.l0 : Nat → List (S72) → List (S72) → Int → Int → Option (Bool)
 | 0, _, _, _, _ => none
 | k + 1, x0, x5, x6, x7 => if x7 < x6 then (if 0 ≤ x7 then (if x7 < (x5.length : Int) then ((id_Right.f ((rd_T72 x5 x7).f0)).bind fun t311 => (if t311 = true then ((span_Right.f k ((rd_T72 x5 x7).f1.f0) ((rd_T72 x5 x7).f1.f1)).bind fun t312 => (if t312 = true then ((span_Count.f ((rd_T72 x5 x7).f1.f0) ((rd_T72 x5 x7).f1.f1)).bind fun t313 => (if t313 = 0 then (some false) else (if x7 > 0 then (if 0 ≤ (wrap64 (x7 - 1)) then (if (wrap64 (x7 - 1)) < (x0.length : Int) then ((know_order.f ((rd_T72 x0 (wrap64 (x7 - 1))).f0) ((rd_T72 x0 (wrap64 (x7 - 1))).f1.f0) ((rd_T72 x0 (wrap64 (x7 - 1))).f1.f1) ((rd_T72 x5 x7).f0) ((rd_T72 x5 x7).f1.f0) ((rd_T72 x5 x7).f1.f1)).bind fun t315 => (if t315 ≥ 0 then (some false) else (know_Right.l0 k x0 x5 x6 (wrap64 (x7 + 1))))) else (none)) else (none)) else (know_Right.l0 k x0 x5 x6 (wrap64 (x7 + 1)))))) else (some false))) else (some false))) else (none)) else (none)) else (some true)
def know_Right.f (k : Nat) (l0 : List (S72)) : Option (Bool) := know_Right.l0 k l0 l0 (l0.length : Int) 0
theorem know_Right.mono_l : ∀ k, (∀ y0 y1 y2 y3, LeO (know_Right.l0 k y0 y1 y2 y3) (know_Right.l0 (k + 1) y0 y1 y2 y3))
 | 0 => fun _ _ _ _ r h => by simp [know_Right.l0] at h
 | k + 1 => by
  have ih0 := know_Right.mono_l k
  ·intro y0 y1 y2 y3
   unfold know_Right.l0
   repeat' first
   | (with_reducible exact ih0 _ _ _ _)
   | (with_reducible exact span_Right.mono _ _ _)
   | (with_reducible exact LeO.refl _)
   | (with_reducible exact LeO.none _)
   | (with_reducible refine LeO.ite ?_ ?_)
   | (with_reducible refine LeO.bind ?_ (fun _ => ?_))
   | exact ih0 _ _ _ _
   | exact span_Right.mono _ _ _
   | exact LeO.none _
   | refine LeO.ite ?_ ?_
   | refine LeO.bind ?_ (fun _ => ?_)
theorem know_Right.mono : ∀ a0 k, LeO (know_Right.f k a0) (know_Right.f (k + 1) a0) := by
 intro a0 k
 have ih0 := know_Right.mono_l k
 unfold know_Right.f
 repeat' first
   | (with_reducible exact ih0 _ _ _ _)
   | (with_reducible exact span_Right.mono _ _ _)
   | (with_reducible exact LeO.refl _)
   | (with_reducible exact LeO.none _)
   | (with_reducible refine LeO.ite ?_ ?_)
   | (with_reducible refine LeO.bind ?_ (fun _ => ?_))
   | exact ih0 _ _ _ _
   | exact span_Right.mono _ _ _
   | exact LeO.none _
   | refine LeO.ite ?_ ?_
   | refine LeO.bind ?_ (fun _ => ?_)
def know_Right.T4 : Bool × List (List Nat × List Nat) := (true, [([], []), ([0], [0]), ([1], [1]), ([2], [2]), ([3, 2], [3]), ([4], [4]), ([5, 4], [4, 5]), ([6, 4, 4], [4, 6]), ([7, 4], [4, 7]), ([4, 8], [4, 8]), ([9, 7], [9]), ([10], [10]), ([11, 10], [10, 11]), ([12, 10, 10], [10, 12]), ([13, 10], [10, 13]), ([10, 14], [10, 14]), ([15, 13], [15]), ([16], [16]), ([17, 16], [16, 17]), ([18, 16, 16], [16, 18]), ([19], [19]), ([19], [19]), ([21, 19], [19, 21]), ([20, 22, 19], [19, 20, 22]), ([23, 19], [19, 23]), ([19], [19]), ([24, 25, 19, 19], [19, 24, 25]), ([26, 19], [19, 26]), ([19, 27, 16], [16, 19, 27]), ([16, 28], [16, 28])])
def know_Right.B4 : List Nat := [0, 1, 3, 7, 15, 31, 63, 127, 255, 511, 1023, 2047, 4095, 8191, 16383, 32767, 65535, 131071, 262143, 524287, 1048575, 1048575, 3145727, 8388607, 16777215, 1048575, 67108863, 134217727, 268435455, 536870911]
theorem know_Right.tab4 : rtab .any (opsOf Tryz.f28 4) = know_Right.T4 := by kernel_rfl
theorem know_Right.bits4 : waitsOk know_Right.T4.2 know_Right.B4 = true := by kernel_rfl
theorem know_Right.calls (k : Nat) (A0 : Option Addr) (c0 : Nat) (l0 : List (S72)) (r : Bool) (w : World) (hr0 : Kd.C k72 w A0 l0.length l0) (hc0 : l0.length ≤ c0) (h : know_Right.f k l0 = some r) :
  Calls Tryz.prog 28 #[.slice A0 l0.length c0] w fun e w' => e = .returned (.bool r) ∧ Below w.heap.size w w' := by
 have hu72 := Tryz.underlying72
 have hu69 := Tryz.underlying69
 have HR0 := aK hr0
 have HC0 := aK hc0
 clear hr0 hc0
 have HB := aK (Below.refl w.heap.size w)
 have H : (know_Right.l0 k l0 l0 (l0.length : Int) 0) = some r := h
 clear h
 have H' := aK H
 clear H
 go_enter Tryz.func28, Tryz.ntmps28
 go_wp2
 go_loopg [7] k (fun kq v7 w' => ∃ (x7_1 : Int), v7 = .int .i64 x7_1 ∧ Aside0 (know_Right.l0 kq l0 l0 (l0.length : Int) x7_1 = some r) ∧ Aside0 (kq ≤ k) ∧ Aside0 (Below w.heap.size w w'))
 case atStart => exact ⟨(0), zq28_6, H', ⟨Nat.le_refl _⟩, ⟨by repeat (first | (with_reducible first | exact HB.out | apply bA | apply pB | apply bW) | exact HB.out)⟩⟩
 case round =>
  clear H'
  obtain ⟨x7_1, rfl, HA, HK1, HB⟩ := hrel
  cases gk with
  | zero => exact absurd HA.out (by simp [know_Right.l0])
  | succ k1 =>
   have H := HA.out
   clear HA
   simp only [know_Right.l0] at H
   by_cases c2 : x7_1 < (l0.length : Int)
   ·rw [if_pos c2] at H
    have c2b0 : decide (x7_1 < (l0.length : Int)) = true := dT c2
    clear c2
    by_cases c3 : 0 ≤ x7_1
    ·rw [if_pos c3] at H
     have c3b0 : decide (0 ≤ x7_1) = true := dT c3
     clear c3
     by_cases c4 : x7_1 < (l0.length : Int)
     ·rw [if_pos c4] at H
      have c4b0 : decide (x7_1 < (l0.length : Int)) = true := dT c4
      clear c4
      replace H := bM H
      obtain ⟨t311, A50, H⟩ := H
      have A5 := aK A50
      clear A50
      by_cases c6 : t311 = true
      ·subst c6
       have H1 : ((span_Right.f k1 ((rd_T72 l0 x7_1).f1.f0) ((rd_T72 l0 x7_1).f1.f1)).bind fun t312 => (if t312 = true then ((span_Count.f ((rd_T72 l0 x7_1).f1.f0) ((rd_T72 l0 x7_1).f1.f1)).bind fun t313 => (if t313 = 0 then (some false) else (if x7_1 > 0 then (if 0 ≤ (wrap64 (x7_1 - 1)) then (if (wrap64 (x7_1 - 1)) < (l0.length : Int) then ((know_order.f ((rd_T72 l0 (wrap64 (x7_1 - 1))).f0) ((rd_T72 l0 (wrap64 (x7_1 - 1))).f1.f0) ((rd_T72 l0 (wrap64 (x7_1 - 1))).f1.f1) ((rd_T72 l0 x7_1).f0) ((rd_T72 l0 x7_1).f1.f0) ((rd_T72 l0 x7_1).f1.f1)).bind fun t315 => (if t315 ≥ 0 then (some false) else (know_Right.l0 k1 l0 l0 (l0.length : Int) (wrap64 (x7_1 + 1))))) else (none)) else (none)) else (know_Right.l0 k1 l0 l0 (l0.length : Int) (wrap64 (x7_1 + 1)))))) else (some false))) = some r := by rw [if_pos rfl] at H; exact H
       clear H
       have H := H1
       clear H1
       replace H := bM H
       obtain ⟨t312, A70, H⟩ := H
       have A7 := aK A70
       clear A70
       by_cases c8 : t312 = true
       ·subst c8
        have H1 : ((span_Count.f ((rd_T72 l0 x7_1).f1.f0) ((rd_T72 l0 x7_1).f1.f1)).bind fun t313 => (if t313 = 0 then (some false) else (if x7_1 > 0 then (if 0 ≤ (wrap64 (x7_1 - 1)) then (if (wrap64 (x7_1 - 1)) < (l0.length : Int) then ((know_order.f ((rd_T72 l0 (wrap64 (x7_1 - 1))).f0) ((rd_T72 l0 (wrap64 (x7_1 - 1))).f1.f0) ((rd_T72 l0 (wrap64 (x7_1 - 1))).f1.f1) ((rd_T72 l0 x7_1).f0) ((rd_T72 l0 x7_1).f1.f0) ((rd_T72 l0 x7_1).f1.f1)).bind fun t315 => (if t315 ≥ 0 then (some false) else (know_Right.l0 k1 l0 l0 (l0.length : Int) (wrap64 (x7_1 + 1))))) else (none)) else (none)) else (know_Right.l0 k1 l0 l0 (l0.length : Int) (wrap64 (x7_1 + 1)))))) = some r := by rw [if_pos rfl] at H; exact H
        clear H
        have H := H1
        clear H1
        replace H := bM H
        obtain ⟨t313, A90, H⟩ := H
        have A9 := aK A90
        clear A90
        by_cases c10 : t313 = 0
        ·rw [if_pos c10] at H
         have c10b0 : (t313 == 0) = true := beq_iff_eq.mpr c10
         have c10b1 : (t313 != 0) = false := bne_eq_false_iff_eq.mpr c10
         clear c10
         obtain rfl := sI H
         have p309 : 0 ≤ (x7_1 : Int) := oD zq28_5
         have q309 : x7_1 < (l0.length : Int) := oD zq28_5
         obtain ⟨ad309, A309_2, c309_2, e309, hx309_0, hx309_1, hx309_2, hl309_2, hi309_2⟩ := at_T72 HR0.out x7_1 p309 q309
         cases e309
         replace hx309_0 := pc_ HB hx309_0
         replace hx309_1 := pc_ HB hx309_1
         replace hx309_2 := pc_ HB hx309_2
         have HR309_2 := aK hi309_2
         have HC309_2 := aK hl309_2
         clear hi309_2 hl309_2
         replace p309 := eT p309
         replace q309 := eT q309
         try go_wp2_with (first | ((with_reducible refine gate_dst (N := 4) rfl ?_); refine box_event ?hg (N := 4) ?hd (cs := #[.string (⟨#[]⟩ : ByteArray), .int .i64 0, .slice none 0 0]) (t := 72) ?hr ?_; (case hd => rfl); (case hg => rfl); (case hr => first | (go_simp; done) | (go_simp; rfl)); intro gb310 hg w11 hbox hb; have BK310 := aK (hbox); have GW310 := aK ((zq28_0 : w.heap.size ≤ gb310)); have GE310 := aK ((zq28_0 : w.heap.size ≤ gb310)); replace HB := aK (bS zq28_3 hb); clear hb hbox hg; have hcz12_0 : w11.cell? ⟨gb310, 0, none⟩ = some (.string (⟨#[]⟩ : ByteArray)) := (bC BK310.out 0).trans rfl; have hcz12_1 : w11.cell? ⟨gb310, 1, none⟩ = some (.int .i64 0) := (bC BK310.out 1).trans rfl; have hcz12_2 : w11.cell? ⟨gb310, 2, none⟩ = some (.slice none 0 0) := (bC BK310.out 2).trans rfl; have hfz12_0 := bF_ BK310.out 0; have hfz12_1 := bF_ BK310.out 1; have hfz12_2 := bF_ BK310.out 2))
         have n0_ : Aside0 ((((w11.setCell ⟨gb310, 0, none⟩ (.string ((rd_T72 l0 x7_1).f0))).setCell ⟨gb310, 1, none⟩ (.int .i64 ((rd_T72 l0 x7_1).f1.f0))).setCell ⟨gb310, 2, none⟩ (.slice A309_2 ((rd_T72 l0 x7_1).f1.f1).length c309_2)).heap[gb310]? = some (.cells #[.string ((rd_T72 l0 x7_1).f0), .int .i64 ((rd_T72 l0 x7_1).f1.f0), .slice A309_2 ((rd_T72 l0 x7_1).f1.f1).length c309_2] 72 (0, 0))) := ⟨by (with_reducible repeat (first | refine blk_drewN ?_ _ | refine blk_drew ?_ | refine blk_alloc ?_ _)); refine blk_put (cs := #[.string ((rd_T72 l0 x7_1).f0), .int .i64 ((rd_T72 l0 x7_1).f1.f0), .slice none 0 0]) ?_ 2 _ rfl; (with_reducible repeat (first | refine blk_drewN ?_ _ | refine blk_drew ?_ | refine blk_alloc ?_ _)); refine blk_put (cs := #[.string ((rd_T72 l0 x7_1).f0), .int .i64 0, .slice none 0 0]) ?_ 1 _ rfl; (with_reducible repeat (first | refine blk_drewN ?_ _ | refine blk_drew ?_ | refine blk_alloc ?_ _)); refine blk_put (cs := #[.string (⟨#[]⟩ : ByteArray), .int .i64 0, .slice none 0 0]) ?_ 0 _ rfl; (with_reducible repeat (first | refine blk_drewN ?_ _ | refine blk_drew ?_ | refine blk_alloc ?_ _)); exact BK310.out⟩
         have n1_ : Aside0 (Below w.heap.size w (((w11.setCell ⟨gb310, 0, none⟩ (.string ((rd_T72 l0 x7_1).f0))).setCell ⟨gb310, 1, none⟩ (.int .i64 ((rd_T72 l0 x7_1).f1.f0))).setCell ⟨gb310, 2, none⟩ (.slice A309_2 ((rd_T72 l0 x7_1).f1.f1).length c309_2))) := ⟨by repeat (first | (with_reducible first | exact HB.out | apply bA | apply pB | apply bW | refine below_set ?_ GE310.out) | exact HB.out)⟩
         (try clear BK310)
         (try clear HB)
         generalize (((w11.setCell ⟨gb310, 0, none⟩ (.string ((rd_T72 l0 x7_1).f0))).setCell ⟨gb310, 1, none⟩ (.int .i64 ((rd_T72 l0 x7_1).f1.f0))).setCell ⟨gb310, 2, none⟩ (.slice A309_2 ((rd_T72 l0 x7_1).f1.f1).length c309_2)) = w13 at n0_ n1_ ⊢
         have BK310 := n0_
         have HB := n1_
         clear n0_ n1_
         replace BK310 := aK (blk_drew BK310.out)
         replace HB := aK (bW HB.out)
         refine start_ (n := 30) (S := fun w' => w'.cell? ⟨gb310, 0, none⟩ = some (.string ((rd_T72 l0 x7_1).f0)) ∧ w'.cell? ⟨gb310, 1, none⟩ = some (.int .i64 ((rd_T72 l0 x7_1).f1.f0)) ∧ w'.cell? ⟨gb310, 2, none⟩ = some (.slice A309_2 ((rd_T72 l0 x7_1).f1.f1).length c309_2)) (ds := []) #[false, false, false, false, false, false, false, false, false, false, false, false, false, false, false, false, false, false, false, false, false, false, false, false, false, false, false, false, false, false] (by kernel_rfl) rfl rfl ⟨(bC BK310.out 0).trans rfl, (bC BK310.out 1).trans rfl, (bC BK310.out 2).trans rfl⟩ (fun hHeld => ?_); refine with_tabW know_Right.tab4 know_Right.bits4 (fun HT_ HW_ => ?_)
         generalize w13.drew = w14 at BK310 HB hHeld ⊢
         refine p_ 0 12 (mk_ 30 0x1) ?_
         refine t_ 1 13 (mk_ 30 0x3) hHeld ?_
         refine one_ (i := 2) (N := some 14) #[true, true, true, false, false, false, false, false, false, false, false, false, false, false, false, false, false, false, false, false, false, false, false, false, false, false, false, false, false, false] rfl rfl (one_of HT_.out (by kernel_rfl)) (by decide) (fun K hK => ?_)
         refine goes_ Tryz.func56 (by kernel_rfl) rfl #[.string ((rd_T72 l0 x7_1).f0)] (by rfl) rfl rfl zq28_2 ?_
         with_reducible refine (id_Right.calls ((rd_T72 l0 x7_1).f0) true _ A5.out).mono ?_
         rintro e w15 ⟨rfl, hb⟩
         refine ⟨_, rfl, ?_⟩
         replace BK310 := aK (bB (g := gb310) (o := .cells #[.string ((rd_T72 l0 x7_1).f0), .int .i64 ((rd_T72 l0 x7_1).f1.f0), .slice A309_2 ((rd_T72 l0 x7_1).f1.f1).length c309_2] 72 (0, 0)) zq28_4 hb)
         replace HB := aK (bS zq28_1 hb)
         (try clear hb)
         (try clear hb2)
         (try clear hk)
         (try clear hi)
         refine hK.out _ _ ⟨(bC BK310.out 0).trans rfl, (bC BK310.out 1).trans rfl, (bC BK310.out 2).trans rfl⟩ (fun hHeld => ?_)
         clear hK K
         refine norm_ (a' := ?_) ?_ ?_
         rotate_left
         ·show Act.put _ (some 14) _ = _
          simp only [Act.put, lA, lB, lC, i64_w, i32_w]
          rfl
         refine p_ 3 15 (mk_ 30 0xf) ?_
         refine p_ 4 16 (mk_ 30 0x1f) ?_
         refine p_ 5 17 (mk_ 30 0x3f) ?_
         refine t_ 6 18 (mk_ 30 0x7f) hHeld ?_
         refine one_ (i := 7) (N := some 19) #[true, true, true, true, true, true, true, true, false, false, false, false, false, false, false, false, false, false, false, false, false, false, false, false, false, false, false, false, false, false] rfl rfl (one_of HT_.out (by kernel_rfl)) (by decide) (fun K hK => ?_)
         refine goes_ Tryz.func57 (by kernel_rfl) rfl #[.agg #[.int .i64 ((rd_T72 l0 x7_1).f1.f0), .slice A309_2 ((rd_T72 l0 x7_1).f1.f1).length c309_2]] (by rfl) rfl rfl zq28_2 ?_
         with_reducible refine (span_Right.calls k1 ((rd_T72 l0 x7_1).f1.f0) _ _ ((rd_T72 l0 x7_1).f1.f1) true _ ?side1 ?side2 A7.out).mono ?_
         (case side1 => repeat (first | exact (cB HR309_2.out HB.out) | (with_reducible refine Kd.C_alloc ?_ _) | (with_reducible refine Kd.C_drewN ?_ _) | (with_reducible refine Kd.C_drew ?_)))
         (case side2 => exact HC309_2.out)
         rintro e w16 ⟨rfl, hb⟩
         refine ⟨_, rfl, ?_⟩
         replace BK310 := aK (bB (g := gb310) (o := .cells #[.string ((rd_T72 l0 x7_1).f0), .int .i64 ((rd_T72 l0 x7_1).f1.f0), .slice A309_2 ((rd_T72 l0 x7_1).f1.f1).length c309_2] 72 (0, 0)) zq28_4 hb)
         replace HB := aK (bS zq28_1 hb)
         (try clear hb)
         (try clear hb2)
         (try clear hk)
         (try clear hi)
         refine hK.out _ _ ⟨(bC BK310.out 0).trans rfl, (bC BK310.out 1).trans rfl, (bC BK310.out 2).trans rfl⟩ (fun hHeld => ?_)
         clear hK K
         refine norm_ (a' := ?_) ?_ ?_
         rotate_left
         ·show Act.put _ (some 19) _ = _
          simp only [Act.put, lA, lB, lC, i64_w, i32_w]
          rfl
         refine p_ 8 20 (mk_ 30 0x1ff) ?_
         refine p_ 9 21 (mk_ 30 0x3ff) ?_
         refine p_ 10 22 (mk_ 30 0x7ff) ?_
         refine p_ 11 23 (mk_ 30 0xfff) ?_
         refine t_ 12 24 (mk_ 30 0x1fff) hHeld ?_
         refine one_ (i := 13) (N := some 25) #[true, true, true, true, true, true, true, true, true, true, true, true, true, true, false, false, false, false, false, false, false, false, false, false, false, false, false, false, false, false] rfl rfl (one_of HT_.out (by kernel_rfl)) (by decide) (fun K hK => ?_)
         refine goes_ Tryz.func55 (by kernel_rfl) rfl #[.agg #[.int .i64 ((rd_T72 l0 x7_1).f1.f0), .slice A309_2 ((rd_T72 l0 x7_1).f1.f1).length c309_2]] (by rfl) rfl rfl zq28_2 ?_
         with_reducible refine (span_Count.calls ((rd_T72 l0 x7_1).f1.f0) _ _ ((rd_T72 l0 x7_1).f1.f1) t313 _ ?side1 ?side2 A9.out).mono ?_
         (case side1 => repeat (first | exact (cB HR309_2.out HB.out) | (with_reducible refine Kd.C_alloc ?_ _) | (with_reducible refine Kd.C_drewN ?_ _) | (with_reducible refine Kd.C_drew ?_)))
         (case side2 => exact HC309_2.out)
         rintro e w17 ⟨rfl, hb⟩
         refine ⟨_, rfl, ?_⟩
         replace BK310 := aK (bB (g := gb310) (o := .cells #[.string ((rd_T72 l0 x7_1).f0), .int .i64 ((rd_T72 l0 x7_1).f1.f0), .slice A309_2 ((rd_T72 l0 x7_1).f1.f1).length c309_2] 72 (0, 0)) zq28_4 hb)
         replace HB := aK (bS zq28_1 hb)
         (try clear hb)
         (try clear hb2)
         (try clear hk)
         (try clear hi)
         refine hK.out _ _ ⟨(bC BK310.out 0).trans rfl, (bC BK310.out 1).trans rfl, (bC BK310.out 2).trans rfl⟩ (fun hHeld => ?_)
         clear hK K
         refine norm_ (a' := ?_) ?_ ?_
         rotate_left
         ·show Act.put _ (some 25) _ = _
          simp only [Act.put, lA, lB, lC, i64_w, i32_w]
          rfl
         refine p_ 14 26 (mk_ 30 0x7fff) ?_
         refine p_ 15 27 (mk_ 30 0xffff) ?_
         refine p_ 16 28 (mk_ 30 0x1ffff) ?_
         refine u_ 17 29 (mk_ 30 0x3ffff) ?_
         refine u_ 18 30 (mk_ 30 0x7ffff) ?_
         refine u_ 19 31 (mk_ 30 0xfffff) ?_
         refine u_ 20 32 (mk_ 30 0x1fffff) ?_
         refine u_ 21 33 (mk_ 30 0x3fffff) ?_
         refine u_ 22 34 (mk_ 30 0x7fffff) ?_
         refine u_ 23 35 (mk_ 30 0xffffff) ?_
         refine u_ 24 36 (mk_ 30 0x1ffffff) ?_
         refine u_ 25 37 (mk_ 30 0x3ffffff) ?_
         refine u_ 26 38 (mk_ 30 0x7ffffff) ?_
         refine u_ 27 39 (mk_ 30 0xfffffff) ?_
         refine u_ 28 40 (mk_ 30 0x1fffffff) ?_
         refine p_ 29 41 (mk_ 30 0x3fffffff) ?_
         refine done_ (done_of HT_.out (by kernel_rfl)) ?_
         try go_wp2
         go_ret
         exact ⟨by first | rfl | (simp [errW_none, errW_some] <;> rfl) | (simp [*, errW_none, errW_some] <;> rfl), by repeat (first | (with_reducible first | exact HB.out | apply bA | apply pB | apply bW | refine below_set ?_ GE310.out) | exact HB.out)⟩
        ·rw [if_neg c10] at H
         have c10b0 : (t313 == 0) = false := beq_eq_false_iff_ne.mpr c10
         have c10b1 : (t313 != 0) = true := bne_iff_ne.mpr c10
         by_cases c18 : x7_1 > 0
         ·rw [if_pos c18] at H
          have c18b0 : decide (0 < x7_1) = true := dT c18
          clear c18
          obtain ⟨ji19, hji19⟩ : ∃ j_ : Int, (wrap64 (x7_1 - 1)) = j_ := ⟨_, rfl⟩
          replace H : (if 0 ≤ (ji19) then (if (ji19) < (l0.length : Int) then ((know_order.f ((rd_T72 l0 (ji19)).f0) ((rd_T72 l0 (ji19)).f1.f0) ((rd_T72 l0 (ji19)).f1.f1) ((rd_T72 l0 x7_1).f0) ((rd_T72 l0 x7_1).f1.f0) ((rd_T72 l0 x7_1).f1.f1)).bind fun t315 => (if t315 ≥ 0 then (some false) else (know_Right.l0 k1 l0 l0 (l0.length : Int) (wrap64 (x7_1 + 1))))) else (none)) else (none)) = some r := by first | (rw [hji19] at H; exact H) | (simp only [hji19] at H ⊢; exact H)
          (try rw [hji19] at A5)
          (try rw [hji19] at A7)
          (try rw [hji19] at A9)
          have hji19w : (IntKind.i64.wrap (x7_1 - 1)) = ji19 := (i64_w _).trans hji19
          by_cases c20 : 0 ≤ (ji19)
          ·rw [if_pos c20] at H
           have c20b0 : decide (0 ≤ (ji19)) = true := dT c20
           clear c20
           by_cases c21 : (ji19) < (l0.length : Int)
           ·rw [if_pos c21] at H
            have c21b0 : decide ((ji19) < (l0.length : Int)) = true := dT c21
            clear c21
            replace H := bM H
            obtain ⟨t315, A220, H⟩ := H
            have A22 := aK A220
            clear A220
            by_cases c23 : t315 ≥ 0
            ·rw [if_pos c23] at H
             have c23b0 : decide (0 ≤ t315) = true := dT c23
             clear c23
             obtain rfl := sI H
             have p309 : 0 ≤ (x7_1 : Int) := oD zq28_5
             have q309 : x7_1 < (l0.length : Int) := oD zq28_5
             obtain ⟨ad309, A309_2, c309_2, e309, hx309_0, hx309_1, hx309_2, hl309_2, hi309_2⟩ := at_T72 HR0.out x7_1 p309 q309
             cases e309
             replace hx309_0 := pc_ HB hx309_0
             replace hx309_1 := pc_ HB hx309_1
             replace hx309_2 := pc_ HB hx309_2
             have HR309_2 := aK hi309_2
             have HC309_2 := aK hl309_2
             clear hi309_2 hl309_2
             replace p309 := eT p309
             replace q309 := eT q309
             try go_wp2_with (first | ((with_reducible refine gate_dst (N := 4) rfl ?_); refine box_event ?hg (N := 4) ?hd (cs := #[.string (⟨#[]⟩ : ByteArray), .int .i64 0, .slice none 0 0]) (t := 72) ?hr ?_; (case hd => rfl); (case hg => rfl); (case hr => first | (go_simp; done) | (go_simp; rfl)); intro gb310 hg w24 hbox hb; have BK310 := aK (hbox); have GW310 := aK ((zq28_0 : w.heap.size ≤ gb310)); have GE310 := aK ((zq28_0 : w.heap.size ≤ gb310)); replace HB := aK (bS zq28_3 hb); clear hb hbox hg; have hcz25_0 : w24.cell? ⟨gb310, 0, none⟩ = some (.string (⟨#[]⟩ : ByteArray)) := (bC BK310.out 0).trans rfl; have hcz25_1 : w24.cell? ⟨gb310, 1, none⟩ = some (.int .i64 0) := (bC BK310.out 1).trans rfl; have hcz25_2 : w24.cell? ⟨gb310, 2, none⟩ = some (.slice none 0 0) := (bC BK310.out 2).trans rfl; have hfz25_0 := bF_ BK310.out 0; have hfz25_1 := bF_ BK310.out 1; have hfz25_2 := bF_ BK310.out 2))
             have n0_ : Aside0 ((((w24.setCell ⟨gb310, 0, none⟩ (.string ((rd_T72 l0 x7_1).f0))).setCell ⟨gb310, 1, none⟩ (.int .i64 ((rd_T72 l0 x7_1).f1.f0))).setCell ⟨gb310, 2, none⟩ (.slice A309_2 ((rd_T72 l0 x7_1).f1.f1).length c309_2)).heap[gb310]? = some (.cells #[.string ((rd_T72 l0 x7_1).f0), .int .i64 ((rd_T72 l0 x7_1).f1.f0), .slice A309_2 ((rd_T72 l0 x7_1).f1.f1).length c309_2] 72 (0, 0))) := ⟨by (with_reducible repeat (first | refine blk_drewN ?_ _ | refine blk_drew ?_ | refine blk_alloc ?_ _)); refine blk_put (cs := #[.string ((rd_T72 l0 x7_1).f0), .int .i64 ((rd_T72 l0 x7_1).f1.f0), .slice none 0 0]) ?_ 2 _ rfl; (with_reducible repeat (first | refine blk_drewN ?_ _ | refine blk_drew ?_ | refine blk_alloc ?_ _)); refine blk_put (cs := #[.string ((rd_T72 l0 x7_1).f0), .int .i64 0, .slice none 0 0]) ?_ 1 _ rfl; (with_reducible repeat (first | refine blk_drewN ?_ _ | refine blk_drew ?_ | refine blk_alloc ?_ _)); refine blk_put (cs := #[.string (⟨#[]⟩ : ByteArray), .int .i64 0, .slice none 0 0]) ?_ 0 _ rfl; (with_reducible repeat (first | refine blk_drewN ?_ _ | refine blk_drew ?_ | refine blk_alloc ?_ _)); exact BK310.out⟩
             have n1_ : Aside0 (Below w.heap.size w (((w24.setCell ⟨gb310, 0, none⟩ (.string ((rd_T72 l0 x7_1).f0))).setCell ⟨gb310, 1, none⟩ (.int .i64 ((rd_T72 l0 x7_1).f1.f0))).setCell ⟨gb310, 2, none⟩ (.slice A309_2 ((rd_T72 l0 x7_1).f1.f1).length c309_2))) := ⟨by repeat (first | (with_reducible first | exact HB.out | apply bA | apply pB | apply bW | refine below_set ?_ GE310.out) | exact HB.out)⟩
             (try clear BK310)
             (try clear HB)
             generalize (((w24.setCell ⟨gb310, 0, none⟩ (.string ((rd_T72 l0 x7_1).f0))).setCell ⟨gb310, 1, none⟩ (.int .i64 ((rd_T72 l0 x7_1).f1.f0))).setCell ⟨gb310, 2, none⟩ (.slice A309_2 ((rd_T72 l0 x7_1).f1.f1).length c309_2)) = w26 at n0_ n1_ ⊢
             have BK310 := n0_
             have HB := n1_
             clear n0_ n1_
             replace BK310 := aK (blk_drew BK310.out)
             replace HB := aK (bW HB.out)
             have p314 : 0 ≤ ((ji19) : Int) := oD zq28_5
             have q314 : (ji19) < (l0.length : Int) := oD zq28_5
             obtain ⟨ad314, A314_2, c314_2, e314, hx314_0, hx314_1, hx314_2, hl314_2, hi314_2⟩ := at_T72 HR0.out (ji19) p314 q314
             have hw314_2 := hx314_2
             have hw314_1 := hx314_1
             have hw314_0 := hx314_0
             obtain rfl : ad309 = ad314 := (by injection e314)
             replace hx314_0 := pc_ HB hx314_0
             replace hx314_1 := pc_ HB hx314_1
             replace hx314_2 := pc_ HB hx314_2
             have HR314_2 := aK hi314_2
             have HC314_2 := aK hl314_2
             clear hi314_2 hl314_2
             replace p314 := eT p314
             replace q314 := eT q314
             refine start_ (n := 30) (S := fun w' => w'.cell? ⟨gb310, 0, none⟩ = some (.string ((rd_T72 l0 x7_1).f0)) ∧ w'.cell? ⟨gb310, 1, none⟩ = some (.int .i64 ((rd_T72 l0 x7_1).f1.f0)) ∧ w'.cell? ⟨gb310, 2, none⟩ = some (.slice A309_2 ((rd_T72 l0 x7_1).f1.f1).length c309_2) ∧ w'.cell? (ad309.add (((ji19)).toNat * 3)) = some (.string ((rd_T72 l0 (ji19)).f0)) ∧ w'.cell? ⟨(ad309.add (((ji19)).toNat * 3)).block, (ad309.add (((ji19)).toNat * 3)).off + 1, none⟩ = some (.int .i64 ((rd_T72 l0 (ji19)).f1.f0)) ∧ w'.cell? ⟨(ad309.add (((ji19)).toNat * 3)).block, (ad309.add (((ji19)).toNat * 3)).off + 2, none⟩ = some (.slice A314_2 ((rd_T72 l0 (ji19)).f1.f1).length c314_2)) (ds := []) #[false, false, false, false, false, false, false, false, false, false, false, false, false, false, false, false, false, false, false, false, false, false, false, false, false, false, false, false, false, false] (by kernel_rfl) rfl rfl ⟨(bC BK310.out 0).trans rfl, (bC BK310.out 1).trans rfl, (bC BK310.out 2).trans rfl, (pc_ HB hw314_0), (pc_ HB hw314_1), (pc_ HB hw314_2)⟩ (fun hHeld => ?_); refine with_tabW know_Right.tab4 know_Right.bits4 (fun HT_ HW_ => ?_)
             generalize w26.drew = w27 at BK310 HB HR314_2 hx314_0 hx314_1 hx314_2 hHeld ⊢
             refine p_ 0 12 (mk_ 30 0x1) ?_
             refine t_ 1 13 (mk_ 30 0x3) hHeld ?_
             refine one_ (i := 2) (N := some 14) #[true, true, true, false, false, false, false, false, false, false, false, false, false, false, false, false, false, false, false, false, false, false, false, false, false, false, false, false, false, false] rfl rfl (one_of HT_.out (by kernel_rfl)) (by decide) (fun K hK => ?_)
             refine goes_ Tryz.func56 (by kernel_rfl) rfl #[.string ((rd_T72 l0 x7_1).f0)] (by rfl) rfl rfl zq28_2 ?_
             with_reducible refine (id_Right.calls ((rd_T72 l0 x7_1).f0) true _ A5.out).mono ?_
             rintro e w28 ⟨rfl, hb⟩
             refine ⟨_, rfl, ?_⟩
             replace BK310 := aK (bB (g := gb310) (o := .cells #[.string ((rd_T72 l0 x7_1).f0), .int .i64 ((rd_T72 l0 x7_1).f1.f0), .slice A309_2 ((rd_T72 l0 x7_1).f1.f1).length c309_2] 72 (0, 0)) zq28_4 hb)
             replace HB := aK (bS zq28_1 hb)
             (try clear hb)
             (try clear hb2)
             (try clear hk)
             (try clear hi)
             refine hK.out _ _ ⟨(bC BK310.out 0).trans rfl, (bC BK310.out 1).trans rfl, (bC BK310.out 2).trans rfl, (pc_ HB hw314_0), (pc_ HB hw314_1), (pc_ HB hw314_2)⟩ (fun hHeld => ?_)
             clear hK K
             refine norm_ (a' := ?_) ?_ ?_
             rotate_left
             ·show Act.put _ (some 14) _ = _
              simp only [Act.put, lA, lB, lC, i64_w, i32_w]
              rfl
             refine p_ 3 15 (mk_ 30 0xf) ?_
             refine p_ 4 16 (mk_ 30 0x1f) ?_
             refine p_ 5 17 (mk_ 30 0x3f) ?_
             refine t_ 6 18 (mk_ 30 0x7f) hHeld ?_
             refine one_ (i := 7) (N := some 19) #[true, true, true, true, true, true, true, true, false, false, false, false, false, false, false, false, false, false, false, false, false, false, false, false, false, false, false, false, false, false] rfl rfl (one_of HT_.out (by kernel_rfl)) (by decide) (fun K hK => ?_)
             refine goes_ Tryz.func57 (by kernel_rfl) rfl #[.agg #[.int .i64 ((rd_T72 l0 x7_1).f1.f0), .slice A309_2 ((rd_T72 l0 x7_1).f1.f1).length c309_2]] (by rfl) rfl rfl zq28_2 ?_
             with_reducible refine (span_Right.calls k1 ((rd_T72 l0 x7_1).f1.f0) _ _ ((rd_T72 l0 x7_1).f1.f1) true _ ?side1 ?side2 A7.out).mono ?_
             (case side1 => repeat (first | exact (cB HR309_2.out HB.out) | (with_reducible refine Kd.C_alloc ?_ _) | (with_reducible refine Kd.C_drewN ?_ _) | (with_reducible refine Kd.C_drew ?_)))
             (case side2 => exact HC309_2.out)
             rintro e w29 ⟨rfl, hb⟩
             refine ⟨_, rfl, ?_⟩
             replace BK310 := aK (bB (g := gb310) (o := .cells #[.string ((rd_T72 l0 x7_1).f0), .int .i64 ((rd_T72 l0 x7_1).f1.f0), .slice A309_2 ((rd_T72 l0 x7_1).f1.f1).length c309_2] 72 (0, 0)) zq28_4 hb)
             replace HB := aK (bS zq28_1 hb)
             (try clear hb)
             (try clear hb2)
             (try clear hk)
             (try clear hi)
             refine hK.out _ _ ⟨(bC BK310.out 0).trans rfl, (bC BK310.out 1).trans rfl, (bC BK310.out 2).trans rfl, (pc_ HB hw314_0), (pc_ HB hw314_1), (pc_ HB hw314_2)⟩ (fun hHeld => ?_)
             clear hK K
             refine norm_ (a' := ?_) ?_ ?_
             rotate_left
             ·show Act.put _ (some 19) _ = _
              simp only [Act.put, lA, lB, lC, i64_w, i32_w]
              rfl
             refine p_ 8 20 (mk_ 30 0x1ff) ?_
             refine p_ 9 21 (mk_ 30 0x3ff) ?_
             refine p_ 10 22 (mk_ 30 0x7ff) ?_
             refine p_ 11 23 (mk_ 30 0xfff) ?_
             refine t_ 12 24 (mk_ 30 0x1fff) hHeld ?_
             refine one_ (i := 13) (N := some 25) #[true, true, true, true, true, true, true, true, true, true, true, true, true, true, false, false, false, false, false, false, false, false, false, false, false, false, false, false, false, false] rfl rfl (one_of HT_.out (by kernel_rfl)) (by decide) (fun K hK => ?_)
             refine goes_ Tryz.func55 (by kernel_rfl) rfl #[.agg #[.int .i64 ((rd_T72 l0 x7_1).f1.f0), .slice A309_2 ((rd_T72 l0 x7_1).f1.f1).length c309_2]] (by rfl) rfl rfl zq28_2 ?_
             with_reducible refine (span_Count.calls ((rd_T72 l0 x7_1).f1.f0) _ _ ((rd_T72 l0 x7_1).f1.f1) t313 _ ?side1 ?side2 A9.out).mono ?_
             (case side1 => repeat (first | exact (cB HR309_2.out HB.out) | (with_reducible refine Kd.C_alloc ?_ _) | (with_reducible refine Kd.C_drewN ?_ _) | (with_reducible refine Kd.C_drew ?_)))
             (case side2 => exact HC309_2.out)
             rintro e w30 ⟨rfl, hb⟩
             refine ⟨_, rfl, ?_⟩
             replace BK310 := aK (bB (g := gb310) (o := .cells #[.string ((rd_T72 l0 x7_1).f0), .int .i64 ((rd_T72 l0 x7_1).f1.f0), .slice A309_2 ((rd_T72 l0 x7_1).f1.f1).length c309_2] 72 (0, 0)) zq28_4 hb)
             replace HB := aK (bS zq28_1 hb)
             (try clear hb)
             (try clear hb2)
             (try clear hk)
             (try clear hi)
             refine hK.out _ _ ⟨(bC BK310.out 0).trans rfl, (bC BK310.out 1).trans rfl, (bC BK310.out 2).trans rfl, (pc_ HB hw314_0), (pc_ HB hw314_1), (pc_ HB hw314_2)⟩ (fun hHeld => ?_)
             clear hK K
             refine norm_ (a' := ?_) ?_ ?_
             rotate_left
             ·show Act.put _ (some 25) _ = _
              simp only [Act.put, lA, lB, lC, i64_w, i32_w]
              rfl
             refine p_ 14 26 (mk_ 30 0x7fff) ?_
             refine p_ 15 27 (mk_ 30 0xffff) ?_
             refine p_ 16 28 (mk_ 30 0x1ffff) ?_
             refine p_ 17 29 (mk_ 30 0x3ffff) ?_
             refine p_ 18 30 (mk_ 30 0x7ffff) ?_
             refine p_ 19 31 (mk_ 30 0xfffff) ?_
             refine p_ 20 32 (mk_ 30 0x1fffff) ?_
             refine p_ 21 33 (mk_ 30 0x3fffff) ?_
             refine p_ 22 34 (mk_ 30 0x7fffff) ?_
             refine p_ 23 35 (mk_ 30 0xffffff) ?_
             refine t_ 24 36 (mk_ 30 0x1ffffff) hHeld ?_
             refine t_ 25 37 (mk_ 30 0x3ffffff) hHeld ?_
             refine one_ (i := 26) (N := some 38) #[true, true, true, true, true, true, true, true, true, true, true, true, true, true, true, true, true, true, true, true, true, true, true, true, true, true, true, false, false, false] rfl rfl (one_of HT_.out (by kernel_rfl)) (by decide) (fun K hK => ?_)
             refine goes_ Tryz.func58 (by kernel_rfl) rfl #[.agg #[.string ((rd_T72 l0 (ji19)).f0), .int .i64 ((rd_T72 l0 (ji19)).f1.f0), .slice A314_2 ((rd_T72 l0 (ji19)).f1.f1).length c314_2], .agg #[.string ((rd_T72 l0 x7_1).f0), .int .i64 ((rd_T72 l0 x7_1).f1.f0), .slice A309_2 ((rd_T72 l0 x7_1).f1.f1).length c309_2]] (by rfl) rfl rfl (by (try simp only [List.map_toArray, List.map_cons, List.map_nil]); first | done | (simp only [hji19]; rfl) | rfl | (simp only [List.length_drop, List.length_take]; rfl)) ?_
             with_reducible refine (know_order.calls ((rd_T72 l0 (ji19)).f0) ((rd_T72 l0 (ji19)).f1.f0) _ _ ((rd_T72 l0 (ji19)).f1.f1) ((rd_T72 l0 x7_1).f0) ((rd_T72 l0 x7_1).f1.f0) _ _ ((rd_T72 l0 x7_1).f1.f1) t315 _ ?side1 ?side2 ?side3 ?side4 A22.out).mono ?_
             (case side1 => repeat (first | exact (cB HR314_2.out HB.out) | (with_reducible refine Kd.C_alloc ?_ _) | (with_reducible refine Kd.C_drewN ?_ _) | (with_reducible refine Kd.C_drew ?_)))
             (case side2 => exact HC314_2.out)
             (case side3 => repeat (first | exact (cB HR309_2.out HB.out) | (with_reducible refine Kd.C_alloc ?_ _) | (with_reducible refine Kd.C_drewN ?_ _) | (with_reducible refine Kd.C_drew ?_)))
             (case side4 => exact HC309_2.out)
             rintro e w31 ⟨rfl, hb⟩
             refine ⟨_, rfl, ?_⟩
             replace BK310 := aK (bB (g := gb310) (o := .cells #[.string ((rd_T72 l0 x7_1).f0), .int .i64 ((rd_T72 l0 x7_1).f1.f0), .slice A309_2 ((rd_T72 l0 x7_1).f1.f1).length c309_2] 72 (0, 0)) zq28_4 hb)
             replace HB := aK (bS zq28_1 hb)
             (try clear hb)
             (try clear hb2)
             (try clear hk)
             (try clear hi)
             refine hK.out _ _ ⟨(bC BK310.out 0).trans rfl, (bC BK310.out 1).trans rfl, (bC BK310.out 2).trans rfl, (pc_ HB hw314_0), (pc_ HB hw314_1), (pc_ HB hw314_2)⟩ (fun hHeld => ?_)
             clear hK K
             refine norm_ (a' := ?_) ?_ ?_
             rotate_left
             ·show Act.put _ (some 38) _ = _
              simp only [Act.put, lA, lB, lC, i64_w, i32_w]
              rfl
             refine p_ 27 39 (mk_ 30 0xfffffff) ?_
             refine p_ 28 40 (mk_ 30 0x1fffffff) ?_
             refine p_ 29 41 (mk_ 30 0x3fffffff) ?_
             refine done_ (done_of HT_.out (by kernel_rfl)) ?_
             try go_wp2
             go_ret
             exact ⟨by first | rfl | (simp [errW_none, errW_some] <;> rfl) | (simp only [← hji19]; first | rfl | (simp [errW_none, errW_some] <;> rfl)) | (simp [*, errW_none, errW_some] <;> rfl), by repeat (first | (with_reducible first | exact HB.out | apply bA | apply pB | apply bW | refine below_set ?_ GE310.out) | exact HB.out)⟩
            ·rw [if_neg c23] at H
             have c23b0 : decide (0 ≤ t315) = false := decide_eq_false c23
             clear c23
             have H' := aK H
             clear H
             have p309 : 0 ≤ (x7_1 : Int) := oD zq28_5
             have q309 : x7_1 < (l0.length : Int) := oD zq28_5
             obtain ⟨ad309, A309_2, c309_2, e309, hx309_0, hx309_1, hx309_2, hl309_2, hi309_2⟩ := at_T72 HR0.out x7_1 p309 q309
             cases e309
             replace hx309_0 := pc_ HB hx309_0
             replace hx309_1 := pc_ HB hx309_1
             replace hx309_2 := pc_ HB hx309_2
             have HR309_2 := aK hi309_2
             have HC309_2 := aK hl309_2
             clear hi309_2 hl309_2
             replace p309 := eT p309
             replace q309 := eT q309
             try go_wp2_with (first | ((with_reducible refine gate_dst (N := 4) rfl ?_); refine box_event ?hg (N := 4) ?hd (cs := #[.string (⟨#[]⟩ : ByteArray), .int .i64 0, .slice none 0 0]) (t := 72) ?hr ?_; (case hd => rfl); (case hg => rfl); (case hr => first | (go_simp; done) | (go_simp; rfl)); intro gb310 hg w32 hbox hb; have BK310 := aK (hbox); have GW310 := aK ((zq28_0 : w.heap.size ≤ gb310)); have GE310 := aK ((zq28_0 : w.heap.size ≤ gb310)); replace HB := aK (bS zq28_3 hb); clear hb hbox hg; have hcz33_0 : w32.cell? ⟨gb310, 0, none⟩ = some (.string (⟨#[]⟩ : ByteArray)) := (bC BK310.out 0).trans rfl; have hcz33_1 : w32.cell? ⟨gb310, 1, none⟩ = some (.int .i64 0) := (bC BK310.out 1).trans rfl; have hcz33_2 : w32.cell? ⟨gb310, 2, none⟩ = some (.slice none 0 0) := (bC BK310.out 2).trans rfl; have hfz33_0 := bF_ BK310.out 0; have hfz33_1 := bF_ BK310.out 1; have hfz33_2 := bF_ BK310.out 2))
             have n0_ : Aside0 ((((w32.setCell ⟨gb310, 0, none⟩ (.string ((rd_T72 l0 x7_1).f0))).setCell ⟨gb310, 1, none⟩ (.int .i64 ((rd_T72 l0 x7_1).f1.f0))).setCell ⟨gb310, 2, none⟩ (.slice A309_2 ((rd_T72 l0 x7_1).f1.f1).length c309_2)).heap[gb310]? = some (.cells #[.string ((rd_T72 l0 x7_1).f0), .int .i64 ((rd_T72 l0 x7_1).f1.f0), .slice A309_2 ((rd_T72 l0 x7_1).f1.f1).length c309_2] 72 (0, 0))) := ⟨by (with_reducible repeat (first | refine blk_drewN ?_ _ | refine blk_drew ?_ | refine blk_alloc ?_ _)); refine blk_put (cs := #[.string ((rd_T72 l0 x7_1).f0), .int .i64 ((rd_T72 l0 x7_1).f1.f0), .slice none 0 0]) ?_ 2 _ rfl; (with_reducible repeat (first | refine blk_drewN ?_ _ | refine blk_drew ?_ | refine blk_alloc ?_ _)); refine blk_put (cs := #[.string ((rd_T72 l0 x7_1).f0), .int .i64 0, .slice none 0 0]) ?_ 1 _ rfl; (with_reducible repeat (first | refine blk_drewN ?_ _ | refine blk_drew ?_ | refine blk_alloc ?_ _)); refine blk_put (cs := #[.string (⟨#[]⟩ : ByteArray), .int .i64 0, .slice none 0 0]) ?_ 0 _ rfl; (with_reducible repeat (first | refine blk_drewN ?_ _ | refine blk_drew ?_ | refine blk_alloc ?_ _)); exact BK310.out⟩
             have n1_ : Aside0 (Below w.heap.size w (((w32.setCell ⟨gb310, 0, none⟩ (.string ((rd_T72 l0 x7_1).f0))).setCell ⟨gb310, 1, none⟩ (.int .i64 ((rd_T72 l0 x7_1).f1.f0))).setCell ⟨gb310, 2, none⟩ (.slice A309_2 ((rd_T72 l0 x7_1).f1.f1).length c309_2))) := ⟨by repeat (first | (with_reducible first | exact HB.out | apply bA | apply pB | apply bW | refine below_set ?_ GE310.out) | exact HB.out)⟩
             (try clear BK310)
             (try clear HB)
             generalize (((w32.setCell ⟨gb310, 0, none⟩ (.string ((rd_T72 l0 x7_1).f0))).setCell ⟨gb310, 1, none⟩ (.int .i64 ((rd_T72 l0 x7_1).f1.f0))).setCell ⟨gb310, 2, none⟩ (.slice A309_2 ((rd_T72 l0 x7_1).f1.f1).length c309_2)) = w34 at n0_ n1_ ⊢
             have BK310 := n0_
             have HB := n1_
             clear n0_ n1_
             replace BK310 := aK (blk_drew BK310.out)
             replace HB := aK (bW HB.out)
             have p314 : 0 ≤ ((ji19) : Int) := oD zq28_5
             have q314 : (ji19) < (l0.length : Int) := oD zq28_5
             obtain ⟨ad314, A314_2, c314_2, e314, hx314_0, hx314_1, hx314_2, hl314_2, hi314_2⟩ := at_T72 HR0.out (ji19) p314 q314
             have hw314_2 := hx314_2
             have hw314_1 := hx314_1
             have hw314_0 := hx314_0
             obtain rfl : ad309 = ad314 := (by injection e314)
             replace hx314_0 := pc_ HB hx314_0
             replace hx314_1 := pc_ HB hx314_1
             replace hx314_2 := pc_ HB hx314_2
             have HR314_2 := aK hi314_2
             have HC314_2 := aK hl314_2
             clear hi314_2 hl314_2
             replace p314 := eT p314
             replace q314 := eT q314
             refine start_ (n := 30) (S := fun w' => w'.cell? ⟨gb310, 0, none⟩ = some (.string ((rd_T72 l0 x7_1).f0)) ∧ w'.cell? ⟨gb310, 1, none⟩ = some (.int .i64 ((rd_T72 l0 x7_1).f1.f0)) ∧ w'.cell? ⟨gb310, 2, none⟩ = some (.slice A309_2 ((rd_T72 l0 x7_1).f1.f1).length c309_2) ∧ w'.cell? (ad309.add (((ji19)).toNat * 3)) = some (.string ((rd_T72 l0 (ji19)).f0)) ∧ w'.cell? ⟨(ad309.add (((ji19)).toNat * 3)).block, (ad309.add (((ji19)).toNat * 3)).off + 1, none⟩ = some (.int .i64 ((rd_T72 l0 (ji19)).f1.f0)) ∧ w'.cell? ⟨(ad309.add (((ji19)).toNat * 3)).block, (ad309.add (((ji19)).toNat * 3)).off + 2, none⟩ = some (.slice A314_2 ((rd_T72 l0 (ji19)).f1.f1).length c314_2)) (ds := []) #[false, false, false, false, false, false, false, false, false, false, false, false, false, false, false, false, false, false, false, false, false, false, false, false, false, false, false, false, false, false] (by kernel_rfl) rfl rfl ⟨(bC BK310.out 0).trans rfl, (bC BK310.out 1).trans rfl, (bC BK310.out 2).trans rfl, (pc_ HB hw314_0), (pc_ HB hw314_1), (pc_ HB hw314_2)⟩ (fun hHeld => ?_); refine with_tabW know_Right.tab4 know_Right.bits4 (fun HT_ HW_ => ?_)
             generalize w34.drew = w35 at BK310 HB HR314_2 hx314_0 hx314_1 hx314_2 hHeld ⊢
             refine p_ 0 12 (mk_ 30 0x1) ?_
             refine t_ 1 13 (mk_ 30 0x3) hHeld ?_
             refine one_ (i := 2) (N := some 14) #[true, true, true, false, false, false, false, false, false, false, false, false, false, false, false, false, false, false, false, false, false, false, false, false, false, false, false, false, false, false] rfl rfl (one_of HT_.out (by kernel_rfl)) (by decide) (fun K hK => ?_)
             refine goes_ Tryz.func56 (by kernel_rfl) rfl #[.string ((rd_T72 l0 x7_1).f0)] (by rfl) rfl rfl zq28_2 ?_
             with_reducible refine (id_Right.calls ((rd_T72 l0 x7_1).f0) true _ A5.out).mono ?_
             rintro e w36 ⟨rfl, hb⟩
             refine ⟨_, rfl, ?_⟩
             replace BK310 := aK (bB (g := gb310) (o := .cells #[.string ((rd_T72 l0 x7_1).f0), .int .i64 ((rd_T72 l0 x7_1).f1.f0), .slice A309_2 ((rd_T72 l0 x7_1).f1.f1).length c309_2] 72 (0, 0)) zq28_4 hb)
             replace HB := aK (bS zq28_1 hb)
             (try clear hb)
             (try clear hb2)
             (try clear hk)
             (try clear hi)
             refine hK.out _ _ ⟨(bC BK310.out 0).trans rfl, (bC BK310.out 1).trans rfl, (bC BK310.out 2).trans rfl, (pc_ HB hw314_0), (pc_ HB hw314_1), (pc_ HB hw314_2)⟩ (fun hHeld => ?_)
             clear hK K
             refine norm_ (a' := ?_) ?_ ?_
             rotate_left
             ·show Act.put _ (some 14) _ = _
              simp only [Act.put, lA, lB, lC, i64_w, i32_w]
              rfl
             refine p_ 3 15 (mk_ 30 0xf) ?_
             refine p_ 4 16 (mk_ 30 0x1f) ?_
             refine p_ 5 17 (mk_ 30 0x3f) ?_
             refine t_ 6 18 (mk_ 30 0x7f) hHeld ?_
             refine one_ (i := 7) (N := some 19) #[true, true, true, true, true, true, true, true, false, false, false, false, false, false, false, false, false, false, false, false, false, false, false, false, false, false, false, false, false, false] rfl rfl (one_of HT_.out (by kernel_rfl)) (by decide) (fun K hK => ?_)
             refine goes_ Tryz.func57 (by kernel_rfl) rfl #[.agg #[.int .i64 ((rd_T72 l0 x7_1).f1.f0), .slice A309_2 ((rd_T72 l0 x7_1).f1.f1).length c309_2]] (by rfl) rfl rfl zq28_2 ?_
             with_reducible refine (span_Right.calls k1 ((rd_T72 l0 x7_1).f1.f0) _ _ ((rd_T72 l0 x7_1).f1.f1) true _ ?side1 ?side2 A7.out).mono ?_
             (case side1 => repeat (first | exact (cB HR309_2.out HB.out) | (with_reducible refine Kd.C_alloc ?_ _) | (with_reducible refine Kd.C_drewN ?_ _) | (with_reducible refine Kd.C_drew ?_)))
             (case side2 => exact HC309_2.out)
             rintro e w37 ⟨rfl, hb⟩
             refine ⟨_, rfl, ?_⟩
             replace BK310 := aK (bB (g := gb310) (o := .cells #[.string ((rd_T72 l0 x7_1).f0), .int .i64 ((rd_T72 l0 x7_1).f1.f0), .slice A309_2 ((rd_T72 l0 x7_1).f1.f1).length c309_2] 72 (0, 0)) zq28_4 hb)
             replace HB := aK (bS zq28_1 hb)
             (try clear hb)
             (try clear hb2)
             (try clear hk)
             (try clear hi)
             refine hK.out _ _ ⟨(bC BK310.out 0).trans rfl, (bC BK310.out 1).trans rfl, (bC BK310.out 2).trans rfl, (pc_ HB hw314_0), (pc_ HB hw314_1), (pc_ HB hw314_2)⟩ (fun hHeld => ?_)
             clear hK K
             refine norm_ (a' := ?_) ?_ ?_
             rotate_left
             ·show Act.put _ (some 19) _ = _
              simp only [Act.put, lA, lB, lC, i64_w, i32_w]
              rfl
             refine p_ 8 20 (mk_ 30 0x1ff) ?_
             refine p_ 9 21 (mk_ 30 0x3ff) ?_
             refine p_ 10 22 (mk_ 30 0x7ff) ?_
             refine p_ 11 23 (mk_ 30 0xfff) ?_
             refine t_ 12 24 (mk_ 30 0x1fff) hHeld ?_
             refine one_ (i := 13) (N := some 25) #[true, true, true, true, true, true, true, true, true, true, true, true, true, true, false, false, false, false, false, false, false, false, false, false, false, false, false, false, false, false] rfl rfl (one_of HT_.out (by kernel_rfl)) (by decide) (fun K hK => ?_)
             refine goes_ Tryz.func55 (by kernel_rfl) rfl #[.agg #[.int .i64 ((rd_T72 l0 x7_1).f1.f0), .slice A309_2 ((rd_T72 l0 x7_1).f1.f1).length c309_2]] (by rfl) rfl rfl zq28_2 ?_
             with_reducible refine (span_Count.calls ((rd_T72 l0 x7_1).f1.f0) _ _ ((rd_T72 l0 x7_1).f1.f1) t313 _ ?side1 ?side2 A9.out).mono ?_
             (case side1 => repeat (first | exact (cB HR309_2.out HB.out) | (with_reducible refine Kd.C_alloc ?_ _) | (with_reducible refine Kd.C_drewN ?_ _) | (with_reducible refine Kd.C_drew ?_)))
             (case side2 => exact HC309_2.out)
             rintro e w38 ⟨rfl, hb⟩
             refine ⟨_, rfl, ?_⟩
             replace BK310 := aK (bB (g := gb310) (o := .cells #[.string ((rd_T72 l0 x7_1).f0), .int .i64 ((rd_T72 l0 x7_1).f1.f0), .slice A309_2 ((rd_T72 l0 x7_1).f1.f1).length c309_2] 72 (0, 0)) zq28_4 hb)
             replace HB := aK (bS zq28_1 hb)
             (try clear hb)
             (try clear hb2)
             (try clear hk)
             (try clear hi)
             refine hK.out _ _ ⟨(bC BK310.out 0).trans rfl, (bC BK310.out 1).trans rfl, (bC BK310.out 2).trans rfl, (pc_ HB hw314_0), (pc_ HB hw314_1), (pc_ HB hw314_2)⟩ (fun hHeld => ?_)
             clear hK K
             refine norm_ (a' := ?_) ?_ ?_
             rotate_left
             ·show Act.put _ (some 25) _ = _
              simp only [Act.put, lA, lB, lC, i64_w, i32_w]
              rfl
             refine p_ 14 26 (mk_ 30 0x7fff) ?_
             refine p_ 15 27 (mk_ 30 0xffff) ?_
             refine p_ 16 28 (mk_ 30 0x1ffff) ?_
             refine p_ 17 29 (mk_ 30 0x3ffff) ?_
             refine p_ 18 30 (mk_ 30 0x7ffff) ?_
             refine p_ 19 31 (mk_ 30 0xfffff) ?_
             refine p_ 20 32 (mk_ 30 0x1fffff) ?_
             refine p_ 21 33 (mk_ 30 0x3fffff) ?_
             refine p_ 22 34 (mk_ 30 0x7fffff) ?_
             refine p_ 23 35 (mk_ 30 0xffffff) ?_
             refine t_ 24 36 (mk_ 30 0x1ffffff) hHeld ?_
             refine t_ 25 37 (mk_ 30 0x3ffffff) hHeld ?_
             refine one_ (i := 26) (N := some 38) #[true, true, true, true, true, true, true, true, true, true, true, true, true, true, true, true, true, true, true, true, true, true, true, true, true, true, true, false, false, false] rfl rfl (one_of HT_.out (by kernel_rfl)) (by decide) (fun K hK => ?_)
             refine goes_ Tryz.func58 (by kernel_rfl) rfl #[.agg #[.string ((rd_T72 l0 (ji19)).f0), .int .i64 ((rd_T72 l0 (ji19)).f1.f0), .slice A314_2 ((rd_T72 l0 (ji19)).f1.f1).length c314_2], .agg #[.string ((rd_T72 l0 x7_1).f0), .int .i64 ((rd_T72 l0 x7_1).f1.f0), .slice A309_2 ((rd_T72 l0 x7_1).f1.f1).length c309_2]] (by rfl) rfl rfl (by (try simp only [List.map_toArray, List.map_cons, List.map_nil]); first | done | (simp only [hji19]; rfl) | rfl | (simp only [List.length_drop, List.length_take]; rfl)) ?_
             with_reducible refine (know_order.calls ((rd_T72 l0 (ji19)).f0) ((rd_T72 l0 (ji19)).f1.f0) _ _ ((rd_T72 l0 (ji19)).f1.f1) ((rd_T72 l0 x7_1).f0) ((rd_T72 l0 x7_1).f1.f0) _ _ ((rd_T72 l0 x7_1).f1.f1) t315 _ ?side1 ?side2 ?side3 ?side4 A22.out).mono ?_
             (case side1 => repeat (first | exact (cB HR314_2.out HB.out) | (with_reducible refine Kd.C_alloc ?_ _) | (with_reducible refine Kd.C_drewN ?_ _) | (with_reducible refine Kd.C_drew ?_)))
             (case side2 => exact HC314_2.out)
             (case side3 => repeat (first | exact (cB HR309_2.out HB.out) | (with_reducible refine Kd.C_alloc ?_ _) | (with_reducible refine Kd.C_drewN ?_ _) | (with_reducible refine Kd.C_drew ?_)))
             (case side4 => exact HC309_2.out)
             rintro e w39 ⟨rfl, hb⟩
             refine ⟨_, rfl, ?_⟩
             replace BK310 := aK (bB (g := gb310) (o := .cells #[.string ((rd_T72 l0 x7_1).f0), .int .i64 ((rd_T72 l0 x7_1).f1.f0), .slice A309_2 ((rd_T72 l0 x7_1).f1.f1).length c309_2] 72 (0, 0)) zq28_4 hb)
             replace HB := aK (bS zq28_1 hb)
             (try clear hb)
             (try clear hb2)
             (try clear hk)
             (try clear hi)
             refine hK.out _ _ ⟨(bC BK310.out 0).trans rfl, (bC BK310.out 1).trans rfl, (bC BK310.out 2).trans rfl, (pc_ HB hw314_0), (pc_ HB hw314_1), (pc_ HB hw314_2)⟩ (fun hHeld => ?_)
             clear hK K
             refine norm_ (a' := ?_) ?_ ?_
             rotate_left
             ·show Act.put _ (some 38) _ = _
              simp only [Act.put, lA, lB, lC, i64_w, i32_w]
              rfl
             refine p_ 27 39 (mk_ 30 0xfffffff) ?_
             refine p_ 28 40 (mk_ 30 0x1fffffff) ?_
             refine p_ 29 41 (mk_ 30 0x3fffffff) ?_
             refine done_ (done_of HT_.out (by kernel_rfl)) ?_
             try go_wp2
             go_roundg k1
             case measure => have := HK1.out; omega
             case rel => exact ⟨(wrap64 (x7_1 + 1)), zq28_6, H', ⟨by have := HK1.out; omega⟩, ⟨by repeat (first | (with_reducible first | exact HB.out | apply bA | apply pB | apply bW | refine below_set ?_ GE310.out) | exact HB.out)⟩⟩
           ·rw [if_neg c21] at H
            exact absurd H (by simp)
          ·rw [if_neg c20] at H
           exact absurd H (by simp)
         ·rw [if_neg c18] at H
          have c18b0 : decide (0 < x7_1) = false := decide_eq_false c18
          clear c18
          have H' := aK H
          clear H
          have p309 : 0 ≤ (x7_1 : Int) := oD zq28_5
          have q309 : x7_1 < (l0.length : Int) := oD zq28_5
          obtain ⟨ad309, A309_2, c309_2, e309, hx309_0, hx309_1, hx309_2, hl309_2, hi309_2⟩ := at_T72 HR0.out x7_1 p309 q309
          cases e309
          replace hx309_0 := pc_ HB hx309_0
          replace hx309_1 := pc_ HB hx309_1
          replace hx309_2 := pc_ HB hx309_2
          have HR309_2 := aK hi309_2
          have HC309_2 := aK hl309_2
          clear hi309_2 hl309_2
          replace p309 := eT p309
          replace q309 := eT q309
          try go_wp2_with (first | ((with_reducible refine gate_dst (N := 4) rfl ?_); refine box_event ?hg (N := 4) ?hd (cs := #[.string (⟨#[]⟩ : ByteArray), .int .i64 0, .slice none 0 0]) (t := 72) ?hr ?_; (case hd => rfl); (case hg => rfl); (case hr => first | (go_simp; done) | (go_simp; rfl)); intro gb310 hg w40 hbox hb; have BK310 := aK (hbox); have GW310 := aK ((zq28_0 : w.heap.size ≤ gb310)); have GE310 := aK ((zq28_0 : w.heap.size ≤ gb310)); replace HB := aK (bS zq28_3 hb); clear hb hbox hg; have hcz41_0 : w40.cell? ⟨gb310, 0, none⟩ = some (.string (⟨#[]⟩ : ByteArray)) := (bC BK310.out 0).trans rfl; have hcz41_1 : w40.cell? ⟨gb310, 1, none⟩ = some (.int .i64 0) := (bC BK310.out 1).trans rfl; have hcz41_2 : w40.cell? ⟨gb310, 2, none⟩ = some (.slice none 0 0) := (bC BK310.out 2).trans rfl; have hfz41_0 := bF_ BK310.out 0; have hfz41_1 := bF_ BK310.out 1; have hfz41_2 := bF_ BK310.out 2))
          have n0_ : Aside0 ((((w40.setCell ⟨gb310, 0, none⟩ (.string ((rd_T72 l0 x7_1).f0))).setCell ⟨gb310, 1, none⟩ (.int .i64 ((rd_T72 l0 x7_1).f1.f0))).setCell ⟨gb310, 2, none⟩ (.slice A309_2 ((rd_T72 l0 x7_1).f1.f1).length c309_2)).heap[gb310]? = some (.cells #[.string ((rd_T72 l0 x7_1).f0), .int .i64 ((rd_T72 l0 x7_1).f1.f0), .slice A309_2 ((rd_T72 l0 x7_1).f1.f1).length c309_2] 72 (0, 0))) := ⟨by (with_reducible repeat (first | refine blk_drewN ?_ _ | refine blk_drew ?_ | refine blk_alloc ?_ _)); refine blk_put (cs := #[.string ((rd_T72 l0 x7_1).f0), .int .i64 ((rd_T72 l0 x7_1).f1.f0), .slice none 0 0]) ?_ 2 _ rfl; (with_reducible repeat (first | refine blk_drewN ?_ _ | refine blk_drew ?_ | refine blk_alloc ?_ _)); refine blk_put (cs := #[.string ((rd_T72 l0 x7_1).f0), .int .i64 0, .slice none 0 0]) ?_ 1 _ rfl; (with_reducible repeat (first | refine blk_drewN ?_ _ | refine blk_drew ?_ | refine blk_alloc ?_ _)); refine blk_put (cs := #[.string (⟨#[]⟩ : ByteArray), .int .i64 0, .slice none 0 0]) ?_ 0 _ rfl; (with_reducible repeat (first | refine blk_drewN ?_ _ | refine blk_drew ?_ | refine blk_alloc ?_ _)); exact BK310.out⟩
          have n1_ : Aside0 (Below w.heap.size w (((w40.setCell ⟨gb310, 0, none⟩ (.string ((rd_T72 l0 x7_1).f0))).setCell ⟨gb310, 1, none⟩ (.int .i64 ((rd_T72 l0 x7_1).f1.f0))).setCell ⟨gb310, 2, none⟩ (.slice A309_2 ((rd_T72 l0 x7_1).f1.f1).length c309_2))) := ⟨by repeat (first | (with_reducible first | exact HB.out | apply bA | apply pB | apply bW | refine below_set ?_ GE310.out) | exact HB.out)⟩
          (try clear BK310)
          (try clear HB)
          generalize (((w40.setCell ⟨gb310, 0, none⟩ (.string ((rd_T72 l0 x7_1).f0))).setCell ⟨gb310, 1, none⟩ (.int .i64 ((rd_T72 l0 x7_1).f1.f0))).setCell ⟨gb310, 2, none⟩ (.slice A309_2 ((rd_T72 l0 x7_1).f1.f1).length c309_2)) = w42 at n0_ n1_ ⊢
          have BK310 := n0_
          have HB := n1_
          clear n0_ n1_
          replace BK310 := aK (blk_drew BK310.out)
          replace HB := aK (bW HB.out)
          refine start_ (n := 30) (S := fun w' => w'.cell? ⟨gb310, 0, none⟩ = some (.string ((rd_T72 l0 x7_1).f0)) ∧ w'.cell? ⟨gb310, 1, none⟩ = some (.int .i64 ((rd_T72 l0 x7_1).f1.f0)) ∧ w'.cell? ⟨gb310, 2, none⟩ = some (.slice A309_2 ((rd_T72 l0 x7_1).f1.f1).length c309_2)) (ds := []) #[false, false, false, false, false, false, false, false, false, false, false, false, false, false, false, false, false, false, false, false, false, false, false, false, false, false, false, false, false, false] (by kernel_rfl) rfl rfl ⟨(bC BK310.out 0).trans rfl, (bC BK310.out 1).trans rfl, (bC BK310.out 2).trans rfl⟩ (fun hHeld => ?_); refine with_tabW know_Right.tab4 know_Right.bits4 (fun HT_ HW_ => ?_)
          generalize w42.drew = w43 at BK310 HB hHeld ⊢
          refine p_ 0 12 (mk_ 30 0x1) ?_
          refine t_ 1 13 (mk_ 30 0x3) hHeld ?_
          refine one_ (i := 2) (N := some 14) #[true, true, true, false, false, false, false, false, false, false, false, false, false, false, false, false, false, false, false, false, false, false, false, false, false, false, false, false, false, false] rfl rfl (one_of HT_.out (by kernel_rfl)) (by decide) (fun K hK => ?_)
          refine goes_ Tryz.func56 (by kernel_rfl) rfl #[.string ((rd_T72 l0 x7_1).f0)] (by rfl) rfl rfl zq28_2 ?_
          with_reducible refine (id_Right.calls ((rd_T72 l0 x7_1).f0) true _ A5.out).mono ?_
          rintro e w44 ⟨rfl, hb⟩
          refine ⟨_, rfl, ?_⟩
          replace BK310 := aK (bB (g := gb310) (o := .cells #[.string ((rd_T72 l0 x7_1).f0), .int .i64 ((rd_T72 l0 x7_1).f1.f0), .slice A309_2 ((rd_T72 l0 x7_1).f1.f1).length c309_2] 72 (0, 0)) zq28_4 hb)
          replace HB := aK (bS zq28_1 hb)
          (try clear hb)
          (try clear hb2)
          (try clear hk)
          (try clear hi)
          refine hK.out _ _ ⟨(bC BK310.out 0).trans rfl, (bC BK310.out 1).trans rfl, (bC BK310.out 2).trans rfl⟩ (fun hHeld => ?_)
          clear hK K
          refine norm_ (a' := ?_) ?_ ?_
          rotate_left
          ·show Act.put _ (some 14) _ = _
           simp only [Act.put, lA, lB, lC, i64_w, i32_w]
           rfl
          refine p_ 3 15 (mk_ 30 0xf) ?_
          refine p_ 4 16 (mk_ 30 0x1f) ?_
          refine p_ 5 17 (mk_ 30 0x3f) ?_
          refine t_ 6 18 (mk_ 30 0x7f) hHeld ?_
          refine one_ (i := 7) (N := some 19) #[true, true, true, true, true, true, true, true, false, false, false, false, false, false, false, false, false, false, false, false, false, false, false, false, false, false, false, false, false, false] rfl rfl (one_of HT_.out (by kernel_rfl)) (by decide) (fun K hK => ?_)
          refine goes_ Tryz.func57 (by kernel_rfl) rfl #[.agg #[.int .i64 ((rd_T72 l0 x7_1).f1.f0), .slice A309_2 ((rd_T72 l0 x7_1).f1.f1).length c309_2]] (by rfl) rfl rfl zq28_2 ?_
          with_reducible refine (span_Right.calls k1 ((rd_T72 l0 x7_1).f1.f0) _ _ ((rd_T72 l0 x7_1).f1.f1) true _ ?side1 ?side2 A7.out).mono ?_
          (case side1 => repeat (first | exact (cB HR309_2.out HB.out) | (with_reducible refine Kd.C_alloc ?_ _) | (with_reducible refine Kd.C_drewN ?_ _) | (with_reducible refine Kd.C_drew ?_)))
          (case side2 => exact HC309_2.out)
          rintro e w45 ⟨rfl, hb⟩
          refine ⟨_, rfl, ?_⟩
          replace BK310 := aK (bB (g := gb310) (o := .cells #[.string ((rd_T72 l0 x7_1).f0), .int .i64 ((rd_T72 l0 x7_1).f1.f0), .slice A309_2 ((rd_T72 l0 x7_1).f1.f1).length c309_2] 72 (0, 0)) zq28_4 hb)
          replace HB := aK (bS zq28_1 hb)
          (try clear hb)
          (try clear hb2)
          (try clear hk)
          (try clear hi)
          refine hK.out _ _ ⟨(bC BK310.out 0).trans rfl, (bC BK310.out 1).trans rfl, (bC BK310.out 2).trans rfl⟩ (fun hHeld => ?_)
          clear hK K
          refine norm_ (a' := ?_) ?_ ?_
          rotate_left
          ·show Act.put _ (some 19) _ = _
           simp only [Act.put, lA, lB, lC, i64_w, i32_w]
           rfl
          refine p_ 8 20 (mk_ 30 0x1ff) ?_
          refine p_ 9 21 (mk_ 30 0x3ff) ?_
          refine p_ 10 22 (mk_ 30 0x7ff) ?_
          refine p_ 11 23 (mk_ 30 0xfff) ?_
          refine t_ 12 24 (mk_ 30 0x1fff) hHeld ?_
          refine one_ (i := 13) (N := some 25) #[true, true, true, true, true, true, true, true, true, true, true, true, true, true, false, false, false, false, false, false, false, false, false, false, false, false, false, false, false, false] rfl rfl (one_of HT_.out (by kernel_rfl)) (by decide) (fun K hK => ?_)
          refine goes_ Tryz.func55 (by kernel_rfl) rfl #[.agg #[.int .i64 ((rd_T72 l0 x7_1).f1.f0), .slice A309_2 ((rd_T72 l0 x7_1).f1.f1).length c309_2]] (by rfl) rfl rfl zq28_2 ?_
          with_reducible refine (span_Count.calls ((rd_T72 l0 x7_1).f1.f0) _ _ ((rd_T72 l0 x7_1).f1.f1) t313 _ ?side1 ?side2 A9.out).mono ?_
          (case side1 => repeat (first | exact (cB HR309_2.out HB.out) | (with_reducible refine Kd.C_alloc ?_ _) | (with_reducible refine Kd.C_drewN ?_ _) | (with_reducible refine Kd.C_drew ?_)))
          (case side2 => exact HC309_2.out)
          rintro e w46 ⟨rfl, hb⟩
          refine ⟨_, rfl, ?_⟩
          replace BK310 := aK (bB (g := gb310) (o := .cells #[.string ((rd_T72 l0 x7_1).f0), .int .i64 ((rd_T72 l0 x7_1).f1.f0), .slice A309_2 ((rd_T72 l0 x7_1).f1.f1).length c309_2] 72 (0, 0)) zq28_4 hb)
          replace HB := aK (bS zq28_1 hb)
          (try clear hb)
          (try clear hb2)
          (try clear hk)
          (try clear hi)
          refine hK.out _ _ ⟨(bC BK310.out 0).trans rfl, (bC BK310.out 1).trans rfl, (bC BK310.out 2).trans rfl⟩ (fun hHeld => ?_)
          clear hK K
          refine norm_ (a' := ?_) ?_ ?_
          rotate_left
          ·show Act.put _ (some 25) _ = _
           simp only [Act.put, lA, lB, lC, i64_w, i32_w]
           rfl
          refine p_ 14 26 (mk_ 30 0x7fff) ?_
          refine p_ 15 27 (mk_ 30 0xffff) ?_
          refine p_ 16 28 (mk_ 30 0x1ffff) ?_
          refine p_ 17 29 (mk_ 30 0x3ffff) ?_
          refine p_ 18 30 (mk_ 30 0x7ffff) ?_
          refine p_ 19 31 (mk_ 30 0xfffff) ?_
          refine u_ 20 32 (mk_ 30 0x1fffff) ?_
          refine u_ 21 33 (mk_ 30 0x3fffff) ?_
          refine u_ 22 34 (mk_ 30 0x7fffff) ?_
          refine u_ 23 35 (mk_ 30 0xffffff) ?_
          refine u_ 24 36 (mk_ 30 0x1ffffff) ?_
          refine u_ 25 37 (mk_ 30 0x3ffffff) ?_
          refine u_ 26 38 (mk_ 30 0x7ffffff) ?_
          refine u_ 27 39 (mk_ 30 0xfffffff) ?_
          refine p_ 28 40 (mk_ 30 0x1fffffff) ?_
          refine p_ 29 41 (mk_ 30 0x3fffffff) ?_
          refine done_ (done_of HT_.out (by kernel_rfl)) ?_
          try go_wp2
          go_roundg k1
          case measure => have := HK1.out; omega
          case rel => exact ⟨(wrap64 (x7_1 + 1)), zq28_6, H', ⟨by have := HK1.out; omega⟩, ⟨by repeat (first | (with_reducible first | exact HB.out | apply bA | apply pB | apply bW | refine below_set ?_ GE310.out) | exact HB.out)⟩⟩
       ·replace c8 := Bool.eq_false_iff.mpr c8
        subst c8
        have H1 : (some false) = some r := by rw [if_neg (show ¬ (false = true) by decide)] at H; exact H
        clear H
        have H := H1
        clear H1
        obtain rfl := sI H
        have p309 : 0 ≤ (x7_1 : Int) := oD zq28_5
        have q309 : x7_1 < (l0.length : Int) := oD zq28_5
        obtain ⟨ad309, A309_2, c309_2, e309, hx309_0, hx309_1, hx309_2, hl309_2, hi309_2⟩ := at_T72 HR0.out x7_1 p309 q309
        cases e309
        replace hx309_0 := pc_ HB hx309_0
        replace hx309_1 := pc_ HB hx309_1
        replace hx309_2 := pc_ HB hx309_2
        have HR309_2 := aK hi309_2
        have HC309_2 := aK hl309_2
        clear hi309_2 hl309_2
        replace p309 := eT p309
        replace q309 := eT q309
        try go_wp2_with (first | ((with_reducible refine gate_dst (N := 4) rfl ?_); refine box_event ?hg (N := 4) ?hd (cs := #[.string (⟨#[]⟩ : ByteArray), .int .i64 0, .slice none 0 0]) (t := 72) ?hr ?_; (case hd => rfl); (case hg => rfl); (case hr => first | (go_simp; done) | (go_simp; rfl)); intro gb310 hg w47 hbox hb; have BK310 := aK (hbox); have GW310 := aK ((zq28_0 : w.heap.size ≤ gb310)); have GE310 := aK ((zq28_0 : w.heap.size ≤ gb310)); replace HB := aK (bS zq28_3 hb); clear hb hbox hg; have hcz48_0 : w47.cell? ⟨gb310, 0, none⟩ = some (.string (⟨#[]⟩ : ByteArray)) := (bC BK310.out 0).trans rfl; have hcz48_1 : w47.cell? ⟨gb310, 1, none⟩ = some (.int .i64 0) := (bC BK310.out 1).trans rfl; have hcz48_2 : w47.cell? ⟨gb310, 2, none⟩ = some (.slice none 0 0) := (bC BK310.out 2).trans rfl; have hfz48_0 := bF_ BK310.out 0; have hfz48_1 := bF_ BK310.out 1; have hfz48_2 := bF_ BK310.out 2))
        have n0_ : Aside0 ((((w47.setCell ⟨gb310, 0, none⟩ (.string ((rd_T72 l0 x7_1).f0))).setCell ⟨gb310, 1, none⟩ (.int .i64 ((rd_T72 l0 x7_1).f1.f0))).setCell ⟨gb310, 2, none⟩ (.slice A309_2 ((rd_T72 l0 x7_1).f1.f1).length c309_2)).heap[gb310]? = some (.cells #[.string ((rd_T72 l0 x7_1).f0), .int .i64 ((rd_T72 l0 x7_1).f1.f0), .slice A309_2 ((rd_T72 l0 x7_1).f1.f1).length c309_2] 72 (0, 0))) := ⟨by (with_reducible repeat (first | refine blk_drewN ?_ _ | refine blk_drew ?_ | refine blk_alloc ?_ _)); refine blk_put (cs := #[.string ((rd_T72 l0 x7_1).f0), .int .i64 ((rd_T72 l0 x7_1).f1.f0), .slice none 0 0]) ?_ 2 _ rfl; (with_reducible repeat (first | refine blk_drewN ?_ _ | refine blk_drew ?_ | refine blk_alloc ?_ _)); refine blk_put (cs := #[.string ((rd_T72 l0 x7_1).f0), .int .i64 0, .slice none 0 0]) ?_ 1 _ rfl; (with_reducible repeat (first | refine blk_drewN ?_ _ | refine blk_drew ?_ | refine blk_alloc ?_ _)); refine blk_put (cs := #[.string (⟨#[]⟩ : ByteArray), .int .i64 0, .slice none 0 0]) ?_ 0 _ rfl; (with_reducible repeat (first | refine blk_drewN ?_ _ | refine blk_drew ?_ | refine blk_alloc ?_ _)); exact BK310.out⟩
        have n1_ : Aside0 (Below w.heap.size w (((w47.setCell ⟨gb310, 0, none⟩ (.string ((rd_T72 l0 x7_1).f0))).setCell ⟨gb310, 1, none⟩ (.int .i64 ((rd_T72 l0 x7_1).f1.f0))).setCell ⟨gb310, 2, none⟩ (.slice A309_2 ((rd_T72 l0 x7_1).f1.f1).length c309_2))) := ⟨by repeat (first | (with_reducible first | exact HB.out | apply bA | apply pB | apply bW | refine below_set ?_ GE310.out) | exact HB.out)⟩
        (try clear BK310)
        (try clear HB)
        generalize (((w47.setCell ⟨gb310, 0, none⟩ (.string ((rd_T72 l0 x7_1).f0))).setCell ⟨gb310, 1, none⟩ (.int .i64 ((rd_T72 l0 x7_1).f1.f0))).setCell ⟨gb310, 2, none⟩ (.slice A309_2 ((rd_T72 l0 x7_1).f1.f1).length c309_2)) = w49 at n0_ n1_ ⊢
        have BK310 := n0_
        have HB := n1_
        clear n0_ n1_
        replace BK310 := aK (blk_drew BK310.out)
        replace HB := aK (bW HB.out)
        refine start_ (n := 30) (S := fun w' => w'.cell? ⟨gb310, 0, none⟩ = some (.string ((rd_T72 l0 x7_1).f0)) ∧ w'.cell? ⟨gb310, 1, none⟩ = some (.int .i64 ((rd_T72 l0 x7_1).f1.f0)) ∧ w'.cell? ⟨gb310, 2, none⟩ = some (.slice A309_2 ((rd_T72 l0 x7_1).f1.f1).length c309_2)) (ds := []) #[false, false, false, false, false, false, false, false, false, false, false, false, false, false, false, false, false, false, false, false, false, false, false, false, false, false, false, false, false, false] (by kernel_rfl) rfl rfl ⟨(bC BK310.out 0).trans rfl, (bC BK310.out 1).trans rfl, (bC BK310.out 2).trans rfl⟩ (fun hHeld => ?_); refine with_tabW know_Right.tab4 know_Right.bits4 (fun HT_ HW_ => ?_)
        generalize w49.drew = w50 at BK310 HB hHeld ⊢
        refine p_ 0 12 (mk_ 30 0x1) ?_
        refine t_ 1 13 (mk_ 30 0x3) hHeld ?_
        refine one_ (i := 2) (N := some 14) #[true, true, true, false, false, false, false, false, false, false, false, false, false, false, false, false, false, false, false, false, false, false, false, false, false, false, false, false, false, false] rfl rfl (one_of HT_.out (by kernel_rfl)) (by decide) (fun K hK => ?_)
        refine goes_ Tryz.func56 (by kernel_rfl) rfl #[.string ((rd_T72 l0 x7_1).f0)] (by rfl) rfl rfl zq28_2 ?_
        with_reducible refine (id_Right.calls ((rd_T72 l0 x7_1).f0) true _ A5.out).mono ?_
        rintro e w51 ⟨rfl, hb⟩
        refine ⟨_, rfl, ?_⟩
        replace BK310 := aK (bB (g := gb310) (o := .cells #[.string ((rd_T72 l0 x7_1).f0), .int .i64 ((rd_T72 l0 x7_1).f1.f0), .slice A309_2 ((rd_T72 l0 x7_1).f1.f1).length c309_2] 72 (0, 0)) zq28_4 hb)
        replace HB := aK (bS zq28_1 hb)
        (try clear hb)
        (try clear hb2)
        (try clear hk)
        (try clear hi)
        refine hK.out _ _ ⟨(bC BK310.out 0).trans rfl, (bC BK310.out 1).trans rfl, (bC BK310.out 2).trans rfl⟩ (fun hHeld => ?_)
        clear hK K
        refine norm_ (a' := ?_) ?_ ?_
        rotate_left
        ·show Act.put _ (some 14) _ = _
         simp only [Act.put, lA, lB, lC, i64_w, i32_w]
         rfl
        refine p_ 3 15 (mk_ 30 0xf) ?_
        refine p_ 4 16 (mk_ 30 0x1f) ?_
        refine p_ 5 17 (mk_ 30 0x3f) ?_
        refine t_ 6 18 (mk_ 30 0x7f) hHeld ?_
        refine one_ (i := 7) (N := some 19) #[true, true, true, true, true, true, true, true, false, false, false, false, false, false, false, false, false, false, false, false, false, false, false, false, false, false, false, false, false, false] rfl rfl (one_of HT_.out (by kernel_rfl)) (by decide) (fun K hK => ?_)
        refine goes_ Tryz.func57 (by kernel_rfl) rfl #[.agg #[.int .i64 ((rd_T72 l0 x7_1).f1.f0), .slice A309_2 ((rd_T72 l0 x7_1).f1.f1).length c309_2]] (by rfl) rfl rfl zq28_2 ?_
        with_reducible refine (span_Right.calls k1 ((rd_T72 l0 x7_1).f1.f0) _ _ ((rd_T72 l0 x7_1).f1.f1) false _ ?side1 ?side2 A7.out).mono ?_
        (case side1 => repeat (first | exact (cB HR309_2.out HB.out) | (with_reducible refine Kd.C_alloc ?_ _) | (with_reducible refine Kd.C_drewN ?_ _) | (with_reducible refine Kd.C_drew ?_)))
        (case side2 => exact HC309_2.out)
        rintro e w52 ⟨rfl, hb⟩
        refine ⟨_, rfl, ?_⟩
        replace BK310 := aK (bB (g := gb310) (o := .cells #[.string ((rd_T72 l0 x7_1).f0), .int .i64 ((rd_T72 l0 x7_1).f1.f0), .slice A309_2 ((rd_T72 l0 x7_1).f1.f1).length c309_2] 72 (0, 0)) zq28_4 hb)
        replace HB := aK (bS zq28_1 hb)
        (try clear hb)
        (try clear hb2)
        (try clear hk)
        (try clear hi)
        refine hK.out _ _ ⟨(bC BK310.out 0).trans rfl, (bC BK310.out 1).trans rfl, (bC BK310.out 2).trans rfl⟩ (fun hHeld => ?_)
        clear hK K
        refine norm_ (a' := ?_) ?_ ?_
        rotate_left
        ·show Act.put _ (some 19) _ = _
         simp only [Act.put, lA, lB, lC, i64_w, i32_w]
         rfl
        refine p_ 8 20 (mk_ 30 0x1ff) ?_
        refine p_ 9 21 (mk_ 30 0x3ff) ?_
        refine p_ 10 22 (mk_ 30 0x7ff) ?_
        refine u_ 11 23 (mk_ 30 0xfff) ?_
        refine u_ 12 24 (mk_ 30 0x1fff) ?_
        refine u_ 13 25 (mk_ 30 0x3fff) ?_
        refine u_ 14 26 (mk_ 30 0x7fff) ?_
        refine p_ 15 27 (mk_ 30 0xffff) ?_
        refine p_ 16 28 (mk_ 30 0x1ffff) ?_
        refine u_ 17 29 (mk_ 30 0x3ffff) ?_
        refine u_ 18 30 (mk_ 30 0x7ffff) ?_
        refine u_ 19 31 (mk_ 30 0xfffff) ?_
        refine u_ 20 32 (mk_ 30 0x1fffff) ?_
        refine u_ 21 33 (mk_ 30 0x3fffff) ?_
        refine u_ 22 34 (mk_ 30 0x7fffff) ?_
        refine u_ 23 35 (mk_ 30 0xffffff) ?_
        refine u_ 24 36 (mk_ 30 0x1ffffff) ?_
        refine u_ 25 37 (mk_ 30 0x3ffffff) ?_
        refine u_ 26 38 (mk_ 30 0x7ffffff) ?_
        refine u_ 27 39 (mk_ 30 0xfffffff) ?_
        refine u_ 28 40 (mk_ 30 0x1fffffff) ?_
        refine p_ 29 41 (mk_ 30 0x3fffffff) ?_
        refine done_ (done_of HT_.out (by kernel_rfl)) ?_
        try go_wp2
        go_ret
        exact ⟨by first | rfl | (simp [errW_none, errW_some] <;> rfl) | (simp [*, errW_none, errW_some] <;> rfl), by repeat (first | (with_reducible first | exact HB.out | apply bA | apply pB | apply bW | refine below_set ?_ GE310.out) | exact HB.out)⟩
      ·replace c6 := Bool.eq_false_iff.mpr c6
       subst c6
       have H1 : (some false) = some r := by rw [if_neg (show ¬ (false = true) by decide)] at H; exact H
       clear H
       have H := H1
       clear H1
       obtain rfl := sI H
       have p309 : 0 ≤ (x7_1 : Int) := oD zq28_5
       have q309 : x7_1 < (l0.length : Int) := oD zq28_5
       obtain ⟨ad309, A309_2, c309_2, e309, hx309_0, hx309_1, hx309_2, hl309_2, hi309_2⟩ := at_T72 HR0.out x7_1 p309 q309
       cases e309
       replace hx309_0 := pc_ HB hx309_0
       replace hx309_1 := pc_ HB hx309_1
       replace hx309_2 := pc_ HB hx309_2
       have HR309_2 := aK hi309_2
       have HC309_2 := aK hl309_2
       clear hi309_2 hl309_2
       replace p309 := eT p309
       replace q309 := eT q309
       try go_wp2_with (first | ((with_reducible refine gate_dst (N := 4) rfl ?_); refine box_event ?hg (N := 4) ?hd (cs := #[.string (⟨#[]⟩ : ByteArray), .int .i64 0, .slice none 0 0]) (t := 72) ?hr ?_; (case hd => rfl); (case hg => rfl); (case hr => first | (go_simp; done) | (go_simp; rfl)); intro gb310 hg w53 hbox hb; have BK310 := aK (hbox); have GW310 := aK ((zq28_0 : w.heap.size ≤ gb310)); have GE310 := aK ((zq28_0 : w.heap.size ≤ gb310)); replace HB := aK (bS zq28_3 hb); clear hb hbox hg; have hcz54_0 : w53.cell? ⟨gb310, 0, none⟩ = some (.string (⟨#[]⟩ : ByteArray)) := (bC BK310.out 0).trans rfl; have hcz54_1 : w53.cell? ⟨gb310, 1, none⟩ = some (.int .i64 0) := (bC BK310.out 1).trans rfl; have hcz54_2 : w53.cell? ⟨gb310, 2, none⟩ = some (.slice none 0 0) := (bC BK310.out 2).trans rfl; have hfz54_0 := bF_ BK310.out 0; have hfz54_1 := bF_ BK310.out 1; have hfz54_2 := bF_ BK310.out 2))
       have n0_ : Aside0 ((((w53.setCell ⟨gb310, 0, none⟩ (.string ((rd_T72 l0 x7_1).f0))).setCell ⟨gb310, 1, none⟩ (.int .i64 ((rd_T72 l0 x7_1).f1.f0))).setCell ⟨gb310, 2, none⟩ (.slice A309_2 ((rd_T72 l0 x7_1).f1.f1).length c309_2)).heap[gb310]? = some (.cells #[.string ((rd_T72 l0 x7_1).f0), .int .i64 ((rd_T72 l0 x7_1).f1.f0), .slice A309_2 ((rd_T72 l0 x7_1).f1.f1).length c309_2] 72 (0, 0))) := ⟨by (with_reducible repeat (first | refine blk_drewN ?_ _ | refine blk_drew ?_ | refine blk_alloc ?_ _)); refine blk_put (cs := #[.string ((rd_T72 l0 x7_1).f0), .int .i64 ((rd_T72 l0 x7_1).f1.f0), .slice none 0 0]) ?_ 2 _ rfl; (with_reducible repeat (first | refine blk_drewN ?_ _ | refine blk_drew ?_ | refine blk_alloc ?_ _)); refine blk_put (cs := #[.string ((rd_T72 l0 x7_1).f0), .int .i64 0, .slice none 0 0]) ?_ 1 _ rfl; (with_reducible repeat (first | refine blk_drewN ?_ _ | refine blk_drew ?_ | refine blk_alloc ?_ _)); refine blk_put (cs := #[.string (⟨#[]⟩ : ByteArray), .int .i64 0, .slice none 0 0]) ?_ 0 _ rfl; (with_reducible repeat (first | refine blk_drewN ?_ _ | refine blk_drew ?_ | refine blk_alloc ?_ _)); exact BK310.out⟩
       have n1_ : Aside0 (Below w.heap.size w (((w53.setCell ⟨gb310, 0, none⟩ (.string ((rd_T72 l0 x7_1).f0))).setCell ⟨gb310, 1, none⟩ (.int .i64 ((rd_T72 l0 x7_1).f1.f0))).setCell ⟨gb310, 2, none⟩ (.slice A309_2 ((rd_T72 l0 x7_1).f1.f1).length c309_2))) := ⟨by repeat (first | (with_reducible first | exact HB.out | apply bA | apply pB | apply bW | refine below_set ?_ GE310.out) | exact HB.out)⟩
       (try clear BK310)
       (try clear HB)
       generalize (((w53.setCell ⟨gb310, 0, none⟩ (.string ((rd_T72 l0 x7_1).f0))).setCell ⟨gb310, 1, none⟩ (.int .i64 ((rd_T72 l0 x7_1).f1.f0))).setCell ⟨gb310, 2, none⟩ (.slice A309_2 ((rd_T72 l0 x7_1).f1.f1).length c309_2)) = w55 at n0_ n1_ ⊢
       have BK310 := n0_
       have HB := n1_
       clear n0_ n1_
       replace BK310 := aK (blk_drew BK310.out)
       replace HB := aK (bW HB.out)
       refine start_ (n := 30) (S := fun w' => w'.cell? ⟨gb310, 0, none⟩ = some (.string ((rd_T72 l0 x7_1).f0)) ∧ w'.cell? ⟨gb310, 1, none⟩ = some (.int .i64 ((rd_T72 l0 x7_1).f1.f0)) ∧ w'.cell? ⟨gb310, 2, none⟩ = some (.slice A309_2 ((rd_T72 l0 x7_1).f1.f1).length c309_2)) (ds := []) #[false, false, false, false, false, false, false, false, false, false, false, false, false, false, false, false, false, false, false, false, false, false, false, false, false, false, false, false, false, false] (by kernel_rfl) rfl rfl ⟨(bC BK310.out 0).trans rfl, (bC BK310.out 1).trans rfl, (bC BK310.out 2).trans rfl⟩ (fun hHeld => ?_); refine with_tabW know_Right.tab4 know_Right.bits4 (fun HT_ HW_ => ?_)
       generalize w55.drew = w56 at BK310 HB hHeld ⊢
       refine p_ 0 12 (mk_ 30 0x1) ?_
       refine t_ 1 13 (mk_ 30 0x3) hHeld ?_
       refine one_ (i := 2) (N := some 14) #[true, true, true, false, false, false, false, false, false, false, false, false, false, false, false, false, false, false, false, false, false, false, false, false, false, false, false, false, false, false] rfl rfl (one_of HT_.out (by kernel_rfl)) (by decide) (fun K hK => ?_)
       refine goes_ Tryz.func56 (by kernel_rfl) rfl #[.string ((rd_T72 l0 x7_1).f0)] (by rfl) rfl rfl zq28_2 ?_
       with_reducible refine (id_Right.calls ((rd_T72 l0 x7_1).f0) false _ A5.out).mono ?_
       rintro e w57 ⟨rfl, hb⟩
       refine ⟨_, rfl, ?_⟩
       replace BK310 := aK (bB (g := gb310) (o := .cells #[.string ((rd_T72 l0 x7_1).f0), .int .i64 ((rd_T72 l0 x7_1).f1.f0), .slice A309_2 ((rd_T72 l0 x7_1).f1.f1).length c309_2] 72 (0, 0)) zq28_4 hb)
       replace HB := aK (bS zq28_1 hb)
       (try clear hb)
       (try clear hb2)
       (try clear hk)
       (try clear hi)
       refine hK.out _ _ ⟨(bC BK310.out 0).trans rfl, (bC BK310.out 1).trans rfl, (bC BK310.out 2).trans rfl⟩ (fun hHeld => ?_)
       clear hK K
       refine norm_ (a' := ?_) ?_ ?_
       rotate_left
       ·show Act.put _ (some 14) _ = _
        simp only [Act.put, lA, lB, lC, i64_w, i32_w]
        rfl
       refine p_ 3 15 (mk_ 30 0xf) ?_
       refine p_ 4 16 (mk_ 30 0x1f) ?_
       refine u_ 5 17 (mk_ 30 0x3f) ?_
       refine u_ 6 18 (mk_ 30 0x7f) ?_
       refine u_ 7 19 (mk_ 30 0xff) ?_
       refine u_ 8 20 (mk_ 30 0x1ff) ?_
       refine p_ 9 21 (mk_ 30 0x3ff) ?_
       refine p_ 10 22 (mk_ 30 0x7ff) ?_
       refine u_ 11 23 (mk_ 30 0xfff) ?_
       refine u_ 12 24 (mk_ 30 0x1fff) ?_
       refine u_ 13 25 (mk_ 30 0x3fff) ?_
       refine u_ 14 26 (mk_ 30 0x7fff) ?_
       refine p_ 15 27 (mk_ 30 0xffff) ?_
       refine p_ 16 28 (mk_ 30 0x1ffff) ?_
       refine u_ 17 29 (mk_ 30 0x3ffff) ?_
       refine u_ 18 30 (mk_ 30 0x7ffff) ?_
       refine u_ 19 31 (mk_ 30 0xfffff) ?_
       refine u_ 20 32 (mk_ 30 0x1fffff) ?_
       refine u_ 21 33 (mk_ 30 0x3fffff) ?_
       refine u_ 22 34 (mk_ 30 0x7fffff) ?_
       refine u_ 23 35 (mk_ 30 0xffffff) ?_
       refine u_ 24 36 (mk_ 30 0x1ffffff) ?_
       refine u_ 25 37 (mk_ 30 0x3ffffff) ?_
       refine u_ 26 38 (mk_ 30 0x7ffffff) ?_
       refine u_ 27 39 (mk_ 30 0xfffffff) ?_
       refine u_ 28 40 (mk_ 30 0x1fffffff) ?_
       refine p_ 29 41 (mk_ 30 0x3fffffff) ?_
       refine done_ (done_of HT_.out (by kernel_rfl)) ?_
       try go_wp2
       go_ret
       exact ⟨by first | rfl | (simp [errW_none, errW_some] <;> rfl) | (simp [*, errW_none, errW_some] <;> rfl), by repeat (first | (with_reducible first | exact HB.out | apply bA | apply pB | apply bW | refine below_set ?_ GE310.out) | exact HB.out)⟩
     ·rw [if_neg c4] at H
      exact absurd H (by simp)
    ·rw [if_neg c3] at H
     exact absurd H (by simp)
   ·rw [if_neg c2] at H
    have c2b0 : decide (x7_1 < (l0.length : Int)) = false := decide_eq_false c2
    clear c2
    obtain rfl := sI H
    go_wp2
    go_ret
    exact ⟨by first | rfl | (simp [errW_none, errW_some] <;> rfl) | (simp [*, errW_none, errW_some] <;> rfl), by repeat (first | (with_reducible first | exact HB.out | apply bA | apply pB | apply bW) | exact HB.out)⟩
theorem know_Row.raw_some (ad0 : Addr) (c0 : Nat) (l0 : List RW) (w : World) (hr0 : Kd.C kRW w (some ad0) l0.length l0) (hc0 : l0.length ≤ c0) (hlim : l0.length < 1000000000) :
  Calls Tryz.prog 70 #[.slice (some ad0) l0.length c0] w fun e w' => ∃ v0_ : Value, e = .returned (v0_) ∧ Kd.R kRW 72 w' w.heap.size (fun _ => True) v0_ l0 ∧ Below w.heap.size w w' := by
 have HR0 := aK hr0
 have HC0 := aK hc0
 clear hr0 hc0
 have HB := aK (Below.refl w.heap.size w)
 have LM := aK hlim
 clear hlim
 have hnq_ : ∀ W : World, (binOp .eql 29 (.slice (some ad0) l0.length c0) (.slice none 0 0)).run Tryz.prog W = .ok (.bool ((some ad0) : Option Addr).isNone) W := fun W => by first | exact Lib.run_eql_slice_nil W 29 72 _ _ _ 0 0 Tryz.underlying29 | exact Lib.run_eql_slice_nil W 29 72 _ _ _ Tryz.underlying29
 go_enter Tryz.func70, Tryz.ntmps70
 go_wp2_with (first | ((with_reducible refine gate_dst (N := 5) rfl ?_); refine Kd.R_lit kRW _ 72 ?hg (N := 5) ?hd (xs := ([] : List RW)) (inner := []) (ok := fun _ => True) (okp := fun _ => True) ?hr ?hp (fun _ hk => hk) trivial (Below.refl _ _) (Nat.le_refl _) (by simp) ?_; (case hd => rfl); (case hg => rfl); (case hr => first | (go_simp; done) | (go_simp; rfl)); (case hp => exact (Reps.none _ _)); intro v121 w3 ho4 hb hg_ hnew_; clear hg_ hnew_; have n0_ := aK (Kd.R_lower ho4 (below_size HB.out)); have n1_ := aK (bS HB.out hb); clear HB; have HO122 := n0_; have HB := n1_; clear n0_ n1_; clear hb ho4) | ((with_reducible refine gate_builtin (b := .append) (xs := #[.tmp 5, .tmp 6]) rfl ?_); at_builtin; refine Kd.R_append_rows kRW (w0 := w) w.heap.size rfl (.tmp 5) (.tmp 6) 29 72 (.agg #[(.string ⟨#[]⟩), (.int .i64 0), (.slice none 0 0)]) 48 rfl Tryz.underlying29 info72 rfl (by decide) (by omega) v121 ([] : List RW) l0 _ _ _ (fun _ => True) (fun _ => False) rfl rfl ?aO ?aR (fun _ _ h => h) (fun _ h => h.elim) ?aF ?aB ?aS ?aL ?_; (case aR => exact (cB HR0.out HB.out)); (case aB => exact HB.out); (case aF => exact (fun _ _ => trivial)); (case aO => exact HO122.out); (case aS => exact (below_size HB.out)); (case aL => have := LM.out; simp only [List.length_nil]; omega); intro v124 w5 ho hb hg hat; rw [List.nil_append] at ho; have n0_ := aK (hb); have n1_ := aK (ho); clear HB; clear HO122; have HB := n0_; have HO125 := n1_; clear n0_ n1_; clear ho hb hg hat))
 go_ret
 exact ⟨_, rfl, HO125.out, HB.out⟩
theorem know_Row.raw (A0 : Option Addr) (c0 : Nat) (l0 : List RW) (w : World) (hr0 : Kd.C kRW w A0 l0.length l0) (hc0 : l0.length ≤ c0) (hlim : l0.length < 1000000000) :
  Calls Tryz.prog 70 #[.slice A0 l0.length c0] w fun e w' => ∃ v0_ : Value, e = .returned (v0_) ∧ Kd.R kRW 72 w' w.heap.size (fun _ => True) v0_ l0 ∧ Below w.heap.size w w' := by
 cases A0 with
 | some ad0 => exact know_Row.raw_some ad0 c0 l0 w hr0 hc0 hlim
 | none =>
  have hl : l0 = [] := by
   cases l0 with
   | nil => rfl
   | cons x t => obtain ⟨ad, e, _⟩ := hr0.2.2 (by simp); cases e
  subst hl
  clear hr0
  have hnq_ : ∀ W : World, (binOp .eql 29 (.slice none 0 c0) (.slice none 0 0)).run Tryz.prog W = .ok (.bool (none : Option Addr).isNone) W := fun W => by first | exact Lib.run_eql_slice_nil W 29 72 _ _ _ 0 0 Tryz.underlying29 | exact Lib.run_eql_slice_nil W 29 72 _ _ _ Tryz.underlying29
  simp only [List.length_nil]
  go_enter Tryz.func70, Tryz.ntmps70
  go_wp2
  go_ret
  exact ⟨_, rfl, Kd.R_nil _ _ _ _ _, Below.refl _ _⟩
def OWm (w : World) (base : Nat) (v : Value) (rs : List RW) (xs : List S72) : Prop := Kd.R kRW 72 w base (fun _ => True) v rs ∧ INs (Kd.int .i64) S72.f0 (fun x => x.f1.f0) (fun x => x.f1.f1) w (fun k => some k ≠ v.ownBlock ∧ base ≤ k) rs xs
theorem okM_get {l : List S72} (h : okM l) {i : Nat} (hi : i < l.length) : (l.getD i z72).f1.f1.length < 1000000000 := h.2 _ (by rw [← List.getElem_eq_getD (h := hi)]; exact List.getElem_mem _)
theorem vclone (A0 : Option Addr) (c0 : Nat) (l0 : List Int) (W : World) (hr0 : Kd.C (Kd.int .i64) W A0 l0.length l0) (hc0 : l0.length ≤ c0) (hl : l0.length < 1000000000) :
  Calls Tryz.prog 71 #[.slice A0 l0.length c0] W fun e w' => ∃ v0_ : Value, e = .returned (v0_) ∧ Kd.R (Kd.int .i64) 3 w' W.heap.size (fun _ => True) v0_ l0 ∧ Below W.heap.size W w' :=
 slices_Clone_int_int.calls A0 c0 l0 l0 W hr0 hc0 (by simp only [slices_Clone_int_int.f, Option.bind_some, List.length_nil, List.nil_append]; rw [if_pos (by omega)])
theorem know_copied.own (A0 : Option Addr) (c0 : Nat) (l0 : List S72) (w : World) (hr0 : Kd.C k72 w A0 l0.length l0) (hc0 : l0.length ≤ c0) (hl : okM l0) :
  Calls Tryz.prog 43 #[.slice A0 l0.length c0] w fun e w' => ∃ (v : Value) (rs : List RW), e = .returned v ∧ OWm w' w.heap.size v rs l0 ∧ Below w.heap.size w w' := by
 obtain ⟨rs, hC, hI⟩ := lead_raw lead_m hr0
 have hlen := F2.len hI
 have HCL := aK (fun W (hW : Below w.heap.size w W) => know_Row.raw A0 c0 rs W (by rw [hlen]; exact cB hC hW) (by omega) (by have := hl.1; omega))
 have HB := aK (Below.refl w.heap.size w)
 have HI := aK hI
 have HL := aK hl
 have HLEN := aK hlen
 rw [hlen] at HCL
 clear hC hI hr0 hl hc0
 have hut := Tryz.underlying72
 go_enter Tryz.func43, Tryz.ntmps43
 go_wp2_with fail
 refine (HCL.out w HB.out).mono ?_
 rintro e w1 ⟨v, rfl, ho1, hb1⟩
 have HB1 := aK hb1
 have HI1 := aK (INj.of (okj := fun j k => some k ≠ v.ownBlock ∧ (j < 0 → w.heap.size ≤ k)) (HI.out.below hb1) (fun j k hk => ⟨fun he => by have := Kd.R_base ho1 k he.symm; omega, fun h => absurd h (Nat.not_lt_zero _)⟩))
 obtain ⟨A, c, rfl, hle, -⟩ := Kd.R_reads ho1
 rw [hlen] at ho1 HI1 hle ⊢
 have HO1 := aK ho1
 clear ho1 hb1 HCL HI HB hlen hle
 generalize hn : l0.length = n at *
 have HN := aK hn
 clear hn
 have hmax : n < 1000000000 := by have := HL.out.1; have := HN.out; omega
 go_wp2_with fail
 go_loopw [9] (fun vi wr => ∃ (i : Nat) (L : List RW), vi = .int .i64 i ∧ i ≤ n ∧ Aside0 (L.length = n) ∧ Aside0 (Kd.R kRW 72 wr w.heap.size (fun _ => True) (.slice A n c) L ∧ INj (Kd.int .i64) S72.f0 (fun x => x.f1.f0) (fun x => x.f1.f1) wr (fun j k => some k ≠ (Value.slice A n c).ownBlock ∧ (j < i → w.heap.size ≤ k)) L l0) ∧ Aside0 (Below w.heap.size w wr)) (fun vi _ => n - (intOf vi).toNat)
 case atStart => exact ⟨0, rs, rfl, Nat.zero_le _, HLEN, ⟨HO1.out, HI1.out⟩, HB1⟩
 case round =>
  clear HO1 HI1 HB1
  obtain ⟨i, L, rfl, hin, HLL, HO, HB⟩ := hrel
  by_cases hj : i < n
  ·obtain ⟨ho, hI⟩ := HO.out
   obtain ⟨g, cap, ev, hg, hgl, cells, hcells⟩ := Kd.R_form ho (by have := HLL.out; omega)
   have hnL : L.length = n := HLL.out
   rw [hnL] at ev
   injection ev with eA _ ec
   subst eA; subst ec
   obtain ⟨ad, hA, hx0, hx3, hx1⟩ := at_RW (Kd.R_reads' ho).2.2 (i : Int) (by omega) (by omega)
   injection hA with hA
   subst hA
   obtain ⟨i0, i5, i1, i2, i3⟩ := (INj.getD hI (j := i) (by rw [HN.out]; exact hj) z72).now
   have hrd : rd_RW L (i : Int) = L.getD i zRW := by unfold rd_RW; rw [Int.toNat_natCast]
   rw [hrd] at hx0 hx3 hx1
   simp only [Int.toNat_natCast, Addr.add_lit, Nat.zero_add] at hx0 hx3 hx1
   have hxl := okM_get HL.out (i := i) (by rw [HN.out]; exact hj)
   generalize hr : L.getD i zRW = r at hx0 hx3 hx1 i0 i5 i1 i2 i3
   generalize hx : l0.getD i z72 = x at i0 i5 i1 i2 i3 hxl
   obtain ⟨s0, su, rA, rn, rc⟩ := r
   dsimp only at i0 i5 i1 i2 i3 hx0 hx3 hx1
   subst i0; subst i5; subst i1
   have HK := aK (fun W (hW : Below wr.heap.size wr W) => vclone rA rc x.f1.f1 W (cB i3 hW) i2 hxl)
   have HX0 := aK hx0
   have HX1 := aK hx1
   have HX3 := aK hx3
   have HX := aK (And.intro hr hx)
   have HGL := aK hgl
   have HG := aK hg
   have HCE := aK (show ∃ cells : Array Value, wr.heap[g]? = some (.cells cells 72 (0, 0)) from ⟨cells, hcells⟩)
   have pm := eT (show (0 : Int) ≤ (i : Int) by omega)
   have qm := eT (show (i : Int) < (n : Int) by omega)
   have hz1 : wr.frozen? ⟨g, i * 3 + 2, none⟩ = false := bF_ hcells _
   clear hrd hr hx i2 i3 hxl hcells cells hg hgl ho hI hx0 hx3
   go_wp2_with fail
   refine (HK.out wr (Below.refl _ _)).mono ?_
   rintro e w2 ⟨v2, rfl, ho2, hb2⟩
   clear hx1 hz1 HK
   obtain ⟨A2, c2, rfl⟩ := Kd.R_slice ho2
   obtain ⟨cells, hcells⟩ := HCE.out
   have hcells2 := bB hcells hb2
   have hz1 : w2.frozen? ⟨g, i * 3 + 2, none⟩ = false := bF_ hcells2 _
   have hx1 : w2.cell? ⟨g, i * 3 + 2, none⟩ = some (.slice rA x.f1.f1.length rc) := (hb2.cell HGL.out).trans HX1.out
   have hx0 : w2.cell? ⟨g, i * 3, none⟩ = some (.string x.f0) := (hb2.cell HGL.out).trans HX0.out
   have hx3 : w2.cell? ⟨g, i * 3 + 1, none⟩ = some (.int .i64 x.f1.f0) := (hb2.cell HGL.out).trans HX3.out
   have HOb := Kd.R_below HO.out.1 hb2
   have hres := Kd.R_seg (d := kRW) (W := w2) (okp := fun _ => False) HOb (i : Int) (by omega) (by omega) (c := [.string x.f0, .int .i64 x.f1.f0, .slice rA x.f1.f1.length rc]) (seg := [.slice A2 x.f1.f1.length c2]) (j := 2) rfl (fun q u hq => by rw [Int.toNat_natCast]; rcases q with _ | _ | _ | q; (cases hq; exact hx0); (cases hq; exact hx3); (cases hq; exact hx1); (cases hq)) (show 2 + 1 ≤ 3 by decide) (x' := ⟨x.f0, x.f1.f0, A2, x.f1.f1.length, c2⟩) (kRW_mkM _ _ _ _) (fun _ h => h.elim)
   rw [Int.toNat_natCast] at hres
   have hINew : IN (Kd.int .i64) (w2.setCell ⟨g, i * 3 + 2, none⟩ (.slice A2 x.f1.f1.length c2)) (fun k => some k ≠ (Value.slice (some ⟨g, 0, none⟩) n c).ownBlock ∧ (i < i + 1 → w.heap.size ≤ k)) ⟨x.f0, x.f1.f0, A2, x.f1.f1.length, c2⟩ x.f0 x.f1.f0 x.f1.f1 := by
    refine ⟨rfl, rfl, rfl, (Kd.R_reads' ho2).2.1, ?_⟩
    have h1 := Kd.F_mono (Kd.R_F (Kd.R_bound ho2)) (ok' := fun k => k ≠ g ∧ w.heap.size ≤ k) (fun k hk => by have := hk.2.1; have := HGL.out; have := below_size HB.out; omega)
    exact Kd.F_mono (Kd.F_far h1 (p := ⟨g, i * 3 + 2, none⟩) (fun k hk => hk.1) _) (fun k hk => ⟨fun he => hk.1 (by simpa [Value.ownBlock] using he), fun _ => hk.2⟩)
   have hIold := (HO.out.2.below hb2).step (w1 := w2.setCell ⟨g, i * 3 + 2, none⟩ (.slice A2 x.f1.f1.length c2)) (fun j k hk _ => Below.heap_setCell _ _ _ _ (fun he => hk.1 (by rw [he]; simp [Value.ownBlock])))
   have hxi : l0[i]? = some x := by
    have hil : i < l0.length := by rw [HN.out]; exact hj
    rw [← HX.out.2, List.getD_eq_getElem?_getD, List.getElem?_eq_getElem hil]; rfl
   have HI2 := aK (INj.set hIold (okj' := fun j k => some k ≠ (Value.slice (some ⟨g, 0, none⟩) n c).ownBlock ∧ (j < i + 1 → w.heap.size ≤ k)) hxi hINew (fun j k hne hk => ⟨hk.1, fun hlt => hk.2 (by omega)⟩))
   have HO2 := aK (show Kd.R kRW 72 (w2.setCell ⟨g, i * 3 + 2, none⟩ (.slice A2 x.f1.f1.length c2)) w.heap.size (fun _ => True) (.slice (some ⟨g, 0, none⟩) n c) (L.set i ⟨x.f0, x.f1.f0, A2, x.f1.f1.length, c2⟩) from hres.1)
   have HB2 := aK (show Below w.heap.size w (w2.setCell ⟨g, i * 3 + 2, none⟩ (.slice A2 x.f1.f1.length c2)) from below_set (bS HB.out hb2) HG.out)
   clear hINew hIold hxi hres HOb hcells hcells2 cells HCE ho2 hb2 hx0 hx3
   go_wp2_with fail
   go_roundw
   case rel => exact ⟨i + 1, L.set i ⟨x.f0, x.f1.f0, A2, x.f1.f1.length, c2⟩, by go_num, by omega, ⟨by rw [List.length_set]; exact HLL.out⟩, ⟨HO2.out, HI2.out⟩, HB2⟩
   case measure => simp [intOf]; omega
  ·have hge : decide ((i : Int) < (n : Int)) = false := by simp; omega
   go_wp2_with fail
   go_ret
   exact ⟨_, L, rfl, ⟨HO.out.1, HO.out.2.to (fun j hjl k hk => ⟨hk.1, hk.2 (by have := HN.out; omega)⟩)⟩, HB.out⟩
end Go.Proofs.YtkfehkaiifjkmaaGreat.P
