-- Written by a program of this session (wip/pp.py over the kit's printer, with our own texts put in).
import Derived.Test.YtejoofeigeoboaaP0
import Derived.Test.YtejoofeigeoboaaP1
import Derived.Test.YtejoofeigeoboaaP2
import Derived.Test.YtejoofeigeoboaaP4
import Derived.Test.YtejoofeigeoboaaP5
import Derived.Test.YtejoofeigeoboaaP6
namespace Go.Proofs.Ytejoofeigeoboaa.P
open Go.RowKit Go.Proofs.YtejoofeigeoboaaW.PrintWords Go.Proofs.YtejoofeigeoboaaW.PrintLast Go.Proofs.YtejoofeigeoboaaW.PrintMore
attribute [local go_sem] max2_int min2_int max_two min_two max_three min_three max_four min_four   -- for this text's walks alone
set_option linter.unusedVariables false
set_option linter.unusedSimpArgs false

/-! ### cenotaphlaw02_SpanGroups: function 6 -/
def cenotaphlaw02_SpanGroups.f (k : Nat) (a0_0 : Int) (l0_1 : List Int) (a1_0 : Int) (l1_1 : List Int) (a2_0 : Int) (l2_1 : List Int) : Option Bool := (cenotaphref02_Fix.f k a0_0 l0_1).bind fun b1 => (cenotaphlaw02_To.f b1.1 b1.2).bind fun x => (cenotaphref02_Fix.f k a1_0 l1_1).bind fun b2 => (cenotaphlaw02_To.f b2.1 b2.2).bind fun y => (cenotaphref02_Fix.f k a2_0 l2_1).bind fun b3 => (cenotaphlaw02_To.f b3.1 b3.2).bind fun z => (cenotaphlaw02_told.f k ).bind fun td => if td = true then (span_Union.f k x.1 x.2 y.1 y.2).bind fun p => (span_Union.f k p.1 p.2 z.1 z.2).bind fun q => (span_Union.f k y.1 y.2 z.1 z.2).bind fun u => (span_Union.f k x.1 x.2 u.1 u.2).bind fun v => (span_Same.f k q.1 q.2 v.1 v.2).bind fun s => if s = true then (span_Union.f k x.1 x.2 x.1 x.2).bind fun d => (span_Same.f k d.1 d.2 x.1 x.2).bind fun s2 => if s2 = true then (span_Within.f k x.1 x.2 y.1 y.2).bind fun w1 => if w1 = true then (span_Within.f k y.1 y.2 z.1 z.2).bind fun w2 => if w2 = true then (span_Within.f k x.1 x.2 z.1 z.2) else some true else some true else none else none else none
def cenotaphlaw02_SpanGroups.Rr (w W : World) (v : Value) (l : List Int) : Prop := Kd.R (Kd.int .i64) 3 W w.heap.size (fun _ => True) v l
def cenotaphlaw02_SpanGroups.AL (w W : World) (b : Nat → Bool) (j s g : Nat) (u : Int) (v : Value) : Prop := b j = true → w.heap.size ≤ g ∧ (b s = false → W.heap[g]? = some (.cells #[.int .i64 0, .slice none 0 0] 24 (0, 0))) ∧ (b s = true → W.heap[g]? = some (.cells #[.int .i64 u, v] 24 (0, 0)))
theorem cenotaphlaw02_SpanGroups.AL.lt {w W : World} {b : Nat → Bool} {j s g : Nat} {u : Int} {v : Value} (h : cenotaphlaw02_SpanGroups.AL w W b j s g u v) (hj : b j = true) : g < W.heap.size := by
  obtain ⟨_, h1, h2⟩ := h hj
  cases hs : b s
  · exact blk_lt (h1 hs)
  · exact blk_lt (h2 hs)
theorem cenotaphlaw02_SpanGroups.AL.below {w W W1 : World} {b : Nat → Bool} {j s g : Nat} {u : Int} {v : Value} (h : cenotaphlaw02_SpanGroups.AL w W b j s g u v) (hb : Below W.heap.size W W1) : cenotaphlaw02_SpanGroups.AL w W1 b j s g u v := fun hj => ⟨(h hj).1, fun hs => blk_below ((h hj).2.1 hs) hb, fun hs => blk_below ((h hj).2.2 hs) hb⟩
theorem cenotaphlaw02_SpanGroups.AL.far {w W : World} {b : Nat → Bool} {j s g g' : Nat} {u : Int} {v : Value} (h : cenotaphlaw02_SpanGroups.AL w W b j s g u v) (hne : b j = true → g ≠ g') (p q : Value) : cenotaphlaw02_SpanGroups.AL w ((W.setCell ⟨g', 0, none⟩ p).setCell ⟨g', 1, none⟩ q) b j s g u v := fun hj => ⟨(h hj).1, fun hs => blk_far (blk_far ((h hj).2.1 hs) (hne hj) p) (hne hj) q, fun hs => blk_far (blk_far ((h hj).2.2 hs) (hne hj) p) (hne hj) q⟩
theorem cenotaphlaw02_SpanGroups.Rr.far {w W : World} {v : Value} {l : List Int} {g : Nat} {cs : Array Value} (h : cenotaphlaw02_SpanGroups.Rr w W v l) (hb : W.heap[g]? = some (.cells cs 24 (0, 0))) (p q : Value) : cenotaphlaw02_SpanGroups.Rr w ((W.setCell ⟨g, 0, none⟩ p).setCell ⟨g, 1, none⟩ q) v l :=
  Kd.R_mono (Kd.R_far (Kd.R_far (Kd.R_types h hb (by intro t ht; simp [Kd.int, Kd.scalar] at ht; omega)) (p := ⟨g, 0, none⟩) (fun k hk => hk.2) p) (p := ⟨g, 1, none⟩) (fun k hk => hk.2) q) (fun _ _ => trivial)
theorem cenotaphlaw02_SpanGroups.put2 {W : World} {g : Nat} {T : TypeId} {o0 o1 : Value} (h : W.heap[g]? = some (.cells #[o0, o1] T (0, 0))) (v0 v1 : Value) : ((W.setCell ⟨g, 0, none⟩ v0).setCell ⟨g, 1, none⟩ v1).heap[g]? = some (.cells #[v0, v1] T (0, 0)) := by
  have h0 := blk_put (cs' := #[v0, o1]) h 0 v0 rfl
  exact blk_put (cs' := #[v0, v1]) h0 1 v1 rfl
def cenotaphlaw02_SpanGroups.FA (w W : World) (b : Nat → Bool) (cX cY cZ : Array Value) (v1 v2 v4 v5 v7 v8 : Value) (m1 xl m2 yl m3 zl : List Int) (x1 y1 z1 : Int) (g9 g10 g11 : Nat) : Prop :=
  (W.heap[w.heap.size]? = some (.cells cX 30 (0, 0)) ∧ W.heap[w.heap.size + 1]? = some (.cells cY 30 (0, 0)) ∧ W.heap[w.heap.size + 2]? = some (.cells cZ 30 (0, 0)) ∧ Below w.heap.size w W) ∧
  ((b 1 = true → cenotaphlaw02_SpanGroups.Rr w W v1 m1) ∧ (b 2 = true → cenotaphlaw02_SpanGroups.Rr w W v2 xl) ∧ (b 4 = true → cenotaphlaw02_SpanGroups.Rr w W v4 m2) ∧ (b 5 = true → cenotaphlaw02_SpanGroups.Rr w W v5 yl) ∧ (b 7 = true → cenotaphlaw02_SpanGroups.Rr w W v7 m3) ∧ (b 8 = true → cenotaphlaw02_SpanGroups.Rr w W v8 zl)) ∧
  (cenotaphlaw02_SpanGroups.AL w W b 9 12 g9 x1 v2 ∧ cenotaphlaw02_SpanGroups.AL w W b 10 13 g10 y1 v5 ∧ cenotaphlaw02_SpanGroups.AL w W b 11 14 g11 z1 v8) ∧
  ((b 9 = true → b 10 = true → g9 ≠ g10) ∧ (b 9 = true → b 11 = true → g9 ≠ g11) ∧ (b 10 = true → b 11 = true → g10 ≠ g11))
theorem cenotaphlaw02_SpanGroups.FA.below {w W W1 : World} {b : Nat → Bool} {cX cY cZ : Array Value} {v1 v2 v4 v5 v7 v8 : Value} {m1 xl m2 yl m3 zl : List Int} {x1 y1 z1 : Int} {g9 g10 g11 : Nat} (h : cenotaphlaw02_SpanGroups.FA w W b cX cY cZ v1 v2 v4 v5 v7 v8 m1 xl m2 yl m3 zl x1 y1 z1 g9 g10 g11) (hb : Below W.heap.size W W1) : cenotaphlaw02_SpanGroups.FA w W1 b cX cY cZ v1 v2 v4 v5 v7 v8 m1 xl m2 yl m3 zl x1 y1 z1 g9 g10 g11 :=
  ⟨⟨blk_below h.1.1 hb, blk_below h.1.2.1 hb, blk_below h.1.2.2.1 hb, below_step h.1.2.2.2 hb⟩,
   ⟨fun z => Kd.R_below (h.2.1.1 z) hb, fun z => Kd.R_below (h.2.1.2.1 z) hb, fun z => Kd.R_below (h.2.1.2.2.1 z) hb, fun z => Kd.R_below (h.2.1.2.2.2.1 z) hb, fun z => Kd.R_below (h.2.1.2.2.2.2.1 z) hb, fun z => Kd.R_below (h.2.1.2.2.2.2.2 z) hb⟩,
   ⟨h.2.2.1.1.below hb, h.2.2.1.2.1.below hb, h.2.2.1.2.2.below hb⟩, h.2.2.2⟩
def cenotaphlaw02_SpanGroups.T1 : Bool × List (List Nat × List Nat) := (true, [([], []), ([0], [0]), ([1, 1], [1]), ([], []), ([3, 2], [3]), ([4, 4], [4]), ([], []), ([6, 5], [6]), ([7, 7], [7]), ([], []), ([], []), ([], []), ([9, 2, 8, 0, 1, 2, 9, 10, 11], [2, 9]), ([10, 5, 12, 0, 1, 2, 3, 4, 5, 9, 10, 11, 12], [5, 10]), ([11, 8, 13, 0, 1, 2, 3, 4, 5, 6, 7, 8, 9, 10, 11, 12, 13], [8, 11])])
def cenotaphlaw02_SpanGroups.B1 : List Nat := [0, 1, 3, 0, 15, 31, 0, 127, 255, 0, 0, 0, 4095, 8191, 16383]
theorem cenotaphlaw02_SpanGroups.tab1 : rtab .any (opsOf Try.f6 1) = cenotaphlaw02_SpanGroups.T1 := by kernel_rfl
theorem cenotaphlaw02_SpanGroups.bits1 : waitsOk cenotaphlaw02_SpanGroups.T1.2 cenotaphlaw02_SpanGroups.B1 = true := by kernel_rfl
set_option maxHeartbeats 8000000 in
set_option maxRecDepth 100000 in
theorem cenotaphlaw02_SpanGroups.calls (k : Nat) (a0_0 : Int) (A0_1 : Option Addr) (c0_1 : Nat) (l0_1 : List Int) (a1_0 : Int) (A1_1 : Option Addr) (c1_1 : Nat) (l1_1 : List Int) (a2_0 : Int) (A2_1 : Option Addr) (c2_1 : Nat) (l2_1 : List Int) (r : Bool) (w : World) (hr0_1 : Kd.C (Kd.int .i64) w A0_1 l0_1.length l0_1) (hc0_1 : l0_1.length ≤ c0_1) (hr1_1 : Kd.C (Kd.int .i64) w A1_1 l1_1.length l1_1) (hc1_1 : l1_1.length ≤ c1_1) (hr2_1 : Kd.C (Kd.int .i64) w A2_1 l2_1.length l2_1) (hc2_1 : l2_1.length ≤ c2_1) (h : cenotaphlaw02_SpanGroups.f k a0_0 l0_1 a1_0 l1_1 a2_0 l2_1 = some r) :
    Calls Try.prog 6 #[.agg #[.int .i64 a0_0, .slice A0_1 l0_1.length c0_1], .agg #[.int .i64 a1_0, .slice A1_1 l1_1.length c1_1], .agg #[.int .i64 a2_0, .slice A2_1 l2_1.length c2_1]] w fun e w' => e = .returned (.bool r) ∧ Below w.heap.size w w' := by
  replace h := Option.bind_eq_some_iff.mp h; obtain ⟨⟨p1, m1⟩, H1, h⟩ := h
  replace h := Option.bind_eq_some_iff.mp h; obtain ⟨⟨x1, xl⟩, H2, h⟩ := h
  replace h := Option.bind_eq_some_iff.mp h; obtain ⟨⟨p2, m2⟩, H3, h⟩ := h
  replace h := Option.bind_eq_some_iff.mp h; obtain ⟨⟨y1, yl⟩, H4, h⟩ := h
  replace h := Option.bind_eq_some_iff.mp h; obtain ⟨⟨p3, m3⟩, H5, h⟩ := h
  replace h := Option.bind_eq_some_iff.mp h; obtain ⟨⟨z1, zl⟩, H6, h⟩ := h
  replace h := Option.bind_eq_some_iff.mp h; obtain ⟨td, HT, h⟩ := h
  by_cases htd : td = true
  rotate_left
  · rw [if_neg htd] at h; cases h
  rw [if_pos htd] at h
  subst htd
  replace h := Option.bind_eq_some_iff.mp h; obtain ⟨⟨p, pl⟩, U1, h⟩ := h
  replace h := Option.bind_eq_some_iff.mp h; obtain ⟨⟨q, ql⟩, U2, h⟩ := h
  replace h := Option.bind_eq_some_iff.mp h; obtain ⟨⟨u, ul⟩, U3, h⟩ := h
  replace h := Option.bind_eq_some_iff.mp h; obtain ⟨⟨v, vl⟩, U4, h⟩ := h
  replace h := Option.bind_eq_some_iff.mp h; obtain ⟨s, S1, h⟩ := h
  by_cases hs : s = true
  rotate_left
  · rw [if_neg hs] at h; cases h
  rw [if_pos hs] at h
  subst hs
  replace h := Option.bind_eq_some_iff.mp h; obtain ⟨⟨d, dl⟩, U5, h⟩ := h
  replace h := Option.bind_eq_some_iff.mp h; obtain ⟨s2, S2, h⟩ := h
  by_cases hs : s2 = true
  rotate_left
  · rw [if_neg hs] at h; cases h
  rw [if_pos hs] at h
  subst hs
  dsimp only at H2 H4 H6 U1 U2 U3 U4 U5 S1 S2 h
  replace H1 := Aside0.mk H1
  replace H2 := Aside0.mk H2
  replace H3 := Aside0.mk H3
  replace H4 := Aside0.mk H4
  replace H5 := Aside0.mk H5
  replace H6 := Aside0.mk H6
  replace HT := Aside0.mk HT
  replace U1 := Aside0.mk U1
  replace U2 := Aside0.mk U2
  replace U3 := Aside0.mk U3
  replace U4 := Aside0.mk U4
  replace U5 := Aside0.mk U5
  replace S1 := Aside0.mk S1
  replace S2 := Aside0.mk S2
  replace h := Aside0.mk h
  have HR0 := Aside0.mk hr0_1
  have HC0 := Aside0.mk hc0_1
  clear hr0_1 hc0_1
  have HR1 := Aside0.mk hr1_1
  have HC1 := Aside0.mk hc1_1
  clear hr1_1 hc1_1
  have HR2 := Aside0.mk hr2_1
  have HC2 := Aside0.mk hc2_1
  clear hr2_1 hc2_1
  have hu := Try.underlying30
  have hu2 := Try.underlying24
  have B0 := Aside0.mk (blk_alloc (blk_alloc (blk_new w (.cells #[.int .i64 a0_0, .slice A0_1 l0_1.length c0_1] 30)) (.cells #[.int .i64 a1_0, .slice A1_1 l1_1.length c1_1] 30)) (.cells #[.int .i64 a2_0, .slice A2_1 l2_1.length c2_1] 30))
  have B1 := Aside0.mk (blk_alloc (blk_new (w.alloc (.cells #[.int .i64 a0_0, .slice A0_1 l0_1.length c0_1] 30)) (.cells #[.int .i64 a1_0, .slice A1_1 l1_1.length c1_1] 30)) (.cells #[.int .i64 a2_0, .slice A2_1 l2_1.length c2_1] 30))
  have B2 := Aside0.mk (blk_new ((w.alloc (.cells #[.int .i64 a0_0, .slice A0_1 l0_1.length c0_1] 30)).alloc (.cells #[.int .i64 a1_0, .slice A1_1 l1_1.length c1_1] 30)) (.cells #[.int .i64 a2_0, .slice A2_1 l2_1.length c2_1] 30))
  have HB := Aside0.mk (below_alloc (below_alloc (below_alloc (Below.refl w.heap.size w) (.cells #[.int .i64 a0_0, .slice A0_1 l0_1.length c0_1] 30)) (.cells #[.int .i64 a1_0, .slice A1_1 l1_1.length c1_1] 30)) (.cells #[.int .i64 a2_0, .slice A2_1 l2_1.length c2_1] 30))
  have e1 : (w.alloc (.cells #[.int .i64 a0_0, .slice A0_1 l0_1.length c0_1] 30)).heap.size = w.heap.size + 1 := Array.size_push _
  have e2 : ((w.alloc (.cells #[.int .i64 a0_0, .slice A0_1 l0_1.length c0_1] 30)).alloc (.cells #[.int .i64 a1_0, .slice A1_1 l1_1.length c1_1] 30)).heap.size = w.heap.size + 2 := by rw [show ((w.alloc (.cells #[.int .i64 a0_0, .slice A0_1 l0_1.length c0_1] 30)).alloc (.cells #[.int .i64 a1_0, .slice A1_1 l1_1.length c1_1] 30)).heap.size = (w.alloc (.cells #[.int .i64 a0_0, .slice A0_1 l0_1.length c0_1] 30)).heap.size + 1 from Array.size_push _, e1]
  rw [e1] at B1
  rw [e2] at B2
  clear e1 e2
  go_enter Try.func6, Try.ntmps6
  go_upto_region 1 with fail
  generalize ((w.alloc _).alloc _).alloc _ = w1 at B0 B1 B2 HB ⊢
  have F0 : cenotaphlaw02_SpanGroups.FA w w1.drew (fun _ => false) #[.int .i64 a0_0, .slice A0_1 l0_1.length c0_1] #[.int .i64 a1_0, .slice A1_1 l1_1.length c1_1] #[.int .i64 a2_0, .slice A2_1 l2_1.length c2_1] (.bool false) (.bool false) (.bool false) (.bool false) (.bool false) (.bool false) m1 xl m2 yl m3 zl x1 y1 z1 0 0 0 :=
    ⟨⟨blk_drew B0.out, blk_drew B1.out, blk_drew B2.out, below_drew1 HB.out⟩, ⟨fun h => absurd h (by decide), fun h => absurd h (by decide), fun h => absurd h (by decide), fun h => absurd h (by decide), fun h => absurd h (by decide), fun h => absurd h (by decide)⟩, ⟨fun h => absurd h (by decide), fun h => absurd h (by decide), fun h => absurd h (by decide)⟩, ⟨fun h => absurd h (by decide), fun h => absurd h (by decide), fun h => absurd h (by decide)⟩⟩
  clear B0 B1 B2 HB
  replace F0 := Aside0.mk F0
  refine start_ (n := 15) (S := fun w' => True) (ds := []) #[false, false, false, false, false, false, false, false, false, false, false, false, false, false, false] (by kernel_rfl) rfl rfl trivial (fun hHeld => ?_); refine with_tabW cenotaphlaw02_SpanGroups.tab1 cenotaphlaw02_SpanGroups.bits1 (fun HT_ HW_ => ?_)
  generalize w1.drew = w2 at F0 hHeld ⊢
  refine inv_at [0, 1, 2, 3, 4, 5, 6, 7, 8, 9, 10, 11, 12, 13, 14] (fun a0_ b a w' => ∃ (v1 : Value) (v2 : Value) (v4 : Value) (v5 : Value) (v7 : Value) (v8 : Value) (g9 : Nat) (g10 : Nat) (g11 : Nat), a = putSel a0_ b [(0, 10, .agg #[.int .i64 a0_0, .slice A0_1 l0_1.length c0_1]), (1, 11, .agg #[.int .i64 p1, v1]), (2, 12, .agg #[.int .i64 x1, v2]), (3, 13, .agg #[.int .i64 a1_0, .slice A1_1 l1_1.length c1_1]), (4, 14, .agg #[.int .i64 p2, v4]), (5, 15, .agg #[.int .i64 y1, v5]), (6, 16, .agg #[.int .i64 a2_0, .slice A2_1 l2_1.length c2_1]), (7, 17, .agg #[.int .i64 p3, v7]), (8, 18, .agg #[.int .i64 z1, v8]), (9, 7, .pointer (some ⟨g9, 0, none⟩)), (10, 8, .pointer (some ⟨g10, 0, none⟩)), (11, 9, .pointer (some ⟨g11, 0, none⟩))] ∧ cenotaphlaw02_SpanGroups.FA w w' b #[.int .i64 a0_0, .slice A0_1 l0_1.length c0_1] #[.int .i64 a1_0, .slice A1_1 l1_1.length c1_1] #[.int .i64 a2_0, .slice A2_1 l2_1.length c2_1] v1 v2 v4 v5 v7 v8 m1 xl m2 yl m3 zl x1 y1 z1 g9 g10 g11) HT_.out HW_.out (by kernel_rfl) (by kernel_rfl) ?_ ?_ ?_
  · exact ⟨.bool false, .bool false, .bool false, .bool false, .bool false, .bool false, 0, 0, 0, by simp only [putSel, Bool.false_eq_true, if_false], F0.out⟩
  · clear F0
    refine steps_cons ?_ ?_
    · rintro b a w' ⟨v1, v2, v4, v5, v7, v8, g9, g10, g11, ha, hF⟩ hb_ hon hoff
      refine ⟨_, rfl, fun K hK => ?_⟩
      have e3 : a.tmps[3]? = some (.pointer (some ⟨w.heap.size, 0, none⟩)) := by rw [ha]; exact (putSel_off rfl).trans rfl
      have hc0_ : w'.cell? ⟨w.heap.size, 0, none⟩ = some (.int .i64 a0_0) := (blk_cell hF.1.1 0).trans rfl
      have hc1_ : w'.cell? ⟨w.heap.size, 1, none⟩ = some (.slice A0_1 l0_1.length c0_1) := (blk_cell hF.1.1 1).trans rfl
      replace ha := Aside0.mk ha
      replace hF := Aside0.mk hF
      refine value_ (w1 := w') (v := .agg #[.int .i64 a0_0, .slice A0_1 l0_1.length c0_1]) (by rfl) rfl ?_ ?_
      · go_simp
        (try simp only [i64_w])
        try rfl
      refine hK.out _ _ ⟨v1, v2, v4, v5, v7, v8, g9, g10, g11, (by rw [ha.out]; exact putSel_upk 0 hb_ rfl rfl rfl), hF.out⟩
    refine steps_cons ?_ ?_
    · rintro b a w' ⟨v1, v2, v4, v5, v7, v8, g9, g10, g11, ha, hF⟩ hb_ hon hoff
      refine ⟨_, rfl, fun K hK => ?_⟩
      have e10 : a.tmps[10]? = some (.agg #[.int .i64 a0_0, .slice A0_1 l0_1.length c0_1]) := by rw [ha]; exact putSel_on (e := (0, 10, .agg #[.int .i64 a0_0, .slice A0_1 l0_1.length c0_1])) 0 rfl rfl (hon 0 (by kernel_rfl)) rfl
      replace ha := Aside0.mk ha
      replace hF := Aside0.mk hF
      refine goes_ Try.func17 (by kernel_rfl) rfl #[.agg #[.int .i64 a0_0, .slice A0_1 l0_1.length c0_1]] (by rfl) rfl rfl (by first | (simp only [List.map_toArray, List.map_cons, List.map_nil, Act.eval, Array.getD_eq_getD_getElem?, Option.getD_some, e10]; done) | (simp only [List.map_toArray, List.map_cons, List.map_nil, Act.eval, Array.getD_eq_getD_getElem?, Option.getD_some, e10]; rfl)) ?_
      refine (cenotaphref02_Fix.calls k a0_0 _ _ l0_1 p1 m1 _ (Kd.C_below HR0.out hF.out.1.2.2.2) HC0.out H1.out).mono ?_
      rintro e w3 ⟨vn, rfl, ho, hb⟩
      refine ⟨_, rfl, ?_⟩
      have hr : cenotaphlaw02_SpanGroups.Rr w w3 vn m1 := Kd.R_lower ho (below_size hF.out.1.2.2.2)
      have hG := hF.out.below hb
      clear ho hb
      refine hK.out _ _ ⟨vn, v2, v4, v5, v7, v8, g9, g10, g11, (by rw [ha.out]; exact putSel_upk 1 hb_ rfl rfl rfl), hG.1, ⟨fun _ => hr, hG.2.1.2.1, hG.2.1.2.2.1, hG.2.1.2.2.2.1, hG.2.1.2.2.2.2.1, hG.2.1.2.2.2.2.2⟩, ⟨hG.2.2.1.1, hG.2.2.1.2.1, hG.2.2.1.2.2⟩, hG.2.2.2⟩
    refine steps_cons ?_ ?_
    · rintro b a w' ⟨v1, v2, v4, v5, v7, v8, g9, g10, g11, ha, hF⟩ hb_ hon hoff
      refine ⟨_, rfl, fun K hK => ?_⟩
      have e11 : a.tmps[11]? = some (.agg #[.int .i64 p1, v1]) := by rw [ha]; exact putSel_on (e := (1, 11, .agg #[.int .i64 p1, v1])) 1 rfl rfl (hon 1 (by kernel_rfl)) rfl
      have r0 := hF.2.1.1 (hon 1 (by kernel_rfl))
      obtain ⟨Ao, co, rfl⟩ := Kd.R_slice r0
      replace ha := Aside0.mk ha
      replace hF := Aside0.mk hF
      refine goes_ Try.func15 (by kernel_rfl) rfl #[.agg #[.int .i64 p1, .slice Ao m1.length co]] (by rfl) rfl rfl (by first | (simp only [List.map_toArray, List.map_cons, List.map_nil, Act.eval, Array.getD_eq_getD_getElem?, Option.getD_some, e11]; done) | (simp only [List.map_toArray, List.map_cons, List.map_nil, Act.eval, Array.getD_eq_getD_getElem?, Option.getD_some, e11]; rfl)) ?_
      refine (cenotaphlaw02_To.calls p1 _ _ m1 x1 xl _ (Kd.R_reads' r0).2.2 (Kd.R_reads' r0).2.1 H2.out).mono ?_
      clear r0
      rintro e w3 ⟨vn, rfl, ho, hb⟩
      refine ⟨_, rfl, ?_⟩
      have hr : cenotaphlaw02_SpanGroups.Rr w w3 vn xl := Kd.R_lower ho (below_size hF.out.1.2.2.2)
      have hG := hF.out.below hb
      clear ho hb
      refine hK.out _ _ ⟨.slice Ao m1.length co, vn, v4, v5, v7, v8, g9, g10, g11, (by rw [ha.out]; exact putSel_upk 2 hb_ rfl rfl rfl), hG.1, ⟨hG.2.1.1, fun _ => hr, hG.2.1.2.2.1, hG.2.1.2.2.2.1, hG.2.1.2.2.2.2.1, hG.2.1.2.2.2.2.2⟩, ⟨fun hj => ⟨(hG.2.2.1.1 hj).1, (hG.2.2.1.1 hj).2.1, fun hs => absurd ((hoff 12 (by kernel_rfl)).symm.trans hs) (by decide)⟩, hG.2.2.1.2.1, hG.2.2.1.2.2⟩, hG.2.2.2⟩
    refine steps_cons ?_ ?_
    · rintro b a w' ⟨v1, v2, v4, v5, v7, v8, g9, g10, g11, ha, hF⟩ hb_ hon hoff
      refine ⟨_, rfl, fun K hK => ?_⟩
      have e4 : a.tmps[4]? = some (.pointer (some ⟨w.heap.size + 1, 0, none⟩)) := by rw [ha]; exact (putSel_off rfl).trans rfl
      have hc0_ : w'.cell? ⟨w.heap.size + 1, 0, none⟩ = some (.int .i64 a1_0) := (blk_cell hF.1.2.1 0).trans rfl
      have hc1_ : w'.cell? ⟨w.heap.size + 1, 1, none⟩ = some (.slice A1_1 l1_1.length c1_1) := (blk_cell hF.1.2.1 1).trans rfl
      replace ha := Aside0.mk ha
      replace hF := Aside0.mk hF
      refine value_ (w1 := w') (v := .agg #[.int .i64 a1_0, .slice A1_1 l1_1.length c1_1]) (by rfl) rfl ?_ ?_
      · go_simp
        (try simp only [i64_w])
        try rfl
      refine hK.out _ _ ⟨v1, v2, v4, v5, v7, v8, g9, g10, g11, (by rw [ha.out]; exact putSel_upk 3 hb_ rfl rfl rfl), hF.out⟩
    refine steps_cons ?_ ?_
    · rintro b a w' ⟨v1, v2, v4, v5, v7, v8, g9, g10, g11, ha, hF⟩ hb_ hon hoff
      refine ⟨_, rfl, fun K hK => ?_⟩
      have e13 : a.tmps[13]? = some (.agg #[.int .i64 a1_0, .slice A1_1 l1_1.length c1_1]) := by rw [ha]; exact putSel_on (e := (3, 13, .agg #[.int .i64 a1_0, .slice A1_1 l1_1.length c1_1])) 3 rfl rfl (hon 3 (by kernel_rfl)) rfl
      replace ha := Aside0.mk ha
      replace hF := Aside0.mk hF
      refine goes_ Try.func17 (by kernel_rfl) rfl #[.agg #[.int .i64 a1_0, .slice A1_1 l1_1.length c1_1]] (by rfl) rfl rfl (by first | (simp only [List.map_toArray, List.map_cons, List.map_nil, Act.eval, Array.getD_eq_getD_getElem?, Option.getD_some, e13]; done) | (simp only [List.map_toArray, List.map_cons, List.map_nil, Act.eval, Array.getD_eq_getD_getElem?, Option.getD_some, e13]; rfl)) ?_
      refine (cenotaphref02_Fix.calls k a1_0 _ _ l1_1 p2 m2 _ (Kd.C_below HR1.out hF.out.1.2.2.2) HC1.out H3.out).mono ?_
      rintro e w3 ⟨vn, rfl, ho, hb⟩
      refine ⟨_, rfl, ?_⟩
      have hr : cenotaphlaw02_SpanGroups.Rr w w3 vn m2 := Kd.R_lower ho (below_size hF.out.1.2.2.2)
      have hG := hF.out.below hb
      clear ho hb
      refine hK.out _ _ ⟨v1, v2, vn, v5, v7, v8, g9, g10, g11, (by rw [ha.out]; exact putSel_upk 4 hb_ rfl rfl rfl), hG.1, ⟨hG.2.1.1, hG.2.1.2.1, fun _ => hr, hG.2.1.2.2.2.1, hG.2.1.2.2.2.2.1, hG.2.1.2.2.2.2.2⟩, ⟨hG.2.2.1.1, hG.2.2.1.2.1, hG.2.2.1.2.2⟩, hG.2.2.2⟩
    refine steps_cons ?_ ?_
    · rintro b a w' ⟨v1, v2, v4, v5, v7, v8, g9, g10, g11, ha, hF⟩ hb_ hon hoff
      refine ⟨_, rfl, fun K hK => ?_⟩
      have e14 : a.tmps[14]? = some (.agg #[.int .i64 p2, v4]) := by rw [ha]; exact putSel_on (e := (4, 14, .agg #[.int .i64 p2, v4])) 4 rfl rfl (hon 4 (by kernel_rfl)) rfl
      have r0 := hF.2.1.2.2.1 (hon 4 (by kernel_rfl))
      obtain ⟨Ao, co, rfl⟩ := Kd.R_slice r0
      replace ha := Aside0.mk ha
      replace hF := Aside0.mk hF
      refine goes_ Try.func15 (by kernel_rfl) rfl #[.agg #[.int .i64 p2, .slice Ao m2.length co]] (by rfl) rfl rfl (by first | (simp only [List.map_toArray, List.map_cons, List.map_nil, Act.eval, Array.getD_eq_getD_getElem?, Option.getD_some, e14]; done) | (simp only [List.map_toArray, List.map_cons, List.map_nil, Act.eval, Array.getD_eq_getD_getElem?, Option.getD_some, e14]; rfl)) ?_
      refine (cenotaphlaw02_To.calls p2 _ _ m2 y1 yl _ (Kd.R_reads' r0).2.2 (Kd.R_reads' r0).2.1 H4.out).mono ?_
      clear r0
      rintro e w3 ⟨vn, rfl, ho, hb⟩
      refine ⟨_, rfl, ?_⟩
      have hr : cenotaphlaw02_SpanGroups.Rr w w3 vn yl := Kd.R_lower ho (below_size hF.out.1.2.2.2)
      have hG := hF.out.below hb
      clear ho hb
      refine hK.out _ _ ⟨v1, v2, .slice Ao m2.length co, vn, v7, v8, g9, g10, g11, (by rw [ha.out]; exact putSel_upk 5 hb_ rfl rfl rfl), hG.1, ⟨hG.2.1.1, hG.2.1.2.1, hG.2.1.2.2.1, fun _ => hr, hG.2.1.2.2.2.2.1, hG.2.1.2.2.2.2.2⟩, ⟨hG.2.2.1.1, fun hj => ⟨(hG.2.2.1.2.1 hj).1, (hG.2.2.1.2.1 hj).2.1, fun hs => absurd ((hoff 13 (by kernel_rfl)).symm.trans hs) (by decide)⟩, hG.2.2.1.2.2⟩, hG.2.2.2⟩
    refine steps_cons ?_ ?_
    · rintro b a w' ⟨v1, v2, v4, v5, v7, v8, g9, g10, g11, ha, hF⟩ hb_ hon hoff
      refine ⟨_, rfl, fun K hK => ?_⟩
      have e5 : a.tmps[5]? = some (.pointer (some ⟨w.heap.size + 2, 0, none⟩)) := by rw [ha]; exact (putSel_off rfl).trans rfl
      have hc0_ : w'.cell? ⟨w.heap.size + 2, 0, none⟩ = some (.int .i64 a2_0) := (blk_cell hF.1.2.2.1 0).trans rfl
      have hc1_ : w'.cell? ⟨w.heap.size + 2, 1, none⟩ = some (.slice A2_1 l2_1.length c2_1) := (blk_cell hF.1.2.2.1 1).trans rfl
      replace ha := Aside0.mk ha
      replace hF := Aside0.mk hF
      refine value_ (w1 := w') (v := .agg #[.int .i64 a2_0, .slice A2_1 l2_1.length c2_1]) (by rfl) rfl ?_ ?_
      · go_simp
        (try simp only [i64_w])
        try rfl
      refine hK.out _ _ ⟨v1, v2, v4, v5, v7, v8, g9, g10, g11, (by rw [ha.out]; exact putSel_upk 6 hb_ rfl rfl rfl), hF.out⟩
    refine steps_cons ?_ ?_
    · rintro b a w' ⟨v1, v2, v4, v5, v7, v8, g9, g10, g11, ha, hF⟩ hb_ hon hoff
      refine ⟨_, rfl, fun K hK => ?_⟩
      have e16 : a.tmps[16]? = some (.agg #[.int .i64 a2_0, .slice A2_1 l2_1.length c2_1]) := by rw [ha]; exact putSel_on (e := (6, 16, .agg #[.int .i64 a2_0, .slice A2_1 l2_1.length c2_1])) 6 rfl rfl (hon 6 (by kernel_rfl)) rfl
      replace ha := Aside0.mk ha
      replace hF := Aside0.mk hF
      refine goes_ Try.func17 (by kernel_rfl) rfl #[.agg #[.int .i64 a2_0, .slice A2_1 l2_1.length c2_1]] (by rfl) rfl rfl (by first | (simp only [List.map_toArray, List.map_cons, List.map_nil, Act.eval, Array.getD_eq_getD_getElem?, Option.getD_some, e16]; done) | (simp only [List.map_toArray, List.map_cons, List.map_nil, Act.eval, Array.getD_eq_getD_getElem?, Option.getD_some, e16]; rfl)) ?_
      refine (cenotaphref02_Fix.calls k a2_0 _ _ l2_1 p3 m3 _ (Kd.C_below HR2.out hF.out.1.2.2.2) HC2.out H5.out).mono ?_
      rintro e w3 ⟨vn, rfl, ho, hb⟩
      refine ⟨_, rfl, ?_⟩
      have hr : cenotaphlaw02_SpanGroups.Rr w w3 vn m3 := Kd.R_lower ho (below_size hF.out.1.2.2.2)
      have hG := hF.out.below hb
      clear ho hb
      refine hK.out _ _ ⟨v1, v2, v4, v5, vn, v8, g9, g10, g11, (by rw [ha.out]; exact putSel_upk 7 hb_ rfl rfl rfl), hG.1, ⟨hG.2.1.1, hG.2.1.2.1, hG.2.1.2.2.1, hG.2.1.2.2.2.1, fun _ => hr, hG.2.1.2.2.2.2.2⟩, ⟨hG.2.2.1.1, hG.2.2.1.2.1, hG.2.2.1.2.2⟩, hG.2.2.2⟩
    refine steps_cons ?_ ?_
    · rintro b a w' ⟨v1, v2, v4, v5, v7, v8, g9, g10, g11, ha, hF⟩ hb_ hon hoff
      refine ⟨_, rfl, fun K hK => ?_⟩
      have e17 : a.tmps[17]? = some (.agg #[.int .i64 p3, v7]) := by rw [ha]; exact putSel_on (e := (7, 17, .agg #[.int .i64 p3, v7])) 7 rfl rfl (hon 7 (by kernel_rfl)) rfl
      have r0 := hF.2.1.2.2.2.2.1 (hon 7 (by kernel_rfl))
      obtain ⟨Ao, co, rfl⟩ := Kd.R_slice r0
      replace ha := Aside0.mk ha
      replace hF := Aside0.mk hF
      refine goes_ Try.func15 (by kernel_rfl) rfl #[.agg #[.int .i64 p3, .slice Ao m3.length co]] (by rfl) rfl rfl (by first | (simp only [List.map_toArray, List.map_cons, List.map_nil, Act.eval, Array.getD_eq_getD_getElem?, Option.getD_some, e17]; done) | (simp only [List.map_toArray, List.map_cons, List.map_nil, Act.eval, Array.getD_eq_getD_getElem?, Option.getD_some, e17]; rfl)) ?_
      refine (cenotaphlaw02_To.calls p3 _ _ m3 z1 zl _ (Kd.R_reads' r0).2.2 (Kd.R_reads' r0).2.1 H6.out).mono ?_
      clear r0
      rintro e w3 ⟨vn, rfl, ho, hb⟩
      refine ⟨_, rfl, ?_⟩
      have hr : cenotaphlaw02_SpanGroups.Rr w w3 vn zl := Kd.R_lower ho (below_size hF.out.1.2.2.2)
      have hG := hF.out.below hb
      clear ho hb
      refine hK.out _ _ ⟨v1, v2, v4, v5, .slice Ao m3.length co, vn, g9, g10, g11, (by rw [ha.out]; exact putSel_upk 8 hb_ rfl rfl rfl), hG.1, ⟨hG.2.1.1, hG.2.1.2.1, hG.2.1.2.2.1, hG.2.1.2.2.2.1, hG.2.1.2.2.2.2.1, fun _ => hr⟩, ⟨hG.2.2.1.1, hG.2.2.1.2.1, fun hj => ⟨(hG.2.2.1.2.2 hj).1, (hG.2.2.1.2.2 hj).2.1, fun hs => absurd ((hoff 14 (by kernel_rfl)).symm.trans hs) (by decide)⟩⟩, hG.2.2.2⟩
    refine steps_cons ?_ ?_
    · rintro b a w' ⟨v1, v2, v4, v5, v7, v8, g9, g10, g11, ha, hF⟩ hb_ hon hoff
      refine ⟨_, rfl, fun K hK => ?_⟩
      replace ha := Aside0.mk ha
      replace hF := Aside0.mk hF
      refine box_step ?hg (N := 7) ?hd (cs := #[.int .i64 0, .slice none 0 0]) (t := 24) ?hr ?_; (case hd => rfl); (case hg => rfl); (case hr => first | (go_simp; done) | (go_simp; rfl))
      intro gn hg w3 hbox hb
      have hG := hF.out.below hb
      refine hK.out _ _ ⟨v1, v2, v4, v5, v7, v8, gn, g10, g11, (by rw [ha.out]; exact putSel_upk 9 hb_ rfl rfl rfl), hG.1, hG.2.1, ⟨fun _ => ⟨by rw [hg]; exact below_size hF.out.1.2.2.2, fun _ => hbox, fun hs => absurd ((hoff 12 (by kernel_rfl)).symm.trans hs) (by decide)⟩, hG.2.2.1.2.1, hG.2.2.1.2.2⟩, ⟨fun _ hj => by have := (hF.out.2.2.1.2.1).lt hj; rw [hg]; omega, fun _ hj => by have := (hF.out.2.2.1.2.2).lt hj; rw [hg]; omega, hG.2.2.2.2.2⟩⟩
    refine steps_cons ?_ ?_
    · rintro b a w' ⟨v1, v2, v4, v5, v7, v8, g9, g10, g11, ha, hF⟩ hb_ hon hoff
      refine ⟨_, rfl, fun K hK => ?_⟩
      replace ha := Aside0.mk ha
      replace hF := Aside0.mk hF
      refine box_step ?hg (N := 8) ?hd (cs := #[.int .i64 0, .slice none 0 0]) (t := 24) ?hr ?_; (case hd => rfl); (case hg => rfl); (case hr => first | (go_simp; done) | (go_simp; rfl))
      intro gn hg w3 hbox hb
      have hG := hF.out.below hb
      refine hK.out _ _ ⟨v1, v2, v4, v5, v7, v8, g9, gn, g11, (by rw [ha.out]; exact putSel_upk 10 hb_ rfl rfl rfl), hG.1, hG.2.1, ⟨hG.2.2.1.1, fun _ => ⟨by rw [hg]; exact below_size hF.out.1.2.2.2, fun _ => hbox, fun hs => absurd ((hoff 13 (by kernel_rfl)).symm.trans hs) (by decide)⟩, hG.2.2.1.2.2⟩, ⟨fun hj _ => by have := (hF.out.2.2.1.1).lt hj; rw [hg]; omega, hG.2.2.2.2.1, fun _ hj => by have := (hF.out.2.2.1.2.2).lt hj; rw [hg]; omega⟩⟩
    refine steps_cons ?_ ?_
    · rintro b a w' ⟨v1, v2, v4, v5, v7, v8, g9, g10, g11, ha, hF⟩ hb_ hon hoff
      refine ⟨_, rfl, fun K hK => ?_⟩
      replace ha := Aside0.mk ha
      replace hF := Aside0.mk hF
      refine box_step ?hg (N := 9) ?hd (cs := #[.int .i64 0, .slice none 0 0]) (t := 24) ?hr ?_; (case hd => rfl); (case hg => rfl); (case hr => first | (go_simp; done) | (go_simp; rfl))
      intro gn hg w3 hbox hb
      have hG := hF.out.below hb
      refine hK.out _ _ ⟨v1, v2, v4, v5, v7, v8, g9, g10, gn, (by rw [ha.out]; exact putSel_upk 11 hb_ rfl rfl rfl), hG.1, hG.2.1, ⟨hG.2.2.1.1, hG.2.2.1.2.1, fun _ => ⟨by rw [hg]; exact below_size hF.out.1.2.2.2, fun _ => hbox, fun hs => absurd ((hoff 14 (by kernel_rfl)).symm.trans hs) (by decide)⟩⟩, ⟨hG.2.2.2.1, fun hj _ => by have := (hF.out.2.2.1.1).lt hj; rw [hg]; omega, fun hj _ => by have := (hF.out.2.2.1.2.1).lt hj; rw [hg]; omega⟩⟩
    refine steps_cons ?_ ?_
    · rintro b a w' ⟨v1, v2, v4, v5, v7, v8, g9, g10, g11, ha, hF⟩ hb_ hon hoff
      refine ⟨_, rfl, fun K hK => ?_⟩
      have e7 : a.tmps[7]? = some (.pointer (some ⟨g9, 0, none⟩)) := by rw [ha]; exact putSel_on (e := (9, 7, .pointer (some ⟨g9, 0, none⟩))) 9 rfl rfl (hon 9 (by kernel_rfl)) rfl
      have e12 : a.tmps[12]? = some (.agg #[.int .i64 x1, v2]) := by rw [ha]; exact putSel_on (e := (2, 12, .agg #[.int .i64 x1, v2])) 2 rfl rfl (hon 2 (by kernel_rfl)) rfl
      have r0 := hF.2.1.2.1 (hon 2 (by kernel_rfl))
      obtain ⟨Ao, co, rfl⟩ := Kd.R_slice r0
      clear r0
      have hblk := (hF.2.2.1.1 (hon 9 (by kernel_rfl))).2.1 hb_
      have hs0 : w'.cell? ⟨g9, 0, none⟩ = some (.int .i64 0) := (blk_cell hblk 0).trans rfl
      have hs1 : w'.cell? ⟨g9, 1, none⟩ = some (.slice none 0 0) := (blk_cell hblk 1).trans rfl
      have hz0 := blk_frozen hblk 0
      have hz1 := blk_frozen hblk 1
      replace ha := Aside0.mk ha
      replace hF := Aside0.mk hF
      replace hblk := Aside0.mk hblk
      refine skip_ (w1 := ?_) (by rfl) rfl ?_ ?_
      rotate_left
      · go_simp
        rfl
      have hn0 : w.heap.size ≠ g9 := fun he => by have h1 := hF.out.1.1; have h2 := hblk.out; rw [he] at h1; have h3 := Option.some.inj (h1.symm.trans h2); injection h3 with _ h4 _; exact absurd h4 (by decide)
      have hn1 : w.heap.size + 1 ≠ g9 := fun he => by have h1 := hF.out.1.2.1; have h2 := hblk.out; rw [he] at h1; have h3 := Option.some.inj (h1.symm.trans h2); injection h3 with _ h4 _; exact absurd h4 (by decide)
      have hn2 : w.heap.size + 2 ≠ g9 := fun he => by have h1 := hF.out.1.2.2.1; have h2 := hblk.out; rw [he] at h1; have h3 := Option.some.inj (h1.symm.trans h2); injection h3 with _ h4 _; exact absurd h4 (by decide)
      refine hK.out _ _ ⟨v1, .slice Ao xl.length co, v4, v5, v7, v8, g9, g10, g11, (by rw [ha.out]; exact putSel_none (v := undef) rfl), ⟨blk_far (blk_far hF.out.1.1 hn0 _) hn0 _, blk_far (blk_far hF.out.1.2.1 hn1 _) hn1 _, blk_far (blk_far hF.out.1.2.2.1 hn2 _) hn2 _, below_set (below_set hF.out.1.2.2.2 (hF.out.2.2.1.1 (hon 9 (by kernel_rfl))).1) (hF.out.2.2.1.1 (hon 9 (by kernel_rfl))).1⟩, ⟨fun z => (hF.out.2.1.1 z).far hblk.out _ _, fun z => (hF.out.2.1.2.1 z).far hblk.out _ _, fun z => (hF.out.2.1.2.2.1 z).far hblk.out _ _, fun z => (hF.out.2.1.2.2.2.1 z).far hblk.out _ _, fun z => (hF.out.2.1.2.2.2.2.1 z).far hblk.out _ _, fun z => (hF.out.2.1.2.2.2.2.2 z).far hblk.out _ _⟩, ⟨fun hj => ⟨(hF.out.2.2.1.1 hj).1, fun hs => absurd ((up_self b 12).symm.trans hs) (by decide), fun _ => cenotaphlaw02_SpanGroups.put2 hblk.out _ _⟩, (hF.out.2.2.1.2.1).far (fun hj => (hF.out.2.2.2.1 (hon 9 (by kernel_rfl)) hj).symm) _ _, (hF.out.2.2.1.2.2).far (fun hj => (hF.out.2.2.2.2.1 (hon 9 (by kernel_rfl)) hj).symm) _ _⟩, hF.out.2.2.2⟩
    refine steps_cons ?_ ?_
    · rintro b a w' ⟨v1, v2, v4, v5, v7, v8, g9, g10, g11, ha, hF⟩ hb_ hon hoff
      refine ⟨_, rfl, fun K hK => ?_⟩
      have e8 : a.tmps[8]? = some (.pointer (some ⟨g10, 0, none⟩)) := by rw [ha]; exact putSel_on (e := (10, 8, .pointer (some ⟨g10, 0, none⟩))) 10 rfl rfl (hon 10 (by kernel_rfl)) rfl
      have e15 : a.tmps[15]? = some (.agg #[.int .i64 y1, v5]) := by rw [ha]; exact putSel_on (e := (5, 15, .agg #[.int .i64 y1, v5])) 5 rfl rfl (hon 5 (by kernel_rfl)) rfl
      have r0 := hF.2.1.2.2.2.1 (hon 5 (by kernel_rfl))
      obtain ⟨Ao, co, rfl⟩ := Kd.R_slice r0
      clear r0
      have hblk := (hF.2.2.1.2.1 (hon 10 (by kernel_rfl))).2.1 hb_
      have hs0 : w'.cell? ⟨g10, 0, none⟩ = some (.int .i64 0) := (blk_cell hblk 0).trans rfl
      have hs1 : w'.cell? ⟨g10, 1, none⟩ = some (.slice none 0 0) := (blk_cell hblk 1).trans rfl
      have hz0 := blk_frozen hblk 0
      have hz1 := blk_frozen hblk 1
      replace ha := Aside0.mk ha
      replace hF := Aside0.mk hF
      replace hblk := Aside0.mk hblk
      refine skip_ (w1 := ?_) (by rfl) rfl ?_ ?_
      rotate_left
      · go_simp
        rfl
      have hn0 : w.heap.size ≠ g10 := fun he => by have h1 := hF.out.1.1; have h2 := hblk.out; rw [he] at h1; have h3 := Option.some.inj (h1.symm.trans h2); injection h3 with _ h4 _; exact absurd h4 (by decide)
      have hn1 : w.heap.size + 1 ≠ g10 := fun he => by have h1 := hF.out.1.2.1; have h2 := hblk.out; rw [he] at h1; have h3 := Option.some.inj (h1.symm.trans h2); injection h3 with _ h4 _; exact absurd h4 (by decide)
      have hn2 : w.heap.size + 2 ≠ g10 := fun he => by have h1 := hF.out.1.2.2.1; have h2 := hblk.out; rw [he] at h1; have h3 := Option.some.inj (h1.symm.trans h2); injection h3 with _ h4 _; exact absurd h4 (by decide)
      refine hK.out _ _ ⟨v1, v2, v4, .slice Ao yl.length co, v7, v8, g9, g10, g11, (by rw [ha.out]; exact putSel_none (v := undef) rfl), ⟨blk_far (blk_far hF.out.1.1 hn0 _) hn0 _, blk_far (blk_far hF.out.1.2.1 hn1 _) hn1 _, blk_far (blk_far hF.out.1.2.2.1 hn2 _) hn2 _, below_set (below_set hF.out.1.2.2.2 (hF.out.2.2.1.2.1 (hon 10 (by kernel_rfl))).1) (hF.out.2.2.1.2.1 (hon 10 (by kernel_rfl))).1⟩, ⟨fun z => (hF.out.2.1.1 z).far hblk.out _ _, fun z => (hF.out.2.1.2.1 z).far hblk.out _ _, fun z => (hF.out.2.1.2.2.1 z).far hblk.out _ _, fun z => (hF.out.2.1.2.2.2.1 z).far hblk.out _ _, fun z => (hF.out.2.1.2.2.2.2.1 z).far hblk.out _ _, fun z => (hF.out.2.1.2.2.2.2.2 z).far hblk.out _ _⟩, ⟨(hF.out.2.2.1.1).far (fun hj => (hF.out.2.2.2.1 hj (hon 10 (by kernel_rfl)))) _ _, fun hj => ⟨(hF.out.2.2.1.2.1 hj).1, fun hs => absurd ((up_self b 13).symm.trans hs) (by decide), fun _ => cenotaphlaw02_SpanGroups.put2 hblk.out _ _⟩, (hF.out.2.2.1.2.2).far (fun hj => (hF.out.2.2.2.2.2 (hon 10 (by kernel_rfl)) hj).symm) _ _⟩, hF.out.2.2.2⟩
    refine steps_cons ?_ ?_
    · rintro b a w' ⟨v1, v2, v4, v5, v7, v8, g9, g10, g11, ha, hF⟩ hb_ hon hoff
      refine ⟨_, rfl, fun K hK => ?_⟩
      have e9 : a.tmps[9]? = some (.pointer (some ⟨g11, 0, none⟩)) := by rw [ha]; exact putSel_on (e := (11, 9, .pointer (some ⟨g11, 0, none⟩))) 11 rfl rfl (hon 11 (by kernel_rfl)) rfl
      have e18 : a.tmps[18]? = some (.agg #[.int .i64 z1, v8]) := by rw [ha]; exact putSel_on (e := (8, 18, .agg #[.int .i64 z1, v8])) 8 rfl rfl (hon 8 (by kernel_rfl)) rfl
      have r0 := hF.2.1.2.2.2.2.2 (hon 8 (by kernel_rfl))
      obtain ⟨Ao, co, rfl⟩ := Kd.R_slice r0
      clear r0
      have hblk := (hF.2.2.1.2.2 (hon 11 (by kernel_rfl))).2.1 hb_
      have hs0 : w'.cell? ⟨g11, 0, none⟩ = some (.int .i64 0) := (blk_cell hblk 0).trans rfl
      have hs1 : w'.cell? ⟨g11, 1, none⟩ = some (.slice none 0 0) := (blk_cell hblk 1).trans rfl
      have hz0 := blk_frozen hblk 0
      have hz1 := blk_frozen hblk 1
      replace ha := Aside0.mk ha
      replace hF := Aside0.mk hF
      replace hblk := Aside0.mk hblk
      refine skip_ (w1 := ?_) (by rfl) rfl ?_ ?_
      rotate_left
      · go_simp
        rfl
      have hn0 : w.heap.size ≠ g11 := fun he => by have h1 := hF.out.1.1; have h2 := hblk.out; rw [he] at h1; have h3 := Option.some.inj (h1.symm.trans h2); injection h3 with _ h4 _; exact absurd h4 (by decide)
      have hn1 : w.heap.size + 1 ≠ g11 := fun he => by have h1 := hF.out.1.2.1; have h2 := hblk.out; rw [he] at h1; have h3 := Option.some.inj (h1.symm.trans h2); injection h3 with _ h4 _; exact absurd h4 (by decide)
      have hn2 : w.heap.size + 2 ≠ g11 := fun he => by have h1 := hF.out.1.2.2.1; have h2 := hblk.out; rw [he] at h1; have h3 := Option.some.inj (h1.symm.trans h2); injection h3 with _ h4 _; exact absurd h4 (by decide)
      refine hK.out _ _ ⟨v1, v2, v4, v5, v7, .slice Ao zl.length co, g9, g10, g11, (by rw [ha.out]; exact putSel_none (v := undef) rfl), ⟨blk_far (blk_far hF.out.1.1 hn0 _) hn0 _, blk_far (blk_far hF.out.1.2.1 hn1 _) hn1 _, blk_far (blk_far hF.out.1.2.2.1 hn2 _) hn2 _, below_set (below_set hF.out.1.2.2.2 (hF.out.2.2.1.2.2 (hon 11 (by kernel_rfl))).1) (hF.out.2.2.1.2.2 (hon 11 (by kernel_rfl))).1⟩, ⟨fun z => (hF.out.2.1.1 z).far hblk.out _ _, fun z => (hF.out.2.1.2.1 z).far hblk.out _ _, fun z => (hF.out.2.1.2.2.1 z).far hblk.out _ _, fun z => (hF.out.2.1.2.2.2.1 z).far hblk.out _ _, fun z => (hF.out.2.1.2.2.2.2.1 z).far hblk.out _ _, fun z => (hF.out.2.1.2.2.2.2.2 z).far hblk.out _ _⟩, ⟨(hF.out.2.2.1.1).far (fun hj => (hF.out.2.2.2.2.1 hj (hon 11 (by kernel_rfl)))) _ _, (hF.out.2.2.1.2.1).far (fun hj => (hF.out.2.2.2.2.2 hj (hon 11 (by kernel_rfl)))) _ _, fun hj => ⟨(hF.out.2.2.1.2.2 hj).1, fun hs => absurd ((up_self b 14).symm.trans hs) (by decide), fun _ => cenotaphlaw02_SpanGroups.put2 hblk.out _ _⟩⟩, hF.out.2.2.2⟩
    exact steps_nil
  rintro b a w3 hall ⟨v1, v2, v4, v5, v7, v8, g9, g10, g11, ha, hF⟩
  have hb : ∀ j, j < 15 → b j = true := fun j hj => hall j (by
    have : j = 0 ∨ j = 1 ∨ j = 2 ∨ j = 3 ∨ j = 4 ∨ j = 5 ∨ j = 6 ∨ j = 7 ∨ j = 8 ∨ j = 9 ∨ j = 10 ∨ j = 11 ∨ j = 12 ∨ j = 13 ∨ j = 14 := by omega
    rcases this with rfl | rfl | rfl | rfl | rfl | rfl | rfl | rfl | rfl | rfl | rfl | rfl | rfl | rfl | rfl <;> rfl)
  have rx := hF.2.1.2.1 (hb 2 (by decide))
  have ry := hF.2.1.2.2.2.1 (hb 5 (by decide))
  have rz := hF.2.1.2.2.2.2.2 (hb 8 (by decide))
  obtain ⟨A1, c1, rfl⟩ := Kd.R_slice rx
  obtain ⟨A2, c2, rfl⟩ := Kd.R_slice ry
  obtain ⟨A3, c3, rfl⟩ := Kd.R_slice rz
  obtain ⟨-, lx, cx⟩ := Kd.R_reads' rx
  obtain ⟨-, ly, cy⟩ := Kd.R_reads' ry
  obtain ⟨-, lz, cz⟩ := Kd.R_reads' rz
  have b9 := (hF.2.2.1.1 (hb 9 (by decide))).2.2 (hb 12 (by decide))
  have b10 := (hF.2.2.1.2.1 (hb 10 (by decide))).2.2 (hb 13 (by decide))
  have b11 := (hF.2.2.1.2.2 (hb 11 (by decide))).2.2 (hb 14 (by decide))
  have HB := Aside0.mk hF.1.2.2.2
  simp only [putSel, hb 0 (by decide), hb 1 (by decide), hb 2 (by decide), hb 3 (by decide), hb 4 (by decide), hb 5 (by decide), hb 6 (by decide), hb 7 (by decide), hb 8 (by decide), hb 9 (by decide), hb 10 (by decide), hb 11 (by decide), if_true] at ha
  simp only [Act.put, List.setIfInBounds_toArray, List.set_cons_zero, List.set_cons_succ, i64_w, i32_w] at ha
  subst ha
  clear hF hb hall rx ry rz hHeld HT_ HW_ F0 H1 H2 H3 H4 H5 H6 HR0 HR1 HR2 HC0 HC1 HC2
  replace cx := Aside0.mk cx
  replace cy := Aside0.mk cy
  replace cz := Aside0.mk cz
  replace lx := Aside0.mk lx
  replace ly := Aside0.mk ly
  replace lz := Aside0.mk lz
  have BX := Aside0.mk b9
  have BY := Aside0.mk b10
  have BZ := Aside0.mk b11
  clear b9 b10 b11
  go_upto_region 2 with fail
  refine start_ (n := 24) (S := fun w' => w'.cell? ⟨g9, 0, none⟩ = some (.int .i64 x1) ∧ w'.cell? ⟨g9, 1, none⟩ = some (.slice A1 xl.length c1) ∧ w'.cell? ⟨g10, 0, none⟩ = some (.int .i64 y1) ∧ w'.cell? ⟨g10, 1, none⟩ = some (.slice A2 yl.length c2) ∧ w'.cell? ⟨g11, 0, none⟩ = some (.int .i64 z1) ∧ w'.cell? ⟨g11, 1, none⟩ = some (.slice A3 zl.length c3)) (ds := []) #[false, false, false, false, false, false, false, false, false, false, false, false, false, false, false, false, false, false, false, false, false, false, false, false] (by kernel_rfl) rfl rfl ⟨(blk_cell (blk_drew BX.out) 0).trans rfl, (blk_cell (blk_drew BX.out) 1).trans rfl, (blk_cell (blk_drew BY.out) 0).trans rfl, (blk_cell (blk_drew BY.out) 1).trans rfl, (blk_cell (blk_drew BZ.out) 0).trans rfl, (blk_cell (blk_drew BZ.out) 1).trans rfl⟩ (fun hHeld => ?_)
  replace BX := Aside0.mk (blk_drew BX.out)
  replace BY := Aside0.mk (blk_drew BY.out)
  replace BZ := Aside0.mk (blk_drew BZ.out)
  replace cx := Aside0.mk (Kd.C_drew cx.out)
  replace cy := Aside0.mk (Kd.C_drew cy.out)
  replace cz := Aside0.mk (Kd.C_drew cz.out)
  replace HB := Aside0.mk (below_drew1 HB.out)
  generalize w3.drew = w4 at BX BY BZ cx cy cz HB hHeld ⊢
  refine one_ (i := 0) (N := some 19) #[true, false, false, false, false, false, false, false, false, false, false, false, false, false, false, false, false, false, false, false, false, false, false, false] rfl rfl (by kernel_rfl) (by decide) (fun K hK => ?_)
  refine goes_ Try.func11 (by kernel_rfl) rfl #[] (by rfl) rfl rfl (by (try simp only [List.map_toArray, List.map_cons, List.map_nil]); first | done | rfl) ?_
  refine (cenotaphlaw02_told.calls k true _ HT.out).mono ?_
  rintro ev w5 ⟨rfl, hb⟩
  refine ⟨_, rfl, ?_⟩
  replace BX := Aside0.mk (blk_below BX.out hb)
  replace BY := Aside0.mk (blk_below BY.out hb)
  replace BZ := Aside0.mk (blk_below BZ.out hb)
  replace cx := Aside0.mk (Kd.C_below cx.out hb)
  replace cy := Aside0.mk (Kd.C_below cy.out hb)
  replace cz := Aside0.mk (Kd.C_below cz.out hb)
  replace HB := Aside0.mk (below_step HB.out hb)
  clear hb
  refine hK.out _ _ ⟨(blk_cell BX.out 0).trans rfl, (blk_cell BX.out 1).trans rfl, (blk_cell BY.out 0).trans rfl, (blk_cell BY.out 1).trans rfl, (blk_cell BZ.out 0).trans rfl, (blk_cell BZ.out 1).trans rfl⟩ (fun hHeld => ?_)
  clear hK K
  refine norm_ (a' := ?_) ?_ ?_
  rotate_left
  · show Act.put _ (some 19) _ = _
    simp only [Act.put, List.setIfInBounds_toArray, List.set_cons_zero, List.set_cons_succ, i64_w, i32_w]
    rfl
  refine pure_ (i := 1) (N := some 20) (v := ?_) (a' := ?_) #[true, true, false, false, false, false, false, false, false, false, false, false, false, false, false, false, false, false, false, false, false, false, false, false] rfl rfl (by kernel_rfl) (fun _ _ _ h => h) (Or.inl ⟨by rfl, ?_⟩) ?_ ?_
  rotate_left
  · intro w'
    go_simp
    with_reducible rfl
  rotate_left
  · simp only [Act.put, List.setIfInBounds_toArray, List.set_cons_zero, List.set_cons_succ, i64_w, i32_w]
    rfl
  refine pure_ (i := 2) (N := some 21) (v := ?_) (a' := ?_) #[true, true, true, false, false, false, false, false, false, false, false, false, false, false, false, false, false, false, false, false, false, false, false, false] rfl rfl (by kernel_rfl) (fun _ _ _ h => h) (Or.inl ⟨by rfl, ?_⟩) ?_ ?_
  rotate_left
  · intro w'
    go_simp
    with_reducible rfl
  rotate_left
  · simp only [Act.put, List.setIfInBounds_toArray, List.set_cons_zero, List.set_cons_succ, i64_w, i32_w]
    rfl
  refine take_ (i := 3) (N := some 22) (v := ?_) (a' := ?_) #[true, true, true, true, false, false, false, false, false, false, false, false, false, false, false, false, false, false, false, false, false, false, false, false] rfl rfl (by kernel_rfl) (fun _ _ _ h => h) (Or.inl ⟨by rfl, ?_⟩) hHeld ?_ ?_
  rotate_left
  · rintro w' ⟨s0, s1, s2, s3, s4, s5⟩
    go_simp
    with_reducible rfl
  rotate_left
  · simp only [Act.put, List.setIfInBounds_toArray, List.set_cons_zero, List.set_cons_succ, i64_w, i32_w]
    rfl
  refine take_ (i := 4) (N := some 23) (v := ?_) (a' := ?_) #[true, true, true, true, true, false, false, false, false, false, false, false, false, false, false, false, false, false, false, false, false, false, false, false] rfl rfl (by kernel_rfl) (fun _ _ _ h => h) (Or.inl ⟨by rfl, ?_⟩) hHeld ?_ ?_
  rotate_left
  · rintro w' ⟨s0, s1, s2, s3, s4, s5⟩
    go_simp
    with_reducible rfl
  rotate_left
  · simp only [Act.put, List.setIfInBounds_toArray, List.set_cons_zero, List.set_cons_succ, i64_w, i32_w]
    rfl
  refine take_ (i := 6) (N := some 25) (v := ?_) (a' := ?_) #[true, true, true, true, true, false, true, false, false, false, false, false, false, false, false, false, false, false, false, false, false, false, false, false] rfl rfl (by kernel_rfl) (fun _ _ _ h => h) (Or.inl ⟨by rfl, ?_⟩) hHeld ?_ ?_
  rotate_left
  · rintro w' ⟨s0, s1, s2, s3, s4, s5⟩
    go_simp
    with_reducible rfl
  rotate_left
  · simp only [Act.put, List.setIfInBounds_toArray, List.set_cons_zero, List.set_cons_succ, i64_w, i32_w]
    rfl
  refine take_ (i := 8) (N := some 27) (v := ?_) (a' := ?_) #[true, true, true, true, true, false, true, false, true, false, false, false, false, false, false, false, false, false, false, false, false, false, false, false] rfl rfl (by kernel_rfl) (fun _ _ _ h => h) (Or.inl ⟨by rfl, ?_⟩) hHeld ?_ ?_
  rotate_left
  · rintro w' ⟨s0, s1, s2, s3, s4, s5⟩
    go_simp
    with_reducible rfl
  rotate_left
  · simp only [Act.put, List.setIfInBounds_toArray, List.set_cons_zero, List.set_cons_succ, i64_w, i32_w]
    rfl
  refine take_ (i := 9) (N := some 28) (v := ?_) (a' := ?_) #[true, true, true, true, true, false, true, false, true, true, false, false, false, false, false, false, false, false, false, false, false, false, false, false] rfl rfl (by kernel_rfl) (fun _ _ _ h => h) (Or.inl ⟨by rfl, ?_⟩) hHeld ?_ ?_
  rotate_left
  · rintro w' ⟨s0, s1, s2, s3, s4, s5⟩
    go_simp
    with_reducible rfl
  rotate_left
  · simp only [Act.put, List.setIfInBounds_toArray, List.set_cons_zero, List.set_cons_succ, i64_w, i32_w]
    rfl
  refine take_ (i := 10) (N := some 29) (v := ?_) (a' := ?_) #[true, true, true, true, true, false, true, false, true, true, true, false, false, false, false, false, false, false, false, false, false, false, false, false] rfl rfl (by kernel_rfl) (fun _ _ _ h => h) (Or.inl ⟨by rfl, ?_⟩) hHeld ?_ ?_
  rotate_left
  · rintro w' ⟨s0, s1, s2, s3, s4, s5⟩
    go_simp
    with_reducible rfl
  rotate_left
  · simp only [Act.put, List.setIfInBounds_toArray, List.set_cons_zero, List.set_cons_succ, i64_w, i32_w]
    rfl
  refine one_ (i := 5) (N := some 24) #[true, true, true, true, true, true, true, false, true, true, true, false, false, false, false, false, false, false, false, false, false, false, false, false] rfl rfl (by kernel_rfl) (by decide) (fun K hK => ?_)
  refine goes_ Try.func27 (by kernel_rfl) rfl #[.agg #[.int .i64 x1, .slice A1 xl.length c1], .agg #[.int .i64 y1, .slice A2 yl.length c2]] (by rfl) rfl rfl (by (try simp only [List.map_toArray, List.map_cons, List.map_nil]); first | done | rfl) ?_
  refine (span_Union.calls k x1 A1 c1 xl y1 A2 c2 yl p pl _ cx.out lx.out cy.out ly.out U1.out).mono ?_
  rintro ev w6 ⟨vn, rfl, ho, hb⟩
  obtain ⟨Ap, cp, rfl⟩ := Kd.R_slice ho
  obtain ⟨-, jp, kp⟩ := Kd.R_reads' ho
  replace jp := Aside0.mk jp
  have kp := Aside0.mk kp
  clear ho
  refine ⟨_, rfl, ?_⟩
  replace BX := Aside0.mk (blk_below BX.out hb)
  replace BY := Aside0.mk (blk_below BY.out hb)
  replace BZ := Aside0.mk (blk_below BZ.out hb)
  replace cx := Aside0.mk (Kd.C_below cx.out hb)
  replace cy := Aside0.mk (Kd.C_below cy.out hb)
  replace cz := Aside0.mk (Kd.C_below cz.out hb)
  replace HB := Aside0.mk (below_step HB.out hb)
  clear hb
  refine hK.out _ _ ⟨(blk_cell BX.out 0).trans rfl, (blk_cell BX.out 1).trans rfl, (blk_cell BY.out 0).trans rfl, (blk_cell BY.out 1).trans rfl, (blk_cell BZ.out 0).trans rfl, (blk_cell BZ.out 1).trans rfl⟩ (fun hHeld => ?_)
  clear hK K
  refine norm_ (a' := ?_) ?_ ?_
  rotate_left
  · show Act.put _ (some 24) _ = _
    simp only [Act.put, List.setIfInBounds_toArray, List.set_cons_zero, List.set_cons_succ, i64_w, i32_w]
    rfl
  refine one_ (i := 7) (N := some 26) #[true, true, true, true, true, true, true, true, true, true, true, false, false, false, false, false, false, false, false, false, false, false, false, false] rfl rfl (by kernel_rfl) (by decide) (fun K hK => ?_)
  refine goes_ Try.func27 (by kernel_rfl) rfl #[.agg #[.int .i64 p, .slice Ap pl.length cp], .agg #[.int .i64 z1, .slice A3 zl.length c3]] (by rfl) rfl rfl (by (try simp only [List.map_toArray, List.map_cons, List.map_nil]); first | done | rfl) ?_
  refine (span_Union.calls k p Ap cp pl z1 A3 c3 zl q ql _ kp.out jp.out cz.out lz.out U2.out).mono ?_
  rintro ev w7 ⟨vn, rfl, ho, hb⟩
  obtain ⟨Aq, cq, rfl⟩ := Kd.R_slice ho
  obtain ⟨-, jq, kq⟩ := Kd.R_reads' ho
  replace jq := Aside0.mk jq
  have kq := Aside0.mk kq
  clear ho
  refine ⟨_, rfl, ?_⟩
  replace BX := Aside0.mk (blk_below BX.out hb)
  replace BY := Aside0.mk (blk_below BY.out hb)
  replace BZ := Aside0.mk (blk_below BZ.out hb)
  replace cx := Aside0.mk (Kd.C_below cx.out hb)
  replace cy := Aside0.mk (Kd.C_below cy.out hb)
  replace cz := Aside0.mk (Kd.C_below cz.out hb)
  replace kp := Aside0.mk (Kd.C_below kp.out hb)
  replace HB := Aside0.mk (below_step HB.out hb)
  clear hb
  refine hK.out _ _ ⟨(blk_cell BX.out 0).trans rfl, (blk_cell BX.out 1).trans rfl, (blk_cell BY.out 0).trans rfl, (blk_cell BY.out 1).trans rfl, (blk_cell BZ.out 0).trans rfl, (blk_cell BZ.out 1).trans rfl⟩ (fun hHeld => ?_)
  clear hK K
  refine norm_ (a' := ?_) ?_ ?_
  rotate_left
  · show Act.put _ (some 26) _ = _
    simp only [Act.put, List.setIfInBounds_toArray, List.set_cons_zero, List.set_cons_succ, i64_w, i32_w]
    rfl
  refine one_ (i := 11) (N := some 30) #[true, true, true, true, true, true, true, true, true, true, true, true, false, false, false, false, false, false, false, false, false, false, false, false] rfl rfl (by kernel_rfl) (by decide) (fun K hK => ?_)
  refine goes_ Try.func27 (by kernel_rfl) rfl #[.agg #[.int .i64 y1, .slice A2 yl.length c2], .agg #[.int .i64 z1, .slice A3 zl.length c3]] (by rfl) rfl rfl (by (try simp only [List.map_toArray, List.map_cons, List.map_nil]); first | done | rfl) ?_
  refine (span_Union.calls k y1 A2 c2 yl z1 A3 c3 zl u ul _ cy.out ly.out cz.out lz.out U3.out).mono ?_
  rintro ev w8 ⟨vn, rfl, ho, hb⟩
  obtain ⟨Au, cu, rfl⟩ := Kd.R_slice ho
  obtain ⟨-, ju, ku⟩ := Kd.R_reads' ho
  replace ju := Aside0.mk ju
  have ku := Aside0.mk ku
  clear ho
  refine ⟨_, rfl, ?_⟩
  replace BX := Aside0.mk (blk_below BX.out hb)
  replace BY := Aside0.mk (blk_below BY.out hb)
  replace BZ := Aside0.mk (blk_below BZ.out hb)
  replace cx := Aside0.mk (Kd.C_below cx.out hb)
  replace cy := Aside0.mk (Kd.C_below cy.out hb)
  replace cz := Aside0.mk (Kd.C_below cz.out hb)
  replace kp := Aside0.mk (Kd.C_below kp.out hb)
  replace kq := Aside0.mk (Kd.C_below kq.out hb)
  replace HB := Aside0.mk (below_step HB.out hb)
  clear hb
  refine hK.out _ _ ⟨(blk_cell BX.out 0).trans rfl, (blk_cell BX.out 1).trans rfl, (blk_cell BY.out 0).trans rfl, (blk_cell BY.out 1).trans rfl, (blk_cell BZ.out 0).trans rfl, (blk_cell BZ.out 1).trans rfl⟩ (fun hHeld => ?_)
  clear hK K
  refine norm_ (a' := ?_) ?_ ?_
  rotate_left
  · show Act.put _ (some 30) _ = _
    simp only [Act.put, List.setIfInBounds_toArray, List.set_cons_zero, List.set_cons_succ, i64_w, i32_w]
    rfl
  refine one_ (i := 12) (N := some 31) #[true, true, true, true, true, true, true, true, true, true, true, true, true, false, false, false, false, false, false, false, false, false, false, false] rfl rfl (by kernel_rfl) (by decide) (fun K hK => ?_)
  refine goes_ Try.func27 (by kernel_rfl) rfl #[.agg #[.int .i64 x1, .slice A1 xl.length c1], .agg #[.int .i64 u, .slice Au ul.length cu]] (by rfl) rfl rfl (by (try simp only [List.map_toArray, List.map_cons, List.map_nil]); first | done | rfl) ?_
  refine (span_Union.calls k x1 A1 c1 xl u Au cu ul v vl _ cx.out lx.out ku.out ju.out U4.out).mono ?_
  rintro ev w9 ⟨vn, rfl, ho, hb⟩
  obtain ⟨Av, cv, rfl⟩ := Kd.R_slice ho
  obtain ⟨-, jv, kv⟩ := Kd.R_reads' ho
  replace jv := Aside0.mk jv
  have kv := Aside0.mk kv
  clear ho
  refine ⟨_, rfl, ?_⟩
  replace BX := Aside0.mk (blk_below BX.out hb)
  replace BY := Aside0.mk (blk_below BY.out hb)
  replace BZ := Aside0.mk (blk_below BZ.out hb)
  replace cx := Aside0.mk (Kd.C_below cx.out hb)
  replace cy := Aside0.mk (Kd.C_below cy.out hb)
  replace cz := Aside0.mk (Kd.C_below cz.out hb)
  replace kp := Aside0.mk (Kd.C_below kp.out hb)
  replace kq := Aside0.mk (Kd.C_below kq.out hb)
  replace ku := Aside0.mk (Kd.C_below ku.out hb)
  replace HB := Aside0.mk (below_step HB.out hb)
  clear hb
  refine hK.out _ _ ⟨(blk_cell BX.out 0).trans rfl, (blk_cell BX.out 1).trans rfl, (blk_cell BY.out 0).trans rfl, (blk_cell BY.out 1).trans rfl, (blk_cell BZ.out 0).trans rfl, (blk_cell BZ.out 1).trans rfl⟩ (fun hHeld => ?_)
  clear hK K
  refine norm_ (a' := ?_) ?_ ?_
  rotate_left
  · show Act.put _ (some 31) _ = _
    simp only [Act.put, List.setIfInBounds_toArray, List.set_cons_zero, List.set_cons_succ, i64_w, i32_w]
    rfl
  refine one_ (i := 13) (N := some 32) #[true, true, true, true, true, true, true, true, true, true, true, true, true, true, false, false, false, false, false, false, false, false, false, false] rfl rfl (by kernel_rfl) (by decide) (fun K hK => ?_)
  refine goes_ Try.func26 (by kernel_rfl) rfl #[.agg #[.int .i64 q, .slice Aq ql.length cq], .agg #[.int .i64 v, .slice Av vl.length cv]] (by rfl) rfl rfl (by (try simp only [List.map_toArray, List.map_cons, List.map_nil]); first | done | rfl) ?_
  refine (span_Same.calls k q Aq cq ql v Av cv vl true _ kq.out jq.out kv.out jv.out S1.out).mono ?_
  rintro ev w10 ⟨rfl, hb⟩
  refine ⟨_, rfl, ?_⟩
  replace BX := Aside0.mk (blk_below BX.out hb)
  replace BY := Aside0.mk (blk_below BY.out hb)
  replace BZ := Aside0.mk (blk_below BZ.out hb)
  replace cx := Aside0.mk (Kd.C_below cx.out hb)
  replace cy := Aside0.mk (Kd.C_below cy.out hb)
  replace cz := Aside0.mk (Kd.C_below cz.out hb)
  replace kp := Aside0.mk (Kd.C_below kp.out hb)
  replace kq := Aside0.mk (Kd.C_below kq.out hb)
  replace ku := Aside0.mk (Kd.C_below ku.out hb)
  replace kv := Aside0.mk (Kd.C_below kv.out hb)
  replace HB := Aside0.mk (below_step HB.out hb)
  clear hb
  refine hK.out _ _ ⟨(blk_cell BX.out 0).trans rfl, (blk_cell BX.out 1).trans rfl, (blk_cell BY.out 0).trans rfl, (blk_cell BY.out 1).trans rfl, (blk_cell BZ.out 0).trans rfl, (blk_cell BZ.out 1).trans rfl⟩ (fun hHeld => ?_)
  clear hK K
  refine norm_ (a' := ?_) ?_ ?_
  rotate_left
  · show Act.put _ (some 32) _ = _
    simp only [Act.put, List.setIfInBounds_toArray, List.set_cons_zero, List.set_cons_succ, i64_w, i32_w]
    rfl
  refine pure_ (i := 14) (N := some 33) (v := ?_) (a' := ?_) #[true, true, true, true, true, true, true, true, true, true, true, true, true, true, true, false, false, false, false, false, false, false, false, false] rfl rfl (by kernel_rfl) (fun _ _ _ h => h) (Or.inl ⟨by rfl, ?_⟩) ?_ ?_
  rotate_left
  · intro w'
    go_simp
    with_reducible rfl
  rotate_left
  · simp only [Act.put, List.setIfInBounds_toArray, List.set_cons_zero, List.set_cons_succ, i64_w, i32_w]
    rfl
  refine pure_ (i := 15) (N := some 34) (v := ?_) (a' := ?_) #[true, true, true, true, true, true, true, true, true, true, true, true, true, true, true, true, false, false, false, false, false, false, false, false] rfl rfl (by kernel_rfl) (fun _ _ _ h => h) (Or.inl ⟨by rfl, ?_⟩) ?_ ?_
  rotate_left
  · intro w'
    go_simp
    with_reducible rfl
  rotate_left
  · simp only [Act.put, List.setIfInBounds_toArray, List.set_cons_zero, List.set_cons_succ, i64_w, i32_w]
    rfl
  refine pure_ (i := 16) (N := some 35) (v := ?_) (a' := ?_) #[true, true, true, true, true, true, true, true, true, true, true, true, true, true, true, true, true, false, false, false, false, false, false, false] rfl rfl (by kernel_rfl) (fun _ _ _ h => h) (Or.inl ⟨by rfl, ?_⟩) ?_ ?_
  rotate_left
  · intro w'
    go_simp
    with_reducible rfl
  rotate_left
  · simp only [Act.put, List.setIfInBounds_toArray, List.set_cons_zero, List.set_cons_succ, i64_w, i32_w]
    rfl
  refine take_ (i := 17) (N := some 36) (v := ?_) (a' := ?_) #[true, true, true, true, true, true, true, true, true, true, true, true, true, true, true, true, true, true, false, false, false, false, false, false] rfl rfl (by kernel_rfl) (fun _ _ _ h => h) (Or.inl ⟨by rfl, ?_⟩) hHeld ?_ ?_
  rotate_left
  · rintro w' ⟨s0, s1, s2, s3, s4, s5⟩
    go_simp
    with_reducible rfl
  rotate_left
  · simp only [Act.put, List.setIfInBounds_toArray, List.set_cons_zero, List.set_cons_succ, i64_w, i32_w]
    rfl
  refine take_ (i := 18) (N := some 37) (v := ?_) (a' := ?_) #[true, true, true, true, true, true, true, true, true, true, true, true, true, true, true, true, true, true, true, false, false, false, false, false] rfl rfl (by kernel_rfl) (fun _ _ _ h => h) (Or.inl ⟨by rfl, ?_⟩) hHeld ?_ ?_
  rotate_left
  · rintro w' ⟨s0, s1, s2, s3, s4, s5⟩
    go_simp
    with_reducible rfl
  rotate_left
  · simp only [Act.put, List.setIfInBounds_toArray, List.set_cons_zero, List.set_cons_succ, i64_w, i32_w]
    rfl
  refine take_ (i := 20) (N := some 39) (v := ?_) (a' := ?_) #[true, true, true, true, true, true, true, true, true, true, true, true, true, true, true, true, true, true, true, false, true, false, false, false] rfl rfl (by kernel_rfl) (fun _ _ _ h => h) (Or.inl ⟨by rfl, ?_⟩) hHeld ?_ ?_
  rotate_left
  · rintro w' ⟨s0, s1, s2, s3, s4, s5⟩
    go_simp
    with_reducible rfl
  rotate_left
  · simp only [Act.put, List.setIfInBounds_toArray, List.set_cons_zero, List.set_cons_succ, i64_w, i32_w]
    rfl
  refine one_ (i := 19) (N := some 38) #[true, true, true, true, true, true, true, true, true, true, true, true, true, true, true, true, true, true, true, true, true, false, false, false] rfl rfl (by kernel_rfl) (by decide) (fun K hK => ?_)
  refine goes_ Try.func27 (by kernel_rfl) rfl #[.agg #[.int .i64 x1, .slice A1 xl.length c1], .agg #[.int .i64 x1, .slice A1 xl.length c1]] (by rfl) rfl rfl (by (try simp only [List.map_toArray, List.map_cons, List.map_nil]); first | done | rfl) ?_
  refine (span_Union.calls k x1 A1 c1 xl x1 A1 c1 xl d dl _ cx.out lx.out cx.out lx.out U5.out).mono ?_
  rintro ev w11 ⟨vn, rfl, ho, hb⟩
  obtain ⟨Ad, cd, rfl⟩ := Kd.R_slice ho
  obtain ⟨-, jd, kd⟩ := Kd.R_reads' ho
  replace jd := Aside0.mk jd
  have kd := Aside0.mk kd
  clear ho
  refine ⟨_, rfl, ?_⟩
  replace BX := Aside0.mk (blk_below BX.out hb)
  replace BY := Aside0.mk (blk_below BY.out hb)
  replace BZ := Aside0.mk (blk_below BZ.out hb)
  replace cx := Aside0.mk (Kd.C_below cx.out hb)
  replace cy := Aside0.mk (Kd.C_below cy.out hb)
  replace cz := Aside0.mk (Kd.C_below cz.out hb)
  replace kp := Aside0.mk (Kd.C_below kp.out hb)
  replace kq := Aside0.mk (Kd.C_below kq.out hb)
  replace ku := Aside0.mk (Kd.C_below ku.out hb)
  replace kv := Aside0.mk (Kd.C_below kv.out hb)
  replace HB := Aside0.mk (below_step HB.out hb)
  clear hb
  refine hK.out _ _ ⟨(blk_cell BX.out 0).trans rfl, (blk_cell BX.out 1).trans rfl, (blk_cell BY.out 0).trans rfl, (blk_cell BY.out 1).trans rfl, (blk_cell BZ.out 0).trans rfl, (blk_cell BZ.out 1).trans rfl⟩ (fun hHeld => ?_)
  clear hK K
  refine norm_ (a' := ?_) ?_ ?_
  rotate_left
  · show Act.put _ (some 38) _ = _
    simp only [Act.put, List.setIfInBounds_toArray, List.set_cons_zero, List.set_cons_succ, i64_w, i32_w]
    rfl
  refine one_ (i := 21) (N := some 40) #[true, true, true, true, true, true, true, true, true, true, true, true, true, true, true, true, true, true, true, true, true, true, false, false] rfl rfl (by kernel_rfl) (by decide) (fun K hK => ?_)
  refine goes_ Try.func26 (by kernel_rfl) rfl #[.agg #[.int .i64 d, .slice Ad dl.length cd], .agg #[.int .i64 x1, .slice A1 xl.length c1]] (by rfl) rfl rfl (by (try simp only [List.map_toArray, List.map_cons, List.map_nil]); first | done | rfl) ?_
  refine (span_Same.calls k d Ad cd dl x1 A1 c1 xl true _ kd.out jd.out cx.out lx.out S2.out).mono ?_
  rintro ev w12 ⟨rfl, hb⟩
  refine ⟨_, rfl, ?_⟩
  replace BX := Aside0.mk (blk_below BX.out hb)
  replace BY := Aside0.mk (blk_below BY.out hb)
  replace BZ := Aside0.mk (blk_below BZ.out hb)
  replace cx := Aside0.mk (Kd.C_below cx.out hb)
  replace cy := Aside0.mk (Kd.C_below cy.out hb)
  replace cz := Aside0.mk (Kd.C_below cz.out hb)
  replace kp := Aside0.mk (Kd.C_below kp.out hb)
  replace kq := Aside0.mk (Kd.C_below kq.out hb)
  replace ku := Aside0.mk (Kd.C_below ku.out hb)
  replace kv := Aside0.mk (Kd.C_below kv.out hb)
  replace kd := Aside0.mk (Kd.C_below kd.out hb)
  replace HB := Aside0.mk (below_step HB.out hb)
  clear hb
  refine hK.out _ _ ⟨(blk_cell BX.out 0).trans rfl, (blk_cell BX.out 1).trans rfl, (blk_cell BY.out 0).trans rfl, (blk_cell BY.out 1).trans rfl, (blk_cell BZ.out 0).trans rfl, (blk_cell BZ.out 1).trans rfl⟩ (fun hHeld => ?_)
  clear hK K
  refine norm_ (a' := ?_) ?_ ?_
  rotate_left
  · show Act.put _ (some 40) _ = _
    simp only [Act.put, List.setIfInBounds_toArray, List.set_cons_zero, List.set_cons_succ, i64_w, i32_w]
    rfl
  refine pure_ (i := 22) (N := some 41) (v := ?_) (a' := ?_) #[true, true, true, true, true, true, true, true, true, true, true, true, true, true, true, true, true, true, true, true, true, true, true, false] rfl rfl (by kernel_rfl) (fun _ _ _ h => h) (Or.inl ⟨by rfl, ?_⟩) ?_ ?_
  rotate_left
  · intro w'
    go_simp
    with_reducible rfl
  rotate_left
  · simp only [Act.put, List.setIfInBounds_toArray, List.set_cons_zero, List.set_cons_succ, i64_w, i32_w]
    rfl
  refine pure_ (i := 23) (N := some 42) (v := ?_) (a' := ?_) #[true, true, true, true, true, true, true, true, true, true, true, true, true, true, true, true, true, true, true, true, true, true, true, true] rfl rfl (by kernel_rfl) (fun _ _ _ h => h) (Or.inl ⟨by rfl, ?_⟩) ?_ ?_
  rotate_left
  · intro w'
    go_simp
    with_reducible rfl
  rotate_left
  · simp only [Act.put, List.setIfInBounds_toArray, List.set_cons_zero, List.set_cons_succ, i64_w, i32_w]
    rfl
  refine done_ (by kernel_rfl) ?_
  clear hHeld HT U1 U2 U3 U4 U5 S1 S2 kp kq ku kv kd jp jq ju jv jd
  replace h := h.out
  replace h := Option.bind_eq_some_iff.mp h; obtain ⟨r1, W1, h⟩ := h
  replace W1 := Aside0.mk W1
  have q00 : w12.cell? ⟨g9, 0, none⟩ = some (.int .i64 x1) := (blk_cell BX.out 0).trans rfl
  have q01 : w12.cell? ⟨g9, 1, none⟩ = some (.slice A1 xl.length c1) := (blk_cell BX.out 1).trans rfl
  have q10 : w12.cell? ⟨g10, 0, none⟩ = some (.int .i64 y1) := (blk_cell BY.out 0).trans rfl
  have q11 : w12.cell? ⟨g10, 1, none⟩ = some (.slice A2 yl.length c2) := (blk_cell BY.out 1).trans rfl
  have q20 : w12.cell? ⟨g11, 0, none⟩ = some (.int .i64 z1) := (blk_cell BZ.out 0).trans rfl
  have q21 : w12.cell? ⟨g11, 1, none⟩ = some (.slice A3 zl.length c3) := (blk_cell BZ.out 1).trans rfl
  by_cases h1 : r1 = true
  · rw [if_pos h1] at h
    subst h1
    replace h := Option.bind_eq_some_iff.mp h; obtain ⟨r2, W2, h⟩ := h
    replace W2 := Aside0.mk W2
    by_cases h2 : r2 = true
    · rw [if_pos h2] at h
      subst h2
      replace h := Aside0.mk h
      go_wp2_with fail
      refine (span_Within.calls k x1 A1 c1 xl y1 A2 c2 yl true _ cx.out lx.out cy.out ly.out W1.out).mono ?_
      rintro e wa ⟨rfl, hb⟩
      replace BX := Aside0.mk (blk_below BX.out hb)
      replace BY := Aside0.mk (blk_below BY.out hb)
      replace BZ := Aside0.mk (blk_below BZ.out hb)
      replace cx := Aside0.mk (Kd.C_below cx.out hb)
      replace cy := Aside0.mk (Kd.C_below cy.out hb)
      replace cz := Aside0.mk (Kd.C_below cz.out hb)
      replace HB := Aside0.mk (below_step HB.out hb)
      clear hb
      clear q00 q01 q10 q11 q20 q21
      have q00 : wa.cell? ⟨g9, 0, none⟩ = some (.int .i64 x1) := (blk_cell BX.out 0).trans rfl
      have q01 : wa.cell? ⟨g9, 1, none⟩ = some (.slice A1 xl.length c1) := (blk_cell BX.out 1).trans rfl
      have q10 : wa.cell? ⟨g10, 0, none⟩ = some (.int .i64 y1) := (blk_cell BY.out 0).trans rfl
      have q11 : wa.cell? ⟨g10, 1, none⟩ = some (.slice A2 yl.length c2) := (blk_cell BY.out 1).trans rfl
      have q20 : wa.cell? ⟨g11, 0, none⟩ = some (.int .i64 z1) := (blk_cell BZ.out 0).trans rfl
      have q21 : wa.cell? ⟨g11, 1, none⟩ = some (.slice A3 zl.length c3) := (blk_cell BZ.out 1).trans rfl
      go_wp2_with fail
      refine (span_Within.calls k y1 A2 c2 yl z1 A3 c3 zl true _ cy.out ly.out cz.out lz.out W2.out).mono ?_
      rintro e wb ⟨rfl, hb⟩
      replace BX := Aside0.mk (blk_below BX.out hb)
      replace BY := Aside0.mk (blk_below BY.out hb)
      replace BZ := Aside0.mk (blk_below BZ.out hb)
      replace cx := Aside0.mk (Kd.C_below cx.out hb)
      replace cy := Aside0.mk (Kd.C_below cy.out hb)
      replace cz := Aside0.mk (Kd.C_below cz.out hb)
      replace HB := Aside0.mk (below_step HB.out hb)
      clear hb
      clear q00 q01 q10 q11 q20 q21
      have q00 : wb.cell? ⟨g9, 0, none⟩ = some (.int .i64 x1) := (blk_cell BX.out 0).trans rfl
      have q01 : wb.cell? ⟨g9, 1, none⟩ = some (.slice A1 xl.length c1) := (blk_cell BX.out 1).trans rfl
      have q10 : wb.cell? ⟨g10, 0, none⟩ = some (.int .i64 y1) := (blk_cell BY.out 0).trans rfl
      have q11 : wb.cell? ⟨g10, 1, none⟩ = some (.slice A2 yl.length c2) := (blk_cell BY.out 1).trans rfl
      have q20 : wb.cell? ⟨g11, 0, none⟩ = some (.int .i64 z1) := (blk_cell BZ.out 0).trans rfl
      have q21 : wb.cell? ⟨g11, 1, none⟩ = some (.slice A3 zl.length c3) := (blk_cell BZ.out 1).trans rfl
      go_wp2_with fail
      refine (span_Within.calls k x1 A1 c1 xl z1 A3 c3 zl r _ cx.out lx.out cz.out lz.out h.out).mono ?_
      rintro e wc ⟨rfl, hb⟩
      replace BX := Aside0.mk (blk_below BX.out hb)
      replace BY := Aside0.mk (blk_below BY.out hb)
      replace BZ := Aside0.mk (blk_below BZ.out hb)
      replace cx := Aside0.mk (Kd.C_below cx.out hb)
      replace cy := Aside0.mk (Kd.C_below cy.out hb)
      replace cz := Aside0.mk (Kd.C_below cz.out hb)
      replace HB := Aside0.mk (below_step HB.out hb)
      clear hb
      clear q00 q01 q10 q11 q20 q21
      go_wp2_with fail
      go_ret
      exact ⟨rfl, HB.out⟩
    · rw [if_neg h2] at h
      obtain rfl := Option.some.inj h
      obtain rfl : r2 = false := by simpa using h2
      go_wp2_with fail
      refine (span_Within.calls k x1 A1 c1 xl y1 A2 c2 yl true _ cx.out lx.out cy.out ly.out W1.out).mono ?_
      rintro e wa ⟨rfl, hb⟩
      replace BX := Aside0.mk (blk_below BX.out hb)
      replace BY := Aside0.mk (blk_below BY.out hb)
      replace BZ := Aside0.mk (blk_below BZ.out hb)
      replace cx := Aside0.mk (Kd.C_below cx.out hb)
      replace cy := Aside0.mk (Kd.C_below cy.out hb)
      replace cz := Aside0.mk (Kd.C_below cz.out hb)
      replace HB := Aside0.mk (below_step HB.out hb)
      clear hb
      clear q00 q01 q10 q11 q20 q21
      have q00 : wa.cell? ⟨g9, 0, none⟩ = some (.int .i64 x1) := (blk_cell BX.out 0).trans rfl
      have q01 : wa.cell? ⟨g9, 1, none⟩ = some (.slice A1 xl.length c1) := (blk_cell BX.out 1).trans rfl
      have q10 : wa.cell? ⟨g10, 0, none⟩ = some (.int .i64 y1) := (blk_cell BY.out 0).trans rfl
      have q11 : wa.cell? ⟨g10, 1, none⟩ = some (.slice A2 yl.length c2) := (blk_cell BY.out 1).trans rfl
      have q20 : wa.cell? ⟨g11, 0, none⟩ = some (.int .i64 z1) := (blk_cell BZ.out 0).trans rfl
      have q21 : wa.cell? ⟨g11, 1, none⟩ = some (.slice A3 zl.length c3) := (blk_cell BZ.out 1).trans rfl
      go_wp2_with fail
      refine (span_Within.calls k y1 A2 c2 yl z1 A3 c3 zl false _ cy.out ly.out cz.out lz.out W2.out).mono ?_
      rintro e wb ⟨rfl, hb⟩
      replace BX := Aside0.mk (blk_below BX.out hb)
      replace BY := Aside0.mk (blk_below BY.out hb)
      replace BZ := Aside0.mk (blk_below BZ.out hb)
      replace cx := Aside0.mk (Kd.C_below cx.out hb)
      replace cy := Aside0.mk (Kd.C_below cy.out hb)
      replace cz := Aside0.mk (Kd.C_below cz.out hb)
      replace HB := Aside0.mk (below_step HB.out hb)
      clear hb
      clear q00 q01 q10 q11 q20 q21
      go_wp2_with fail
      go_ret
      exact ⟨rfl, HB.out⟩
  · rw [if_neg h1] at h
    obtain rfl := Option.some.inj h
    obtain rfl : r1 = false := by simpa using h1
    go_wp2_with fail
    refine (span_Within.calls k x1 A1 c1 xl y1 A2 c2 yl false _ cx.out lx.out cy.out ly.out W1.out).mono ?_
    rintro e wa ⟨rfl, hb⟩
    replace BX := Aside0.mk (blk_below BX.out hb)
    replace BY := Aside0.mk (blk_below BY.out hb)
    replace BZ := Aside0.mk (blk_below BZ.out hb)
    replace cx := Aside0.mk (Kd.C_below cx.out hb)
    replace cy := Aside0.mk (Kd.C_below cy.out hb)
    replace cz := Aside0.mk (Kd.C_below cz.out hb)
    replace HB := Aside0.mk (below_step HB.out hb)
    clear hb
    clear q00 q01 q10 q11 q20 q21
    go_wp2_with fail
    go_ret
    exact ⟨rfl, HB.out⟩

end Go.Proofs.Ytejoofeigeoboaa.P
