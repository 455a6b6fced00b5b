-- Written by a program of this session (wip/pp.py over the kit's printer, with our own texts put in).
import Derived.Test.YtgkcdmhndplejaaP0
import Derived.Test.YtgkcdmhndplejaaP1
namespace Go.Proofs.Ytgkcdmhndplejaa.P
open Go.RowKit Go.Proofs.YtgkcdmhndplejaaW.PrintWords Go.Proofs.YtgkcdmhndplejaaW.PrintLast Go.Proofs.YtgkcdmhndplejaaW.PrintMore
attribute [local go_sem] max2_int min2_int max_two min_two max_three min_three max_four min_four   -- for this text's walks alone
set_option linter.unusedVariables false
set_option linter.unusedSimpArgs false

/-! ### cenotaphlaw06_WireMosts: function 8 -/
def mosts_d (a2 : Int) : Int := wrap64 (1 + wrap64 ((IntKind.u64.wrap a2).tmod 5))
theorem leo_ite {α : Type} {c : Prop} [Decidable c] {a a' b b' : Option α} (h : LeO a a') (h2 : LeO b b') : LeO (if c then a else b) (if c then a' else b') := by
  by_cases hc : c
  · rw [if_pos hc, if_pos hc]; exact h
  · rw [if_neg hc, if_neg hc]; exact h2
def cenotaphlaw06_WireMosts.q (k : Nat) (b : List Int) (m d : Int) : Option Bool :=
  (wire_Reader_Num.f k b 0 0 (wrap64 (m - d))).bind fun p => if p.1 = 0 then (if p.2.2 = 3 then
    (wire_Reader_Text.f k b p.2.1 p.2.2 300).bind fun t => if t.1.toList = [] then
      (wire_Reader_Num.f k b t.2.1 t.2.2 m).bind fun z => if z.1 = 0 then some ((if z.2.2 = 0 ∧ z.2.1 < (b.length : Int) then (3 : Int) else z.2.2) == 3) else some false
    else some false
  else some false) else some false
def cenotaphlaw06_WireMosts.r (k : Nat) (b : List Int) (m d : Int) (s : ByteArray) : Option Bool :=
  (wire_Reader_Num.f k b 0 0 m).bind fun p => if p.1 = m then
    (wire_Reader_Text.f k b p.2.1 p.2.2 (s.size : Int)).bind fun t => if t.1.toList = s.toList then (if (if t.2.2 = 0 ∧ t.2.1 < (b.length : Int) then (3 : Int) else t.2.2) = 0 then (if m < d then some true else cenotaphlaw06_WireMosts.q k b m d) else some false) else some false
  else some false
def cenotaphlaw06_WireMosts.f (k : Nat) (a0 : Int) (a1 : ByteArray) (a2 : Int) : Option Bool :=
  if 300 < (a1.size : Int) then some true else
  (wire_Put.f k [] (mx a0 0)).bind fun v => (wire_PutText.f k v a1).bind fun b => if b.length < 8796093022208 then cenotaphlaw06_WireMosts.r k b (mx a0 0) (mosts_d a2) a1 else none
theorem cenotaphlaw06_WireMosts.mono (a0 : Int) (a1 : ByteArray) (a2 : Int) : ∀ k, LeO (cenotaphlaw06_WireMosts.f k a0 a1 a2) (cenotaphlaw06_WireMosts.f (k + 1) a0 a1 a2) := by
  intro k
  refine leo_ite (LeO.refl _) (LeO.bind (wire_Put.mono _ _ k) fun v => LeO.bind (wire_PutText.mono _ _ k) fun b => leo_ite ?_ (LeO.refl _))
  refine LeO.bind (wire_Reader_Num.mono b 0 0 _ k) fun p => leo_ite (LeO.bind (wire_Reader_Text.mono b _ _ _ k) fun t => leo_ite (leo_ite (leo_ite (LeO.refl _) ?_) (LeO.refl _)) (LeO.refl _)) (LeO.refl _)
  exact LeO.bind (wire_Reader_Num.mono b 0 0 _ k) fun p => leo_ite (leo_ite (LeO.bind (wire_Reader_Text.mono b _ _ _ k) fun t => leo_ite (LeO.bind (wire_Reader_Num.mono b _ _ _ k) fun z => leo_ite (LeO.refl _) (LeO.refl _)) (LeO.refl _)) (LeO.refl _)) (LeO.refl _)
set_option maxHeartbeats 8000000 in
set_option maxRecDepth 100000 in
theorem cenotaphlaw06_WireMosts.calls (k : Nat) (a0 : Int) (a1 : ByteArray) (a2 : Int) (r : Bool) (w : World) (h : cenotaphlaw06_WireMosts.f k a0 a1 a2 = some r) :
    Calls Try.prog 8 #[.int .i64 a0, .string a1, .int .i64 a2] w fun e w' => e = .returned (.bool r) ∧ Below w.heap.size w w' := by
  have HB := Aside0.mk (Below.refl w.heap.size w)
  have H := Aside0.mk h
  clear h
  obtain ⟨D, hD⟩ : ∃ D, wrap64 (1 + wrap64 ((IntKind.u64.wrap a2).tmod 5)) = D := ⟨_, rfl⟩
  obtain ⟨M, hM⟩ : ∃ M, (if a0 < 0 then 0 else a0) = M := ⟨_, rfl⟩
  have hM0 : 0 ≤ M := by rw [← hM]; split <;> omega
  rw [cenotaphlaw06_WireMosts.f, mx, mosts_d, hM, hD] at H
  go_enter Try.func8, Try.ntmps8
  by_cases hl : 300 < (a1.size : Int)
  · replace H := Aside0.mk ((if_pos hl).symm.trans H.out)
    obtain rfl := Option.some.inj H.out
    clear H
    have hl1 := decide_eq_true hl
    have hl2 := eq_true hl
    go_wp2_with fail
    refine (cenotaphlaw06_told.calls true w rfl).mono ?_
    rintro e w1 ⟨rfl, hb⟩
    replace HB := Aside0.mk (below_step HB.out hb)
    clear hb
    go_wp2_with fail
    go_ret
    exact ⟨rfl, HB.out⟩
  replace H := Aside0.mk ((if_neg hl).symm.trans H.out)
  have hl1 := decide_eq_false hl
  have hl2 := eq_false hl
  obtain ⟨v, hv, h2⟩ := Option.bind_eq_some_iff.mp H.out
  obtain ⟨b, hpb, h3⟩ := Option.bind_eq_some_iff.mp h2
  have HV := Aside0.mk hv
  have HPB := Aside0.mk hpb
  replace H := Aside0.mk h3
  clear hv hpb h3 h2
  by_cases hbl : b.length < 8796093022208
  rotate_left
  · exfalso
    have h4 := (if_neg hbl).symm.trans H.out
    cases h4
  replace H := Aside0.mk ((if_pos hbl).symm.trans H.out)
  go_wp2_with fail
  refine (wire_Put.calls k none 0 [] M v w (Kd.C_nil _ _) (Nat.le_refl _) HV.out).mono ?_
  rintro e w1 ⟨u, rfl, ho, hb⟩
  obtain ⟨A1, c1, rfl, hl1', hC1⟩ := Kd.R_reads ho
  replace HB := Aside0.mk hb
  have HC1 := Aside0.mk hC1
  have hv1 := hC1.2.1
  clear ho hb hC1
  go_wp2_with fail
  refine (wire_PutText.calls k A1 c1 v a1 b w1 HC1.out hl1' HPB.out).mono ?_
  rintro e w2 ⟨u, rfl, ho, hb⟩
  obtain ⟨A2, c2, rfl, hl2', hC2⟩ := Kd.R_reads ho
  replace HB := Aside0.mk (below_step HB.out hb)
  have HC2 := Aside0.mk hC2
  have hb1 := hC2.2.1
  clear ho hb hC2 HC1 HV HPB
  go_wp2_with fail
  refine (rd_read A2 c2 b w2 HC2.out hl2' hbl).mono ?_
  rintro e w3 ⟨g, rfl, hi, hge, hb⟩
  have HI := Aside0.mk hi
  have HGE := Aside0.mk (Nat.le_trans HB.out.size hge)
  replace HB := Aside0.mk (below_step HB.out hb)
  replace HC2 := Aside0.mk (Kd.C_below HC2.out hb)
  clear hi hge hb
  go_wp2_with fail
  refine (rd_read A2 c2 b w3 HC2.out hl2' hbl).mono ?_
  rintro e w4 ⟨gq, rfl, hi, hge, hb⟩
  have HQ := Aside0.mk hi
  have hne : gq ≠ g := by have := HI.out.lt; omega
  have HGQ := Aside0.mk (Nat.le_trans HB.out.size hge)
  replace HB := Aside0.mk (below_step HB.out hb)
  replace HI := Aside0.mk (HI.out.below hb)
  clear hi hge hb HC2
  have HNE := Aside0.mk hne
  clear hne
  go_wp2_with fail
  refine (cenotaphlaw06_told.calls true w4 rfl).mono ?_
  rintro e w5 ⟨rfl, hb⟩
  replace HB := Aside0.mk (below_step HB.out hb)
  replace HI := Aside0.mk (HI.out.below hb)
  replace HQ := Aside0.mk (HQ.out.below hb)
  clear hb
  obtain ⟨⟨n1, p1, p2⟩, hnum, h4⟩ := Option.bind_eq_some_iff.mp H.out
  dsimp only at h4
  have HN := Aside0.mk hnum
  replace H := Aside0.mk h4
  clear hnum h4
  go_wp2_with fail
  refine (rd_num k g b 0 0 M n1 p1 p2 w5 HI.out HN.out).mono ?_
  rintro e w6 ⟨rfl, hi, hb, hk⟩
  replace HB := Aside0.mk (hb w HGE.out HB.out)
  replace HQ := Aside0.mk (HI.out.other HQ.out hk HNE.out)
  replace HI := Aside0.mk hi
  clear hi hb hk HN
  by_cases hn : n1 = M
  rotate_left
  · have hn1 : (n1 != M) = true := bne_iff_ne.mpr hn
    replace H := Aside0.mk ((if_neg hn).symm.trans H.out)
    obtain rfl := Option.some.inj H.out
    clear H
    go_wp2_with fail
    go_ret
    exact ⟨rfl, HB.out⟩
  have hn1 : (n1 != M) = false := bne_eq_false_iff_eq.mpr hn
  replace H := Aside0.mk ((if_pos hn).symm.trans H.out)
  obtain ⟨⟨t, p3, p4⟩, hnum, h4⟩ := Option.bind_eq_some_iff.mp H.out
  dsimp only at h4
  have HN := Aside0.mk hnum
  replace H := Aside0.mk h4
  clear hnum h4
  go_wp2_with fail
  refine (rd_text k g b p1 p2 a1.size t p3 p4 w6 HI.out HN.out).mono ?_
  rintro e w7 ⟨rfl, hi, hb, hk⟩
  replace HB := Aside0.mk (hb w HGE.out HB.out)
  replace HQ := Aside0.mk (HI.out.other HQ.out hk HNE.out)
  replace HI := Aside0.mk hi
  clear hi hb hk HN
  by_cases hn2 : t.toList = a1.toList
  rotate_left
  · have hn3 : (t.toList == a1.toList) = false := beq_eq_false_iff_ne.mpr hn2
    replace H := Aside0.mk ((if_neg hn2).symm.trans H.out)
    obtain rfl := Option.some.inj H.out
    clear H
    go_wp2_with fail
    go_ret
    exact ⟨rfl, HB.out⟩
  have hn3 : (t.toList == a1.toList) = true := beq_iff_eq.mpr hn2
  replace H := Aside0.mk ((if_pos hn2).symm.trans H.out)
  obtain ⟨en, hen⟩ : ∃ en, (if p4 = 0 ∧ p3 < (b.length : Int) then (3 : Int) else p4) = en := ⟨_, rfl⟩
  rw [hen] at H
  have hre := rd_end g b p3 p4 w7 HI.out
  rw [hen] at hre
  clear hen
  go_wp2_with fail
  refine hre.mono ?_
  clear hre
  rintro e w8 ⟨rfl, hi, hb, hk⟩
  replace HB := Aside0.mk (hb w HGE.out HB.out)
  replace HQ := Aside0.mk (HI.out.other HQ.out hk HNE.out)
  clear hi hb hk HI HGE HNE
  by_cases he : en = 0
  rotate_left
  · have he1 : (en != 0) = true := bne_iff_ne.mpr he
    replace H := Aside0.mk ((if_neg he).symm.trans H.out)
    obtain rfl := Option.some.inj H.out
    clear H
    go_wp2_with fail
    go_ret
    exact ⟨rfl, HB.out⟩
  have he1 : (en != 0) = false := bne_eq_false_iff_eq.mpr he
  replace H := Aside0.mk ((if_pos he).symm.trans H.out)
  by_cases hd : M < D
  · have hd1 := decide_eq_true hd
    have hd2 := eq_true hd
    replace H := Aside0.mk ((if_pos hd).symm.trans H.out)
    obtain rfl := Option.some.inj H.out
    clear H
    go_wp2_with fail
    go_ret
    exact ⟨rfl, HB.out⟩
  have hd1 := decide_eq_false hd
  have hd2 := eq_false hd
  replace H := Aside0.mk ((if_neg hd).symm.trans H.out)
  clear hn3 hn2 hn1 hn
  obtain ⟨MD, hMD⟩ : ∃ x, wrap64 (M - D) = x := ⟨_, rfl⟩
  replace H := Aside0.mk (show cenotaphlaw06_WireMosts.q k b M D = some r from H.out)
  rw [cenotaphlaw06_WireMosts.q, hMD] at H
  obtain ⟨⟨n2, q1, q2⟩, hnum, h4⟩ := Option.bind_eq_some_iff.mp H.out
  dsimp only at h4
  have HN := Aside0.mk hnum
  replace H := Aside0.mk h4
  clear hnum h4
  go_wp2_with fail
  refine (rd_num k gq b 0 0 MD n2 q1 q2 w8 HQ.out HN.out).mono ?_
  rintro e w9 ⟨rfl, hi, hb, hk⟩
  replace HB := Aside0.mk (hb w HGQ.out HB.out)
  replace HQ := Aside0.mk hi
  clear hi hb hk HN
  by_cases hz : n2 = 0
  rotate_left
  · have hz1 : (n2 == 0) = false := beq_eq_false_iff_ne.mpr hz
    replace H := Aside0.mk ((if_neg hz).symm.trans H.out)
    obtain rfl := Option.some.inj H.out
    clear H
    go_wp2_with fail
    go_ret
    exact ⟨rfl, HB.out⟩
  have hz1 : (n2 == 0) = true := beq_iff_eq.mpr hz
  replace H := Aside0.mk ((if_pos hz).symm.trans H.out)
  go_wp2_with fail
  refine (rd_err gq b q1 q2 w9 HQ.out).mono ?_
  rintro e w10 ⟨rfl, hi, hb, hk⟩
  replace HB := Aside0.mk (hb w HGQ.out HB.out)
  replace HQ := Aside0.mk hi
  clear hi hb hk
  by_cases hz2 : q2 = 3
  rotate_left
  · have hz3 : (q2 == 3) = false := beq_eq_false_iff_ne.mpr hz2
    replace H := Aside0.mk ((if_neg hz2).symm.trans H.out)
    obtain rfl := Option.some.inj H.out
    clear H
    go_wp2_with fail
    go_ret
    exact ⟨rfl, HB.out⟩
  have hz3 : (q2 == 3) = true := beq_iff_eq.mpr hz2
  replace H := Aside0.mk ((if_pos hz2).symm.trans H.out)
  obtain ⟨⟨t, q3, q4⟩, hnum, h4⟩ := Option.bind_eq_some_iff.mp H.out
  dsimp only at h4
  have HN := Aside0.mk hnum
  replace H := Aside0.mk h4
  clear hnum h4
  go_wp2_with fail
  refine (rd_text k gq b q1 q2 300 t q3 q4 w10 HQ.out HN.out).mono ?_
  rintro e w11 ⟨rfl, hi, hb, hk⟩
  replace HB := Aside0.mk (hb w HGQ.out HB.out)
  replace HQ := Aside0.mk hi
  clear hi hb hk HN
  by_cases ht : t.toList = []
  rotate_left
  · have ht1 : (t.toList == []) = false := beq_eq_false_iff_ne.mpr ht
    replace H := Aside0.mk ((if_neg ht).symm.trans H.out)
    obtain rfl := Option.some.inj H.out
    clear H
    go_wp2_with fail
    go_ret
    exact ⟨rfl, HB.out⟩
  have ht1 : (t.toList == []) = true := beq_iff_eq.mpr ht
  replace H := Aside0.mk ((if_pos ht).symm.trans H.out)
  obtain ⟨⟨n3, q5, q6⟩, hnum, h4⟩ := Option.bind_eq_some_iff.mp H.out
  dsimp only at h4
  have HN := Aside0.mk hnum
  replace H := Aside0.mk h4
  clear hnum h4
  go_wp2_with fail
  refine (rd_num k gq b q3 q4 M n3 q5 q6 w11 HQ.out HN.out).mono ?_
  rintro e w12 ⟨rfl, hi, hb, hk⟩
  replace HB := Aside0.mk (hb w HGQ.out HB.out)
  replace HQ := Aside0.mk hi
  clear hi hb hk HN
  by_cases hy : n3 = 0
  rotate_left
  · have hy1 : (n3 == 0) = false := beq_eq_false_iff_ne.mpr hy
    replace H := Aside0.mk ((if_neg hy).symm.trans H.out)
    obtain rfl := Option.some.inj H.out
    clear H
    go_wp2_with fail
    go_ret
    exact ⟨rfl, HB.out⟩
  have hy1 : (n3 == 0) = true := beq_iff_eq.mpr hy
  replace H := Aside0.mk ((if_pos hy).symm.trans H.out)
  have hre := rd_end gq b q5 q6 w12 HQ.out
  generalize (if q6 = 0 ∧ q5 < (b.length : Int) then (3 : Int) else q6) = en2 at H hre
  obtain rfl := Option.some.inj H.out
  clear H
  go_wp2_with fail
  refine hre.mono ?_
  clear hre
  rintro e w13 ⟨rfl, hi, hb, hk⟩
  replace HB := Aside0.mk (hb w HGQ.out HB.out)
  clear hi hb hk HQ
  go_wp2_with fail
  go_ret
  exact ⟨rfl, HB.out⟩

end Go.Proofs.Ytgkcdmhndplejaa.P
