-- Written by a program of this session (wip/pp.py over the kit's printer, with our own texts put in).
import Derived.Test.YtgkcdmhndplejaaP0
import Derived.Test.YtgkcdmhndplejaaP1
import Derived.Test.YtgkcdmhndplejaaP2
namespace Go.Proofs.Ytgkcdmhndplejaa.P
open Go.RowKit Go.Proofs.YtgkcdmhndplejaaW.PrintWords Go.Proofs.YtgkcdmhndplejaaW.PrintLast Go.Proofs.YtgkcdmhndplejaaW.PrintMore
attribute [local go_sem] max2_int min2_int max_two min_two max_three min_three max_four min_four   -- for this text's walks alone
set_option linter.unusedVariables false
set_option linter.unusedSimpArgs false

/-! ### cenotaphlaw06_WireOnce: function 5 -/
def cenotaphlaw06_WireOnce.f (k : Nat) (l0 : List Int) : Option Bool := (wire_Reader_Num.f k (l0.take 30) 0 0 9223372036854775807).bind fun p =>
  if p.2.2 = 0 then (wire_Put.f k [] p.1).bind fun v => if v.length ≤ (l0.take 30).length then (if (strOfNums v).toList = (strOfNums ((l0.take 30).take v.length)).toList then some (((if p.2.2 = 0 ∧ p.2.1 < ((l0.take 30).length : Int) then (3 : Int) else p.2.2) == 0) == ((v.length : Int) == ((l0.take 30).length : Int))) else some false) else some false
  else some true
theorem cenotaphlaw06_WireOnce.mono (l0 : List Int) : ∀ k, LeO (cenotaphlaw06_WireOnce.f k l0) (cenotaphlaw06_WireOnce.f (k + 1) l0) := by
  intro k r h
  obtain ⟨p, hp, h2⟩ := Option.bind_eq_some_iff.mp h
  refine Option.bind_eq_some_iff.mpr ⟨p, wire_Reader_Num.mono (l0.take 30) 0 0 9223372036854775807 k p hp, ?_⟩
  by_cases hc : p.2.2 = 0
  · rw [if_pos hc] at h2 ⊢
    obtain ⟨v, hv, h3⟩ := Option.bind_eq_some_iff.mp h2
    exact Option.bind_eq_some_iff.mpr ⟨v, wire_Put.mono [] p.1 k v hv, h3⟩
  · rw [if_neg hc] at h2 ⊢; exact h2
theorem once_cut {w : World} {xs : List Int} (A : Option Addr) (n c : Nat) (hh : Int) (h0 : 0 ≤ hh) (h2 : hh ≤ (n : Int)) (hc : n ≤ c) (h : (Kd.int .u8).C w A n xs) : (Kd.int .u8).C w A hh.toNat (xs.take hh.toNat) :=
  Kd.C_of_reads (enc := Value.int .u8) (d := (0 : Int)) (h1 := fun _ => rfl) ((Kd.reads_of_C (enc := Value.int .u8) (d := (0 : Int)) (h1 := fun _ => rfl) h).take_ hh.toNat (by omega))
set_option maxHeartbeats 8000000 in
set_option maxRecDepth 100000 in
theorem cenotaphlaw06_WireOnce.calls (k : Nat) (A0 : Option Addr) (c0 : Nat) (l0 : List Int) (r : Bool) (w : World) (hr0 : Kd.C (Kd.int .u8) w A0 l0.length l0) (hc0 : l0.length ≤ c0) (h : cenotaphlaw06_WireOnce.f k l0 = some r) :
    Calls Try.prog 5 #[.slice A0 l0.length c0] w fun e w' => e = .returned (.bool r) ∧ Below w.heap.size w w' := by
  have HB := Aside0.mk (Below.refl w.heap.size w)
  obtain ⟨⟨n, t1, t2⟩, hnum, h2⟩ := Option.bind_eq_some_iff.mp h
  dsimp only at h2
  have HN := Aside0.mk hnum
  have H2 := Aside0.mk h2
  clear h hnum h2
  obtain ⟨m, hm⟩ : ∃ m : Int, (if 30 < (l0.length : Int) then 30 else (l0.length : Int)) = m := ⟨_, rfl⟩
  have hm0 : 0 ≤ m := by rw [← hm]; split <;> omega
  have hm1 : m ≤ (l0.length : Int) := by rw [← hm]; split <;> omega
  have hm2 : m ≤ 30 := by rw [← hm]; split <;> omega
  have htk : l0.take 30 = l0.take m.toNat := by
    rw [← hm]; split
    · rfl
    · rw [Int.toNat_natCast, List.take_length, List.take_of_length_le (by omega)]
  have hlen : (l0.take m.toNat).length = m.toNat := by rw [List.length_take]; omega
  have HC0 := Aside0.mk (once_cut A0 l0.length c0 m hm0 hm1 hc0 hr0)
  have hl0 := hr0.2.1
  rw [htk] at HN H2
  have q1 := eq_true hm0
  have q2 := eq_true (show m ≤ (c0 : Int) by omega)
  have hmc : m.toNat ≤ c0 := by omega
  clear hr0 htk
  generalize l0.take m.toNat = L at hlen HC0 HN H2
  go_enter Try.func5, Try.ntmps5
  go_wp2_with fail
  have hrd := rd_read A0 c0 L w (by rw [hlen]; exact HC0.out) (by omega) (by omega)
  rw [hlen] at hrd
  refine hrd.mono ?_
  clear hrd
  rintro e w1 ⟨g, rfl, hi, hge, hb⟩
  have HI := Aside0.mk hi
  have HGE := Aside0.mk hge
  replace HB := Aside0.mk hb
  clear hi hge hb
  go_wp2_with fail
  refine (rd_num k g L 0 0 _ n t1 t2 w1 HI.out HN.out).mono ?_
  rintro e w2 ⟨rfl, hi, hb, hk⟩
  replace HI := Aside0.mk hi
  replace HB := Aside0.mk (hb w HGE.out HB.out)
  clear hi hb hk
  go_wp2_with fail
  refine (cenotaphlaw06_told.calls true w2 rfl).mono ?_
  rintro e w3 ⟨rfl, hb⟩
  replace HI := Aside0.mk (HI.out.below hb)
  replace HB := Aside0.mk (below_step HB.out hb)
  clear hb
  go_wp2_with fail
  refine (rd_err g L t1 t2 w3 HI.out).mono ?_
  rintro e w4 ⟨rfl, hi, hb, hk⟩
  replace HI := Aside0.mk hi
  replace HB := Aside0.mk (hb w HGE.out HB.out)
  clear hi hb hk
  by_cases hz : t2 = 0
  · have hzb : (t2 != 0) = false := bne_eq_false_iff_eq.mpr hz
    replace H2 := Aside0.mk ((if_pos hz).symm.trans H2.out)
    obtain ⟨v, hv, h3⟩ := Option.bind_eq_some_iff.mp H2.out
    have HV := Aside0.mk hv
    have H3 := Aside0.mk h3
    clear hv h3 H2
    go_wp2_with fail
    refine (wire_Put.calls k none 0 [] n v w4 (Kd.C_nil _ _) (Nat.le_refl _) HV.out).mono ?_
    rintro e w5 ⟨u, rfl, ho, hb⟩
    obtain ⟨A1, c1, rfl, hl1, hC1⟩ := Kd.R_reads ho
    replace HI := Aside0.mk (HI.out.below hb)
    replace HB := Aside0.mk (below_step HB.out hb)
    have HC1 := Aside0.mk hC1
    have hv1 := hC1.2.1
    clear ho hb hC1
    by_cases hle : v.length ≤ L.length
    · have hle0 := eq_true (show (v.length : Int) ≤ m by omega)
      have hle1 := decide_eq_true (show (v.length : Int) ≤ m by omega)
      have hle2 := eq_true (show (v.length : Int) ≤ (c0 : Int) by omega)
      have hle3 := eq_true (show (0 : Int) ≤ (v.length : Int) by omega)
      replace H3 := Aside0.mk ((if_pos hle).symm.trans H3.out)
      have htl : (L.take v.length).length = v.length := by rw [List.length_take]; omega
      have hcc := once_cut A0 m.toNat c0 (v.length : Int) (by omega) (by omega) hmc HC0.out
      rw [Int.toNat_natCast] at hcc
      have hsame := cenotaphref06_Same.calls A1 c1 v A0 c0 (L.take v.length) _ w5 HC1.out hl1 (by rw [htl]; exact Kd.C_below hcc HB.out) (by omega) rfl
      rw [htl] at hsame
      have HSM := Aside0.mk hsame
      clear hsame hcc
      go_wp2_with fail
      refine HSM.out.mono ?_
      rintro e w6 ⟨rfl, hb⟩
      replace HI := Aside0.mk (HI.out.below hb.below)
      replace HB := Aside0.mk (below_step HB.out hb.below)
      clear hb HSM
      by_cases hs : (strOfNums v).toList = (strOfNums (L.take v.length)).toList
      · have hs1 : ((strOfNums v).toList == (strOfNums (L.take v.length)).toList) = true := beq_iff_eq.mpr hs
        replace H3 := Aside0.mk ((if_pos hs).symm.trans H3.out)
        obtain hr := Option.some.inj H3.out
        have HR := Aside0.mk hr
        clear H3 hr
        go_wp2_with fail
        refine (rd_end g L t1 t2 w6 HI.out).mono ?_
        rintro e w7 ⟨rfl, hi, hb, hk⟩
        replace HB := Aside0.mk (hb w HGE.out HB.out)
        clear hi hb hk
        generalize (if t2 = 0 ∧ t1 < (L.length : Int) then (3 : Int) else t2) = en at HR ⊢
        rw [hlen, show ((m.toNat : Nat) : Int) = max m 0 by omega] at HR
        go_wp2_with fail
        go_ret
        exact ⟨by rw [← HR.out]; rfl, HB.out⟩
      · have hs1 : ((strOfNums v).toList == (strOfNums (L.take v.length)).toList) = false := beq_eq_false_iff_ne.mpr hs
        replace H3 := Aside0.mk ((if_neg hs).symm.trans H3.out)
        obtain rfl := Option.some.inj H3.out
        clear H3
        go_wp2_with fail
        go_ret
        exact ⟨rfl, HB.out⟩
    · have hle0 := eq_false (show ¬ (v.length : Int) ≤ m by omega)
      have hle1 := decide_eq_false (show ¬ (v.length : Int) ≤ m by omega)
      replace H3 := Aside0.mk ((if_neg hle).symm.trans H3.out)
      obtain rfl := Option.some.inj H3.out
      clear H3
      go_wp2_with fail
      go_ret
      exact ⟨rfl, HB.out⟩
  · have hzb : (t2 != 0) = true := bne_iff_ne.mpr hz
    replace H2 := Aside0.mk ((if_neg hz).symm.trans H2.out)
    obtain rfl := Option.some.inj H2.out
    clear H2
    go_wp2_with fail
    refine (cenotaphlaw06_told.calls true w4 rfl).mono ?_
    rintro e w5 ⟨rfl, hb⟩
    replace HB := Aside0.mk (below_step HB.out hb)
    clear hb
    go_wp2_with fail
    go_ret
    exact ⟨rfl, HB.out⟩

end Go.Proofs.Ytgkcdmhndplejaa.P
