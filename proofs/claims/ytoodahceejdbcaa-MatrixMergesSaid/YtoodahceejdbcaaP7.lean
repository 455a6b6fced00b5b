-- Written by a program of this session (wip/pp.py over the kit's printer, with our own texts put in).
import Derived.Test.YtoodahceejdbcaaP0
import Derived.Test.YtoodahceejdbcaaP5
import Derived.Test.YtoodahceejdbcaaP6
namespace Go.Proofs.Ytoodahceejdbcaa.P
open Go.RowKit Go.Proofs.YtoodahceejdbcaaW.PrintWords Go.Proofs.YtoodahceejdbcaaW.PrintLast Go.Proofs.YtoodahceejdbcaaW.PrintMore
attribute [local go_sem] max2_int min2_int max_two min_two max_three min_three max_four min_four   -- for this text's walks alone
set_option linter.unusedVariables false
set_option linter.unusedSimpArgs false

/-! ### cenotaphref10_Put: function 31 -/
theorem lead_r : LeadK k25 k76 S25.f0 S25.f1 := ⟨rfl, k76_heap, fun h => k25_open h, fun h1 h2 => k25_mk _ _ h1 h2⟩
/-- A row sinks to its place; p: what is before it, from its back. -/
def sinkO (k : Nat) (v : S25) : List S25 → List S25 → Option (List S25)
 | [], q => some (v :: q)
 | u :: p, q => (cenotaphref01_Compare.f k u.f0 v.f0).bind fun c => if c > 0 then sinkO k v p (u :: q) else some ((u :: p).reverse ++ v :: q)
theorem sinkO_mono (k : Nat) (v : S25) : ∀ (p q : List S25), LeO (sinkO k v p q) (sinkO (k + 1) v p q)
 | [], _ => LeO.refl _
 | u :: p, q => by unfold sinkO; exact LeO.bind (cenotaphref01_Compare.mono _ _ _) (fun _ => LeO.ite (sinkO_mono k v p _) (LeO.refl _))
def cenotaphref10_Put.f (k : Nat) (l0 : List S25) (a1 : ByteArray) (l2 : List S76) : Option (List S25) := (cenotaphref10_Of.f k l0 a1).bind fun o => (cenotaphref03_Join.f k o l2).bind fun j => (cenotaphref01_Right.f k a1).bind fun b => if b = true ∧ 1 ≤ j.length then (cenotaphref10_Drop.f k l0 a1).bind fun d => if d.length < 1000000000 then sinkO k ⟨a1, j⟩ d.reverse [] else none else if l0.length < 1000000000 then some l0 else none
theorem cenotaphref10_Put.mono : ∀ a0 a1 a2 k, LeO (cenotaphref10_Put.f k a0 a1 a2) (cenotaphref10_Put.f (k + 1) a0 a1 a2) := by
 intro a0 a1 a2 k
 unfold cenotaphref10_Put.f
 exact LeO.bind (cenotaphref10_Of.mono _ _ _) (fun _ => LeO.bind (cenotaphref03_Join.mono _ _ _) (fun _ => LeO.bind (cenotaphref01_Right.mono _ _) (fun _ => LeO.ite (LeO.bind (cenotaphref10_Drop.mono _ _ _) (fun _ => LeO.ite (sinkO_mono _ _ _ _) (LeO.refl _))) (LeO.refl _))))
theorem cell_below {w W : World} {a : Addr} {v : Value} (h : w.cell? a = some v) (hb : Below w.heap.size w W) : W.cell? a = some v := (hb.cell (World.block_lt_of_cell? w _ h)).trans h
theorem cell_drew {w : World} {a : Addr} {v : Value} (h : w.cell? a = some v) : w.drew.cell? a = some v := cell_below h (below_drew1 (Below.refl _ _))
theorem swap_list {α : Type} (p q : List α) (u v z : α) : (((u :: p).reverse ++ v :: q).set p.length (((u :: p).reverse ++ v :: q).getD (p.length + 1) z)).set (p.length + 1) (((u :: p).reverse ++ v :: q).getD p.length z) = p.reverse ++ v :: u :: q := by
 have e : (u :: p).reverse ++ v :: q = p.reverse ++ u :: v :: q := by simp
 rw [e]
 have hl : p.reverse.length = p.length := List.length_reverse
 have g1 : (p.reverse ++ u :: v :: q).getD (p.length + 1) z = v := by
  rw [List.getD_eq_getElem?_getD, ← hl, List.getElem?_append_right (by omega)]
  simp
 have g2 : (p.reverse ++ u :: v :: q).getD p.length z = u := by
  rw [List.getD_eq_getElem?_getD, ← hl, List.getElem?_append_right (by omega)]
  simp
 rw [g1, g2, ← hl, List.set_append_right _ _ (by omega), List.set_append_right _ _ (by omega)]
 simp
set_option maxHeartbeats 8000000 in
set_option maxRecDepth 100000 in
theorem cenotaphref10_Put.calls (k : Nat) (P0_ : Nat → Prop) (A0 : Option Addr) (c0 : Nat) (l0 : List S25) (a1 : ByteArray) (A2 : Option Addr) (c2 : Nat) (l2 : List S76) (r : List S25) (w : World) (hs0 : Kd.V k25 25 w w.heap.size (fun k_ => P0_ k_) (.slice A0 l0.length c0) l0) (hr2 : Kd.C k76 w A2 l2.length l2) (hc2 : l2.length ≤ c2) (h : cenotaphref10_Put.f k l0 a1 l2 = some r) :
  Calls Try.prog 31 #[.slice A0 l0.length c0, .string a1, .slice A2 l2.length c2] w fun e w' => ∃ v0_ : Value, e = .returned (v0_) ∧ Kd.V k25 25 w' w.heap.size (fun k_ => (P0_ k_ ∨ w.heap.size ≤ k_)) v0_ r ∧ Below w.heap.size w w' := by
 unfold cenotaphref10_Put.f at h
 obtain ⟨o, ho, h⟩ := Option.bind_eq_some_iff.mp h
 obtain ⟨j, hj, h⟩ := Option.bind_eq_some_iff.mp h
 obtain ⟨b, hb, h⟩ := Option.bind_eq_some_iff.mp h
 have HV0 := Aside0.mk hs0
 have HR2 := Aside0.mk hr2
 have HC2 := Aside0.mk hc2
 have HO := Aside0.mk (cenotaphref10_Of.calls k P0_ A0 c0 l0 a1 o w hs0 ho)
 have HJ := Aside0.mk hj
 have HR := Aside0.mk hb
 have H := Aside0.mk h
 have HB := Aside0.mk (Below.refl w.heap.size w)
 clear ho hj hb h hs0 hr2 hc2
 have hut := Try.underlying25
 go_enter Try.func31, Try.ntmps31
 go_wp2_with fail
 refine HO.out.mono ?_
 rintro e w1 ⟨v1, rfl, hV1, hb1⟩
 obtain ⟨A1, c1, rfl⟩ := Kd.V_slice hV1
 have HV1 := Aside0.mk (Kd.V_reads' hV1)
 replace HB := Aside0.mk (below_step HB.out hb1)
 clear hV1 hb1 HO
 go_wp2_with fail
 refine (cenotaphref03_Join.calls k A1 c1 o A2 c2 l2 j w1 HV1.out.2.2 HV1.out.2.1 (Kd.C_below HR2.out HB.out) HC2.out HJ.out).mono ?_
 rintro e w2 ⟨v2, rfl, ho2, hb2⟩
 obtain ⟨AJ, cJ, rfl⟩ := Kd.R_slice ho2
 have HJF := Aside0.mk (Kd.F_mono (Kd.R_F (Kd.R_bound ho2)) (ok' := fun k => w.heap.size ≤ k ∧ k < w2.heap.size) (fun k hk => ⟨Nat.le_trans (below_size HB.out) hk.2.1, hk.2.2.1⟩))
 have HJL := Aside0.mk (Kd.R_reads' ho2).2.1
 replace HB := Aside0.mk (below_step HB.out hb2)
 clear ho2 hb2 HJ HV1 HR2 HC2
 go_wp2_with fail
 refine (cenotaphref01_Right.calls k a1 b w2 HR.out).mono ?_
 rintro e w3 ⟨rfl, hb3⟩
 replace hb3 := hb3.below
 have HSZ := Aside0.mk hb3.size
 replace HJF := Aside0.mk (Kd.F_mono (Kd.F_below HJF.out hb3) (ok' := fun k => w.heap.size ≤ k ∧ k < w3.heap.size) (fun k hk => ⟨hk.1, by have := HSZ.out; omega⟩))
 replace HB := Aside0.mk (below_step HB.out hb3)
 clear hb3 HSZ HR
 have hh := H.out
 clear H
 by_cases hcb : b = true
 rotate_left
 ·rw [if_neg (fun e => hcb e.1)] at hh
  obtain rfl : b = false := by simpa using hcb
  clear hcb
  by_cases hl : l0.length < 1000000000
  rotate_left
  ·rw [if_neg hl] at hh; cases hh
  rw [if_pos hl] at hh
  obtain rfl := Option.some.inj hh
  clear hh
  have LM := Aside0.mk hl
  clear hl
  obtain ⟨rs, hC, hI⟩ := lead_rawV lead_r (Kd.V_below HV0.out HB.out)
  have hrl := F2.len hI
  rw [← hrl] at hC LM ⊢
  clear hrl
  have HCR := Aside0.mk hC
  have HI := Aside0.mk (INs.bound hI)
  clear hC hI
  go_wp2_with (first | ((with_reducible refine gate_dst (N := 23) rfl ?_); refine Kd.R_lit kRW _ 25 ?hg (N := 23) ?hd (xs := ([] : List RW)) (inner := []) (ok := fun _ => True) (okp := fun _ => True) ?hr ?hp (fun _ hk => hk) trivial (Below.refl _ _) (Nat.le_refl _) (by simp) ?_; (case hd => rfl); (case hg => rfl); (case hr => first | (go_simp; done) | (go_simp; rfl)); (case hp => exact (Reps.none _ _)); intro v121 w4 ho4 hb hg_ hnew_; clear hg_ hnew_; have HBS := Aside0.mk (Kd.R_base ho4); have n0_ := Aside0.mk (Kd.R_lower ho4 (below_size HB.out)); have n1_ := Aside0.mk (below_step HB.out hb); have n2_ := Aside0.mk (INs.below HI.out hb); have n3_ := Aside0.mk (Kd.C_below HCR.out hb); clear HB HI HCR; have HO122 := n0_; have HB := n1_; have HI := n2_; have HCR := n3_; clear n0_ n1_ n2_ n3_; clear hb ho4) | ((with_reducible refine gate_builtin (b := .append) (xs := #[.tmp 23, .tmp 24]) rfl ?_); at_builtin; refine Kd.R_append_rows kRW (w0 := w) w.heap.size rfl (.tmp 23) (.tmp 24) 22 25 (.agg #[(.string ⟨#[]⟩), (.slice none 0 0)]) 40 rfl Try.underlying22 info25 rfl (by decide) (by omega) v121 ([] : List RW) rs _ _ _ (fun _ => True) (fun _ => False) rfl rfl ?aO ?aR (fun _ _ h => h) (fun _ h => h.elim) ?aF ?aB ?aS ?aL ?_; (case aR => exact HCR.out); (case aB => exact HB.out); (case aF => exact (fun _ _ => trivial)); (case aO => exact HO122.out); (case aS => exact (below_size HB.out)); (case aL => have := LM.out; simp only [List.length_nil]; omega); intro v124 w5 ho hb hg hat; rw [List.nil_append] at ho; have n0_ := Aside0.mk (hb); have n1_ := Aside0.mk (ho); have n2_ := Aside0.mk (INs.step HI.out (fun k hk hlt => hg.block k hlt (fun e => absurd (HBS.out k e.symm) (by have := hk.2; omega)))); clear HB HI HO122; have HB := n0_; have HO125 := n1_; have HI := n2_; clear n0_ n1_ n2_; clear ho hb hg hat))
  go_ret
  exact ⟨_, rfl, lead_view2 lead_r HO125.out HI.out (fun k hk => .inr hk) (fun k hk => .inl hk.1), HB.out⟩
 subst hcb
 by_cases hj1 : 1 ≤ j.length
 rotate_left
 ·rw [if_neg (fun e => hj1 e.2)] at hh
  have hl1 : decide ((j.length : Int) < 1) = true := decide_eq_true (by omega)
  have hl2 := eq_true (show (j.length : Int) < 1 by omega)
  have hl3 := eq_true (show j.length < 1 by omega)
  have hl4 := eq_true (show j = [] from List.eq_nil_of_length_eq_zero (by omega))
  have hl5 := eq_true (show j.length = 0 by omega)
  clear hj1
  by_cases hl : l0.length < 1000000000
  rotate_left
  ·rw [if_neg hl] at hh; cases hh
  rw [if_pos hl] at hh
  obtain rfl := Option.some.inj hh
  clear hh
  have LM := Aside0.mk hl
  clear hl
  obtain ⟨rs, hC, hI⟩ := lead_rawV lead_r (Kd.V_below HV0.out HB.out)
  have hrl := F2.len hI
  rw [← hrl] at hC LM ⊢
  clear hrl
  have HCR := Aside0.mk hC
  have HI := Aside0.mk (INs.bound hI)
  clear hC hI
  go_wp2_with (first | ((with_reducible refine gate_dst (N := 23) rfl ?_); refine Kd.R_lit kRW _ 25 ?hg (N := 23) ?hd (xs := ([] : List RW)) (inner := []) (ok := fun _ => True) (okp := fun _ => True) ?hr ?hp (fun _ hk => hk) trivial (Below.refl _ _) (Nat.le_refl _) (by simp) ?_; (case hd => rfl); (case hg => rfl); (case hr => first | (go_simp; done) | (go_simp; rfl)); (case hp => exact (Reps.none _ _)); intro v121 w4 ho4 hb hg_ hnew_; clear hg_ hnew_; have HBS := Aside0.mk (Kd.R_base ho4); have n0_ := Aside0.mk (Kd.R_lower ho4 (below_size HB.out)); have n1_ := Aside0.mk (below_step HB.out hb); have n2_ := Aside0.mk (INs.below HI.out hb); have n3_ := Aside0.mk (Kd.C_below HCR.out hb); clear HB HI HCR; have HO122 := n0_; have HB := n1_; have HI := n2_; have HCR := n3_; clear n0_ n1_ n2_ n3_; clear hb ho4) | ((with_reducible refine gate_builtin (b := .append) (xs := #[.tmp 23, .tmp 24]) rfl ?_); at_builtin; refine Kd.R_append_rows kRW (w0 := w) w.heap.size rfl (.tmp 23) (.tmp 24) 22 25 (.agg #[(.string ⟨#[]⟩), (.slice none 0 0)]) 40 rfl Try.underlying22 info25 rfl (by decide) (by omega) v121 ([] : List RW) rs _ _ _ (fun _ => True) (fun _ => False) rfl rfl ?aO ?aR (fun _ _ h => h) (fun _ h => h.elim) ?aF ?aB ?aS ?aL ?_; (case aR => exact HCR.out); (case aB => exact HB.out); (case aF => exact (fun _ _ => trivial)); (case aO => exact HO122.out); (case aS => exact (below_size HB.out)); (case aL => have := LM.out; simp only [List.length_nil]; omega); intro v124 w5 ho hb hg hat; rw [List.nil_append] at ho; have n0_ := Aside0.mk (hb); have n1_ := Aside0.mk (ho); have n2_ := Aside0.mk (INs.step HI.out (fun k hk hlt => hg.block k hlt (fun e => absurd (HBS.out k e.symm) (by have := hk.2; omega)))); clear HB HI HO122; have HB := n0_; have HO125 := n1_; have HI := n2_; clear n0_ n1_ n2_; clear ho hb hg hat))
  go_ret
  exact ⟨_, rfl, lead_view2 lead_r HO125.out HI.out (fun k hk => .inr hk) (fun k hk => .inl hk.1), HB.out⟩
 rw [if_pos ⟨rfl, hj1⟩] at hh
 obtain ⟨d, hd, hh⟩ := Option.bind_eq_some_iff.mp hh
 by_cases hdl : d.length < 1000000000
 rotate_left
 ·rw [if_neg hdl] at hh; cases hh
 rw [if_pos hdl] at hh
 have hl1 : decide ((j.length : Int) < 1) = false := decide_eq_false (by omega)
 have hl2 := eq_false (show ¬ (j.length : Int) < 1 by omega)
 have hl3 := eq_false (show ¬ j.length < 1 by omega)
 have hl4 := eq_false (show ¬ j = [] from fun e => by rw [e] at hj1; simp at hj1)
 have hl5 := eq_false (show ¬ j.length = 0 by omega)
 have HH := Aside0.mk hh
 have LM := Aside0.mk hdl
 have HD := Aside0.mk hd
 clear hj1 hh hdl hd
 go_wp2_with fail
 refine (cenotaphref10_Drop.calls k P0_ A0 c0 l0 a1 d _ (Kd.V_map (base' := w3.heap.size) (Kd.V_below HV0.out HB.out) (fun _ h => h)) HD.out).mono ?_
 rintro e w4 ⟨v4, rfl, hN, hb4⟩
 obtain ⟨rs, hR4, hI4⟩ := lead_N lead_r hN
 have hlen := F2.len hI4
 have HBS := Aside0.mk (Kd.R_base hR4)
 have HO := Aside0.mk (Kd.R_lower hR4 (below_size HB.out))
 have HI := Aside0.mk (INs.bound (INs.mono (ok' := fun k => (P0_ k ∨ w.heap.size ≤ k) ∧ some k ≠ v4.ownBlock) hI4 (fun k hk => ⟨hk.1.imp_right (fun h => Nat.le_trans (below_size HB.out) h), hk.2⟩)))
 have HSZ := Aside0.mk hb4.size
 replace HJF := Aside0.mk (Kd.F_below HJF.out hb4)
 replace HB := Aside0.mk (below_step HB.out hb4)
 obtain ⟨A4, c4, rfl⟩ := Kd.R_slice HO.out
 have HLEN := Aside0.mk hlen
 rw [← hlen] at LM
 clear hN hR4 hI4 hb4 HD hlen
 go_upto_region 5 with (first | ((with_reducible refine gate_dst (N := 32) rfl ?_); refine Kd.R_lit kRW _ 25 ?hg (N := 32) ?hd (xs := ([⟨a1, AJ, j.length, cJ⟩] : List RW)) (inner := [.string a1, .slice AJ j.length cJ]) (ok := fun _ => True) (okp := fun _ => True) ?hr ?hp (fun _ hk => hk) trivial (Below.refl _ _) (Nat.le_refl _) (by simp) ?_; (case hd => rfl); (case hg => rfl); (case hr => first | (go_simp; done) | (go_simp; rfl)); (case hp => exact (Reps.c2 (show Kd.M kRW _ _ _ (⟨a1, AJ, j.length, cJ⟩ : RW) [.string a1, .slice AJ j.length cJ] from kRW_mkM _ _ _ _) (Reps.none _ _))); intro v121 w5 ho4 hb hg_ hnew_; clear hg_ hnew_; obtain ⟨AL, cL, rfl⟩ := Kd.R_slice ho4; have n0_ := Aside0.mk (Kd.R_reads' ho4); have n1_ := Aside0.mk (below_step HB.out hb); have n2_ := Aside0.mk (INs.below HI.out hb); have n3_ := Aside0.mk (Kd.F_below HJF.out hb); have n4_ := Aside0.mk (Kd.R_below HO.out hb); have n5_ := Aside0.mk (Nat.le_trans HSZ.out (below_size hb)); clear HB HI HJF HO HSZ; have HL1 := n0_; have HB := n1_; have HI := n2_; have HJF := n3_; have HO := n4_; have HSZ := n5_; clear n0_ n1_ n2_ n3_ n4_ n5_; clear hb ho4) | ((with_reducible refine gate_builtin (b := .append) (xs := #[.tmp 28, .tmp 32]) rfl ?_); at_builtin; refine Kd.R_append_rows kRW (w0 := w) w.heap.size rfl (.tmp 28) (.tmp 32) 22 25 (.agg #[(.string ⟨#[]⟩), (.slice none 0 0)]) 40 rfl Try.underlying22 info25 rfl (by decide) (by omega) (.slice A4 rs.length c4) rs [⟨a1, AJ, j.length, cJ⟩] _ _ _ (fun _ => True) (fun _ => False) rfl rfl ?aO ?aR (fun _ _ h => h) (fun _ h => h.elim) ?aF ?aB ?aS ?aL ?_; (case aR => exact HL1.out.2.2); (case aB => exact HB.out); (case aF => exact (fun _ _ => trivial)); (case aO => exact HO.out); (case aS => exact (below_size HB.out)); (case aL => have := LM.out; simp only [List.length_cons, List.length_nil]; omega); intro v6 w6 ho hb hg hat; have n0_ := Aside0.mk (hb); have n1_ := Aside0.mk (ho); have n2_ := Aside0.mk hg; have n3_ := Aside0.mk hat; clear HB HO; have HB := n0_; have HO := n1_; have HG := n2_; have HAT := n3_; clear n0_ n1_ n2_ n3_; clear ho hb hg hat))
 have hIN : INs k76 S25.f0 S25.f1 w6 (fun k => (P0_ k ∨ w.heap.size ≤ k) ∧ some k ≠ v6.ownBlock) (rs ++ [⟨a1, AJ, j.length, cJ⟩]) (d ++ [(⟨a1, j⟩ : S25)]) := by
  have hfar : ∀ k, k < w5.heap.size → some k ≠ (Value.slice A4 rs.length c4).ownBlock → some k ≠ v6.ownBlock := fun k hk hne => by
   rcases HAT.out with h | ⟨b, h, hle⟩
   ·rw [h]; exact hne
   ·rw [h]; intro e; injection e with e; omega
  refine F2.append (INs.mono (INs.step (INs.bound HI.out) (fun k hk hlt => HG.out.block k hlt hk.1.1.2)) (fun k hk => ⟨hk.1.1.1, hfar k hk.2 hk.1.1.2⟩)) ⟨⟨rfl, rfl, HJL.out, ?_⟩, trivial⟩
  have hne : ∀ k, k < w3.heap.size → some k ≠ (Value.slice A4 rs.length c4).ownBlock := fun k hk e => by have := HBS.out k e.symm; omega
  exact Kd.F_mono (Kd.F_step (Kd.F_bound HJF.out) (fun k hk hlt => HG.out.block k hlt (hne k hk.1.2))) (fun k hk => ⟨.inr hk.1.1, hfar k hk.2 (hne k hk.1.2)⟩)
 obtain ⟨g, cp, rfl, hg0, hg1, -⟩ := Kd.R_form HO.out (by simp)
 replace HI := Aside0.mk (show INs k76 S25.f0 S25.f1 w6 (fun k => (P0_ k ∨ w.heap.size ≤ k) ∧ k ≠ g) (rs ++ [⟨a1, AJ, j.length, cJ⟩]) (d ++ [(⟨a1, j⟩ : S25)]) from INs.mono hIN (fun k hk => ⟨hk.1, fun e => hk.2 (by rw [e]; simp [Value.ownBlock])⟩))
 have HGB := Aside0.mk hg0
 clear hIN HL1 HJF HJL HG HAT HBS HSZ HV0 hg0 hg1
 have hN : (rs ++ [(⟨a1, AJ, j.length, cJ⟩ : RW)]).length = d.length + 1 := by rw [List.length_append, HLEN.out]; rfl
 have LD := Aside0.mk (show d.length < 1000000000 by have := LM.out; have := HLEN.out; omega)
 rw [hN] at HO ⊢
 generalize (rs ++ [(⟨a1, AJ, j.length, cJ⟩ : RW)]) = L at HI HO
 clear hN LM HLEN
 generalize hN : d.length + 1 = N at HO ⊢
 have HN := Aside0.mk hN
 have hmax : maxLen = 9223372036854775807 := rfl
 have hs0 : (N : Int) - 1 = (d.length : Int) := by omega
 have hw0 : wrap64 (d.length : Int) = (d.length : Int) := by rw [Go.Proofs.Ytoodahceejdbcaa.Pure.wrap_id (by omega) (by have := LD.out; omega)]
 have hwi : IntKind.i64.wrap ((N : Int) - 1) = (d.length : Int) := by rw [hs0, IntKind.wrap_i64] <;> (have := LD.out; omega)
 clear hN
 go_wp2_with fail
 go_loopw [9] (fun vi wr => ∃ (p q : List S25) (L : List RW), vi = .int .i64 ((p.length : Nat) : Int) ∧ Aside0 (p.length + q.length + 1 = N) ∧ Aside0 (sinkO k (⟨a1, j⟩ : S25) p q = some r) ∧ Aside0 (Kd.R kRW 25 wr w.heap.size (fun _ => True) (.slice (some ⟨g, 0, none⟩) N cp) L) ∧ Aside0 (INs k76 S25.f0 S25.f1 wr (fun k => (P0_ k ∨ w.heap.size ≤ k) ∧ k ≠ g) L (p.reverse ++ (⟨a1, j⟩ : S25) :: q)) ∧ Aside0 (Below w.heap.size w wr)) (fun vi _ => (intOf vi).toNat)
 case atStart => exact ⟨d.reverse, [], L, by rw [List.length_reverse, hw0], ⟨by rw [List.length_reverse]; exact HN.out⟩, HH, HO, ⟨by rw [List.reverse_reverse]; exact HI.out⟩, HB⟩
 case round =>
  clear HO HI HB HH hs0 hw0 hwi
  obtain ⟨p, q, L, rfl, HPQ, HH, HO, HI, HB⟩ := hrel
  cases p with
  | nil =>
   have hr : r = (⟨a1, j⟩ : S25) :: q := by have h := HH.out; unfold sinkO at h; exact (Option.some.inj h).symm
   subst hr
   simp only [List.length_nil]
   go_upto_region 6 with fail
   refine start_ (n := 17) (S := fun w' => True) (ds := []) #[false, false, false, false, false, false, false, false, false, false, false, false, false, false, false, false, false] (by kernel_rfl) rfl rfl trivial (fun hHeld => ?_)
   replace HO := Aside0.mk (Kd.R_drew HO.out)
   replace HI := Aside0.mk (INs.below HI.out (below_drew1 (Below.refl _ _)))
   replace HB := Aside0.mk (below_drew1 HB.out)
   generalize wr.drew = w7 at HO HI HB hHeld ⊢
   refine p_ 0 37 (mk_ 17 0x1) ?_
   refine p_ 1 38 (mk_ 17 0x3) ?_
   refine p_ 2 39 (mk_ 17 0x7) ?_
   refine u_ 3 40 (mk_ 17 0xf) ?_
   refine u_ 4 41 (mk_ 17 0x1f) ?_
   refine u_ 5 42 (mk_ 17 0x3f) ?_
   refine u_ 6 43 (mk_ 17 0x7f) ?_
   refine u_ 7 44 (mk_ 17 0xff) ?_
   refine u_ 8 45 (mk_ 17 0x1ff) ?_
   refine u_ 9 46 (mk_ 17 0x3ff) ?_
   refine u_ 10 47 (mk_ 17 0x7ff) ?_
   refine u_ 11 48 (mk_ 17 0xfff) ?_
   refine u_ 12 49 (mk_ 17 0x1fff) ?_
   refine u_ 13 50 (mk_ 17 0x3fff) ?_
   refine u_ 14 51 (mk_ 17 0x7fff) ?_
   refine u_ 15 52 (mk_ 17 0xffff) ?_
   refine p_ 16 53 (mk_ 17 0x1ffff) ?_
   refine done_ (by kernel_rfl) ?_
   go_wp2_with fail
   go_ret
   exact ⟨_, rfl, lead_view2 lead_r HO.out HI.out (fun k hk => .inr hk) (fun k hk => hk.1), HB.out⟩
  | cons u p =>
   obtain ⟨i, hi⟩ : ∃ i, (u :: p).length = i := ⟨_, rfl⟩
   obtain ⟨m, hm⟩ : ∃ m, p.length = m := ⟨_, rfl⟩
   have him : i = m + 1 := by rw [← hi, ← hm]; rfl
   have hiN : i < N := by have := HPQ.out; rw [hi] at this; omega
   have hmN : m < N := by omega
   have hmB : (m : Int) < 4000000000 := by have := LD.out; have := HN.out; omega
   rw [hi]
   have hs1 : (i : Int) - 1 = (m : Int) := by omega
   have hw1 : wrap64 (m : Int) = (m : Int) := by rw [Go.Proofs.Ytoodahceejdbcaa.Pure.wrap_id (by omega) (by omega)]
   have hwi : IntKind.i64.wrap ((i : Int) - 1) = (m : Int) := by rw [hs1, IntKind.wrap_i64] <;> omega
   have gt1 : decide ((i : Int) > 0) = true := decide_eq_true (by omega)
   have gt2 := eq_true (show (i : Int) > 0 by omega)
   have gt3 := eq_true (show 0 < i by omega)
   have gt4 : decide (0 < i) = true := decide_eq_true (by omega)
   have pm := eq_true (show (0 : Int) ≤ (m : Int) by omega)
   have qm := eq_true (show (m : Int) < (N : Int) by omega)
   have pi := eq_true (show (0 : Int) ≤ (i : Int) by omega)
   have qi := eq_true (show (i : Int) < (N : Int) by omega)
   have hlx : ((u :: p).reverse ++ (⟨a1, j⟩ : S25) :: q).length = N := by have := HPQ.out; simp only [List.length_append, List.length_reverse, List.length_cons] at this ⊢; omega
   have gu : ((u :: p).reverse ++ (⟨a1, j⟩ : S25) :: q).getD m z25 = u := by
    rw [List.getD_eq_getElem?_getD, List.reverse_cons, List.append_assoc, List.getElem?_append_right (by rw [List.length_reverse]; omega), List.length_reverse, hm]
    simp
   have gv : ((u :: p).reverse ++ (⟨a1, j⟩ : S25) :: q).getD i z25 = (⟨a1, j⟩ : S25) := by
    rw [List.getD_eq_getElem?_getD, List.getElem?_append_right (by rw [List.length_reverse]; omega), List.length_reverse, hi]
    simp
   have iu := F2.getD HI.out (j := m) (by omega) zRW z25
   have iv := F2.getD HI.out (j := i) (by omega) zRW z25
   rw [gu] at iu
   rw [gv] at iv
   obtain ⟨cu, hclu, hMu, hcu, -⟩ := Kd.R_elem HO.out zRW (m : Int) (by omega) (by omega)
   obtain ⟨cv, hclv, hMv, hcv, -⟩ := Kd.R_elem HO.out zRW (i : Int) (by omega) (by omega)
   rw [Int.toNat_natCast] at hMu hcu hMv hcv
   have hSW := F2.set (F2.set HI.out (i := m) iv) (i := i) iu
   have hsw := swap_list p q u (⟨a1, j⟩ : S25) z25
   rw [hm, ← him, gu, gv] at hsw
   rw [hsw] at hSW
   generalize hru : L.getD m zRW = ru at iu hMu hSW
   generalize hrv : L.getD i zRW = rv at iv hMv hSW
   obtain ⟨su, uA, un, uc⟩ := ru
   obtain ⟨sv, vA, vn, vc⟩ := rv
   obtain rfl := kRW_openM hMu
   obtain rfl := kRW_openM hMv
   have e1 : su = u.f0 := iu.1
   have e2 : sv = a1 := iv.1
   subst e1
   subst e2
   have HX0 := Aside0.mk (show wr.cell? ⟨g, m * 2, none⟩ = some (.string u.f0) from hcu 0 _ rfl)
   have HX1 := Aside0.mk (show wr.cell? ⟨g, m * 2 + 1, none⟩ = some (.slice uA un uc) from hcu 1 _ rfl)
   have HX2 := Aside0.mk (show wr.cell? ⟨g, i * 2, none⟩ = some (.string sv) from hcv 0 _ rfl)
   have HX3 := Aside0.mk (show wr.cell? ⟨g, i * 2 + 1, none⟩ = some (.slice vA vn vc) from hcv 1 _ rfl)
   have HHH := HH.out
   unfold sinkO at HHH
   obtain ⟨c, hc, HHH⟩ := Option.bind_eq_some_iff.mp HHH
   have HCM := Aside0.mk (show cenotaphref01_Compare.f k u.f0 sv = some c from hc)
   have HRS := Aside0.mk (And.intro hru hrv)
   have HPM := Aside0.mk hm
   have HIM := Aside0.mk him
   have HHI := Aside0.mk hi
   have HSW := Aside0.mk hsw
   have HGU := Aside0.mk gu
   have HGV := Aside0.mk gv
   have HLX := Aside0.mk hlx
   clear hru hrv hm him hi hsw hSW hc HH iu iv hcu hcv hclu hclv hMu hMv gu gv hlx
   by_cases hc0 : c > 0
   ·rw [if_pos hc0] at HHH
    have HH := Aside0.mk HHH
    clear HHH
    have hq1 : decide (c > 0) = true := decide_eq_true hc0
    have hq2 := eq_true hc0
    have hq3 := eq_true (show 0 < c from hc0)
    clear hc0
    go_upto_region 6 with fail
    refine start_ (n := 17) (S := fun w' => w'.cell? ⟨g, m * 2, none⟩ = some (.string u.f0) ∧ w'.cell? ⟨g, m * 2 + 1, none⟩ = some (.slice uA un uc) ∧ w'.cell? ⟨g, i * 2, none⟩ = some (.string sv) ∧ w'.cell? ⟨g, i * 2 + 1, none⟩ = some (.slice vA vn vc)) (ds := []) #[false, false, false, false, false, false, false, false, false, false, false, false, false, false, false, false, false] (by kernel_rfl) rfl rfl ⟨cell_drew HX0.out, cell_drew HX1.out, cell_drew HX2.out, cell_drew HX3.out⟩ (fun hHeld => ?_)
    replace HO := Aside0.mk (Kd.R_drew HO.out)
    replace HI := Aside0.mk (INs.below HI.out (below_drew1 (Below.refl _ _)))
    replace HB := Aside0.mk (below_drew1 HB.out)
    replace HX0 := Aside0.mk (cell_drew HX0.out)
    replace HX1 := Aside0.mk (cell_drew HX1.out)
    replace HX2 := Aside0.mk (cell_drew HX2.out)
    replace HX3 := Aside0.mk (cell_drew HX3.out)
    generalize wr.drew = w7 at HO HI HB HX0 HX1 HX2 HX3 hHeld ⊢
    refine p_ 0 37 (mk_ 17 0x1) ?_
    refine p_ 1 38 (mk_ 17 0x3) ?_
    refine p_ 2 39 (mk_ 17 0x7) ?_
    refine p_ 3 40 (mk_ 17 0xf) ?_
    refine p_ 4 41 (mk_ 17 0x1f) ?_
    refine p_ 5 42 (mk_ 17 0x3f) ?_
    refine p_ 6 43 (mk_ 17 0x7f) ?_
    refine p_ 7 44 (mk_ 17 0xff) ?_
    refine t_ 8 45 (mk_ 17 0x1ff) hHeld ?_
    refine p_ 9 46 (mk_ 17 0x3ff) ?_
    refine p_ 10 47 (mk_ 17 0x7ff) ?_
    refine p_ 11 48 (mk_ 17 0xfff) ?_
    refine p_ 12 49 (mk_ 17 0x1fff) ?_
    refine t_ 13 50 (mk_ 17 0x3fff) hHeld ?_
    refine one_ (i := 14) (N := some 51) #[true, true, true, true, true, true, true, true, true, true, true, true, true, true, true, false, false] rfl rfl (by kernel_rfl) (by decide) (fun K hK => ?_)
    refine goes_ Try.func40 (by kernel_rfl) rfl #[.string u.f0, .string sv] (by rfl) rfl rfl (by (try simp only [List.map_toArray, List.map_cons, List.map_nil]); first | done | rfl) ?_
    refine (cenotaphref01_Compare.calls k u.f0 sv c w7 HCM.out).mono ?_
    rintro ev w8 ⟨rfl, hb⟩
    replace hb := hb.below
    refine ⟨_, rfl, ?_⟩
    replace HO := Aside0.mk (Kd.R_below HO.out hb)
    replace HI := Aside0.mk (INs.below HI.out hb)
    replace HB := Aside0.mk (below_step HB.out hb)
    replace HX0 := Aside0.mk (cell_below HX0.out hb)
    replace HX1 := Aside0.mk (cell_below HX1.out hb)
    replace HX2 := Aside0.mk (cell_below HX2.out hb)
    replace HX3 := Aside0.mk (cell_below HX3.out hb)
    clear hb
    refine hK.out _ _ ⟨HX0.out, HX1.out, HX2.out, HX3.out⟩ (fun hHeld => ?_)
    clear hK K
    refine norm_ (a' := ?_) ?_ ?_
    rotate_left
    ·show Act.put _ (some 51) _ = _
     simp only [Act.put, List.setIfInBounds_toArray, List.set_cons_zero, List.set_cons_succ, i64_w, i32_w]
     rfl
    refine p_ 15 52 (mk_ 17 0xffff) ?_
    refine p_ 16 53 (mk_ 17 0x1ffff) ?_
    refine done_ (by kernel_rfl) ?_
    have HIS := Aside0.mk HI.out
    go_upto_region 8 with fail
    refine start_ (n := 18) (S := fun w' => w'.cell? ⟨g, m * 2, none⟩ = some (.string u.f0) ∧ w'.cell? ⟨g, m * 2 + 1, none⟩ = some (.slice uA un uc) ∧ w'.cell? ⟨g, i * 2, none⟩ = some (.string sv) ∧ w'.cell? ⟨g, i * 2 + 1, none⟩ = some (.slice vA vn vc)) (ds := [15, 17]) #[false, false, false, false, false, false, false, false, false, false, false, false, false, false, false, false, false, false] (by kernel_rfl) rfl rfl ⟨cell_drew HX0.out, cell_drew HX1.out, cell_drew HX2.out, cell_drew HX3.out⟩ (fun hHeld => ?_)
    replace HO := Aside0.mk (Kd.R_drew HO.out)
    replace HI := Aside0.mk (INs.below HI.out (below_drew1 (Below.refl _ _)))
    replace HB := Aside0.mk (below_drew1 HB.out)
    clear HX0 HX1 HX2 HX3
    generalize w8.drew = w9 at HO HI HB hHeld ⊢
    refine p_ 0 56 (mk_ 18 0x1) ?_
    refine p_ 1 57 (mk_ 18 0x3) ?_
    refine p_ 2 58 (mk_ 18 0x7) ?_
    refine p_ 3 59 (mk_ 18 0xf) ?_
    refine p_ 4 60 (mk_ 18 0x1f) ?_
    refine p_ 5 61 (mk_ 18 0x3f) ?_
    refine p_ 6 62 (mk_ 18 0x7f) ?_
    refine p_ 7 63 (mk_ 18 0xff) ?_
    refine t_ 8 64 (mk_ 18 0x1ff) hHeld ?_
    refine p_ 9 65 (mk_ 18 0x3ff) ?_
    refine p_ 10 66 (mk_ 18 0x7ff) ?_
    refine p_ 11 67 (mk_ 18 0xfff) ?_
    refine p_ 12 68 (mk_ 18 0x1fff) ?_
    refine t_ 13 69 (mk_ 18 0x3fff) hHeld ?_
    refine p_ 14 70 (mk_ 18 0x7fff) ?_
    clear hHeld
    refine last_ (i := 15) (N := none) #[true, true, true, true, true, true, true, true, true, true, true, true, true, true, true, true, false, false] rfl rfl (by kernel_rfl) (by decide) (fun K hK => ?_)
    obtain ⟨cz, hclz, hMz, hcz, hfz⟩ := Kd.R_elem HO.out zRW (m : Int) (by omega) (by omega)
    obtain rfl := kRW_openM hMz
    generalize (List.getD _ (m : Int).toNat zRW) = rz at hcz
    rw [Int.toNat_natCast] at hcz hfz
    have hz0 : World.frozen? w9 ⟨g, m * 2, none⟩ = false := hfz 0
    have hz1 : World.frozen? w9 ⟨g, m * 2 + 1, none⟩ = false := hfz 1
    have hz2 : World.cell? w9 ⟨g, m * 2, none⟩ = some (.string rz.f0) := hcz 0 _ rfl
    have hz3 : World.cell? w9 ⟨g, m * 2 + 1, none⟩ = some (.slice rz.A rz.n rz.c) := hcz 1 _ rfl
    clear hclz hMz hcz hfz
    refine skip_ (w1 := ?_) (by rfl) rfl ?_ ?_
    rotate_left
    ·go_simp
     rfl
    refine hK.out _ _ ?_
    clear hK K
    clear hz0 hz1 hz2 hz3
    replace HO := Aside0.mk (show Kd.R kRW 25 ((w9.setCell ⟨g, m * 2, none⟩ (.string sv)).setCell ⟨g, m * 2 + 1, none⟩ (.slice vA vn vc)) w.heap.size (fun _ => True) (.slice (some ⟨g, 0, none⟩) N cp) (L.set m ⟨sv, vA, vn, vc⟩) from RW_put HO.out hmN ⟨sv, vA, vn, vc⟩)
    replace HI := Aside0.mk (show INs k76 S25.f0 S25.f1 ((w9.setCell ⟨g, m * 2, none⟩ (.string sv)).setCell ⟨g, m * 2 + 1, none⟩ (.slice vA vn vc)) (fun k => (P0_ k ∨ w.heap.size ≤ k) ∧ k ≠ g) L ((u :: p).reverse ++ (⟨sv, j⟩ : S25) :: q) from INs.far (o := m * 2) (seg := [.string sv, .slice vA vn vc]) HI.out (fun k hk => hk.2))
    replace HB := Aside0.mk (show Below w.heap.size w ((w9.setCell ⟨g, m * 2, none⟩ (.string sv)).setCell ⟨g, m * 2 + 1, none⟩ (.slice vA vn vc)) from below_set (below_set HB.out HGB.out) HGB.out)
    generalize (w9.setCell ⟨g, m * 2, none⟩ (.string sv)).setCell ⟨g, m * 2 + 1, none⟩ (.slice vA vn vc) = w10 at HO HI HB ⊢
    refine p_ 16 71 (mk_ 18 0x1ffff) ?_
    refine last_ (i := 17) (N := none) #[true, true, true, true, true, true, true, true, true, true, true, true, true, true, true, true, true, true] rfl rfl (by kernel_rfl) (by decide) (fun K hK => ?_)
    obtain ⟨cz, hclz, hMz, hcz, hfz⟩ := Kd.R_elem HO.out zRW (i : Int) (by omega) (by omega)
    obtain rfl := kRW_openM hMz
    generalize (List.getD _ (i : Int).toNat zRW) = rz at hcz
    rw [Int.toNat_natCast] at hcz hfz
    have hz0 : World.frozen? w10 ⟨g, i * 2, none⟩ = false := hfz 0
    have hz1 : World.frozen? w10 ⟨g, i * 2 + 1, none⟩ = false := hfz 1
    have hz2 : World.cell? w10 ⟨g, i * 2, none⟩ = some (.string rz.f0) := hcz 0 _ rfl
    have hz3 : World.cell? w10 ⟨g, i * 2 + 1, none⟩ = some (.slice rz.A rz.n rz.c) := hcz 1 _ rfl
    clear hclz hMz hcz hfz
    refine skip_ (w1 := ?_) (by rfl) rfl ?_ ?_
    rotate_left
    ·go_simp
     rfl
    refine hK.out _ _ ?_
    clear hK K
    clear hz0 hz1 hz2 hz3
    replace HO := Aside0.mk (show Kd.R kRW 25 ((w10.setCell ⟨g, i * 2, none⟩ (.string u.f0)).setCell ⟨g, i * 2 + 1, none⟩ (.slice uA un uc)) w.heap.size (fun _ => True) (.slice (some ⟨g, 0, none⟩) N cp) ((L.set m ⟨sv, vA, vn, vc⟩).set i ⟨u.f0, uA, un, uc⟩) from RW_put HO.out hiN ⟨u.f0, uA, un, uc⟩)
    replace HI := Aside0.mk (show INs k76 S25.f0 S25.f1 ((w10.setCell ⟨g, i * 2, none⟩ (.string u.f0)).setCell ⟨g, i * 2 + 1, none⟩ (.slice uA un uc)) (fun k => (P0_ k ∨ w.heap.size ≤ k) ∧ k ≠ g) L ((u :: p).reverse ++ (⟨sv, j⟩ : S25) :: q) from INs.far (o := i * 2) (seg := [.string u.f0, .slice uA un uc]) HI.out (fun k hk => hk.2))
    replace HB := Aside0.mk (show Below w.heap.size w ((w10.setCell ⟨g, i * 2, none⟩ (.string u.f0)).setCell ⟨g, i * 2 + 1, none⟩ (.slice uA un uc)) from below_set (below_set HB.out HGB.out) HGB.out)
    generalize (w10.setCell ⟨g, i * 2, none⟩ (.string u.f0)).setCell ⟨g, i * 2 + 1, none⟩ (.slice uA un uc) = w11 at HO HI HB ⊢
    refine done_ (by kernel_rfl) ?_
    replace HI := Aside0.mk (show INs k76 S25.f0 S25.f1 w11 (fun k => (P0_ k ∨ w.heap.size ≤ k) ∧ k ≠ g) ((L.set m ⟨sv, vA, vn, vc⟩).set i ⟨u.f0, uA, un, uc⟩) (p.reverse ++ (⟨sv, j⟩ : S25) :: u :: q) from by
     have iu := F2.getD HI.out (j := m) (by have := HLX.out; omega) zRW z25
     have iv := F2.getD HI.out (j := i) (by have := HLX.out; omega) zRW z25
     rw [HGU.out, HRS.out.1] at iu
     rw [HGV.out, HRS.out.2] at iv
     have h := F2.set (F2.set HI.out (i := m) iv) (i := i) iu
     rw [HSW.out] at h
     exact h)
    go_wp2_with fail
    go_roundw
    case rel => exact ⟨p, u :: q, _, by rw [HPM.out], ⟨by have := HPQ.out; simp only [List.length_cons] at this ⊢; omega⟩, HH, HO, HI, HB⟩
    case measure => simp [intOf]; have := HIM.out; omega
   ·rw [if_neg hc0] at HHH
    have HRR := Aside0.mk (Option.some.inj HHH)
    clear HHH
    have hq1 : decide (c > 0) = false := decide_eq_false hc0
    have hq2 := eq_false hc0
    have hq3 := eq_false (show ¬ 0 < c from hc0)
    clear hc0
    go_upto_region 6 with fail
    refine start_ (n := 17) (S := fun w' => w'.cell? ⟨g, m * 2, none⟩ = some (.string u.f0) ∧ w'.cell? ⟨g, m * 2 + 1, none⟩ = some (.slice uA un uc) ∧ w'.cell? ⟨g, i * 2, none⟩ = some (.string sv) ∧ w'.cell? ⟨g, i * 2 + 1, none⟩ = some (.slice vA vn vc)) (ds := []) #[false, false, false, false, false, false, false, false, false, false, false, false, false, false, false, false, false] (by kernel_rfl) rfl rfl ⟨cell_drew HX0.out, cell_drew HX1.out, cell_drew HX2.out, cell_drew HX3.out⟩ (fun hHeld => ?_)
    replace HO := Aside0.mk (Kd.R_drew HO.out)
    replace HI := Aside0.mk (INs.below HI.out (below_drew1 (Below.refl _ _)))
    replace HB := Aside0.mk (below_drew1 HB.out)
    replace HX0 := Aside0.mk (cell_drew HX0.out)
    replace HX1 := Aside0.mk (cell_drew HX1.out)
    replace HX2 := Aside0.mk (cell_drew HX2.out)
    replace HX3 := Aside0.mk (cell_drew HX3.out)
    generalize wr.drew = w7 at HO HI HB HX0 HX1 HX2 HX3 hHeld ⊢
    refine p_ 0 37 (mk_ 17 0x1) ?_
    refine p_ 1 38 (mk_ 17 0x3) ?_
    refine p_ 2 39 (mk_ 17 0x7) ?_
    refine p_ 3 40 (mk_ 17 0xf) ?_
    refine p_ 4 41 (mk_ 17 0x1f) ?_
    refine p_ 5 42 (mk_ 17 0x3f) ?_
    refine p_ 6 43 (mk_ 17 0x7f) ?_
    refine p_ 7 44 (mk_ 17 0xff) ?_
    refine t_ 8 45 (mk_ 17 0x1ff) hHeld ?_
    refine p_ 9 46 (mk_ 17 0x3ff) ?_
    refine p_ 10 47 (mk_ 17 0x7ff) ?_
    refine p_ 11 48 (mk_ 17 0xfff) ?_
    refine p_ 12 49 (mk_ 17 0x1fff) ?_
    refine t_ 13 50 (mk_ 17 0x3fff) hHeld ?_
    refine one_ (i := 14) (N := some 51) #[true, true, true, true, true, true, true, true, true, true, true, true, true, true, true, false, false] rfl rfl (by kernel_rfl) (by decide) (fun K hK => ?_)
    refine goes_ Try.func40 (by kernel_rfl) rfl #[.string u.f0, .string sv] (by rfl) rfl rfl (by (try simp only [List.map_toArray, List.map_cons, List.map_nil]); first | done | rfl) ?_
    refine (cenotaphref01_Compare.calls k u.f0 sv c w7 HCM.out).mono ?_
    rintro ev w8 ⟨rfl, hb⟩
    replace hb := hb.below
    refine ⟨_, rfl, ?_⟩
    replace HO := Aside0.mk (Kd.R_below HO.out hb)
    replace HI := Aside0.mk (INs.below HI.out hb)
    replace HB := Aside0.mk (below_step HB.out hb)
    replace HX0 := Aside0.mk (cell_below HX0.out hb)
    replace HX1 := Aside0.mk (cell_below HX1.out hb)
    replace HX2 := Aside0.mk (cell_below HX2.out hb)
    replace HX3 := Aside0.mk (cell_below HX3.out hb)
    clear hb
    refine hK.out _ _ ⟨HX0.out, HX1.out, HX2.out, HX3.out⟩ (fun hHeld => ?_)
    clear hK K
    refine norm_ (a' := ?_) ?_ ?_
    rotate_left
    ·show Act.put _ (some 51) _ = _
     simp only [Act.put, List.setIfInBounds_toArray, List.set_cons_zero, List.set_cons_succ, i64_w, i32_w]
     rfl
    refine p_ 15 52 (mk_ 17 0xffff) ?_
    refine p_ 16 53 (mk_ 17 0x1ffff) ?_
    refine done_ (by kernel_rfl) ?_
    go_wp2_with fail
    go_ret
    exact ⟨_, rfl, by rw [← HRR.out]; exact lead_view2 lead_r HO.out HI.out (fun k hk => .inr hk) (fun k hk => hk.1), HB.out⟩


/-! ### cenotaphref10_Fix: function 12 -/
theorem zq12_0 {p_ : Prop} (h_ : p_ := by (try simp only [List.map_toArray, List.map_cons, List.map_nil]); first | done | rfl | (simp only [List.length_drop, List.length_take]; rfl)) : p_ := h_
theorem zq12_1 {p_ : Prop} (h_ : p_ := by repeat (first | (with_reducible first | exact HB.out | apply below_alloc | apply pw_below_drewN | apply below_drew1) | exact HB.out)) : p_ := h_
theorem zq12_2 {p_ : Prop} (h_ : p_ := by first | (with_reducible assumption) | assumption) : p_ := h_
theorem zq12_3 {p_ : Prop} (h_ : p_ := by first | rfl | (simp; done) | (simp [*]; done)) : p_ := h_
mutual
def cenotaphref10_Fix.l0 : Nat → List (S25) → List (S25) → Int → Option ((List (S25)))
 | 0, _, _, _ => none
 | k + 1, x0, x3, x4 => if x4 < (x0.length : Int) then (cenotaphref10_Fix.j1 k x0 x3 x4 (decide (x4 < 8))) else (cenotaphref10_Fix.j1 k x0 x3 x4 false)
def cenotaphref10_Fix.j1 : Nat → List (S25) → List (S25) → Int → Bool → Option ((List (S25)))
 | 0, _, _, _, _ => none
 | k + 1, x0, x3, x4, x12 => if x12 = true then (if 0 ≤ x4 then (if x4 < (x0.length : Int) then ((cenotaphref01_Fix.f k ((rd_T25 x0 x4).f0)).bind fun t255 => ((cenotaphref03_Fix.f k ((rd_T25 x0 x4).f1)).bind fun t257 => ((cenotaphref10_Put.f k x3 t255 t257).bind fun t260 => (cenotaphref10_Fix.l0 k x0 t260 (wrap64 (x4 + 1)))))) else (none)) else (none)) else (some x3)
end
def cenotaphref10_Fix.f (k : Nat) (l0 : List (S25)) : Option ((List (S25))) := cenotaphref10_Fix.l0 k l0 ([] : List (S25)) 0
theorem cenotaphref10_Fix.mono_l : ∀ k, (∀ y0 y1 y2, LeO (cenotaphref10_Fix.l0 k y0 y1 y2) (cenotaphref10_Fix.l0 (k + 1) y0 y1 y2)) ∧ (∀ y0 y1 y2 y3, LeO (cenotaphref10_Fix.j1 k y0 y1 y2 y3) (cenotaphref10_Fix.j1 (k + 1) y0 y1 y2 y3))
 | 0 => ⟨fun _ _ _ r h => by simp [cenotaphref10_Fix.l0] at h, fun _ _ _ _ r h => by simp [cenotaphref10_Fix.j1] at h⟩
 | k + 1 => by
  obtain ⟨ih0, ih1⟩ := cenotaphref10_Fix.mono_l k
  refine ⟨?_, ?_⟩
  ·intro y0 y1 y2
   unfold cenotaphref10_Fix.l0
   repeat' first
   | (with_reducible exact ih0 _ _ _)
   | (with_reducible exact ih1 _ _ _ _)
   | (with_reducible exact cenotaphref01_Fix.mono _ _)
   | (with_reducible exact cenotaphref03_Fix.mono _ _)
   | (with_reducible exact cenotaphref10_Put.mono _ _ _ _)
   | (with_reducible exact LeO.refl _)
   | (with_reducible exact LeO.none _)
   | (with_reducible refine LeO.ite ?_ ?_)
   | (with_reducible refine LeO.bind ?_ (fun _ => ?_))
   | exact ih0 _ _ _
   | exact ih1 _ _ _ _
   | exact cenotaphref01_Fix.mono _ _
   | exact cenotaphref03_Fix.mono _ _
   | exact cenotaphref10_Put.mono _ _ _ _
   | exact LeO.none _
   | refine LeO.ite ?_ ?_
   | refine LeO.bind ?_ (fun _ => ?_)
  ·intro y0 y1 y2 y3
   unfold cenotaphref10_Fix.j1
   repeat' first
   | (with_reducible exact ih0 _ _ _)
   | (with_reducible exact ih1 _ _ _ _)
   | (with_reducible exact cenotaphref01_Fix.mono _ _)
   | (with_reducible exact cenotaphref03_Fix.mono _ _)
   | (with_reducible exact cenotaphref10_Put.mono _ _ _ _)
   | (with_reducible exact LeO.refl _)
   | (with_reducible exact LeO.none _)
   | (with_reducible refine LeO.ite ?_ ?_)
   | (with_reducible refine LeO.bind ?_ (fun _ => ?_))
   | exact ih0 _ _ _
   | exact ih1 _ _ _ _
   | exact cenotaphref01_Fix.mono _ _
   | exact cenotaphref03_Fix.mono _ _
   | exact cenotaphref10_Put.mono _ _ _ _
   | exact LeO.none _
   | refine LeO.ite ?_ ?_
   | refine LeO.bind ?_ (fun _ => ?_)
theorem cenotaphref10_Fix.mono : ∀ a0 k, LeO (cenotaphref10_Fix.f k a0) (cenotaphref10_Fix.f (k + 1) a0) := by
 intro a0 k
 obtain ⟨ih0, ih1⟩ := cenotaphref10_Fix.mono_l k
 unfold cenotaphref10_Fix.f
 repeat' first
   | (with_reducible exact ih0 _ _ _)
   | (with_reducible exact ih1 _ _ _ _)
   | (with_reducible exact cenotaphref01_Fix.mono _ _)
   | (with_reducible exact cenotaphref03_Fix.mono _ _)
   | (with_reducible exact cenotaphref10_Put.mono _ _ _ _)
   | (with_reducible exact LeO.refl _)
   | (with_reducible exact LeO.none _)
   | (with_reducible refine LeO.ite ?_ ?_)
   | (with_reducible refine LeO.bind ?_ (fun _ => ?_))
   | exact ih0 _ _ _
   | exact ih1 _ _ _ _
   | exact cenotaphref01_Fix.mono _ _
   | exact cenotaphref03_Fix.mono _ _
   | exact cenotaphref10_Put.mono _ _ _ _
   | exact LeO.none _
   | refine LeO.ite ?_ ?_
   | refine LeO.bind ?_ (fun _ => ?_)
def cenotaphref10_Fix.T5 : Bool × List (List Nat × List Nat) := (true, [([], []), ([], []), ([], []), ([1, 2], [1, 2]), ([3], [3]), ([4], [4]), ([5], [5]), ([], []), ([], []), ([7, 8], [7, 8]), ([9], [9]), ([10], [10]), ([11, 6], [11]), ([0, 6, 12, 12], [0, 6, 12]), ([13, 13, 0, 1, 2, 3, 4, 5, 6, 7, 8, 9, 10, 11, 12, 13], [0, 13])])
def cenotaphref10_Fix.B5 : List Nat := [0, 0, 0, 6, 14, 30, 62, 0, 0, 384, 896, 1920, 4094, 8191, 16383]
theorem cenotaphref10_Fix.tab5 : rtab .any (opsOf Try.f12 5) = cenotaphref10_Fix.T5 := by kernel_rfl
theorem cenotaphref10_Fix.bits5 : waitsOk cenotaphref10_Fix.T5.2 cenotaphref10_Fix.B5 = true := by kernel_rfl
set_option maxHeartbeats 8000000 in
set_option maxRecDepth 100000 in
theorem cenotaphref10_Fix.calls (k : Nat) (A0 : Option Addr) (c0 : Nat) (l0 : List (S25)) (r : List (S25)) (w : World) (hr0 : Kd.C k25 w A0 l0.length l0) (hc0 : l0.length ≤ c0) (h : cenotaphref10_Fix.f k l0 = some r) :
  Calls Try.prog 12 #[.slice A0 l0.length c0] w fun e w' => ∃ v0_ : Value, e = .returned (v0_) ∧ Kd.V k25 25 w' w.heap.size (fun k_ => (w.heap.size ≤ k_)) v0_ r ∧ Below w.heap.size w w' := by
 have HR0 := Aside0.mk hr0
 have HC0 := Aside0.mk hc0
 clear hr0 hc0
 have HB := Aside0.mk (Below.refl w.heap.size w)
 have H : (cenotaphref10_Fix.l0 k l0 ([] : List (S25)) 0) = some r := h
 clear h
 have H' := Aside0.mk H
 clear H
 go_enter Try.func12, Try.ntmps12
 go_wp2
 go_loopg [3, 4] k (fun kq v3 v4 w' => ∃ (x3_1 : List (S25)) (x4_1 : Int), v4 = .int .i64 x4_1 ∧ Aside0 (cenotaphref10_Fix.l0 kq l0 x3_1 x4_1 = some r) ∧ Aside0 (kq ≤ k) ∧ Aside0 (Kd.V k25 25 w' w.heap.size (fun k_ => (w.heap.size ≤ k_)) v3 x3_1) ∧ Aside0 (Below w.heap.size w w'))
 case atStart => exact ⟨(([] : List (S25))), (0), zq12_3, H', ⟨Nat.le_refl _⟩, ⟨(Kd.V_nil _ _ _ _ _)⟩, ⟨by repeat (first | (with_reducible first | exact HB.out | apply below_alloc | apply pw_below_drewN | apply below_drew1) | exact HB.out)⟩⟩
 case round =>
  clear H'
  try clear c1
  obtain ⟨x3_1, x4_1, rfl, HA, HK1, HO_3, HB⟩ := hrel
  cases gk with
  | zero => exact absurd HA.out (by simp [cenotaphref10_Fix.l0])
  | succ k1 =>
   have H := HA.out
   clear HA
   simp only [cenotaphref10_Fix.l0] at H
   have HC2 := Aside0.mk H
   clear H
   go_upto_region 3 with (fail)
   go_cut [12] (fun v12 wc => ∃ (kq : Nat) (x12_1 : Bool), v12 = .bool x12_1 ∧ Aside0 (cenotaphref10_Fix.j1 kq l0 x3_1 x4_1 x12_1 = some r) ∧ Aside0 (kq ≤ k1) ∧ Aside0 (Kd.V k25 25 wc w.heap.size (fun k_ => (w.heap.size ≤ k_)) u3 x3_1) ∧ Aside0 (Below w.heap.size w wc))
   case first =>
    have H := HC2.out
    clear HC2
    by_cases c3 : x4_1 < (l0.length : Int)
    ·rw [if_pos c3] at H
     have c3b0 : decide (x4_1 < (l0.length : Int)) = true := decide_eq_true c3
     clear c3
     (first | rw [c3b0] | (simp only [i64_w, i32_w]; rw [c3b0]) | skip)
     have H' := Aside0.mk H
     clear H
     go_wp2
     go_meet
     case rel => exact ⟨_, (decide (x4_1 < 8)), zq12_3, H', ⟨by have := HK1.out; first | omega | exact Nat.le_refl _⟩, ⟨by (with_reducible repeat (first | apply Kd.V_alloc | apply Kd.V_drewN | apply Kd.V_drew)); exact HO_3.out⟩, ⟨by repeat (first | (with_reducible first | exact HB.out | apply below_alloc | apply pw_below_drewN | apply below_drew1) | exact HB.out)⟩⟩
    ·rw [if_neg c3] at H
     have c3b0 : decide (x4_1 < (l0.length : Int)) = false := decide_eq_false c3
     clear c3
     (first | rw [c3b0] | (simp only [i64_w, i32_w]; rw [c3b0]) | skip)
     have H' := Aside0.mk H
     clear H
     go_wp2
     go_meet
     case rel => exact ⟨_, (false), zq12_3, H', ⟨by have := HK1.out; first | omega | exact Nat.le_refl _⟩, ⟨by (with_reducible repeat (first | apply Kd.V_alloc | apply Kd.V_drewN | apply Kd.V_drew)); exact HO_3.out⟩, ⟨by repeat (first | (with_reducible first | exact HB.out | apply below_alloc | apply pw_below_drewN | apply below_drew1) | exact HB.out)⟩⟩
   case rest =>
    clear HC2
    try clear c1
    try clear p2
    try clear c3
    try clear c3b0
    obtain ⟨kq, x12_1, rfl, HA, HJ1, HO_3, HB⟩ := hcut
    cases kq with
    | zero => exact absurd HA.out (by simp [cenotaphref10_Fix.j1])
    | succ kj1 =>
     have H := HA.out
     clear HA
     simp only [cenotaphref10_Fix.j1] at H
     by_cases c4 : x12_1 = true
     ·subst c4
      have H1 : (if 0 ≤ x4_1 then (if x4_1 < (l0.length : Int) then ((cenotaphref01_Fix.f kj1 ((rd_T25 l0 x4_1).f0)).bind fun t255 => ((cenotaphref03_Fix.f kj1 ((rd_T25 l0 x4_1).f1)).bind fun t257 => ((cenotaphref10_Put.f kj1 x3_1 t255 t257).bind fun t260 => (cenotaphref10_Fix.l0 kj1 l0 t260 (wrap64 (x4_1 + 1)))))) else (none)) else (none)) = some r := by rw [if_pos rfl] at H; exact H
      clear H
      have H := H1
      clear H1
      by_cases c5 : 0 ≤ x4_1
      ·rw [if_pos c5] at H
       have c5b0 : decide (0 ≤ x4_1) = true := decide_eq_true c5
       clear c5
       by_cases c6 : x4_1 < (l0.length : Int)
       ·rw [if_pos c6] at H
        have c6b0 : decide (x4_1 < (l0.length : Int)) = true := decide_eq_true c6
        clear c6
        replace H := Option.bind_eq_some_iff.mp H
        obtain ⟨t255, A70, H⟩ := H
        have A7 := Aside0.mk A70
        clear A70
        replace H := Option.bind_eq_some_iff.mp H
        obtain ⟨t257, A80, H⟩ := H
        have A8 := Aside0.mk A80
        clear A80
        replace H := Option.bind_eq_some_iff.mp H
        obtain ⟨t260, A90, H⟩ := H
        have A9 := Aside0.mk A90
        clear A90
        have H' := Aside0.mk H
        clear H
        try go_wp2
        replace HO_3 := Aside0.mk (Kd.V_drew HO_3.out)
        replace HB := Aside0.mk (below_drew1 HB.out)
        have p254 : 0 ≤ (x4_1 : Int) := of_decide_eq_true zq12_2
        have q254 : x4_1 < (l0.length : Int) := of_decide_eq_true zq12_2
        obtain ⟨ad254, A254_1, c254_1, e254, hx254_0, hx254_1, hl254_1, hi254_1⟩ := at_T25 HR0.out x4_1 p254 q254
        have hw254_1 := hx254_1
        have hw254_0 := hx254_0
        cases e254
        replace hx254_0 := (HB.out.cell (World.block_lt_of_cell? w _ hx254_0)).trans hx254_0
        replace hx254_1 := (HB.out.cell (World.block_lt_of_cell? w _ hx254_1)).trans hx254_1
        have HR254_1 := Aside0.mk hi254_1
        have HC254_1 := Aside0.mk hl254_1
        clear hi254_1 hl254_1
        replace p254 := eq_true p254
        replace q254 := eq_true q254
        have p256 : 0 ≤ (x4_1 : Int) := of_decide_eq_true zq12_2
        have q256 : x4_1 < (l0.length : Int) := of_decide_eq_true zq12_2
        obtain ⟨ad256, A256_1, c256_1, e256, hx256_0, hx256_1, hl256_1, hi256_1⟩ := at_T25 HR0.out x4_1 p256 q256
        have hw256_1 := hx256_1
        have hw256_0 := hx256_0
        obtain rfl : ad254 = ad256 := (by injection e256)
        replace hx256_0 := (HB.out.cell (World.block_lt_of_cell? w _ hx256_0)).trans hx256_0
        replace hx256_1 := (HB.out.cell (World.block_lt_of_cell? w _ hx256_1)).trans hx256_1
        have HR256_1 := Aside0.mk hi256_1
        have HC256_1 := Aside0.mk hl256_1
        clear hi256_1 hl256_1
        replace p256 := eq_true p256
        replace q256 := eq_true q256
        have ea_ := Option.some.inj (hx254_1.symm.trans hx256_1)
        injection ea_ with ea_ en_ ec_
        subst ea_
        subst ec_
        clear en_
        refine start_ (n := 15) (S := fun w' => w'.cell? (ad254.add ((x4_1).toNat * 2)) = some (.string ((rd_T25 l0 x4_1).f0)) ∧ w'.cell? ⟨(ad254.add ((x4_1).toNat * 2)).block, (ad254.add ((x4_1).toNat * 2)).off + 1, none⟩ = some (.slice A254_1 ((rd_T25 l0 x4_1).f1).length c254_1) ∧ w'.cell? (ad254.add ((x4_1).toNat * 2)) = some (.string ((rd_T25 l0 x4_1).f0)) ∧ w'.cell? ⟨(ad254.add ((x4_1).toNat * 2)).block, (ad254.add ((x4_1).toNat * 2)).off + 1, none⟩ = some (.slice A254_1 ((rd_T25 l0 x4_1).f1).length c254_1)) (ds := []) #[false, false, false, false, false, false, false, false, false, false, false, false, false, false, false] (by kernel_rfl) rfl rfl ⟨((HB.out.cell (World.block_lt_of_cell? w _ hw254_0)).trans hw254_0), ((HB.out.cell (World.block_lt_of_cell? w _ hw254_1)).trans hw254_1), ((HB.out.cell (World.block_lt_of_cell? w _ hw256_0)).trans hw256_0), ((HB.out.cell (World.block_lt_of_cell? w _ hw256_1)).trans hw256_1)⟩ (fun hHeld => ?_); refine with_tabW cenotaphref10_Fix.tab5 cenotaphref10_Fix.bits5 (fun HT_ HW_ => ?_)
        generalize wc.drew = w10 at HO_3 HB HR254_1 HR256_1 hx254_0 hx254_1 hx256_0 hx256_1 hHeld ⊢
        refine p_ 0 15 (mk_ 15 0x1) ?_
        refine p_ 1 16 (mk_ 15 0x3) ?_
        refine p_ 2 17 (mk_ 15 0x7) ?_
        refine p_ 3 18 (mk_ 15 0xf) ?_
        refine p_ 4 19 (mk_ 15 0x1f) ?_
        refine p_ 7 22 (mk_ 15 0x9f) ?_
        refine p_ 8 23 (mk_ 15 0x19f) ?_
        refine p_ 9 24 (mk_ 15 0x39f) ?_
        refine p_ 10 25 (mk_ 15 0x79f) ?_
        refine t_ 5 20 (mk_ 15 0x7bf) hHeld ?_
        refine t_ 11 26 (mk_ 15 0xfbf) hHeld ?_
        refine one_ (i := 6) (N := some 21) #[true, true, true, true, true, true, true, true, true, true, true, true, false, false, false] rfl rfl (one_of HT_.out (by kernel_rfl)) (by decide) (fun K hK => ?_)
        refine goes_ Try.func41 (by kernel_rfl) rfl #[.string ((rd_T25 l0 x4_1).f0)] (by rfl) rfl rfl zq12_0 ?_
        with_reducible refine (cenotaphref01_Fix.calls kj1 ((rd_T25 l0 x4_1).f0) t255 _ A7.out).mono ?_
        rintro e w' ⟨rfl, ⟨nd, rfl⟩⟩
        refine ⟨_, rfl, ?_⟩
        refine hK.out _ _ ⟨((HB.out.cell (World.block_lt_of_cell? w _ hw254_0)).trans hw254_0), ((HB.out.cell (World.block_lt_of_cell? w _ hw254_1)).trans hw254_1), ((HB.out.cell (World.block_lt_of_cell? w _ hw256_0)).trans hw256_0), ((HB.out.cell (World.block_lt_of_cell? w _ hw256_1)).trans hw256_1)⟩ (fun hHeld => ?_)
        clear hK K
        refine norm_ (a' := ?_) ?_ ?_
        rotate_left
        ·show Act.put _ (some 21) _ = _
         simp only [Act.put, List.setIfInBounds_toArray, List.set_cons_zero, List.set_cons_succ, i64_w, i32_w]
         rfl
        refine one_ (i := 12) (N := some 27) #[true, true, true, true, true, true, true, true, true, true, true, true, true, false, false] rfl rfl (one_of HT_.out (by kernel_rfl)) (by decide) (fun K hK => ?_)
        refine goes_ Try.func26 (by kernel_rfl) rfl #[.slice A254_1 ((rd_T25 l0 x4_1).f1).length c254_1] (by rfl) rfl rfl zq12_0 ?_
        with_reducible refine (cenotaphref03_Fix.calls kj1 _ _ ((rd_T25 l0 x4_1).f1) t257 _ ?side1 ?side2 A8.out).mono ?_
        (case side1 => repeat (first | exact (Kd.C_below HR256_1.out zq12_1) | (with_reducible refine Kd.C_alloc ?_ _) | (with_reducible refine Kd.C_drewN ?_ _) | (with_reducible refine Kd.C_drew ?_)))
        (case side2 => exact HC256_1.out)
        rintro e w11 ⟨v258, rfl, ho0, hb⟩
        refine ⟨_, rfl, ?_⟩
        replace HO_3 := Aside0.mk (Kd.V_elder' (by (with_reducible repeat (first | apply Kd.V_alloc | apply Kd.V_drewN | apply Kd.V_drew)); exact HO_3.out) (Kd.R_base ho0) hb)
        have HO259 := Aside0.mk (Kd.R_lower (Kd.R_newM (M := fun k_ => (w.heap.size ≤ k_)) ho0 (below_size zq12_1) (fun k_ h_ => h_)) (below_size zq12_1))
        replace HB := Aside0.mk (below_step zq12_1 hb)
        (try clear hb)
        (try clear hb2)
        (try clear hk)
        (try clear hi)
        (try clear ho0)
        obtain ⟨Ao12, co12, eo12⟩ := Kd.V_slice HO_3.out
        (first | subst eo12 | (injection eo12 with f1_ f2_ f3_; have f4_ := f1_.symm; have f5_ := f3_.symm; clear f1_ f2_ f3_; subst f4_; subst f5_))
        obtain ⟨Ao13, co13, eo13⟩ := Kd.R_slice HO259.out
        (first | subst eo13 | (injection eo13 with f1_ f2_ f3_; have f4_ := f1_.symm; have f5_ := f3_.symm; clear f1_ f2_ f3_; subst f4_; subst f5_))
        refine hK.out _ _ ⟨((HB.out.cell (World.block_lt_of_cell? w _ hw254_0)).trans hw254_0), ((HB.out.cell (World.block_lt_of_cell? w _ hw254_1)).trans hw254_1), ((HB.out.cell (World.block_lt_of_cell? w _ hw256_0)).trans hw256_0), ((HB.out.cell (World.block_lt_of_cell? w _ hw256_1)).trans hw256_1)⟩ (fun hHeld => ?_)
        clear hK K
        refine norm_ (a' := ?_) ?_ ?_
        rotate_left
        ·show Act.put _ (some 27) _ = _
         simp only [Act.put, List.setIfInBounds_toArray, List.set_cons_zero, List.set_cons_succ, i64_w, i32_w]
         rfl
        refine one_ (i := 13) (N := some 28) #[true, true, true, true, true, true, true, true, true, true, true, true, true, true, false] rfl rfl (one_of HT_.out (by kernel_rfl)) (by decide) (fun K hK => ?_)
        refine goes_ Try.func31 (by kernel_rfl) rfl #[.slice Ao12 x3_1.length co12, .string t255, .slice Ao13 t257.length co13] (by rfl) rfl rfl zq12_0 ?_
        with_reducible refine (cenotaphref10_Put.calls kj1 (fun k_ => ((w.heap.size ≤ k_) ∧ some k_ ≠ (.slice Ao13 t257.length co13 : Value).ownBlock)) _ _ x3_1 t255 _ _ t257 t260 _ ?side1 ?side2 ?side3 A9.out).mono ?_
        (case side1 => exact HO_3.out)
        (case side2 => repeat (first | exact (Kd.R_reads' HO259.out).2.2 | (with_reducible refine Kd.C_alloc ?_ _) | (with_reducible refine Kd.C_drewN ?_ _) | (with_reducible refine Kd.C_drew ?_)))
        (case side3 => exact (Kd.R_reads' HO259.out).2.1)
        rintro e w14 ⟨v261, rfl, ho0, hb⟩
        refine ⟨_, rfl, ?_⟩
        replace HO_3 := Aside0.mk (Kd.V_below (by (with_reducible repeat (first | apply Kd.V_alloc | apply Kd.V_drewN | apply Kd.V_drew)); exact HO_3.out) hb)
        have HO262 := Aside0.mk (Kd.V_lower (Kd.V_mono (ok' := fun k_ => (w.heap.size ≤ k_) ∧ some k_ ≠ (.slice Ao13 t257.length co13 : Value).ownBlock) ho0 (fun k_ hk_ => ⟨Or.elim hk_ (fun hs_ => hs_.1) (fun hn_ => (Nat.le_trans (below_size zq12_1) hn_)), Or.elim hk_ (fun hs_ => hs_.2) (fun hn_ => (Kd.fresh' (Kd.R_lt (by (with_reducible repeat (first | apply Kd.R_alloc | apply Kd.R_drewN | apply Kd.R_drew)); exact HO259.out)) k_ hn_))⟩)) (below_size zq12_1))
        replace HO259 := Aside0.mk (Kd.R_below (by (with_reducible repeat (first | apply Kd.R_alloc | apply Kd.R_drewN | apply Kd.R_drew)); exact HO259.out) hb)
        replace HB := Aside0.mk (below_step zq12_1 hb)
        (try clear hb)
        (try clear hb2)
        (try clear hk)
        (try clear hi)
        (try clear ho0)
        refine hK.out _ _ ⟨((HB.out.cell (World.block_lt_of_cell? w _ hw254_0)).trans hw254_0), ((HB.out.cell (World.block_lt_of_cell? w _ hw254_1)).trans hw254_1), ((HB.out.cell (World.block_lt_of_cell? w _ hw256_0)).trans hw256_0), ((HB.out.cell (World.block_lt_of_cell? w _ hw256_1)).trans hw256_1)⟩ (fun hHeld => ?_)
        clear hK K
        refine norm_ (a' := ?_) ?_ ?_
        rotate_left
        ·show Act.put _ (some 28) _ = _
         simp only [Act.put, List.setIfInBounds_toArray, List.set_cons_zero, List.set_cons_succ, i64_w, i32_w]
         rfl
        refine p_ 14 3 (mk_ 15 0x7fff) ?_
        refine done_ (done_of HT_.out (by kernel_rfl)) ?_
        try go_wp2
        go_roundg kj1
        case measure => have := HK1.out; have := HJ1.out; omega
        case rel => exact ⟨(t260), (wrap64 (x4_1 + 1)), zq12_3, H', ⟨by have := HK1.out; have := HJ1.out; omega⟩, ⟨by (with_reducible repeat (first | apply Kd.V_alloc | apply Kd.V_drewN | apply Kd.V_drew)); exact Kd.V_mono HO262.out (fun _ hk => hk.1)⟩, ⟨by repeat (first | (with_reducible first | exact HB.out | apply below_alloc | apply pw_below_drewN | apply below_drew1) | exact HB.out)⟩⟩
       ·rw [if_neg c6] at H
        exact absurd H (by simp)
      ·rw [if_neg c5] at H
       exact absurd H (by simp)
     ·replace c4 := Bool.eq_false_iff.mpr c4
      subst c4
      have H1 : (some x3_1) = some r := by rw [if_neg (show ¬ (false = true) by decide)] at H; exact H
      clear H
      have H := H1
      clear H1
      obtain rfl := Option.some.inj H
      go_wp2
      go_ret
      exact ⟨_, by first | rfl | (simp [errW_none, errW_some] <;> rfl) | (simp [*, errW_none, errW_some] <;> rfl), by (with_reducible repeat (first | apply Kd.V_alloc | apply Kd.V_drewN | apply Kd.V_drew)); exact HO_3.out, by repeat (first | (with_reducible first | exact HB.out | apply below_alloc | apply pw_below_drewN | apply below_drew1) | exact HB.out)⟩

end Go.Proofs.Ytoodahceejdbcaa.P
