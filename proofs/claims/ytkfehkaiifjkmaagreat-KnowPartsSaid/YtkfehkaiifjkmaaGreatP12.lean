-- Written by a program of this session (wip/pp.py over the kit's printer, with our own texts put in).
import Derived.Test.YtkfehkaiifjkmaaGreatP0
import Derived.Test.YtkfehkaiifjkmaaGreatP3
import Derived.Test.YtkfehkaiifjkmaaGreatP4
import Derived.Test.YtkfehkaiifjkmaaGreatP5
import Derived.Test.YtkfehkaiifjkmaaGreatP6
import Derived.Test.YtkfehkaiifjkmaaGreatP7
import Derived.Test.YtkfehkaiifjkmaaGreatP8
namespace Go.Proofs.YtkfehkaiifjkmaaGreat.P
open Go.RowKit Go.Proofs.YtkfehkaiifjkmaaGreatW.PrintWords Go.Proofs.YtkfehkaiifjkmaaGreatW.PrintLast Go.Proofs.YtkfehkaiifjkmaaGreatW.PrintMore
attribute [local go_sem] max2_int min2_int max_two min_two max_three min_three max_four min_four   -- for this text's walks alone
set_option linter.unusedVariables false
set_option linter.unusedSimpArgs false

/-! ### know_Union: function 26 -/
instance (l : List S72) : Decidable (okM l) := by unfold okM; infer_instance
theorem drop_cons_getD {α : Type} (l : List α) (z : α) {i : Nat} (hi : i < l.length) : l.drop i = l.getD i z :: l.drop (i + 1) := by
 rw [List.getD_eq_getElem?_getD, List.getElem?_eq_getElem hi, List.drop_eq_getElem_cons hi]; rfl
def unionK (k : Nat) : List S72 → List S72 → Option (List S72)
 | m, [] => some m
 | m, x :: b => if m.length < 1000000000 then (withK k m x.f0 x.f1.f0 x.f1.f1).bind fun o => unionK k o b else none
theorem unionK_mono (k : Nat) : ∀ (b m : List S72), LeO (unionK k m b) (unionK (k + 1) m b)
 | [], _ => LeO.refl _
 | x :: b, m => by unfold unionK; exact LeO.ite (LeO.bind (withK_mono _ _ _ _ _) (fun _ => unionK_mono k b _)) (LeO.refl _)
def know_Union.f (k : Nat) (l0 : List S72) (l1 : List S72) : Option (List S72) := if okM l0 ∧ okM l1 then unionK k l0 l1 else none
theorem know_Union.mono : ∀ a0 a1 k, LeO (know_Union.f k a0 a1) (know_Union.f (k + 1) a0 a1) := by
 intro a0 a1 k
 unfold know_Union.f
 exact LeO.ite (unionK_mono _ _ _) (LeO.refl _)
set_option maxHeartbeats 3200000 in
set_option maxRecDepth 100000 in
theorem know_Union.calls (k : Nat) (A0 : Option Addr) (c0 : Nat) (l0 : List S72) (A1 : Option Addr) (c1 : Nat) (l1 : List S72) (r : List S72) (w : World) (hr0 : Kd.C k72 w A0 l0.length l0) (hc0 : l0.length ≤ c0) (hr1 : Kd.C k72 w A1 l1.length l1) (hc1 : l1.length ≤ c1) (h : know_Union.f k l0 l1 = some r) :
  Calls Tryz.prog 26 #[.slice A0 l0.length c0, .slice A1 l1.length c1] w fun e w' => ∃ v0_ : Value, e = .returned (v0_) ∧ Kd.V k72 72 w' w.heap.size (fun k_ => w.heap.size ≤ k_) v0_ r ∧ Below w.heap.size w w' := by
 unfold know_Union.f at h
 by_cases hok : okM l0 ∧ okM l1
 rotate_left
 ·rw [if_neg hok] at h; cases h
 rw [if_pos hok] at h
 have H := Aside0.mk h
 have HCA := Aside0.mk (know_copied.own A0 c0 l0 w hr0 hc0 hok.1)
 have HCB := Aside0.mk (fun W (hW : Below w.heap.size w W) => know_copied.own A1 c1 l1 W (Kd.C_below hr1 hW) hc1 hok.2)
 have hn1 := hok.2.1
 clear h hr0 hr1 hc0 hc1 hok
 have hut := Tryz.underlying72
 go_enter Tryz.func26, Tryz.ntmps26
 go_wp2_with fail
 refine HCA.out.mono ?_
 rintro e w1 ⟨v, rs, rfl, hO, hb1⟩
 have HO := Aside0.mk hO
 have HB := Aside0.mk hb1
 have HVL := Aside0.mk (Kd.R_lt hO.1)
 clear hO hb1 HCA
 go_wp2_with fail
 refine (HCB.out w1 HB.out).mono ?_
 rintro e w2 ⟨vb, rb, rfl, hP, hb2⟩
 have HSZ := Aside0.mk (below_size HB.out)
 have hrl := F2.len hP.2
 obtain ⟨Ab, cb, rfl⟩ := Kd.R_slice hP.1
 rw [hrl] at hP ⊢
 have HP := Aside0.mk hP
 have HRB := Aside0.mk (show ∀ i, i < l1.length → ∃ gb : Nat, Ab = some ⟨gb, 0, none⟩ ∧ (w1.heap.size ≤ gb ∧ gb < w2.heap.size) ∧ w2.cell? ⟨gb, i * 3, none⟩ = some (.string (rb.getD i zRW).f0) ∧ w2.cell? ⟨gb, i * 3 + 1, none⟩ = some (.int .i64 (rb.getD i zRW).u) ∧ w2.cell? ⟨gb, i * 3 + 2, none⟩ = some (.slice (rb.getD i zRW).A (rb.getD i zRW).n (rb.getD i zRW).c) from fun i hi => by
  obtain ⟨gb, cap, ev, hg, hgl, _⟩ := Kd.R_form hP.1 (by omega)
  obtain ⟨ad, hA, x0, x1, x2⟩ := at_RW (Kd.R_reads' hP.1).2.2 (i : Int) (by omega) (by have := (Kd.R_reads' hP.1).1; omega)
  injection ev with eA _ _
  rw [eA] at hA
  injection hA with hA
  subst hA
  have hrd : rd_RW rb (i : Int) = rb.getD i zRW := by unfold rd_RW; rw [Int.toNat_natCast]
  rw [hrd] at x0 x1 x2
  simp only [Int.toNat_natCast, Addr.add_lit, Nat.zero_add] at x0 x1 x2
  exact ⟨gb, eA, ⟨hg, hgl⟩, x0, x1, x2⟩)
 have HIB := Aside0.mk (INs.bound hP.2)
 replace HO := Aside0.mk (HO.out.below hb2)
 replace HB := Aside0.mk (below_step HB.out hb2)
 obtain ⟨A, c, rfl⟩ := Kd.R_slice HO.out.1
 have hrl2 := F2.len HO.out.2
 rw [hrl2] at HO HVL ⊢
 clear hP hb2 HCB hrl hrl2 HP
 generalize hn : l1.length = n at *
 have HN := Aside0.mk hn
 clear hn
 obtain ⟨lo, hlo⟩ : ∃ lo, w1.heap.size = lo := ⟨_, rfl⟩
 obtain ⟨hi, hhi⟩ : ∃ hi, w2.heap.size = hi := ⟨_, rfl⟩
 have HHI := Aside0.mk hhi
 rw [hlo] at HRB HSZ HVL
 rw [hhi] at HRB HIB
 have HIB2 := Aside0.mk (show INs (Kd.int .i64) S72.f0 (fun x => x.f1.f0) (fun x => x.f1.f1) w2 (fun k => lo ≤ k ∧ k < hi) rb l1 from INs.mono HIB.out (fun k hk => ⟨by have := hk.1.2; omega, hk.2⟩))
 clear HIB hlo hhi
 go_wp2_with fail
 go_loopw [5, 13] (fun vo vi wr => ∃ (i : Nat) (out : List S72) (ro : List RW) (Ao : Option Addr) (co : Nat), vo = .slice Ao out.length co ∧ vi = .int .i64 i ∧ i ≤ n ∧ Aside0 (unionK k out (l1.drop i) = some r) ∧ Aside0 (OWm wr w.heap.size (.slice Ao out.length co) ro out) ∧ Aside0 (Below w.heap.size w wr) ∧ Aside0 (∀ k, (Value.slice Ao out.length co).ownBlock = some k → k < lo ∨ hi ≤ k) ∧ Aside0 (hi ≤ wr.heap.size) ∧ Aside0 (∀ k, lo ≤ k → k < hi → wr.heap[k]? = w2.heap[k]?)) (fun _ vi _ => n - (intOf vi).toNat)
 case atStart => exact ⟨0, l0, rs, A, c, rfl, rfl, Nat.zero_le _, ⟨by rw [List.drop_zero]; exact H.out⟩, HO, HB, ⟨fun k hk => Or.inl (HVL.out k hk)⟩, ⟨by rw [HHI.out]; exact Nat.le_refl _⟩, ⟨fun _ _ _ => rfl⟩⟩
 case round =>
  clear HB HO H HVL
  obtain ⟨i, out, ro, Ao, co, rfl, rfl, hin, HP, HO, HB, HOB, HHW, HKB⟩ := hrel
  by_cases hj : i < n
  ·obtain ⟨gb, hA, hab, hx0, hx1, hx2⟩ := HRB.out i hj
   obtain ⟨i0, i5, i1, i2, i3⟩ := F2.getD HIB2.out (j := i) (by rw [HN.out]; exact hj) zRW z72
   have hdr := drop_cons_getD l1 z72 (i := i) (by rw [HN.out]; exact hj)
   have hp := HP.out
   rw [hdr] at hp
   generalize rb.getD i zRW = q at hx0 hx1 hx2 i0 i5 i1 i2 i3
   generalize l1.getD i z72 = x at i0 i5 i1 i2 i3 hp
   obtain ⟨s0, su, rA, rn, rc⟩ := q
   dsimp only at i0 i5 i1 i2 i3 hx0 hx1 hx2
   subst i0; subst i5; subst i1
   unfold unionK at hp
   by_cases hol : out.length < 1000000000
   rotate_left
   ·rw [if_neg hol] at hp; cases hp
   rw [if_pos hol] at hp
   obtain ⟨o, ho, hp⟩ := Option.bind_eq_some_iff.mp hp
   have HV := Aside0.mk hp
   subst hA
   have hkb := HKB.out gb hab.1 hab.2
   replace hx0 := (World.cell?_of_block (w := w2) (w' := wr) (a := ⟨gb, i * 3, none⟩) hkb).trans hx0
   replace hx1 := (World.cell?_of_block (w := w2) (w' := wr) (a := ⟨gb, i * 3 + 1, none⟩) hkb).trans hx1
   replace hx2 := (World.cell?_of_block (w := w2) (w' := wr) (a := ⟨gb, i * 3 + 2, none⟩) hkb).trans hx2
   have hF := Kd.F_mono (Kd.F_step (W1 := wr) i3 (fun k hk _ => HKB.out k hk.1 hk.2)) (ok' := fun k => (w.heap.size ≤ k ∧ some k ≠ (Value.slice Ao out.length co).ownBlock) ∧ k < hi) (fun k hk => ⟨⟨by have := HSZ.out; have := hk.1; omega, fun e => by have := hk.1; have := hk.2; rcases HOB.out k e.symm with h | h <;> omega⟩, hk.2⟩)
   have HW_ := Aside0.mk (fun W (hW : Below wr.heap.size wr W) => know_with.own k (.slice Ao out.length co) ro out x.f0 x.f1.f0 rA rc x.f1.f1 o w.heap.size W (HO.out.below hW) (Nat.le_trans (below_size HB.out) hW.size) hol (Kd.F_mono (Kd.F_below hF hW) (fun k hk => hk.1)) i2 ho)
   have HBA := Aside0.mk (below_alloc HB.out (.cells #[.string x.f0, .int .i64 x.f1.f0, .slice rA x.f1.f1.length rc] 72))
   have pm := eq_true (show (0 : Int) ≤ (i : Int) by omega)
   have qm := eq_true (show (i : Int) < (n : Int) by omega)
   clear hdr hp i2 i3 hF HP hol ho hkb hab
   go_wp2_with fail
   refine (HW_.out _ (below_alloc (Below.refl _ _) _)).mono ?_
   rintro e w4 ⟨v4, r4, rfl, hO4, hb4, hn4, hk4⟩
   obtain ⟨A4, c4, rfl⟩ := Kd.R_slice hO4.1
   have hl4 := F2.len hO4.2
   rw [hl4] at hO4 hn4 ⊢
   have hsz : (wr.alloc (.cells #[.string x.f0, .int .i64 x.f1.f0, .slice rA x.f1.f1.length rc] 72)).heap.size = wr.heap.size + 1 := by simp
   rw [hsz] at hn4 hk4
   have HO4 := Aside0.mk hO4
   have HB4 := Aside0.mk (HBA.out.trans hb4)
   have HOB4 := Aside0.mk (show ∀ k, (Value.slice A4 o.length c4).ownBlock = some k → k < lo ∨ hi ≤ k from fun k hk => by
    rcases hn4 with h | ⟨b, h, hle⟩
    ·exact HOB.out k (by rw [← h]; exact hk)
    ·rw [h] at hk; injection hk with hk; have := HHW.out; right; omega)
   have HHW4 := Aside0.mk (show hi ≤ w4.heap.size from by have := HHW.out; have := hb4.size; rw [hsz] at this; omega)
   have HKB4 := Aside0.mk (show ∀ k, lo ≤ k → k < hi → w4.heap[k]? = w2.heap[k]? from fun k h1 h2 => by
    have hlt : k < wr.heap.size := Nat.lt_of_lt_of_le h2 HHW.out
    exact ((hk4 k (by omega) (fun e => by rcases HOB.out k e.symm with h | h <;> omega)).trans (Below.heap_alloc _ _ _ hlt)).trans (HKB.out k h1 h2))
   clear hO4 hb4 hn4 hk4 hl4 hsz hx0 hx1 hx2 HW_
   go_wp2_with fail
   go_roundw
   case rel => exact ⟨i + 1, o, r4, A4, c4, rfl, by go_num, by omega, HV, HO4, HB4, HOB4, HHW4, HKB4⟩
   case measure => simp [intOf]; omega
  ·have hge : decide ((i : Int) < (n : Int)) = false := by simp; omega
   have hres : r = out := by
    have hni : l1.drop i = [] := List.drop_of_length_le (by rw [HN.out]; omega)
    have h1 := HP.out
    rw [hni] at h1
    unfold unionK at h1
    exact (Option.some.inj h1).symm
   subst hres
   go_wp2_with fail
   go_ret
   exact ⟨_, rfl, HO.out.view, HB.out⟩

/-! ### cenotaphlaw04_KnowParts: function 4 -/
theorem zq4_0 {p_ : Prop} (h_ : p_ := by (try simp only [List.map_toArray, List.map_cons, List.map_nil]); first | done | rfl | (simp only [List.length_drop, List.length_take]; rfl)) : p_ := h_
theorem zq4_1 {p_ : Prop} (h_ : p_ := by repeat (first | (with_reducible first | exact HB.out | apply below_alloc | apply pw_below_drewN | apply below_drew1) | exact HB.out)) : p_ := h_
theorem zq4_2 {p_ : Prop} (h_ : p_ := by (with_reducible repeat (first | apply Kd.V_alloc | apply Kd.V_drewN | apply Kd.V_drew)); exact HO494.out) : p_ := h_
theorem zq4_3 {p_ : Prop} (h_ : p_ := by (with_reducible repeat (first | apply Kd.S_alloc | apply Kd.S_drewN | apply Kd.S_drew)); exact HO_5.out) : p_ := h_
theorem zq4_4 {p_ : Prop} (h_ : p_ := by (with_reducible repeat (first | apply Kd.R_alloc | apply Kd.R_drewN | apply Kd.R_drew)); exact HO_6.out) : p_ := h_
theorem zq4_5 {p_ : Prop} (h_ : p_ := by (with_reducible repeat (first | apply Kd.V_alloc | apply Kd.V_drewN | apply Kd.V_drew)); exact HO_8.out) : p_ := h_
theorem zq4_6 {p_ : Prop} (h_ : p_ := by (with_reducible repeat (first | apply Kd.V_alloc | apply Kd.V_drewN | apply Kd.V_drew)); exact HO_9.out) : p_ := h_
theorem zq4_7 {p_ : Prop} (h_ : p_ := by first | (with_reducible assumption) | assumption) : p_ := h_
theorem zq4_8 {p_ : Prop} (h_ : p_ := by first | rfl | (simp; done) | (simp [*]; done)) : p_ := h_
mutual
def cenotaphlaw04_KnowParts.j1 : Nat → List (S72) → List ByteArray → Option (Bool)
 | 0, _, _ => none
 | k + 1, x5, x6 => (cenotaphlaw01_To.f k x6).bind fun t481 => ((know_Only.f x5 t481).bind fun t484 => (cenotaphlaw04_KnowParts.l1 k x5 x6 t484 x5 0))
def cenotaphlaw04_KnowParts.l1 : Nat → List (S72) → List ByteArray → List (S72) → List (S72) → Int → Option (Bool)
 | 0, _, _, _, _, _ => none
 | k + 1, x5, x6, x8, x9, x10 => if x10 < (x6.length : Int) then (if 0 ≤ x10 then ((know_Drop.f x9 (rdOf ByteArray.empty x6 x10)).bind fun t488 => (cenotaphlaw04_KnowParts.l1 k x5 x6 x8 t488 (wrap64 (x10 + 1)))) else (none)) else ((cenotaphlaw04_told.f k).bind fun t491 => (if t491 = true then ((know_Union.f k x8 x9).bind fun t492 => ((know_Same.f k t492 x5).bind fun t495 => (if t495 = true then ((know_Count.f k x8).bind fun t496 => ((know_Count.f k x9).bind fun t497 => ((know_Count.f k x5).bind fun t498 => (if (wrap64 (t496 + t497)) = t498 then ((know_Extras.f k x8).bind fun t499 => ((know_Extras.f k x9).bind fun t500 => ((know_Extras.f k x5).bind fun t501 => (if (wrap64 (t499 + t500)) = t501 then ((know_Right.f k x8).bind fun t502 => (if t502 = true then ((know_Right.f k x9).bind fun t503 => (some t503)) else (none))) else (none))))) else (none))))) else (none)))) else (none)))
def cenotaphlaw04_KnowParts.l0 : Nat → List ByteArray → List (S72) → List ByteArray → Int → Option (Bool)
 | 0, _, _, _, _ => none
 | k + 1, x1, x5, x6, x7 => if x7 < (x1.length : Int) then (if x7 < 9 then (if 0 ≤ x7 then ((cenotaphref01_Union.f k x6 (([rdOf ByteArray.empty x1 x7] : List ByteArray))).bind fun t478 => (cenotaphlaw04_KnowParts.l0 k x1 x5 t478 (wrap64 (x7 + 1)))) else (none)) else (cenotaphlaw04_KnowParts.j1 k x5 x6)) else (cenotaphlaw04_KnowParts.j1 k x5 x6)
end
def cenotaphlaw04_KnowParts.f (k : Nat) (l0 : List (S61)) (l1 : List ByteArray) : Option (Bool) := (cenotaphref04_Fix.f k l0).bind fun t468 => ((cenotaphlaw04_To.f k t468).bind fun t471 => (cenotaphlaw04_KnowParts.l0 k l1 t471 ([] : List ByteArray) 0))
theorem cenotaphlaw04_KnowParts.mono_l : ∀ k, (∀ y0 y1, LeO (cenotaphlaw04_KnowParts.j1 k y0 y1) (cenotaphlaw04_KnowParts.j1 (k + 1) y0 y1)) ∧ (∀ y0 y1 y2 y3 y4, LeO (cenotaphlaw04_KnowParts.l1 k y0 y1 y2 y3 y4) (cenotaphlaw04_KnowParts.l1 (k + 1) y0 y1 y2 y3 y4)) ∧ (∀ y0 y1 y2 y3, LeO (cenotaphlaw04_KnowParts.l0 k y0 y1 y2 y3) (cenotaphlaw04_KnowParts.l0 (k + 1) y0 y1 y2 y3))
 | 0 => ⟨fun _ _ r h => by simp [cenotaphlaw04_KnowParts.j1] at h, fun _ _ _ _ _ r h => by simp [cenotaphlaw04_KnowParts.l1] at h, fun _ _ _ _ r h => by simp [cenotaphlaw04_KnowParts.l0] at h⟩
 | k + 1 => by
  obtain ⟨ih0, ih1, ih2⟩ := cenotaphlaw04_KnowParts.mono_l k
  refine ⟨?_, ?_, ?_⟩
  ·intro y0 y1
   unfold cenotaphlaw04_KnowParts.j1
   repeat' first
   | (with_reducible exact ih0 _ _)
   | (with_reducible exact ih1 _ _ _ _ _)
   | (with_reducible exact ih2 _ _ _ _)
   | (with_reducible exact cenotaphlaw01_To.mono _ _)
   | (with_reducible exact cenotaphlaw04_To.mono _ _)
   | (with_reducible exact cenotaphlaw04_told.mono _)
   | (with_reducible exact cenotaphref01_Union.mono _ _ _)
   | (with_reducible exact cenotaphref04_Fix.mono _ _)
   | (with_reducible exact know_Count.mono _ _)
   | (with_reducible exact know_Extras.mono _ _)
   | (with_reducible exact know_Right.mono _ _)
   | (with_reducible exact know_Same.mono _ _ _)
   | (with_reducible exact know_Union.mono _ _ _)
   | (with_reducible exact LeO.refl _)
   | (with_reducible exact LeO.none _)
   | (with_reducible refine LeO.ite ?_ ?_)
   | (with_reducible refine LeO.bind ?_ (fun _ => ?_))
   | exact ih0 _ _
   | exact ih1 _ _ _ _ _
   | exact ih2 _ _ _ _
   | exact cenotaphlaw01_To.mono _ _
   | exact cenotaphlaw04_To.mono _ _
   | exact cenotaphlaw04_told.mono _
   | exact cenotaphref01_Union.mono _ _ _
   | exact cenotaphref04_Fix.mono _ _
   | exact know_Count.mono _ _
   | exact know_Extras.mono _ _
   | exact know_Right.mono _ _
   | exact know_Same.mono _ _ _
   | exact know_Union.mono _ _ _
   | exact LeO.none _
   | refine LeO.ite ?_ ?_
   | refine LeO.bind ?_ (fun _ => ?_)
  ·intro y0 y1 y2 y3 y4
   unfold cenotaphlaw04_KnowParts.l1
   repeat' first
   | (with_reducible exact ih0 _ _)
   | (with_reducible exact ih1 _ _ _ _ _)
   | (with_reducible exact ih2 _ _ _ _)
   | (with_reducible exact cenotaphlaw01_To.mono _ _)
   | (with_reducible exact cenotaphlaw04_To.mono _ _)
   | (with_reducible exact cenotaphlaw04_told.mono _)
   | (with_reducible exact cenotaphref01_Union.mono _ _ _)
   | (with_reducible exact cenotaphref04_Fix.mono _ _)
   | (with_reducible exact know_Count.mono _ _)
   | (with_reducible exact know_Extras.mono _ _)
   | (with_reducible exact know_Right.mono _ _)
   | (with_reducible exact know_Same.mono _ _ _)
   | (with_reducible exact know_Union.mono _ _ _)
   | (with_reducible exact LeO.refl _)
   | (with_reducible exact LeO.none _)
   | (with_reducible refine LeO.ite ?_ ?_)
   | (with_reducible refine LeO.bind ?_ (fun _ => ?_))
   | exact ih0 _ _
   | exact ih1 _ _ _ _ _
   | exact ih2 _ _ _ _
   | exact cenotaphlaw01_To.mono _ _
   | exact cenotaphlaw04_To.mono _ _
   | exact cenotaphlaw04_told.mono _
   | exact cenotaphref01_Union.mono _ _ _
   | exact cenotaphref04_Fix.mono _ _
   | exact know_Count.mono _ _
   | exact know_Extras.mono _ _
   | exact know_Right.mono _ _
   | exact know_Same.mono _ _ _
   | exact know_Union.mono _ _ _
   | exact LeO.none _
   | refine LeO.ite ?_ ?_
   | refine LeO.bind ?_ (fun _ => ?_)
  ·intro y0 y1 y2 y3
   unfold cenotaphlaw04_KnowParts.l0
   repeat' first
   | (with_reducible exact ih0 _ _)
   | (with_reducible exact ih1 _ _ _ _ _)
   | (with_reducible exact ih2 _ _ _ _)
   | (with_reducible exact cenotaphlaw01_To.mono _ _)
   | (with_reducible exact cenotaphlaw04_To.mono _ _)
   | (with_reducible exact cenotaphlaw04_told.mono _)
   | (with_reducible exact cenotaphref01_Union.mono _ _ _)
   | (with_reducible exact cenotaphref04_Fix.mono _ _)
   | (with_reducible exact know_Count.mono _ _)
   | (with_reducible exact know_Extras.mono _ _)
   | (with_reducible exact know_Right.mono _ _)
   | (with_reducible exact know_Same.mono _ _ _)
   | (with_reducible exact know_Union.mono _ _ _)
   | (with_reducible exact LeO.refl _)
   | (with_reducible exact LeO.none _)
   | (with_reducible refine LeO.ite ?_ ?_)
   | (with_reducible refine LeO.bind ?_ (fun _ => ?_))
   | exact ih0 _ _
   | exact ih1 _ _ _ _ _
   | exact ih2 _ _ _ _
   | exact cenotaphlaw01_To.mono _ _
   | exact cenotaphlaw04_To.mono _ _
   | exact cenotaphlaw04_told.mono _
   | exact cenotaphref01_Union.mono _ _ _
   | exact cenotaphref04_Fix.mono _ _
   | exact know_Count.mono _ _
   | exact know_Extras.mono _ _
   | exact know_Right.mono _ _
   | exact know_Same.mono _ _ _
   | exact know_Union.mono _ _ _
   | exact LeO.none _
   | refine LeO.ite ?_ ?_
   | refine LeO.bind ?_ (fun _ => ?_)
theorem cenotaphlaw04_KnowParts.mono : ∀ a0 a1 k, LeO (cenotaphlaw04_KnowParts.f k a0 a1) (cenotaphlaw04_KnowParts.f (k + 1) a0 a1) := by
 intro a0 a1 k
 obtain ⟨ih0, ih1, ih2⟩ := cenotaphlaw04_KnowParts.mono_l k
 unfold cenotaphlaw04_KnowParts.f
 repeat' first
   | (with_reducible exact ih0 _ _)
   | (with_reducible exact ih1 _ _ _ _ _)
   | (with_reducible exact ih2 _ _ _ _)
   | (with_reducible exact cenotaphlaw01_To.mono _ _)
   | (with_reducible exact cenotaphlaw04_To.mono _ _)
   | (with_reducible exact cenotaphlaw04_told.mono _)
   | (with_reducible exact cenotaphref01_Union.mono _ _ _)
   | (with_reducible exact cenotaphref04_Fix.mono _ _)
   | (with_reducible exact know_Count.mono _ _)
   | (with_reducible exact know_Extras.mono _ _)
   | (with_reducible exact know_Right.mono _ _)
   | (with_reducible exact know_Same.mono _ _ _)
   | (with_reducible exact know_Union.mono _ _ _)
   | (with_reducible exact LeO.refl _)
   | (with_reducible exact LeO.none _)
   | (with_reducible refine LeO.ite ?_ ?_)
   | (with_reducible refine LeO.bind ?_ (fun _ => ?_))
   | exact ih0 _ _
   | exact ih1 _ _ _ _ _
   | exact ih2 _ _ _ _
   | exact cenotaphlaw01_To.mono _ _
   | exact cenotaphlaw04_To.mono _ _
   | exact cenotaphlaw04_told.mono _
   | exact cenotaphref01_Union.mono _ _ _
   | exact cenotaphref04_Fix.mono _ _
   | exact know_Count.mono _ _
   | exact know_Extras.mono _ _
   | exact know_Right.mono _ _
   | exact know_Same.mono _ _ _
   | exact know_Union.mono _ _ _
   | exact LeO.none _
   | refine LeO.ite ?_ ?_
   | refine LeO.bind ?_ (fun _ => ?_)
set_option maxHeartbeats 8000000 in
set_option maxRecDepth 100000 in
theorem cenotaphlaw04_KnowParts.calls (k : Nat) (A0 : Option Addr) (c0 : Nat) (l0 : List (S61)) (A1 : Option Addr) (c1 : Nat) (l1 : List ByteArray) (r : Bool) (w : World) (hr0 : Kd.C k61 w A0 l0.length l0) (hc0 : l0.length ≤ c0) (hr1 : Kd.C Kd.string w A1 l1.length l1) (hc1 : l1.length ≤ c1) (h : cenotaphlaw04_KnowParts.f k l0 l1 = some r) :
  Calls Tryz.prog 4 #[.slice A0 l0.length c0, .slice A1 l1.length c1] w fun e w' => e = .returned (.bool r) ∧ Below w.heap.size w w' := by
 have HR0 := Aside0.mk hr0
 have HC0 := Aside0.mk hc0
 clear hr0 hc0
 have HR1 := Aside0.mk hr1
 have HC1 := Aside0.mk hc1
 clear hr1 hc1
 have HB := Aside0.mk (Below.refl w.heap.size w)
 have H : ((cenotaphref04_Fix.f k l0).bind fun t468 => ((cenotaphlaw04_To.f k t468).bind fun t471 => (cenotaphlaw04_KnowParts.l0 k l1 t471 ([] : List ByteArray) 0))) = some r := h
 clear h
 replace H := Option.bind_eq_some_iff.mp H
 obtain ⟨t468, A30, H⟩ := H
 have A3 := Aside0.mk A30
 clear A30
 replace H := Option.bind_eq_some_iff.mp H
 obtain ⟨t471, A40, H⟩ := H
 have A4 := Aside0.mk A40
 clear A40
 have HC5 := Aside0.mk H
 clear H
 go_enter Tryz.func4, Tryz.ntmps4
 go_upto_block 0 with (first | ((with_reducible refine gate_callee (f := 5) rfl ?_); refine goesL_ (some 12) rfl rfl Tryz.func5 (by kernel_rfl) rfl #[.slice A0 l0.length c0] rfl zq4_0 ?_; (with_reducible refine (cenotaphref04_Fix.calls k _ _ l0 t468 _ ?side1 ?side2 A3.out).mono ?_); (case side1 => repeat (first | exact HR0.out | (with_reducible refine Kd.C_alloc ?_ _) | (with_reducible refine Kd.C_drewN ?_ _) | (with_reducible refine Kd.C_drew ?_))); (case side2 => exact HC0.out); rintro e w6 ⟨v469, rfl, ho0, hb⟩; refine ⟨_, rfl, ?_⟩; have HO470 := Aside0.mk (Kd.V_lower (Kd.V_mono (ok' := fun k_ => True) ho0 (fun k_ hk_ => trivial)) (below_size zq4_1)); replace HB := Aside0.mk (below_step zq4_1 hb); (try clear hb); (try clear hb2); (try clear hk); (try clear hi); (try clear ho0); obtain ⟨Ao7, co7, eo7⟩ := Kd.V_slice HO470.out; subst eo7) | ((with_reducible refine gate_callee (f := 8) rfl ?_); refine goesL_ (some 14) rfl rfl Tryz.func8 (by kernel_rfl) rfl #[.slice Ao7 t468.length co7] rfl zq4_0 ?_; (with_reducible refine (cenotaphlaw04_To.calls k _ _ t468 t471 _ ?side1 ?side2 A4.out).mono ?_); (case side1 => repeat (first | exact (Kd.V_reads' HO470.out).2.2 | (with_reducible refine Kd.C_alloc ?_ _) | (with_reducible refine Kd.C_drewN ?_ _) | (with_reducible refine Kd.C_drew ?_))); (case side2 => exact (Kd.V_reads' HO470.out).2.1); rintro e w8 ⟨v472, rfl, ho0, hb⟩; refine ⟨_, rfl, ?_⟩; replace HO470 := Aside0.mk (Kd.V_elder' (by (with_reducible repeat (first | apply Kd.V_alloc | apply Kd.V_drewN | apply Kd.V_drew)); exact HO470.out) (Kd.S_base ho0) hb); have HO473 := Aside0.mk (Kd.S_lower ho0 (below_size zq4_1)); replace HB := Aside0.mk (below_step zq4_1 hb); (try clear hb); (try clear hb2); (try clear hk); (try clear hi); (try clear ho0)))
 (try simp only [Act.put, List.setIfInBounds_toArray, List.set_cons_zero, List.set_cons_succ])
 go_cut [6] (fun v6 wc => ∃ (kq : Nat) (x6_4 : List ByteArray), Aside0 (cenotaphlaw04_KnowParts.j1 kq t471 x6_4 = some r) ∧ Aside0 (kq ≤ k) ∧ Aside0 (Kd.S k72 72 wc w.heap.size (fun _ => True) v472 t471) ∧ Aside0 (Kd.R Kd.string 9 wc w.heap.size (fun _ => True) v6 x6_4) ∧ Aside0 (Below w.heap.size w wc))
 case first =>
  have H := HC5.out
  clear HC5
  have H' := Aside0.mk H
  clear H
  go_wp2
  go_loopg [6, 7] k (fun kq v6 v7 w' => ∃ (x6_1 : List ByteArray) (x7_1 : Int), v7 = .int .i64 x7_1 ∧ Aside0 (cenotaphlaw04_KnowParts.l0 kq l1 t471 x6_1 x7_1 = some r) ∧ Aside0 (kq ≤ k) ∧ Aside0 (Kd.S k72 72 w' w.heap.size (fun _ => True) v472 t471) ∧ Aside0 (Kd.R Kd.string 9 w' w.heap.size (fun _ => True) v6 x6_1) ∧ Aside0 (Below w.heap.size w w'))
  case atStart => exact ⟨(([] : List ByteArray)), (0), zq4_8, H', ⟨Nat.le_refl _⟩, ⟨by (with_reducible repeat (first | apply Kd.S_alloc | apply Kd.S_drewN | apply Kd.S_drew)); exact HO473.out⟩, ⟨by first | exact Kd.R_nil _ _ _ _ _ | exact Kd.N_nil _ _ _ _ _ | exact Kd.V_nil _ _ _ _ _ | exact Kd.Q_nil _ _ _ _ _ | exact Kd.S_nil _ _ _ _ _⟩, ⟨by repeat (first | (with_reducible first | exact HB.out | apply below_alloc | apply pw_below_drewN | apply below_drew1) | exact HB.out)⟩⟩
  case round =>
   clear H'
   try clear c1
   try clear p2
   try clear c4
   try clear c5
   try clear c8
   obtain ⟨x6_1, x7_1, rfl, HA, HK1, HO_5, HO_6, HB⟩ := hrel
   cases gk with
   | zero => exact absurd HA.out (by simp [cenotaphlaw04_KnowParts.l0])
   | succ k1 =>
    have H := HA.out
    clear HA
    simp only [cenotaphlaw04_KnowParts.l0] at H
    by_cases c9 : x7_1 < (l1.length : Int)
    ·rw [if_pos c9] at H
     have c9b0 : decide (x7_1 < (l1.length : Int)) = true := decide_eq_true c9
     clear c9
     (first | rw [c9b0] | (simp only [i64_w, i32_w]; rw [c9b0]) | skip)
     by_cases c10 : x7_1 < 9
     ·rw [if_pos c10] at H
      have c10b0 : decide (x7_1 < 9) = true := decide_eq_true c10
      clear c10
      by_cases c11 : 0 ≤ x7_1
      ·rw [if_pos c11] at H
       have c11b0 : decide (0 ≤ x7_1) = true := decide_eq_true c11
       clear c11
       obtain ⟨y475, hy475⟩ : ∃ y_ : List ByteArray, y_ = (([rdOf ByteArray.empty l1 x7_1] : List ByteArray)) := ⟨_, rfl⟩
       replace H : ((cenotaphref01_Union.f k1 x6_1 y475).bind fun t478 => (cenotaphlaw04_KnowParts.l0 k1 l1 t471 t478 (wrap64 (x7_1 + 1)))) = some r := by first | (rw [hy475]; with_reducible exact H) | (have H2_ := (Option.bind_some _ _).symm.trans H; rw [hy475]; with_reducible exact H2_) | (have H2_ := (Option.bind_some _ _).symm.trans H; with_reducible exact H2_) | with_reducible exact H | (rw [hy475]; exact H) | exact H
       have Ny475 := Aside0.mk hy475
       clear hy475
       replace H := Option.bind_eq_some_iff.mp H
       obtain ⟨t478, A120, H⟩ := H
       have A12 := Aside0.mk A120
       clear A120
       have H' := Aside0.mk H
       clear H
       have p474 : 0 ≤ (x7_1 : Int) := of_decide_eq_true zq4_7
       have q474 : x7_1 < (l1.length : Int) := of_decide_eq_true zq4_7
       obtain ⟨ad474, e474, hx474_0⟩ := Kd.at_string HR1.out x7_1 p474 q474
       cases e474
       replace hx474_0 := (HB.out.cell (World.block_lt_of_cell? w _ hx474_0)).trans hx474_0
       replace p474 := eq_true p474
       replace q474 := eq_true q474
       go_wp2_with (first | ((with_reducible refine gate_dst (N := 30) rfl ?_); refine Kd.R_lit Kd.string _ 9 ?hg (N := 30) ?hd (xs := ([rdOf ByteArray.empty l1 x7_1] : List ByteArray)) (inner := [.string (rdOf ByteArray.empty l1 x7_1)]) (ok := fun _ => True) (okp := fun _ => True) ?hr ?hp (fun _ hk => hk) trivial (Below.refl _ _) (Nat.le_refl _) (by simp) ?_; (case hd => rfl); (case hg => rfl); (case hr => first | (go_simp; done) | (go_simp; rfl)); (case hp => exact (Reps.one (show Kd.M Kd.string _ _ _ (rdOf ByteArray.empty l1 x7_1) [.string (rdOf ByteArray.empty l1 x7_1)] from rfl) (Reps.none _ _))); intro v476 w13 ho14 hb hg_ hnew_; clear hg_ hnew_; (first | rw [← Ny475.out] at ho14 | (simp only [Int.reduceToNat] at ho14; rw [← Ny475.out] at ho14)); replace HO_5 := Aside0.mk (Kd.S_below zq4_3 hb); have HO477 := Aside0.mk (Kd.R_lower (Kd.R_new' ho14 (Kd.R_lt zq4_4)) (below_size zq4_1)); replace HO_6 := Aside0.mk (Kd.R_elder' zq4_4 (Kd.R_base ho14) hb); replace HB := Aside0.mk (below_step zq4_1 hb); clear hb ho14; obtain ⟨Ao15, co15, eo15⟩ := Kd.R_slice HO_6.out; subst eo15; obtain ⟨Ao16, co16, eo16⟩ := Kd.R_slice HO477.out; subst eo16) | ((with_reducible refine gate_callee (f := 7) rfl ?_); refine goesL_ (some 31) rfl rfl Tryz.func7 (by kernel_rfl) rfl #[.slice Ao15 x6_1.length co15, .slice Ao16 y475.length co16] rfl zq4_0 ?_; (with_reducible refine (cenotaphref01_Union.calls k1 _ _ x6_1 _ _ y475 t478 _ ?side1 ?side2 ?side3 ?side4 A12.out).mono ?_); (case side1 => repeat (first | exact (Kd.R_reads' HO_6.out).2.2 | (with_reducible refine Kd.C_alloc ?_ _) | (with_reducible refine Kd.C_drewN ?_ _) | (with_reducible refine Kd.C_drew ?_))); (case side2 => exact (Kd.R_reads' HO_6.out).2.1); (case side3 => repeat (first | exact (Kd.R_reads' HO477.out).2.2 | (with_reducible refine Kd.C_alloc ?_ _) | (with_reducible refine Kd.C_drewN ?_ _) | (with_reducible refine Kd.C_drew ?_))); (case side4 => exact (Kd.R_reads' HO477.out).2.1); rintro e w17 ⟨v479, rfl, ho0, hb⟩; refine ⟨_, rfl, ?_⟩; replace HO_5 := Aside0.mk (Kd.S_below zq4_3 hb); have HO480 := Aside0.mk (Kd.R_lower (Kd.R_new' (Kd.R_new' ho0 (Kd.R_lt zq4_4)) (Kd.R_lt (by (with_reducible repeat (first | apply Kd.R_alloc | apply Kd.R_drewN | apply Kd.R_drew)); exact HO477.out))) (below_size zq4_1)); replace HO_6 := Aside0.mk (Kd.R_elder' zq4_4 (Kd.R_base ho0) hb); replace HO477 := Aside0.mk (Kd.R_elder' (by (with_reducible repeat (first | apply Kd.R_alloc | apply Kd.R_drewN | apply Kd.R_drew)); exact HO477.out) (Kd.R_base ho0) hb); replace HB := Aside0.mk (below_step zq4_1 hb); (try clear hb); (try clear hb2); (try clear hk); (try clear hi); (try clear ho0)))
       go_roundg k1
       case measure => have := HK1.out; omega
       case rel => exact ⟨(t478), (wrap64 (x7_1 + 1)), zq4_8, H', ⟨by have := HK1.out; omega⟩, ⟨by (with_reducible repeat (first | apply Kd.S_alloc | apply Kd.S_drewN | apply Kd.S_drew)); exact HO_5.out⟩, ⟨by (with_reducible repeat (first | apply Kd.R_alloc | apply Kd.R_drewN | apply Kd.R_drew)); exact Kd.R_mono HO480.out (fun _ hk => trivial)⟩, ⟨by repeat (first | (with_reducible first | exact HB.out | apply below_alloc | apply pw_below_drewN | apply below_drew1) | exact HB.out)⟩⟩
      ·rw [if_neg c11] at H
       exact absurd H (by simp)
     ·rw [if_neg c10] at H
      have c10b0 : decide (x7_1 < 9) = false := decide_eq_false c10
      clear c10
      have H' := Aside0.mk H
      clear H
      go_wp2
      go_meet
      case rel => exact ⟨_, (x6_1), H', ⟨by have := HK1.out; first | omega | exact Nat.le_refl _⟩, ⟨by (with_reducible repeat (first | apply Kd.S_alloc | apply Kd.S_drewN | apply Kd.S_drew)); exact HO_5.out⟩, ⟨by (with_reducible repeat (first | apply Kd.R_alloc | apply Kd.R_drewN | apply Kd.R_drew)); exact HO_6.out⟩, ⟨by repeat (first | (with_reducible first | exact HB.out | apply below_alloc | apply pw_below_drewN | apply below_drew1) | exact HB.out)⟩⟩
    ·rw [if_neg c9] at H
     have c9b0 : decide (x7_1 < (l1.length : Int)) = false := decide_eq_false c9
     clear c9
     (first | rw [c9b0] | (simp only [i64_w, i32_w]; rw [c9b0]) | skip)
     have H' := Aside0.mk H
     clear H
     go_wp2
     go_meet
     case rel => exact ⟨_, (x6_1), H', ⟨by have := HK1.out; first | omega | exact Nat.le_refl _⟩, ⟨by (with_reducible repeat (first | apply Kd.S_alloc | apply Kd.S_drewN | apply Kd.S_drew)); exact HO_5.out⟩, ⟨by (with_reducible repeat (first | apply Kd.R_alloc | apply Kd.R_drewN | apply Kd.R_drew)); exact HO_6.out⟩, ⟨by repeat (first | (with_reducible first | exact HB.out | apply below_alloc | apply pw_below_drewN | apply below_drew1) | exact HB.out)⟩⟩
 case rest =>
  clear HC5
  try clear c1
  try clear p2
  try clear c4
  try clear p4
  try clear q4
  try clear hx4
  try clear c5
  try clear p6
  try clear c7
  try clear c8
  try clear c9
  try clear c9b0
  try clear c10
  try clear c10b0
  try clear c11
  try clear c11b0
  try clear hx474_0
  try clear p2
  try clear p474
  try clear q474
  obtain ⟨kq, x6_4, HA, HJ4, HO_5, HO_6, HB⟩ := hcut
  cases kq with
  | zero => exact absurd HA.out (by simp [cenotaphlaw04_KnowParts.j1])
  | succ kj4 =>
   have H := HA.out
   clear HA
   simp only [cenotaphlaw04_KnowParts.j1] at H
   replace H := Option.bind_eq_some_iff.mp H
   obtain ⟨t481, A180, H⟩ := H
   have A18 := Aside0.mk A180
   clear A180
   replace H := Option.bind_eq_some_iff.mp H
   obtain ⟨t484, A190, H⟩ := H
   have A19 := Aside0.mk A190
   clear A190
   have H' := Aside0.mk H
   clear H
   obtain ⟨Ao20, co20, eo20⟩ := Kd.R_slice HO_6.out
   subst eo20
   go_wp2_with (first | ((with_reducible refine gate_callee (f := 20) rfl ?_); refine goesL_ (some 34) rfl rfl Tryz.func20 (by kernel_rfl) rfl #[.slice Ao20 x6_4.length co20] rfl zq4_0 ?_; (with_reducible refine (cenotaphlaw01_To.calls kj4 _ _ x6_4 t481 _ ?side1 ?side2 A18.out).mono ?_); (case side1 => repeat (first | exact (Kd.R_reads' HO_6.out).2.2 | (with_reducible refine Kd.C_alloc ?_ _) | (with_reducible refine Kd.C_drewN ?_ _) | (with_reducible refine Kd.C_drew ?_))); (case side2 => exact (Kd.R_reads' HO_6.out).2.1); rintro e w21 ⟨v482, rfl, ho0, hb⟩; refine ⟨_, rfl, ?_⟩; replace HO_5 := Aside0.mk (Kd.S_below zq4_3 hb); replace HO_6 := Aside0.mk (Kd.R_below zq4_4 hb); have HO483 := Aside0.mk (Kd.R_lower ho0 (below_size zq4_1)); replace HB := Aside0.mk (below_step zq4_1 hb); (try clear hb); (try clear hb2); (try clear hk); (try clear hi); (try clear ho0); obtain ⟨Ao22, co22, eo22⟩ := Kd.S_slice HO_5.out; subst eo22; obtain ⟨Ao23, co23, eo23⟩ := Kd.R_slice HO483.out; subst eo23) | ((with_reducible refine gate_callee (f := 19) rfl ?_); refine goesL_ (some 35) rfl rfl Tryz.func19 (by kernel_rfl) rfl #[.slice Ao22 t471.length co22, .slice Ao23 t481.length co23] rfl zq4_0 ?_; (with_reducible refine (know_Only.calls _ _ t471 _ _ t481 t484 _ ?side1 ?side2 ?side3 ?side4 A19.out).mono ?_); (case side1 => repeat (first | exact (Kd.S_reads' HO_5.out).2.2 | (with_reducible refine Kd.C_alloc ?_ _) | (with_reducible refine Kd.C_drewN ?_ _) | (with_reducible refine Kd.C_drew ?_))); (case side2 => exact (Kd.S_reads' HO_5.out).2.1); (case side3 => repeat (first | exact (Kd.R_reads' HO483.out).2.2 | (with_reducible refine Kd.C_alloc ?_ _) | (with_reducible refine Kd.C_drewN ?_ _) | (with_reducible refine Kd.C_drew ?_))); (case side4 => exact (Kd.R_reads' HO483.out).2.1); rintro e w24 ⟨v485, rfl, ho0, hb⟩; refine ⟨_, rfl, ?_⟩; have HO486 := Aside0.mk (Kd.V_lower (Kd.V_mono (ok' := fun k_ => some k_ ≠ (.slice Ao22 t471.length co22 : Value).ownBlock ∧ some k_ ≠ (.slice Ao20 x6_4.length co20 : Value).ownBlock ∧ some k_ ≠ (.slice Ao23 t481.length co23 : Value).ownBlock) ho0 (fun k_ hk_ => ⟨(Kd.fresh' (Kd.S_lt zq4_3) k_ hk_), (Kd.fresh' (Kd.R_lt zq4_4) k_ hk_), (Kd.fresh' (Kd.R_lt (by (with_reducible repeat (first | apply Kd.R_alloc | apply Kd.R_drewN | apply Kd.R_drew)); exact HO483.out)) k_ hk_)⟩)) (below_size zq4_1)); replace HO_5 := Aside0.mk (Kd.S_below zq4_3 hb); replace HO_6 := Aside0.mk (Kd.R_below zq4_4 hb); replace HO483 := Aside0.mk (Kd.R_below (by (with_reducible repeat (first | apply Kd.R_alloc | apply Kd.R_drewN | apply Kd.R_drew)); exact HO483.out) hb); replace HB := Aside0.mk (below_step zq4_1 hb); (try clear hb); (try clear hb2); (try clear hk); (try clear hi); (try clear ho0)))
   go_loopg [9, 10] kj4 (fun kq v9 v10 w' => ∃ (x9_2 : List (S72)) (x10_2 : Int), v10 = .int .i64 x10_2 ∧ Aside0 (cenotaphlaw04_KnowParts.l1 kq t471 x6_4 t484 x9_2 x10_2 = some r) ∧ Aside0 (kq ≤ kj4) ∧ Aside0 (Kd.S k72 72 w' w.heap.size (fun _ => True) (.slice Ao22 t471.length co22) t471) ∧ Aside0 (Kd.R Kd.string 9 w' w.heap.size (fun _ => True) (.slice Ao20 x6_4.length co20) x6_4) ∧ Aside0 (Kd.V k72 72 w' w.heap.size (fun k_ => some k_ ≠ ((.slice Ao22 t471.length co22) : Value).ownBlock ∧ some k_ ≠ ((.slice Ao20 x6_4.length co20) : Value).ownBlock) v485 t484) ∧ Aside0 (Kd.V k72 72 w' w.heap.size (fun k_ => some k_ ≠ ((.slice Ao20 x6_4.length co20) : Value).ownBlock) v9 x9_2) ∧ Aside0 (Below w.heap.size w w'))
   case atStart => exact ⟨(t471), (0), zq4_8, H', ⟨Nat.le_refl _⟩, ⟨by (with_reducible repeat (first | apply Kd.S_alloc | apply Kd.S_drewN | apply Kd.S_drew)); exact HO_5.out⟩, ⟨by (with_reducible repeat (first | apply Kd.R_alloc | apply Kd.R_drewN | apply Kd.R_drew)); exact HO_6.out⟩, ⟨by (with_reducible repeat (first | apply Kd.V_alloc | apply Kd.V_drewN | apply Kd.V_drew)); exact Kd.V_mono HO486.out (fun _ hk => ⟨hk.1, hk.2.1⟩)⟩, ⟨Kd.S_V (by (with_reducible repeat (first | apply Kd.S_alloc | apply Kd.S_drewN | apply Kd.S_drew)); exact Kd.S_mono (Kd.S_apart' HO_5.out (Kd.R_typed HO_6.out) (by decide)) (fun _ hk => hk.2))⟩, ⟨by repeat (first | (with_reducible first | exact HB.out | apply below_alloc | apply pw_below_drewN | apply below_drew1) | exact HB.out)⟩⟩
   case round =>
    clear H'
    try clear c1
    try clear c2
    try clear p2
    try clear c4
    try clear p4
    try clear q4
    try clear hx4
    try clear c5
    try clear p6
    try clear c7
    try clear c8
    try clear c9
    try clear c9b0
    try clear c10
    try clear c10b0
    try clear c11
    try clear c11b0
    try clear c19
    try clear c20
    try clear hx474_0
    try clear p2
    try clear p4
    try clear p474
    try clear p6
    try clear q4
    try clear q474
    obtain ⟨x9_2, x10_2, rfl, HA, HK2, HO_5, HO_6, HO_8, HO_9, HB⟩ := hrel
    cases gk with
    | zero => exact absurd HA.out (by simp [cenotaphlaw04_KnowParts.l1])
    | succ k2 =>
     have H := HA.out
     clear HA
     simp only [cenotaphlaw04_KnowParts.l1] at H
     by_cases c25 : x10_2 < (x6_4.length : Int)
     ·rw [if_pos c25] at H
      have c25b0 : decide (x10_2 < (x6_4.length : Int)) = true := decide_eq_true c25
      clear c25
      by_cases c26 : 0 ≤ x10_2
      ·rw [if_pos c26] at H
       have c26b0 : decide (0 ≤ x10_2) = true := decide_eq_true c26
       clear c26
       replace H := Option.bind_eq_some_iff.mp H
       obtain ⟨t488, A270, H⟩ := H
       have A27 := Aside0.mk A270
       clear A270
       have H' := Aside0.mk H
       clear H
       have p487 : 0 ≤ (x10_2 : Int) := of_decide_eq_true zq4_7
       have q487 : x10_2 < (x6_4.length : Int) := of_decide_eq_true zq4_7
       obtain ⟨ad487, e487, hx487_0⟩ := Kd.at_string (Kd.R_reads' HO_6.out).2.2 x10_2 p487 q487
       cases e487
       replace p487 := eq_true p487
       replace q487 := eq_true q487
       obtain ⟨Ao28, co28, eo28⟩ := Kd.V_slice HO_9.out
       subst eo28
       go_wp2_with (first | ((with_reducible refine gate_callee (f := 25) rfl ?_); refine goesL_ (some 48) rfl rfl Tryz.func25 (by kernel_rfl) rfl #[.slice Ao28 x9_2.length co28, .string (rdOf ByteArray.empty x6_4 x10_2)] rfl zq4_0 ?_; (with_reducible refine (know_Drop.calls _ _ x9_2 (rdOf ByteArray.empty x6_4 x10_2) t488 _ ?side1 ?side2 A27.out).mono ?_); (case side1 => repeat (first | exact (Kd.V_reads' HO_9.out).2.2 | (with_reducible refine Kd.C_alloc ?_ _) | (with_reducible refine Kd.C_drewN ?_ _) | (with_reducible refine Kd.C_drew ?_))); (case side2 => exact (Kd.V_reads' HO_9.out).2.1); rintro e w29 ⟨v489, rfl, ho0, hb⟩; refine ⟨_, rfl, ?_⟩; replace HO_8 := Aside0.mk (Kd.V_below zq4_5 hb); replace HO_9 := Aside0.mk (Kd.V_below zq4_6 hb); have HO490 := Aside0.mk (Kd.V_lower (Kd.V_mono (ok' := fun k_ => some k_ ≠ (.slice Ao22 t471.length co22 : Value).ownBlock ∧ some k_ ≠ (.slice (some ad487) x6_4.length co20 : Value).ownBlock) ho0 (fun k_ hk_ => ⟨(Kd.fresh' (Kd.S_lt zq4_3) k_ hk_), (Kd.fresh' (Kd.R_lt zq4_4) k_ hk_)⟩)) (below_size zq4_1)); replace HO_5 := Aside0.mk (Kd.S_below zq4_3 hb); replace HO_6 := Aside0.mk (Kd.R_below zq4_4 hb); replace HB := Aside0.mk (below_step zq4_1 hb); (try clear hb); (try clear hb2); (try clear hk); (try clear hi); (try clear ho0)))
       go_roundg k2
       case measure => have := HJ4.out; have := HK2.out; omega
       case rel => exact ⟨(t488), (wrap64 (x10_2 + 1)), zq4_8, H', ⟨by have := HJ4.out; have := HK2.out; omega⟩, ⟨by (with_reducible repeat (first | apply Kd.S_alloc | apply Kd.S_drewN | apply Kd.S_drew)); exact HO_5.out⟩, ⟨by (with_reducible repeat (first | apply Kd.R_alloc | apply Kd.R_drewN | apply Kd.R_drew)); exact HO_6.out⟩, ⟨by (with_reducible repeat (first | apply Kd.V_alloc | apply Kd.V_drewN | apply Kd.V_drew)); exact HO_8.out⟩, ⟨by (with_reducible repeat (first | apply Kd.V_alloc | apply Kd.V_drewN | apply Kd.V_drew)); exact Kd.V_mono HO490.out (fun _ hk => hk.2)⟩, ⟨by repeat (first | (with_reducible first | exact HB.out | apply below_alloc | apply pw_below_drewN | apply below_drew1) | exact HB.out)⟩⟩
      ·rw [if_neg c26] at H
       exact absurd H (by simp)
     ·rw [if_neg c25] at H
      have c25b0 : decide (x10_2 < (x6_4.length : Int)) = false := decide_eq_false c25
      clear c25
      replace H := Option.bind_eq_some_iff.mp H
      obtain ⟨t491, A300, H⟩ := H
      have A30 := Aside0.mk A300
      clear A300
      by_cases c31 : t491 = true
      ·subst c31
       have H1 : ((know_Union.f k2 t484 x9_2).bind fun t492 => ((know_Same.f k2 t492 t471).bind fun t495 => (if t495 = true then ((know_Count.f k2 t484).bind fun t496 => ((know_Count.f k2 x9_2).bind fun t497 => ((know_Count.f k2 t471).bind fun t498 => (if (wrap64 (t496 + t497)) = t498 then ((know_Extras.f k2 t484).bind fun t499 => ((know_Extras.f k2 x9_2).bind fun t500 => ((know_Extras.f k2 t471).bind fun t501 => (if (wrap64 (t499 + t500)) = t501 then ((know_Right.f k2 t484).bind fun t502 => (if t502 = true then ((know_Right.f k2 x9_2).bind fun t503 => (some t503)) else (none))) else (none))))) else (none))))) else (none)))) = some r := by rw [if_pos rfl] at H; exact H
       clear H
       have H := H1
       clear H1
       replace H := Option.bind_eq_some_iff.mp H
       obtain ⟨t492, A320, H⟩ := H
       have A32 := Aside0.mk A320
       clear A320
       replace H := Option.bind_eq_some_iff.mp H
       obtain ⟨t495, A330, H⟩ := H
       have A33 := Aside0.mk A330
       clear A330
       by_cases c34 : t495 = true
       ·subst c34
        have H1 : ((know_Count.f k2 t484).bind fun t496 => ((know_Count.f k2 x9_2).bind fun t497 => ((know_Count.f k2 t471).bind fun t498 => (if (wrap64 (t496 + t497)) = t498 then ((know_Extras.f k2 t484).bind fun t499 => ((know_Extras.f k2 x9_2).bind fun t500 => ((know_Extras.f k2 t471).bind fun t501 => (if (wrap64 (t499 + t500)) = t501 then ((know_Right.f k2 t484).bind fun t502 => (if t502 = true then ((know_Right.f k2 x9_2).bind fun t503 => (some t503)) else (none))) else (none))))) else (none))))) = some r := by rw [if_pos rfl] at H; exact H
        clear H
        have H := H1
        clear H1
        replace H := Option.bind_eq_some_iff.mp H
        obtain ⟨t496, A350, H⟩ := H
        have A35 := Aside0.mk A350
        clear A350
        replace H := Option.bind_eq_some_iff.mp H
        obtain ⟨t497, A360, H⟩ := H
        have A36 := Aside0.mk A360
        clear A360
        replace H := Option.bind_eq_some_iff.mp H
        obtain ⟨t498, A370, H⟩ := H
        have A37 := Aside0.mk A370
        clear A370
        by_cases c38 : (wrap64 (t496 + t497)) = t498
        ·rw [if_pos c38] at H
         have c38b0 : ((wrap64 (t496 + t497)) == t498) = true := beq_iff_eq.mpr c38
         have c38b1 : ((wrap64 (t496 + t497)) != t498) = false := bne_eq_false_iff_eq.mpr c38
         clear c38
         replace H := Option.bind_eq_some_iff.mp H
         obtain ⟨t499, A390, H⟩ := H
         have A39 := Aside0.mk A390
         clear A390
         replace H := Option.bind_eq_some_iff.mp H
         obtain ⟨t500, A400, H⟩ := H
         have A40 := Aside0.mk A400
         clear A400
         replace H := Option.bind_eq_some_iff.mp H
         obtain ⟨t501, A410, H⟩ := H
         have A41 := Aside0.mk A410
         clear A410
         by_cases c42 : (wrap64 (t499 + t500)) = t501
         ·rw [if_pos c42] at H
          have c42b0 : ((wrap64 (t499 + t500)) == t501) = true := beq_iff_eq.mpr c42
          have c42b1 : ((wrap64 (t499 + t500)) != t501) = false := bne_eq_false_iff_eq.mpr c42
          clear c42
          replace H := Option.bind_eq_some_iff.mp H
          obtain ⟨t502, A430, H⟩ := H
          have A43 := Aside0.mk A430
          clear A430
          by_cases c44 : t502 = true
          ·subst c44
           have H1 : ((know_Right.f k2 x9_2).bind fun t503 => (some t503)) = some r := by rw [if_pos rfl] at H; exact H
           clear H
           have H := H1
           clear H1
           replace H := Option.bind_eq_some_iff.mp H
           obtain ⟨t503, A450, H⟩ := H
           have A45 := Aside0.mk A450
           clear A450
           obtain rfl := Option.some.inj H
           go_wp2_with (first | ((with_reducible refine gate_callee (f := 11) rfl ?_); refine goesL_ (some 49) rfl rfl Tryz.func11 (by kernel_rfl) rfl #[] rfl zq4_0 ?_; (with_reducible refine (cenotaphlaw04_told.calls k2  true _ A30.out).mono ?_); rintro e w46 ⟨rfl, hb⟩; refine ⟨_, rfl, ?_⟩; replace HO_5 := Aside0.mk (Kd.S_below zq4_3 hb); replace HO_6 := Aside0.mk (Kd.R_below zq4_4 hb); replace HO_8 := Aside0.mk (Kd.V_below zq4_5 hb); replace HO_9 := Aside0.mk (Kd.V_below zq4_6 hb); replace HB := Aside0.mk (below_step zq4_1 hb); (try clear hb); (try clear hb2); (try clear hk); (try clear hi); obtain ⟨Ao47, co47, eo47⟩ := Kd.V_slice HO_8.out; subst eo47; obtain ⟨Ao48, co48, eo48⟩ := Kd.V_slice HO_9.out; subst eo48) | (go_at_call 26; (with_reducible refine (know_Union.calls k2 _ _ t484 _ _ x9_2 t492 _ ?side1 ?side2 ?side3 ?side4 A32.out).mono ?_); (case side1 => repeat (first | exact (Kd.V_reads' HO_8.out).2.2 | (with_reducible refine Kd.C_alloc ?_ _) | (with_reducible refine Kd.C_drewN ?_ _) | (with_reducible refine Kd.C_drew ?_))); (case side2 => exact (Kd.V_reads' HO_8.out).2.1); (case side3 => repeat (first | exact (Kd.V_reads' HO_9.out).2.2 | (with_reducible refine Kd.C_alloc ?_ _) | (with_reducible refine Kd.C_drewN ?_ _) | (with_reducible refine Kd.C_drew ?_))); (case side4 => exact (Kd.V_reads' HO_9.out).2.1); rintro e w49 ⟨v493, rfl, ho0, hb⟩; replace HO_8 := Aside0.mk (Kd.V_below zq4_5 hb); replace HO_9 := Aside0.mk (Kd.V_below zq4_6 hb); have HO494 := Aside0.mk (Kd.V_lower (Kd.V_mono (ok' := fun k_ => some k_ ≠ (.slice Ao22 t471.length co22 : Value).ownBlock ∧ some k_ ≠ (.slice Ao20 x6_4.length co20 : Value).ownBlock) ho0 (fun k_ hk_ => ⟨(Kd.fresh' (Kd.S_lt zq4_3) k_ hk_), (Kd.fresh' (Kd.R_lt zq4_4) k_ hk_)⟩)) (below_size zq4_1)); replace HO_5 := Aside0.mk (Kd.S_below zq4_3 hb); replace HO_6 := Aside0.mk (Kd.R_below zq4_4 hb); replace HB := Aside0.mk (below_step zq4_1 hb); (try clear hb); (try clear hb2); (try clear hk); (try clear hi); (try clear ho0); obtain ⟨Ao50, co50, eo50⟩ := Kd.V_slice HO494.out; subst eo50) | (go_at_call 23; (with_reducible refine (know_Same.calls k2 _ _ t492 _ _ t471 true _ ?side1 ?side2 ?side3 ?side4 A33.out).mono ?_); (case side1 => repeat (first | exact (Kd.V_reads' HO494.out).2.2 | (with_reducible refine Kd.C_alloc ?_ _) | (with_reducible refine Kd.C_drewN ?_ _) | (with_reducible refine Kd.C_drew ?_))); (case side2 => exact (Kd.V_reads' HO494.out).2.1); (case side3 => repeat (first | exact (Kd.S_reads' HO_5.out).2.2 | (with_reducible refine Kd.C_alloc ?_ _) | (with_reducible refine Kd.C_drewN ?_ _) | (with_reducible refine Kd.C_drew ?_))); (case side4 => exact (Kd.S_reads' HO_5.out).2.1); rintro e w51 ⟨rfl, hb⟩; replace HO_5 := Aside0.mk (Kd.S_below zq4_3 hb); replace HO_6 := Aside0.mk (Kd.R_below zq4_4 hb); replace HO_8 := Aside0.mk (Kd.V_below zq4_5 hb); replace HO_9 := Aside0.mk (Kd.V_below zq4_6 hb); replace HO494 := Aside0.mk (Kd.V_below zq4_2 hb); replace HB := Aside0.mk (below_step zq4_1 hb); (try clear hb); (try clear hb2); (try clear hk); (try clear hi)) | (go_at_call 27; (with_reducible refine (know_Count.calls k2 _ _ t484 t496 _ ?side1 ?side2 A35.out).mono ?_); (case side1 => repeat (first | exact (Kd.V_reads' HO_8.out).2.2 | (with_reducible refine Kd.C_alloc ?_ _) | (with_reducible refine Kd.C_drewN ?_ _) | (with_reducible refine Kd.C_drew ?_))); (case side2 => exact (Kd.V_reads' HO_8.out).2.1); rintro e w52 ⟨rfl, hb⟩; replace HO_5 := Aside0.mk (Kd.S_below zq4_3 hb); replace HO_6 := Aside0.mk (Kd.R_below zq4_4 hb); replace HO_8 := Aside0.mk (Kd.V_below zq4_5 hb); replace HO_9 := Aside0.mk (Kd.V_below zq4_6 hb); replace HO494 := Aside0.mk (Kd.V_below zq4_2 hb); replace HB := Aside0.mk (below_step zq4_1 hb); (try clear hb); (try clear hb2); (try clear hk); (try clear hi)) | (go_at_call 27; (with_reducible refine (know_Count.calls k2 _ _ x9_2 t497 _ ?side1 ?side2 A36.out).mono ?_); (case side1 => repeat (first | exact (Kd.V_reads' HO_9.out).2.2 | (with_reducible refine Kd.C_alloc ?_ _) | (with_reducible refine Kd.C_drewN ?_ _) | (with_reducible refine Kd.C_drew ?_))); (case side2 => exact (Kd.V_reads' HO_9.out).2.1); rintro e w53 ⟨rfl, hb⟩; replace HO_5 := Aside0.mk (Kd.S_below zq4_3 hb); replace HO_6 := Aside0.mk (Kd.R_below zq4_4 hb); replace HO_8 := Aside0.mk (Kd.V_below zq4_5 hb); replace HO_9 := Aside0.mk (Kd.V_below zq4_6 hb); replace HO494 := Aside0.mk (Kd.V_below zq4_2 hb); replace HB := Aside0.mk (below_step zq4_1 hb); (try clear hb); (try clear hb2); (try clear hk); (try clear hi)) | (go_at_call 27; (with_reducible refine (know_Count.calls k2 _ _ t471 t498 _ ?side1 ?side2 A37.out).mono ?_); (case side1 => repeat (first | exact (Kd.S_reads' HO_5.out).2.2 | (with_reducible refine Kd.C_alloc ?_ _) | (with_reducible refine Kd.C_drewN ?_ _) | (with_reducible refine Kd.C_drew ?_))); (case side2 => exact (Kd.S_reads' HO_5.out).2.1); rintro e w54 ⟨rfl, hb⟩; replace HO_5 := Aside0.mk (Kd.S_below zq4_3 hb); replace HO_6 := Aside0.mk (Kd.R_below zq4_4 hb); replace HO_8 := Aside0.mk (Kd.V_below zq4_5 hb); replace HO_9 := Aside0.mk (Kd.V_below zq4_6 hb); replace HO494 := Aside0.mk (Kd.V_below zq4_2 hb); replace HB := Aside0.mk (below_step zq4_1 hb); (try clear hb); (try clear hb2); (try clear hk); (try clear hi)) | (go_at_call 24; (with_reducible refine (know_Extras.calls k2 _ _ t484 t499 _ ?side1 ?side2 A39.out).mono ?_); (case side1 => repeat (first | exact (Kd.V_reads' HO_8.out).2.2 | (with_reducible refine Kd.C_alloc ?_ _) | (with_reducible refine Kd.C_drewN ?_ _) | (with_reducible refine Kd.C_drew ?_))); (case side2 => exact (Kd.V_reads' HO_8.out).2.1); rintro e w55 ⟨rfl, hb⟩; replace HO_5 := Aside0.mk (Kd.S_below zq4_3 hb); replace HO_6 := Aside0.mk (Kd.R_below zq4_4 hb); replace HO_8 := Aside0.mk (Kd.V_below zq4_5 hb); replace HO_9 := Aside0.mk (Kd.V_below zq4_6 hb); replace HO494 := Aside0.mk (Kd.V_below zq4_2 hb); replace HB := Aside0.mk (below_step zq4_1 hb); (try clear hb); (try clear hb2); (try clear hk); (try clear hi)) | (go_at_call 24; (with_reducible refine (know_Extras.calls k2 _ _ x9_2 t500 _ ?side1 ?side2 A40.out).mono ?_); (case side1 => repeat (first | exact (Kd.V_reads' HO_9.out).2.2 | (with_reducible refine Kd.C_alloc ?_ _) | (with_reducible refine Kd.C_drewN ?_ _) | (with_reducible refine Kd.C_drew ?_))); (case side2 => exact (Kd.V_reads' HO_9.out).2.1); rintro e w56 ⟨rfl, hb⟩; replace HO_5 := Aside0.mk (Kd.S_below zq4_3 hb); replace HO_6 := Aside0.mk (Kd.R_below zq4_4 hb); replace HO_8 := Aside0.mk (Kd.V_below zq4_5 hb); replace HO_9 := Aside0.mk (Kd.V_below zq4_6 hb); replace HO494 := Aside0.mk (Kd.V_below zq4_2 hb); replace HB := Aside0.mk (below_step zq4_1 hb); (try clear hb); (try clear hb2); (try clear hk); (try clear hi)) | (go_at_call 24; (with_reducible refine (know_Extras.calls k2 _ _ t471 t501 _ ?side1 ?side2 A41.out).mono ?_); (case side1 => repeat (first | exact (Kd.S_reads' HO_5.out).2.2 | (with_reducible refine Kd.C_alloc ?_ _) | (with_reducible refine Kd.C_drewN ?_ _) | (with_reducible refine Kd.C_drew ?_))); (case side2 => exact (Kd.S_reads' HO_5.out).2.1); rintro e w57 ⟨rfl, hb⟩; replace HO_5 := Aside0.mk (Kd.S_below zq4_3 hb); replace HO_6 := Aside0.mk (Kd.R_below zq4_4 hb); replace HO_8 := Aside0.mk (Kd.V_below zq4_5 hb); replace HO_9 := Aside0.mk (Kd.V_below zq4_6 hb); replace HO494 := Aside0.mk (Kd.V_below zq4_2 hb); replace HB := Aside0.mk (below_step zq4_1 hb); (try clear hb); (try clear hb2); (try clear hk); (try clear hi)) | (go_at_call 28; (with_reducible refine (know_Right.calls k2 _ _ t484 true _ ?side1 ?side2 A43.out).mono ?_); (case side1 => repeat (first | exact (Kd.V_reads' HO_8.out).2.2 | (with_reducible refine Kd.C_alloc ?_ _) | (with_reducible refine Kd.C_drewN ?_ _) | (with_reducible refine Kd.C_drew ?_))); (case side2 => exact (Kd.V_reads' HO_8.out).2.1); rintro e w58 ⟨rfl, hb⟩; replace HO_5 := Aside0.mk (Kd.S_below zq4_3 hb); replace HO_6 := Aside0.mk (Kd.R_below zq4_4 hb); replace HO_8 := Aside0.mk (Kd.V_below zq4_5 hb); replace HO_9 := Aside0.mk (Kd.V_below zq4_6 hb); replace HO494 := Aside0.mk (Kd.V_below zq4_2 hb); replace HB := Aside0.mk (below_step zq4_1 hb); (try clear hb); (try clear hb2); (try clear hk); (try clear hi)) | (go_at_call 28; (with_reducible refine (know_Right.calls k2 _ _ x9_2 t503 _ ?side1 ?side2 A45.out).mono ?_); (case side1 => repeat (first | exact (Kd.V_reads' HO_9.out).2.2 | (with_reducible refine Kd.C_alloc ?_ _) | (with_reducible refine Kd.C_drewN ?_ _) | (with_reducible refine Kd.C_drew ?_))); (case side2 => exact (Kd.V_reads' HO_9.out).2.1); rintro e w59 ⟨rfl, hb⟩; replace HO_5 := Aside0.mk (Kd.S_below zq4_3 hb); replace HO_6 := Aside0.mk (Kd.R_below zq4_4 hb); replace HO_8 := Aside0.mk (Kd.V_below zq4_5 hb); replace HO_9 := Aside0.mk (Kd.V_below zq4_6 hb); replace HO494 := Aside0.mk (Kd.V_below zq4_2 hb); replace HB := Aside0.mk (below_step zq4_1 hb); (try clear hb); (try clear hb2); (try clear hk); (try clear hi)))
           go_ret
           exact ⟨by first | rfl | (simp [errW_none, errW_some] <;> rfl) | (simp [*, errW_none, errW_some] <;> rfl), by repeat (first | (with_reducible first | exact HB.out | apply below_alloc | apply pw_below_drewN | apply below_drew1) | exact HB.out)⟩
          ·replace c44 := Bool.eq_false_iff.mpr c44
           subst c44
           have H1 : (none) = some r := by rw [if_neg (show ¬ (false = true) by decide)] at H; exact H
           clear H
           have H := H1
           clear H1
           exact absurd H (by simp)
         ·rw [if_neg c42] at H
          exact absurd H (by simp)
        ·rw [if_neg c38] at H
         exact absurd H (by simp)
       ·replace c34 := Bool.eq_false_iff.mpr c34
        subst c34
        have H1 : (none) = some r := by rw [if_neg (show ¬ (false = true) by decide)] at H; exact H
        clear H
        have H := H1
        clear H1
        exact absurd H (by simp)
      ·replace c31 := Bool.eq_false_iff.mpr c31
       subst c31
       have H1 : (none) = some r := by rw [if_neg (show ¬ (false = true) by decide)] at H; exact H
       clear H
       have H := H1
       clear H1
       exact absurd H (by simp)

end Go.Proofs.YtkfehkaiifjkmaaGreat.P
