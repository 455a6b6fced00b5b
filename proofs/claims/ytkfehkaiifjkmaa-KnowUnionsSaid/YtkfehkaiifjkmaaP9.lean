-- Written by a program of this session (wip/pp.py over the kit's printer, with our own texts put in).
import Derived.Test.YtkfehkaiifjkmaaP0
import Derived.Test.YtkfehkaiifjkmaaP1
import Derived.Test.YtkfehkaiifjkmaaP2
import Derived.Test.YtkfehkaiifjkmaaP3
namespace Go.Proofs.Ytkfehkaiifjkmaa.P
open Go.RowKit Go.Proofs.YtkfehkaiifjkmaaW.PrintWords Go.Proofs.YtkfehkaiifjkmaaW.PrintLast Go.Proofs.YtkfehkaiifjkmaaW.PrintMore
attribute [local go_sem] max2_int min2_int max_two min_two max_three min_three max_four min_four   -- for this text's walks alone
set_option linter.unusedVariables false
set_option linter.unusedSimpArgs false

/-! ### know_Union: function 28 -/
instance (l : List S61) : Decidable (okM l) := by unfold okM; infer_instance
theorem drop_cons_getD {α : Type} (l : List α) (z : α) {i : Nat} (hi : i < l.length) : l.drop i = l.getD i z :: l.drop (i + 1) := by
 rw [List.getD_eq_getElem?_getD, List.getElem?_eq_getElem hi, List.drop_eq_getElem_cons hi]; rfl
def unionK (k : Nat) : List S61 → List S61 → Option (List S61)
 | m, [] => some m
 | m, x :: b => if m.length < 1000000000 then (withK k m x.f0 x.f1.f0 x.f1.f1).bind fun o => unionK k o b else none
theorem unionK_mono (k : Nat) : ∀ (b m : List S61), LeO (unionK k m b) (unionK (k + 1) m b)
 | [], _ => LeO.refl _
 | x :: b, m => by unfold unionK; exact LeO.ite (LeO.bind (withK_mono _ _ _ _ _) (fun _ => unionK_mono k b _)) (LeO.refl _)
def know_Union.f (k : Nat) (l0 : List S61) (l1 : List S61) : Option (List S61) := if okM l0 ∧ okM l1 then unionK k l0 l1 else none
theorem know_Union.mono : ∀ a0 a1 k, LeO (know_Union.f k a0 a1) (know_Union.f (k + 1) a0 a1) := by
 intro a0 a1 k
 unfold know_Union.f
 exact LeO.ite (unionK_mono _ _ _) (LeO.refl _)
set_option maxHeartbeats 3200000 in
set_option maxRecDepth 100000 in
theorem know_Union.calls (k : Nat) (A0 : Option Addr) (c0 : Nat) (l0 : List S61) (A1 : Option Addr) (c1 : Nat) (l1 : List S61) (r : List S61) (w : World) (hr0 : Kd.C k61 w A0 l0.length l0) (hc0 : l0.length ≤ c0) (hr1 : Kd.C k61 w A1 l1.length l1) (hc1 : l1.length ≤ c1) (h : know_Union.f k l0 l1 = some r) :
  Calls Try.prog 28 #[.slice A0 l0.length c0, .slice A1 l1.length c1] w fun e w' => ∃ v0_ : Value, e = .returned (v0_) ∧ Kd.V k61 61 w' w.heap.size (fun k_ => w.heap.size ≤ k_) v0_ r ∧ Below w.heap.size w w' := by
 unfold know_Union.f at h
 by_cases hok : okM l0 ∧ okM l1
 rotate_left
 ·rw [if_neg hok] at h; cases h
 rw [if_pos hok] at h
 have H := Aside0.mk h
 have HCA := Aside0.mk (know_copied.own A0 c0 l0 w hr0 hc0 hok.1)
 have HCB := Aside0.mk (fun W (hW : Below w.heap.size w W) => know_copied.own A1 c1 l1 W (Kd.C_below hr1 hW) hc1 hok.2)
 have hn1 := hok.2.1
 clear h hr0 hr1 hc0 hc1 hok
 have hut := Try.underlying61
 go_enter Try.func28, Try.ntmps28
 go_wp2_with fail
 refine HCA.out.mono ?_
 rintro e w1 ⟨v, rs, rfl, hO, hb1⟩
 have HO := Aside0.mk hO
 have HB := Aside0.mk hb1
 have HVL := Aside0.mk (Kd.R_lt hO.1)
 clear hO hb1 HCA
 go_wp2_with fail
 refine (HCB.out w1 HB.out).mono ?_
 rintro e w2 ⟨vb, rb, rfl, hP, hb2⟩
 have HSZ := Aside0.mk (below_size HB.out)
 have hrl := F2.len hP.2
 obtain ⟨Ab, cb, rfl⟩ := Kd.R_slice hP.1
 rw [hrl] at hP ⊢
 have HP := Aside0.mk hP
 have HRB := Aside0.mk (show ∀ i, i < l1.length → ∃ gb : Nat, Ab = some ⟨gb, 0, none⟩ ∧ (w1.heap.size ≤ gb ∧ gb < w2.heap.size) ∧ w2.cell? ⟨gb, i * 3, none⟩ = some (.string (rb.getD i zRW).f0) ∧ w2.cell? ⟨gb, i * 3 + 1, none⟩ = some (.int .i64 (rb.getD i zRW).u) ∧ w2.cell? ⟨gb, i * 3 + 2, none⟩ = some (.slice (rb.getD i zRW).A (rb.getD i zRW).n (rb.getD i zRW).c) from fun i hi => by
  obtain ⟨gb, cap, ev, hg, hgl, _⟩ := Kd.R_form hP.1 (by omega)
  obtain ⟨ad, hA, x0, x1, x2⟩ := at_RW (Kd.R_reads' hP.1).2.2 (i : Int) (by omega) (by have := (Kd.R_reads' hP.1).1; omega)
  injection ev with eA _ _
  rw [eA] at hA
  injection hA with hA
  subst hA
  have hrd : rd_RW rb (i : Int) = rb.getD i zRW := by unfold rd_RW; rw [Int.toNat_natCast]
  rw [hrd] at x0 x1 x2
  simp only [Int.toNat_natCast, Addr.add_lit, Nat.zero_add] at x0 x1 x2
  exact ⟨gb, eA, ⟨hg, hgl⟩, x0, x1, x2⟩)
 have HIB := Aside0.mk (INs.bound hP.2)
 replace HO := Aside0.mk (HO.out.below hb2)
 replace HB := Aside0.mk (below_step HB.out hb2)
 obtain ⟨A, c, rfl⟩ := Kd.R_slice HO.out.1
 have hrl2 := F2.len HO.out.2
 rw [hrl2] at HO HVL ⊢
 clear hP hb2 HCB hrl hrl2 HP
 generalize hn : l1.length = n at *
 have HN := Aside0.mk hn
 clear hn
 obtain ⟨lo, hlo⟩ : ∃ lo, w1.heap.size = lo := ⟨_, rfl⟩
 obtain ⟨hi, hhi⟩ : ∃ hi, w2.heap.size = hi := ⟨_, rfl⟩
 have HHI := Aside0.mk hhi
 rw [hlo] at HRB HSZ HVL
 rw [hhi] at HRB HIB
 have HIB2 := Aside0.mk (show INs (Kd.int .i64) S61.f0 (fun x => x.f1.f0) (fun x => x.f1.f1) w2 (fun k => lo ≤ k ∧ k < hi) rb l1 from INs.mono HIB.out (fun k hk => ⟨by have := hk.1.2; omega, hk.2⟩))
 clear HIB hlo hhi
 go_wp2_with fail
 go_loopw [5, 13] (fun vo vi wr => ∃ (i : Nat) (out : List S61) (ro : List RW) (Ao : Option Addr) (co : Nat), vo = .slice Ao out.length co ∧ vi = .int .i64 i ∧ i ≤ n ∧ Aside0 (unionK k out (l1.drop i) = some r) ∧ Aside0 (OWm wr w.heap.size (.slice Ao out.length co) ro out) ∧ Aside0 (Below w.heap.size w wr) ∧ Aside0 (∀ k, (Value.slice Ao out.length co).ownBlock = some k → k < lo ∨ hi ≤ k) ∧ Aside0 (hi ≤ wr.heap.size) ∧ Aside0 (∀ k, lo ≤ k → k < hi → wr.heap[k]? = w2.heap[k]?)) (fun _ vi _ => n - (intOf vi).toNat)
 case atStart => exact ⟨0, l0, rs, A, c, rfl, rfl, Nat.zero_le _, ⟨by rw [List.drop_zero]; exact H.out⟩, HO, HB, ⟨fun k hk => Or.inl (HVL.out k hk)⟩, ⟨by rw [HHI.out]; exact Nat.le_refl _⟩, ⟨fun _ _ _ => rfl⟩⟩
 case round =>
  clear HB HO H HVL
  obtain ⟨i, out, ro, Ao, co, rfl, rfl, hin, HP, HO, HB, HOB, HHW, HKB⟩ := hrel
  by_cases hj : i < n
  ·obtain ⟨gb, hA, hab, hx0, hx1, hx2⟩ := HRB.out i hj
   obtain ⟨i0, i5, i1, i2, i3⟩ := F2.getD HIB2.out (j := i) (by rw [HN.out]; exact hj) zRW z61
   have hdr := drop_cons_getD l1 z61 (i := i) (by rw [HN.out]; exact hj)
   have hp := HP.out
   rw [hdr] at hp
   generalize rb.getD i zRW = q at hx0 hx1 hx2 i0 i5 i1 i2 i3
   generalize l1.getD i z61 = x at i0 i5 i1 i2 i3 hp
   obtain ⟨s0, su, rA, rn, rc⟩ := q
   dsimp only at i0 i5 i1 i2 i3 hx0 hx1 hx2
   subst i0; subst i5; subst i1
   unfold unionK at hp
   by_cases hol : out.length < 1000000000
   rotate_left
   ·rw [if_neg hol] at hp; cases hp
   rw [if_pos hol] at hp
   obtain ⟨o, ho, hp⟩ := Option.bind_eq_some_iff.mp hp
   have HV := Aside0.mk hp
   subst hA
   have hkb := HKB.out gb hab.1 hab.2
   replace hx0 := (World.cell?_of_block (w := w2) (w' := wr) (a := ⟨gb, i * 3, none⟩) hkb).trans hx0
   replace hx1 := (World.cell?_of_block (w := w2) (w' := wr) (a := ⟨gb, i * 3 + 1, none⟩) hkb).trans hx1
   replace hx2 := (World.cell?_of_block (w := w2) (w' := wr) (a := ⟨gb, i * 3 + 2, none⟩) hkb).trans hx2
   have hF := Kd.F_mono (Kd.F_step (W1 := wr) i3 (fun k hk _ => HKB.out k hk.1 hk.2)) (ok' := fun k => (w.heap.size ≤ k ∧ some k ≠ (Value.slice Ao out.length co).ownBlock) ∧ k < hi) (fun k hk => ⟨⟨by have := HSZ.out; have := hk.1; omega, fun e => by have := hk.1; have := hk.2; rcases HOB.out k e.symm with h | h <;> omega⟩, hk.2⟩)
   have HW_ := Aside0.mk (fun W (hW : Below wr.heap.size wr W) => know_with.own k (.slice Ao out.length co) ro out x.f0 x.f1.f0 rA rc x.f1.f1 o w.heap.size W (HO.out.below hW) (Nat.le_trans (below_size HB.out) hW.size) hol (Kd.F_mono (Kd.F_below hF hW) (fun k hk => hk.1)) i2 ho)
   have HBA := Aside0.mk (below_alloc HB.out (.cells #[.string x.f0, .int .i64 x.f1.f0, .slice rA x.f1.f1.length rc] 61))
   have pm := eq_true (show (0 : Int) ≤ (i : Int) by omega)
   have qm := eq_true (show (i : Int) < (n : Int) by omega)
   clear hdr hp i2 i3 hF HP hol ho hkb hab
   go_wp2_with fail
   refine (HW_.out _ (below_alloc (Below.refl _ _) _)).mono ?_
   rintro e w4 ⟨v4, r4, rfl, hO4, hb4, hn4, hk4⟩
   obtain ⟨A4, c4, rfl⟩ := Kd.R_slice hO4.1
   have hl4 := F2.len hO4.2
   rw [hl4] at hO4 hn4 ⊢
   have hsz : (wr.alloc (.cells #[.string x.f0, .int .i64 x.f1.f0, .slice rA x.f1.f1.length rc] 61)).heap.size = wr.heap.size + 1 := by simp
   rw [hsz] at hn4 hk4
   have HO4 := Aside0.mk hO4
   have HB4 := Aside0.mk (HBA.out.trans hb4)
   have HOB4 := Aside0.mk (show ∀ k, (Value.slice A4 o.length c4).ownBlock = some k → k < lo ∨ hi ≤ k from fun k hk => by
    rcases hn4 with h | ⟨b, h, hle⟩
    ·exact HOB.out k (by rw [← h]; exact hk)
    ·rw [h] at hk; injection hk with hk; have := HHW.out; right; omega)
   have HHW4 := Aside0.mk (show hi ≤ w4.heap.size from by have := HHW.out; have := hb4.size; rw [hsz] at this; omega)
   have HKB4 := Aside0.mk (show ∀ k, lo ≤ k → k < hi → w4.heap[k]? = w2.heap[k]? from fun k h1 h2 => by
    have hlt : k < wr.heap.size := Nat.lt_of_lt_of_le h2 HHW.out
    exact ((hk4 k (by omega) (fun e => by rcases HOB.out k e.symm with h | h <;> omega)).trans (Below.heap_alloc _ _ _ hlt)).trans (HKB.out k h1 h2))
   clear hO4 hb4 hn4 hk4 hl4 hsz hx0 hx1 hx2 HW_
   go_wp2_with fail
   go_roundw
   case rel => exact ⟨i + 1, o, r4, A4, c4, rfl, by go_num, by omega, HV, HO4, HB4, HOB4, HHW4, HKB4⟩
   case measure => simp [intOf]; omega
  ·have hge : decide ((i : Int) < (n : Int)) = false := by simp; omega
   have hres : r = out := by
    have hni : l1.drop i = [] := List.drop_of_length_le (by rw [HN.out]; omega)
    have h1 := HP.out
    rw [hni] at h1
    unfold unionK at h1
    exact (Option.some.inj h1).symm
   subst hres
   go_wp2_with fail
   go_ret
   exact ⟨_, rfl, HO.out.view, HB.out⟩

/-! ### know_Same: function 32 -/
set_option maxHeartbeats 3200000 in
set_option maxRecDepth 100000 in
theorem mate_equal (A0 : Option Addr) (c0 : Nat) (l0 : List RW) (A1 : Option Addr) (c1 : Nat) (l1 : List RW) (q : Nat → Bool) (w : World) (hr0 : Kd.C kRW w A0 l0.length l0) (hr1 : Kd.C kRW w A1 l1.length l1)
  (hp : ∀ (i : Nat) (x y : RW) (W : World), i < l0.length → i < l1.length → l0.getD i zRW = x → l1.getD i zRW = y → Below w.heap.size w W → Calls Try.prog 62 #[.agg #[.string x.f0, .int .i64 x.u, .slice x.A x.n x.c], .agg #[.string y.f0, .int .i64 y.u, .slice y.A y.n y.c]] W fun e w' => e = .returned (.bool (q i)) ∧ Below W.heap.size W w') :
  Calls Try.prog 61 #[.slice A0 l0.length c0, .slice A1 l1.length c1, .func (.func 62) #[] #[]] w fun e w' => e = .returned (.bool (if l0.length = l1.length then (List.range l0.length).all q else false)) ∧ Below w.heap.size w w' := by
 have hmax : maxLen = 9223372036854775807 := rfl
 have hlen := hr0.2.1
 have HR0 := Aside0.mk hr0
 have HR1 := Aside0.mk hr1
 have HP := Aside0.mk hp
 clear hr0 hr1 hp
 have HB := Aside0.mk (Below.refl w.heap.size w)
 have hut := Try.underlying61
 by_cases hl : l0.length = l1.length
 ·rw [if_pos hl]
  have hl2 : ((l0.length : Int) != (l1.length : Int)) = false := by rw [hl]; simp
  rw [← hl] at HR1 HP
  generalize hn : l0.length = n at *
  have HNL := Aside0.mk hl
  clear hl hn
  rw [← HNL.out] at hl2 ⊢
  obtain ⟨res, hres⟩ : ∃ res, (List.range n).all q = res := ⟨_, rfl⟩
  rw [hres]
  have HRES := Aside0.mk hres
  clear hres
  go_enter Try.func61, Try.ntmps61
  go_wp2
  go_loopw [17] (fun vi wr => ∃ i : Nat, vi = .int .i64 i ∧ i ≤ n ∧ Aside0 (∀ j, j < i → q j = true) ∧ Aside0 (Below w.heap.size w wr)) (fun vi _ => n - (intOf vi).toNat)
  case atStart => exact ⟨0, rfl, Nat.zero_le _, ⟨fun j hj => absurd hj (Nat.not_lt_zero _)⟩, HB⟩
  case round =>
   clear HB
   obtain ⟨i, rfl, hin, HA, HB⟩ := hrel
   by_cases hlt : i < n
   ·obtain ⟨ad, hA, hx0, hx1, hx2⟩ := at_RW HR0.out (i : Int) (by omega) (by omega)
    obtain ⟨bd, hB, hy0, hy1, hy2⟩ := at_RW HR1.out (i : Int) (by omega) (by omega)
    obtain rfl := hA
    obtain rfl := hB
    have pm := eq_true (show (0 : Int) ≤ (i : Int) by omega)
    have qm := eq_true (show (i : Int) < (n : Int) by omega)
    replace hx2 := (HB.out.cell (World.block_lt_of_cell? w _ hx2)).trans hx2; replace hy2 := (HB.out.cell (World.block_lt_of_cell? w _ hy2)).trans hy2; replace hx0 := (HB.out.cell (World.block_lt_of_cell? w _ hx0)).trans hx0; replace hx1 := (HB.out.cell (World.block_lt_of_cell? w _ hx1)).trans hx1; replace hy0 := (HB.out.cell (World.block_lt_of_cell? w _ hy0)).trans hy0; replace hy1 := (HB.out.cell (World.block_lt_of_cell? w _ hy1)).trans hy1
    have hel0 : rd_RW l0 (i : Int) = l0.getD i zRW := rfl
    have hel1 : rd_RW l1 (i : Int) = l1.getD i zRW := rfl
    simp only [Int.toNat_natCast, hel0, hel1] at hx0 hx1 hx2 hy0 hy1 hy2
    have HK := Aside0.mk (fun W (hW : Below wr.heap.size wr W) => HP.out i (l0.getD i zRW) (l1.getD i zRW) W hlt hlt rfl rfl (below_step HB.out hW))
    clear hel0 hel1
    generalize l0.getD i zRW = x at *
    generalize l1.getD i zRW = y at *
    by_cases hqi : q i = true
    ·rw [hqi] at HK
     have HQ := Aside0.mk hqi
     clear hqi
     go_upto_region 6 with fail
     have BKX := Aside0.mk (blk_new wr (.cells #[.string x.f0, .int .i64 x.u, .slice x.A x.n x.c] 61))
     have HWB := Aside0.mk (below_alloc (Below.refl wr.heap.size wr) (.cells #[.string x.f0, .int .i64 x.u, .slice x.A x.n x.c] 61))
     replace hy2 := (HWB.out.cell (World.block_lt_of_cell? wr _ hy2)).trans hy2; replace hy0 := (HWB.out.cell (World.block_lt_of_cell? wr _ hy0)).trans hy0; replace hy1 := (HWB.out.cell (World.block_lt_of_cell? wr _ hy1)).trans hy1
     clear hx0 hx1 hx2
     generalize wr.alloc (.cells #[.string x.f0, .int .i64 x.u, .slice x.A x.n x.c] 61) = w1 at BKX HWB hy0 hy1 hy2 ⊢
     generalize wr.heap.size = gx at BKX ⊢
     go_upto_region 7 with fail
     have BKY := Aside0.mk (blk_new w1 (.cells #[.string y.f0, .int .i64 y.u, .slice y.A y.n y.c] 61))
     replace BKX := Aside0.mk (blk_alloc BKX.out (.cells #[.string y.f0, .int .i64 y.u, .slice y.A y.n y.c] 61))
     replace HWB := Aside0.mk (below_alloc HWB.out (.cells #[.string y.f0, .int .i64 y.u, .slice y.A y.n y.c] 61))
     clear hy0 hy1 hy2
     generalize w1.alloc (.cells #[.string y.f0, .int .i64 y.u, .slice y.A y.n y.c] 61) = w2 at BKX BKY HWB ⊢
     generalize w1.heap.size = gy at BKY ⊢
     have hq0 : w2.cell? ⟨gx, 0, none⟩ = some (.string x.f0) := (blk_cell BKX.out 0).trans rfl; have hq1 : w2.cell? ⟨gx, 1, none⟩ = some (.int .i64 x.u) := (blk_cell BKX.out 1).trans rfl; have hq4 : w2.cell? ⟨gx, 2, none⟩ = some (.slice x.A x.n x.c) := (blk_cell BKX.out 2).trans rfl; have hq2 : w2.cell? ⟨gy, 0, none⟩ = some (.string y.f0) := (blk_cell BKY.out 0).trans rfl; have hq3 : w2.cell? ⟨gy, 1, none⟩ = some (.int .i64 y.u) := (blk_cell BKY.out 1).trans rfl; have hq5 : w2.cell? ⟨gy, 2, none⟩ = some (.slice y.A y.n y.c) := (blk_cell BKY.out 2).trans rfl
     go_wp2_with fail
     refine (HK.out w2 HWB.out).mono ?_
     rintro e w' ⟨rfl, hb1⟩
     have HB1 := Aside0.mk (below_step (below_step HB.out HWB.out) hb1)
     clear hb1
     go_wp2_with fail
     go_roundw
     case rel => exact ⟨i + 1, by go_num, by omega, ⟨fun j hj => by
      by_cases e : j = i
      ·subst e; exact HQ.out
      ·exact HA.out j (by omega)⟩, HB1⟩
     case measure => simp [intOf]; omega
    ·have hqf : q i = false := by simpa using hqi
     rw [hqf] at HK
     have hres : (List.range n).all q = false := by
      rw [Bool.eq_false_iff]
      intro hall
      have := List.all_eq_true.mp hall i (List.mem_range.mpr hlt)
      rw [hqf] at this; cases this
     obtain rfl : res = false := HRES.out.symm.trans hres
     clear hres hqi hqf HRES
     go_upto_region 6 with fail
     have BKX := Aside0.mk (blk_new wr (.cells #[.string x.f0, .int .i64 x.u, .slice x.A x.n x.c] 61))
     have HWB := Aside0.mk (below_alloc (Below.refl wr.heap.size wr) (.cells #[.string x.f0, .int .i64 x.u, .slice x.A x.n x.c] 61))
     replace hy2 := (HWB.out.cell (World.block_lt_of_cell? wr _ hy2)).trans hy2; replace hy0 := (HWB.out.cell (World.block_lt_of_cell? wr _ hy0)).trans hy0; replace hy1 := (HWB.out.cell (World.block_lt_of_cell? wr _ hy1)).trans hy1
     clear hx0 hx1 hx2
     generalize wr.alloc (.cells #[.string x.f0, .int .i64 x.u, .slice x.A x.n x.c] 61) = w1 at BKX HWB hy0 hy1 hy2 ⊢
     generalize wr.heap.size = gx at BKX ⊢
     go_upto_region 7 with fail
     have BKY := Aside0.mk (blk_new w1 (.cells #[.string y.f0, .int .i64 y.u, .slice y.A y.n y.c] 61))
     replace BKX := Aside0.mk (blk_alloc BKX.out (.cells #[.string y.f0, .int .i64 y.u, .slice y.A y.n y.c] 61))
     replace HWB := Aside0.mk (below_alloc HWB.out (.cells #[.string y.f0, .int .i64 y.u, .slice y.A y.n y.c] 61))
     clear hy0 hy1 hy2
     generalize w1.alloc (.cells #[.string y.f0, .int .i64 y.u, .slice y.A y.n y.c] 61) = w2 at BKX BKY HWB ⊢
     generalize w1.heap.size = gy at BKY ⊢
     have hq0 : w2.cell? ⟨gx, 0, none⟩ = some (.string x.f0) := (blk_cell BKX.out 0).trans rfl; have hq1 : w2.cell? ⟨gx, 1, none⟩ = some (.int .i64 x.u) := (blk_cell BKX.out 1).trans rfl; have hq4 : w2.cell? ⟨gx, 2, none⟩ = some (.slice x.A x.n x.c) := (blk_cell BKX.out 2).trans rfl; have hq2 : w2.cell? ⟨gy, 0, none⟩ = some (.string y.f0) := (blk_cell BKY.out 0).trans rfl; have hq3 : w2.cell? ⟨gy, 1, none⟩ = some (.int .i64 y.u) := (blk_cell BKY.out 1).trans rfl; have hq5 : w2.cell? ⟨gy, 2, none⟩ = some (.slice y.A y.n y.c) := (blk_cell BKY.out 2).trans rfl
     go_wp2_with fail
     refine (HK.out w2 HWB.out).mono ?_
     rintro e w' ⟨rfl, hb1⟩
     have HB1 := Aside0.mk (below_step (below_step HB.out HWB.out) hb1)
     clear hb1
     go_wp2_with fail
     go_ret
     exact ⟨rfl, HB1.out⟩
   ·have hge : decide ((i : Int) < (n : Int)) = false := by simp; omega
    have hres : (List.range n).all q = true := List.all_eq_true.mpr fun j hj => HA.out j (by have := List.mem_range.mp hj; omega)
    obtain rfl : res = true := HRES.out.symm.trans hres
    clear hres HRES
    go_wp2_with fail
    go_ret
    exact ⟨rfl, HB.out⟩
 ·rw [if_neg hl]
  have hl2 : ((l0.length : Int) != (l1.length : Int)) = true := by simp; omega
  have hl3 : ((l0.length : Int) == (l1.length : Int)) = false := by simp; omega
  have hl4 := eq_false hl
  clear hl
  go_enter Try.func61, Try.ntmps61
  go_wp2
  go_ret
  exact ⟨rfl, HB.out⟩

set_option maxHeartbeats 1600000 in
set_option maxRecDepth 100000 in
theorem mate_pred_ne (s : ByteArray) (m : Int) (A : Option Addr) (n c : Nat) (t : ByteArray) (m' : Int) (A' : Option Addr) (n' c' : Nat) (b : Bool) (W : World) (hne : s ≠ t) :
  Calls Try.prog 62 #[.agg #[.string s, .int .i64 m, .slice A n c], .agg #[.string t, .int .i64 m', .slice A' n' c']] W fun e w' => e = .returned (.bool false) ∧ Below W.heap.size W w' := by
 have heq : (s.toList == t.toList) = false := by
  rw [Lib.toList_data, Lib.toList_data, beq_eq_false_iff_ne]
  exact fun e => hne (by apply ByteArray.ext; exact Array.toList_inj.mp e)
 clear hne
 have hu := Try.underlying61
 have BX := Aside0.mk (blk_below (blk_new W (.cells #[.string s, .int .i64 m, .slice A n c] 61)) (below_alloc (Below.refl _ _) (.cells #[.string t, .int .i64 m', .slice A' n' c'] 61)))
 have BY := Aside0.mk (blk_new (W.alloc (.cells #[.string s, .int .i64 m, .slice A n c] 61)) (.cells #[.string t, .int .i64 m', .slice A' n' c'] 61))
 have HB := Aside0.mk (below_alloc (below_alloc (Below.refl W.heap.size W) (.cells #[.string s, .int .i64 m, .slice A n c] 61)) (.cells #[.string t, .int .i64 m', .slice A' n' c'] 61))
 have e : (W.alloc (.cells #[.string s, .int .i64 m, .slice A n c] 61)).heap.size = W.heap.size + 1 := Array.size_push _
 rw [e] at BY
 clear e
 go_enter Try.func62, Try.ntmps62
 go_upto_region 1 with fail
 generalize (W.alloc _).alloc _ = w1 at BX BY HB ⊢
 have hc0 : w1.cell? ⟨W.heap.size, 0, none⟩ = some (.string s) := (blk_cell BX.out 0).trans rfl
 have hc1 : w1.cell? ⟨W.heap.size, 1, none⟩ = some (.int .i64 m) := (blk_cell BX.out 1).trans rfl
 have hc4 : w1.cell? ⟨W.heap.size, 2, none⟩ = some (.slice A n c) := (blk_cell BX.out 2).trans rfl
 have hc2 : w1.cell? ⟨W.heap.size + 1, 0, none⟩ = some (.string t) := (blk_cell BY.out 0).trans rfl
 have hc3 : w1.cell? ⟨W.heap.size + 1, 1, none⟩ = some (.int .i64 m') := (blk_cell BY.out 1).trans rfl
 have hc5 : w1.cell? ⟨W.heap.size + 1, 2, none⟩ = some (.slice A' n' c') := (blk_cell BY.out 2).trans rfl
 go_wp2_with fail
 go_ret
 exact ⟨rfl, HB.out⟩
set_option maxHeartbeats 1600000 in
set_option maxRecDepth 100000 in
theorem mate_pred_eq (s : ByteArray) (m : Int) (A : Option Addr) (n c : Nat) (t : ByteArray) (m' : Int) (A' : Option Addr) (n' c' : Nat) (b : Bool) (W : World) (he : s = t) (hv : ∀ w, Below W.heap.size W w → Calls Try.prog 63 #[.agg #[.int .i64 m, .slice A n c], .agg #[.int .i64 m', .slice A' n' c']] w fun e w' => e = .returned (.bool b) ∧ Below w.heap.size w w') :
  Calls Try.prog 62 #[.agg #[.string s, .int .i64 m, .slice A n c], .agg #[.string t, .int .i64 m', .slice A' n' c']] W fun e w' => e = .returned (.bool b) ∧ Below W.heap.size W w' := by
 have heq : (s.toList == t.toList) = true := by rw [he, beq_iff_eq]
 have HV := Aside0.mk hv
 clear he hv
 have hu := Try.underlying61
 have BX := Aside0.mk (blk_below (blk_new W (.cells #[.string s, .int .i64 m, .slice A n c] 61)) (below_alloc (Below.refl _ _) (.cells #[.string t, .int .i64 m', .slice A' n' c'] 61)))
 have BY := Aside0.mk (blk_new (W.alloc (.cells #[.string s, .int .i64 m, .slice A n c] 61)) (.cells #[.string t, .int .i64 m', .slice A' n' c'] 61))
 have HB := Aside0.mk (below_alloc (below_alloc (Below.refl W.heap.size W) (.cells #[.string s, .int .i64 m, .slice A n c] 61)) (.cells #[.string t, .int .i64 m', .slice A' n' c'] 61))
 have e : (W.alloc (.cells #[.string s, .int .i64 m, .slice A n c] 61)).heap.size = W.heap.size + 1 := Array.size_push _
 rw [e] at BY
 clear e
 go_enter Try.func62, Try.ntmps62
 go_upto_region 1 with fail
 generalize (W.alloc _).alloc _ = w1 at BX BY HB ⊢
 have hc0 : w1.cell? ⟨W.heap.size, 0, none⟩ = some (.string s) := (blk_cell BX.out 0).trans rfl
 have hc1 : w1.cell? ⟨W.heap.size, 1, none⟩ = some (.int .i64 m) := (blk_cell BX.out 1).trans rfl
 have hc4 : w1.cell? ⟨W.heap.size, 2, none⟩ = some (.slice A n c) := (blk_cell BX.out 2).trans rfl
 have hc2 : w1.cell? ⟨W.heap.size + 1, 0, none⟩ = some (.string t) := (blk_cell BY.out 0).trans rfl
 have hc3 : w1.cell? ⟨W.heap.size + 1, 1, none⟩ = some (.int .i64 m') := (blk_cell BY.out 1).trans rfl
 have hc5 : w1.cell? ⟨W.heap.size + 1, 2, none⟩ = some (.slice A' n' c') := (blk_cell BY.out 2).trans rfl
 go_wp2_with fail
 refine (HV.out w1 HB.out).mono ?_
 rintro e w2 ⟨rfl, hb⟩
 replace HB := Aside0.mk (below_step HB.out hb)
 clear hb
 go_wp2_with fail
 go_ret
 exact ⟨rfl, HB.out⟩
/-- Row by row: the same name, and as far. -/
def sameQ (k : Nat) (x y : S61) : Option Bool := if x.f0 = y.f0 then span_Same.f k x.f1.f0 x.f1.f1 y.f1.f0 y.f1.f1 else some false
def sameAll (k : Nat) (a b : List S61) : Prop := ∀ i, i < a.length → (sameQ k (a.getD i z61) (b.getD i z61)).isSome = true
instance (k : Nat) (a b : List S61) : Decidable (sameAll k a b) := by unfold sameAll; infer_instance
def sameB (k : Nat) (a b : List S61) : Bool := if a.length = b.length then (List.range a.length).all (fun i => (sameQ k (a.getD i z61) (b.getD i z61)).getD false) else false
def know_Same.f (k : Nat) (l0 : List S61) (l1 : List S61) : Option Bool := if sameAll k l0 l1 then some (sameB k l0 l1) else none
theorem sameQ_mono (k : Nat) (x y : S61) : LeO (sameQ k x y) (sameQ (k + 1) x y) := by unfold sameQ; exact LeO.ite (span_Same.mono _ _ _ _ _) (LeO.refl _)
theorem know_Same.mono : ∀ a0 a1 k, LeO (know_Same.f k a0 a1) (know_Same.f (k + 1) a0 a1) := by
 intro a0 a1 k r h
 unfold know_Same.f at h ⊢
 by_cases hc : sameAll k a0 a1
 ·rw [if_pos hc] at h
  have hs : ∀ i, i < a0.length → sameQ (k + 1) (a0.getD i z61) (a1.getD i z61) = sameQ k (a0.getD i z61) (a1.getD i z61) := fun i hi => by
   obtain ⟨b, hb⟩ := Option.isSome_iff_exists.mp (hc i hi)
   rw [hb]; exact sameQ_mono _ _ _ _ hb
  have hc2 : sameAll (k + 1) a0 a1 := fun i hi => by rw [hs i hi]; exact hc i hi
  rw [if_pos hc2, ← h]
  unfold sameB
  by_cases hl : a0.length = a1.length
  ·rw [if_pos hl, if_pos hl]
   congr 1
   rw [Bool.eq_iff_iff, List.all_eq_true, List.all_eq_true]
   exact ⟨fun h i hi => by rw [← hs i (List.mem_range.mp hi)]; exact h i hi, fun h i hi => by rw [hs i (List.mem_range.mp hi)]; exact h i hi⟩
  ·rw [if_neg hl, if_neg hl]
 ·rw [if_neg hc] at h; cases h
set_option maxHeartbeats 1600000 in
set_option maxRecDepth 100000 in
theorem know_Same.calls (k : Nat) (A0 : Option Addr) (c0 : Nat) (l0 : List S61) (A1 : Option Addr) (c1 : Nat) (l1 : List S61) (r : Bool) (w : World) (hr0 : Kd.C k61 w A0 l0.length l0) (hc0 : l0.length ≤ c0) (hr1 : Kd.C k61 w A1 l1.length l1) (hc1 : l1.length ≤ c1) (h : know_Same.f k l0 l1 = some r) :
  Calls Try.prog 32 #[.slice A0 l0.length c0, .slice A1 l1.length c1] w fun e w' => e = .returned (.bool r) ∧ Below w.heap.size w w' := by
 unfold know_Same.f at h
 by_cases hc : sameAll k l0 l1
 rotate_left
 ·rw [if_neg hc] at h; cases h
 rw [if_pos hc] at h
 obtain rfl := Option.some.inj h
 clear h
 obtain ⟨rs, hC, hI⟩ := lead_raw lead_m hr0
 obtain ⟨rt, hD, hJ⟩ := lead_raw lead_m hr1
 have hl0 := F2.len hI
 have hl1 := F2.len hJ
 rw [← hl0] at hC
 rw [← hl1] at hD
 have hEQ := fun (W : World) (hW : Below w.heap.size w W) => mate_equal A0 c0 rs A1 c1 rt (fun i => (sameQ k (l0.getD i z61) (l1.getD i z61)).getD false) W (Kd.C_below hC hW) (Kd.C_below hD hW) (fun i x y W2 hi hi2 hx hy hW2 => by
  have i1 := (F2.getD hI (j := i) (by omega) zRW z61)
  have i2 := (F2.getD hJ (j := i) (by omega) zRW z61)
  rw [hx] at i1
  rw [hy] at i2
  have hs := hc i (by omega)
  generalize l0.getD i z61 = p at i1 hs ⊢
  generalize l1.getD i z61 = q at i2 hs ⊢
  obtain ⟨b, hb⟩ := Option.isSome_iff_exists.mp hs
  rw [hb, Option.getD_some]
  obtain ⟨a1, a5, a2, a3, a4⟩ := ((i1.below hW).below hW2).now
  obtain ⟨b1, b5, b2, b3, b4⟩ := ((i2.below hW).below hW2).now
  rw [a1, a5, a2, b1, b5, b2]
  unfold sameQ at hb
  by_cases he : p.f0 = q.f0
  ·rw [if_pos he] at hb
   exact mate_pred_eq _ _ _ _ _ _ _ _ _ _ b W2 he (fun w3 hw3 => (span_Same.calls k p.f1.f0 x.A x.c p.f1.f1 q.f1.f0 y.A y.c q.f1.f1 b w3 (Kd.C_below a4 hw3) a3 (Kd.C_below b4 hw3) b3 hb).mono (fun e w' h => ⟨h.1, h.2⟩))
  ·rw [if_neg he] at hb
   obtain rfl := Option.some.inj hb
   exact mate_pred_ne _ _ _ _ _ _ _ _ _ _ false W2 he)
 rw [hl0, hl1] at hEQ
 have hsb : sameB k l0 l1 = (if l0.length = l1.length then (List.range l0.length).all (fun i => (sameQ k (l0.getD i z61) (l1.getD i z61)).getD false) else false) := rfl
 rw [← hsb] at hEQ
 clear hsb
 generalize sameB k l0 l1 = res at hEQ ⊢
 have HEQ := Aside0.mk hEQ
 have HB := Aside0.mk (Below.refl w.heap.size w)
 clear hEQ hC hD hI hJ hr0 hr1 hc hl0 hl1
 go_enter Try.func32, Try.ntmps32
 go_wp2_with fail
 refine (HEQ.out _ HB.out).mono ?_
 rintro e w1 ⟨rfl, hb⟩
 have HB1 := Aside0.mk (below_step HB.out hb)
 clear hb
 go_wp2_with fail
 go_ret
 exact ⟨rfl, HB1.out⟩

end Go.Proofs.Ytkfehkaiifjkmaa.P
