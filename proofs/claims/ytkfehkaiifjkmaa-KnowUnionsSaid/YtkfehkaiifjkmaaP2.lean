-- Written by a program of this session (wip/pp.py over the kit's printer, with our own texts put in).
import Derived.Test.YtkfehkaiifjkmaaP0
import Derived.Test.YtkfehkaiifjkmaaP1
namespace Go.Proofs.Ytkfehkaiifjkmaa.P
open Go.RowKit Go.Proofs.YtkfehkaiifjkmaaW.PrintWords Go.Proofs.YtkfehkaiifjkmaaW.PrintLast Go.Proofs.YtkfehkaiifjkmaaW.PrintMore
attribute [local go_sem] max2_int min2_int max_two min_two max_three min_three max_four min_four   -- for this text's walks alone
set_option linter.unusedVariables false
set_option linter.unusedSimpArgs false

/-! ### know_copied: function 46 -/
/-- A Matrix of the call's own (its rows' Vecs are told by other blocks than its own). -/
def OWm (w : World) (base : Nat) (v : Value) (rs : List RW) (xs : List S61) : Prop := Kd.R kRW 61 w base (fun _ => True) v rs ∧ INs (Kd.int .i64) S61.f0 (fun x => x.f1.f0) (fun x => x.f1.f1) w (fun k => some k ≠ v.ownBlock ∧ base ≤ k) rs xs
theorem okM_get {l : List S61} (h : okM l) {i : Nat} (hi : i < l.length) : (l.getD i z61).f1.f1.length < 1000000000 := h.2 _ (by rw [← List.getElem_eq_getD (h := hi)]; exact List.getElem_mem _)
theorem vclone (A0 : Option Addr) (c0 : Nat) (l0 : List Int) (W : World) (hr0 : Kd.C (Kd.int .i64) W A0 l0.length l0) (hc0 : l0.length ≤ c0) (hl : l0.length < 1000000000) :
  Calls Try.prog 53 #[.slice A0 l0.length c0] W fun e w' => ∃ v0_ : Value, e = .returned (v0_) ∧ Kd.R (Kd.int .i64) 3 w' W.heap.size (fun _ => True) v0_ l0 ∧ Below W.heap.size W w' :=
 slices_Clone_int_int.calls A0 c0 l0 l0 W hr0 hc0 (by simp only [slices_Clone_int_int.f, Option.bind_some, List.length_nil, List.nil_append]; rw [if_pos (by omega)])
set_option maxHeartbeats 3200000 in
set_option maxRecDepth 100000 in
theorem know_copied.own (A0 : Option Addr) (c0 : Nat) (l0 : List S61) (w : World) (hr0 : Kd.C k61 w A0 l0.length l0) (hc0 : l0.length ≤ c0) (hl : okM l0) :
  Calls Try.prog 46 #[.slice A0 l0.length c0] w fun e w' => ∃ (v : Value) (rs : List RW), e = .returned v ∧ OWm w' w.heap.size v rs l0 ∧ Below w.heap.size w w' := by
 obtain ⟨rs, hC, hI⟩ := lead_raw lead_m hr0
 have hlen := F2.len hI
 have HCL := Aside0.mk (fun W (hW : Below w.heap.size w W) => know_Row.raw A0 c0 rs W (by rw [hlen]; exact Kd.C_below hC hW) (by omega) (by have := hl.1; omega))
 have HB := Aside0.mk (Below.refl w.heap.size w)
 have HI := Aside0.mk hI
 have HL := Aside0.mk hl
 have HLEN := Aside0.mk hlen
 rw [hlen] at HCL
 clear hC hI hr0 hl hc0
 have hut := Try.underlying61
 go_enter Try.func46, Try.ntmps46
 go_wp2_with fail
 refine (HCL.out w HB.out).mono ?_
 rintro e w1 ⟨v, rfl, ho1, hb1⟩
 have HB1 := Aside0.mk hb1
 have HI1 := Aside0.mk (INj.of (okj := fun j k => some k ≠ v.ownBlock ∧ (j < 0 → w.heap.size ≤ k)) (HI.out.below hb1) (fun j k hk => ⟨fun he => by have := Kd.R_base ho1 k he.symm; omega, fun h => absurd h (Nat.not_lt_zero _)⟩))
 obtain ⟨A, c, rfl, hle, -⟩ := Kd.R_reads ho1
 rw [hlen] at ho1 HI1 hle ⊢
 have HO1 := Aside0.mk ho1
 clear ho1 hb1 HCL HI HB hlen hle
 generalize hn : l0.length = n at *
 have HN := Aside0.mk hn
 clear hn
 have hmax : n < 1000000000 := by have := HL.out.1; have := HN.out; omega
 go_wp2_with fail
 go_loopw [9] (fun vi wr => ∃ (i : Nat) (L : List RW), vi = .int .i64 i ∧ i ≤ n ∧ Aside0 (L.length = n) ∧ Aside0 (Kd.R kRW 61 wr w.heap.size (fun _ => True) (.slice A n c) L ∧ INj (Kd.int .i64) S61.f0 (fun x => x.f1.f0) (fun x => x.f1.f1) wr (fun j k => some k ≠ (Value.slice A n c).ownBlock ∧ (j < i → w.heap.size ≤ k)) L l0) ∧ Aside0 (Below w.heap.size w wr)) (fun vi _ => n - (intOf vi).toNat)
 case atStart => exact ⟨0, rs, rfl, Nat.zero_le _, HLEN, ⟨HO1.out, HI1.out⟩, HB1⟩
 case round =>
  clear HO1 HI1 HB1
  obtain ⟨i, L, rfl, hin, HLL, HO, HB⟩ := hrel
  by_cases hj : i < n
  ·obtain ⟨ho, hI⟩ := HO.out
   obtain ⟨g, cap, ev, hg, hgl, cells, hcells⟩ := Kd.R_form ho (by have := HLL.out; omega)
   have hnL : L.length = n := HLL.out
   rw [hnL] at ev
   injection ev with eA _ ec
   subst eA; subst ec
   obtain ⟨ad, hA, hx0, hx3, hx1⟩ := at_RW (Kd.R_reads' ho).2.2 (i : Int) (by omega) (by omega)
   injection hA with hA
   subst hA
   obtain ⟨i0, i5, i1, i2, i3⟩ := (INj.getD hI (j := i) (by rw [HN.out]; exact hj) z61).now
   have hrd : rd_RW L (i : Int) = L.getD i zRW := by unfold rd_RW; rw [Int.toNat_natCast]
   rw [hrd] at hx0 hx3 hx1
   simp only [Int.toNat_natCast, Addr.add_lit, Nat.zero_add] at hx0 hx3 hx1
   have hxl := okM_get HL.out (i := i) (by rw [HN.out]; exact hj)
   generalize hr : L.getD i zRW = r at hx0 hx3 hx1 i0 i5 i1 i2 i3
   generalize hx : l0.getD i z61 = x at i0 i5 i1 i2 i3 hxl
   obtain ⟨s0, su, rA, rn, rc⟩ := r
   dsimp only at i0 i5 i1 i2 i3 hx0 hx3 hx1
   subst i0; subst i5; subst i1
   have HK := Aside0.mk (fun W (hW : Below wr.heap.size wr W) => vclone rA rc x.f1.f1 W (Kd.C_below i3 hW) i2 hxl)
   have HX0 := Aside0.mk hx0
   have HX1 := Aside0.mk hx1
   have HX3 := Aside0.mk hx3
   have HX := Aside0.mk (And.intro hr hx)
   have HGL := Aside0.mk hgl
   have HG := Aside0.mk hg
   have HCE := Aside0.mk (show ∃ cells : Array Value, wr.heap[g]? = some (.cells cells 61 (0, 0)) from ⟨cells, hcells⟩)
   have pm := eq_true (show (0 : Int) ≤ (i : Int) by omega)
   have qm := eq_true (show (i : Int) < (n : Int) by omega)
   have hz1 : wr.frozen? ⟨g, i * 3 + 2, none⟩ = false := blk_frozen hcells _
   clear hrd hr hx i2 i3 hxl hcells cells hg hgl ho hI hx0 hx3
   go_wp2_with fail
   refine (HK.out wr (Below.refl _ _)).mono ?_
   rintro e w2 ⟨v2, rfl, ho2, hb2⟩
   clear hx1 hz1 HK
   obtain ⟨A2, c2, rfl⟩ := Kd.R_slice ho2
   obtain ⟨cells, hcells⟩ := HCE.out
   have hcells2 := blk_below hcells hb2
   have hz1 : w2.frozen? ⟨g, i * 3 + 2, none⟩ = false := blk_frozen hcells2 _
   have hx1 : w2.cell? ⟨g, i * 3 + 2, none⟩ = some (.slice rA x.f1.f1.length rc) := (hb2.cell HGL.out).trans HX1.out
   have hx0 : w2.cell? ⟨g, i * 3, none⟩ = some (.string x.f0) := (hb2.cell HGL.out).trans HX0.out
   have hx3 : w2.cell? ⟨g, i * 3 + 1, none⟩ = some (.int .i64 x.f1.f0) := (hb2.cell HGL.out).trans HX3.out
   have HOb := Kd.R_below HO.out.1 hb2
   have hres := Kd.R_seg (d := kRW) (W := w2) (okp := fun _ => False) HOb (i : Int) (by omega) (by omega) (c := [.string x.f0, .int .i64 x.f1.f0, .slice rA x.f1.f1.length rc]) (seg := [.slice A2 x.f1.f1.length c2]) (j := 2) rfl (fun q u hq => by rw [Int.toNat_natCast]; rcases q with _ | _ | _ | q; (cases hq; exact hx0); (cases hq; exact hx3); (cases hq; exact hx1); (cases hq)) (show 2 + 1 ≤ 3 by decide) (x' := ⟨x.f0, x.f1.f0, A2, x.f1.f1.length, c2⟩) (kRW_mkM _ _ _ _) (fun _ h => h.elim)
   rw [Int.toNat_natCast] at hres
   have hINew : IN (Kd.int .i64) (w2.setCell ⟨g, i * 3 + 2, none⟩ (.slice A2 x.f1.f1.length c2)) (fun k => some k ≠ (Value.slice (some ⟨g, 0, none⟩) n c).ownBlock ∧ (i < i + 1 → w.heap.size ≤ k)) ⟨x.f0, x.f1.f0, A2, x.f1.f1.length, c2⟩ x.f0 x.f1.f0 x.f1.f1 := by
    refine ⟨rfl, rfl, rfl, (Kd.R_reads' ho2).2.1, ?_⟩
    have h1 := Kd.F_mono (Kd.R_F (Kd.R_bound ho2)) (ok' := fun k => k ≠ g ∧ w.heap.size ≤ k) (fun k hk => by have := hk.2.1; have := HGL.out; have := below_size HB.out; omega)
    exact Kd.F_mono (Kd.F_far h1 (p := ⟨g, i * 3 + 2, none⟩) (fun k hk => hk.1) _) (fun k hk => ⟨fun he => hk.1 (by simpa [Value.ownBlock] using he), fun _ => hk.2⟩)
   have hIold := (HO.out.2.below hb2).step (w1 := w2.setCell ⟨g, i * 3 + 2, none⟩ (.slice A2 x.f1.f1.length c2)) (fun j k hk _ => Below.heap_setCell _ _ _ _ (fun he => hk.1 (by rw [he]; simp [Value.ownBlock])))
   have hxi : l0[i]? = some x := by
    have hil : i < l0.length := by rw [HN.out]; exact hj
    rw [← HX.out.2, List.getD_eq_getElem?_getD, List.getElem?_eq_getElem hil]; rfl
   have HI2 := Aside0.mk (INj.set hIold (okj' := fun j k => some k ≠ (Value.slice (some ⟨g, 0, none⟩) n c).ownBlock ∧ (j < i + 1 → w.heap.size ≤ k)) hxi hINew (fun j k hne hk => ⟨hk.1, fun hlt => hk.2 (by omega)⟩))
   have HO2 := Aside0.mk (show Kd.R kRW 61 (w2.setCell ⟨g, i * 3 + 2, none⟩ (.slice A2 x.f1.f1.length c2)) w.heap.size (fun _ => True) (.slice (some ⟨g, 0, none⟩) n c) (L.set i ⟨x.f0, x.f1.f0, A2, x.f1.f1.length, c2⟩) from hres.1)
   have HB2 := Aside0.mk (show Below w.heap.size w (w2.setCell ⟨g, i * 3 + 2, none⟩ (.slice A2 x.f1.f1.length c2)) from below_set (below_step HB.out hb2) HG.out)
   clear hINew hIold hxi hres HOb hcells hcells2 cells HCE ho2 hb2 hx0 hx3
   go_wp2_with fail
   go_roundw
   case rel => exact ⟨i + 1, L.set i ⟨x.f0, x.f1.f0, A2, x.f1.f1.length, c2⟩, by go_num, by omega, ⟨by rw [List.length_set]; exact HLL.out⟩, ⟨HO2.out, HI2.out⟩, HB2⟩
   case measure => simp [intOf]; omega
  ·have hge : decide ((i : Int) < (n : Int)) = false := by simp; omega
   go_wp2_with fail
   go_ret
   exact ⟨_, L, rfl, ⟨HO.out.1, HO.out.2.to (fun j hjl k hk => ⟨hk.1, hk.2 (by have := HN.out; omega)⟩)⟩, HB.out⟩

/-! ### span_folded: function 83 -/
theorem zq83_0 {p_ : Prop} (h_ : p_ := by repeat (first | (with_reducible first | exact HB.out | apply below_alloc | apply pw_below_drewN | apply below_drew1 | refine below_set ?_ GE122.out) | exact HB.out)) : p_ := h_
theorem zq83_1 {p_ : Prop} (h_ : p_ := by repeat (first | (with_reducible first | exact HB.out | apply below_alloc | apply pw_below_drewN | apply below_drew1) | exact HB.out)) : p_ := h_
theorem zq83_2 {p_ : Prop} (h_ : p_ := by first | (with_reducible assumption) | assumption) : p_ := h_
theorem zq83_3 {p_ : Prop} (h_ : p_ := by first | rfl | (simp; done) | (simp [*]; done)) : p_ := h_
def span_folded.l0 : Nat → Int → List Int → Int → Option (Int × List Int)
 | 0, _, _, _ => none
 | k + 1, x0, x1, x5 => if x5 < (x1.length : Int) then (if 0 ≤ x5 then (if (rd x1 x5) ≤ (wrap64 (x0 + 1)) then (span_folded.l0 k (mx x0 (rd x1 x5)) x1 (wrap64 (x5 + 1))) else (if x5 ≤ (x1.length : Int) then ((slices_Clone_int_int.f (x1.drop (x5 : Int).toNat)).bind fun t126 => (some (x0, t126))) else (none))) else (none)) else (if 0 ≤ x5 then (if x5 ≤ (x1.length : Int) then ((slices_Clone_int_int.f (x1.drop (x5 : Int).toNat)).bind fun t130 => (some (x0, t130))) else (none)) else (none))
def span_folded.f (k : Nat) (a0 : Int) (l1 : List Int) : Option (Int × List Int) := span_folded.l0 k a0 l1 0
theorem span_folded.mono_l : ∀ k, (∀ y0 y1 y2, LeO (span_folded.l0 k y0 y1 y2) (span_folded.l0 (k + 1) y0 y1 y2))
 | 0 => fun _ _ _ r h => by simp [span_folded.l0] at h
 | k + 1 => by
  have ih0 := span_folded.mono_l k
  ·intro y0 y1 y2
   unfold span_folded.l0
   repeat' first
   | (with_reducible exact ih0 _ _ _)
   | (with_reducible exact LeO.refl _)
   | (with_reducible exact LeO.none _)
   | (with_reducible refine LeO.ite ?_ ?_)
   | (with_reducible refine LeO.bind ?_ (fun _ => ?_))
   | exact ih0 _ _ _
   | exact LeO.none _
   | refine LeO.ite ?_ ?_
   | refine LeO.bind ?_ (fun _ => ?_)
theorem span_folded.mono : ∀ a0 a1 k, LeO (span_folded.f k a0 a1) (span_folded.f (k + 1) a0 a1) := by
 intro a0 a1 k
 have ih0 := span_folded.mono_l k
 unfold span_folded.f
 repeat' first
   | (with_reducible exact ih0 _ _ _)
   | (with_reducible exact LeO.refl _)
   | (with_reducible exact LeO.none _)
   | (with_reducible refine LeO.ite ?_ ?_)
   | (with_reducible refine LeO.bind ?_ (fun _ => ?_))
   | exact ih0 _ _ _
   | exact LeO.none _
   | refine LeO.ite ?_ ?_
   | refine LeO.bind ?_ (fun _ => ?_)
set_option maxHeartbeats 8000000 in
set_option maxRecDepth 100000 in
theorem span_folded.calls (k : Nat) (a0 : Int) (A1 : Option Addr) (c1 : Nat) (l1 : List Int) (r1 : Int) (r2 : List Int) (w : World) (hr1 : Kd.C (Kd.int .i64) w A1 l1.length l1) (hc1 : l1.length ≤ c1) (h : span_folded.f k a0 l1 = some (r1, r2)) :
  Calls Try.prog 83 #[.int .i64 a0, .slice A1 l1.length c1] w fun e w' => ∃ v1_ : Value, e = .returned (.agg #[.int .i64 r1, v1_]) ∧ Kd.R (Kd.int .i64) 3 w' w.heap.size (fun _ => True) v1_ r2 ∧ Below w.heap.size w w' := by
 have hu44 := Try.underlying44
 have HR1 := Aside0.mk hr1
 have HC1 := Aside0.mk hc1
 clear hr1 hc1
 have HB := Aside0.mk (Below.refl w.heap.size w)
 have H : (span_folded.l0 k a0 l1 0) = some (r1, r2) := h
 clear h
 have H' := Aside0.mk H
 clear H
 go_enter Try.func83, Try.ntmps83
 go_wp2_with (first | ((with_reducible refine gate_dst (N := 4) rfl ?_); refine box_event ?hg (N := 4) ?hd (cs := #[.int .i64 0, .slice none 0 0]) (t := 44) ?hr ?_; (case hd => rfl); (case hg => rfl); (case hr => first | (go_simp; done) | (go_simp; rfl)); intro gb122 hg w3 hbox hb; have BK122 := Aside0.mk (hbox); have GW122 := Aside0.mk (((by rw [hg]; exact (below_size zq83_1)) : w.heap.size ≤ gb122)); have GE122 := Aside0.mk (((by rw [hg]; exact (below_size zq83_1)) : w.heap.size ≤ gb122)); replace HB := Aside0.mk (below_step zq83_1 hb); clear hb hbox hg))
 go_loopg [0, 5] k (fun kq v0 v5 w' => ∃ (x0_1 : Int) (x5_1 : Int), v0 = .int .i64 x0_1 ∧ v5 = .int .i64 x5_1 ∧ Aside0 (span_folded.l0 kq x0_1 l1 x5_1 = some (r1, r2)) ∧ Aside0 (kq ≤ k) ∧ Aside0 (w'.heap[gb122]? = some (.cells #[.int .i64 0, (.slice none 0 0)] 44 (0, 0))) ∧ Aside0 (Below w.heap.size w w'))
 case atStart => exact ⟨(a0), (0), zq83_3, zq83_3, H', ⟨Nat.le_refl _⟩, ⟨by (with_reducible repeat (first | refine blk_drewN ?_ _ | refine blk_drew ?_ | refine blk_alloc ?_ _)); exact BK122.out⟩, ⟨by repeat (first | (with_reducible first | exact HB.out | apply below_alloc | apply pw_below_drewN | apply below_drew1 | refine below_set ?_ GE122.out) | exact HB.out)⟩⟩
 case round =>
  clear H'
  try clear c1
  try clear p2
  obtain ⟨x0_1, x5_1, rfl, rfl, HA, HK1, BK122, HB⟩ := hrel
  cases gk with
  | zero => exact absurd HA.out (by simp [span_folded.l0])
  | succ k1 =>
   have H := HA.out
   clear HA
   simp only [span_folded.l0] at H
   by_cases c4 : x5_1 < (l1.length : Int)
   ·rw [if_pos c4] at H
    have c4b0 : decide (x5_1 < (l1.length : Int)) = true := decide_eq_true c4
    clear c4
    by_cases c5 : 0 ≤ x5_1
    ·rw [if_pos c5] at H
     have c5b0 : decide (0 ≤ x5_1) = true := decide_eq_true c5
     clear c5
     by_cases c6 : (rd l1 x5_1) ≤ (wrap64 (x0_1 + 1))
     ·rw [if_pos c6] at H
      have c6b0 : decide ((rd l1 x5_1) ≤ (wrap64 (x0_1 + 1))) = true := decide_eq_true c6
      clear c6
      obtain ⟨ji7, hji7⟩ : ∃ j_ : Int, (mx x0_1 (rd l1 x5_1)) = j_ := ⟨_, rfl⟩
      replace H : (span_folded.l0 k1 ji7 l1 (wrap64 (x5_1 + 1))) = some (r1, r2) := by first | (rw [hji7] at H; exact H) | (simp only [hji7] at H ⊢; exact H)
      have hji7_ : (if x0_1 < (rd l1 x5_1) then (rd l1 x5_1) else x0_1) = ji7 := hji7
      have H' := Aside0.mk H
      clear H
      have p123 : 0 ≤ (x5_1 : Int) := of_decide_eq_true zq83_2
      have q123 : x5_1 < (l1.length : Int) := of_decide_eq_true zq83_2
      obtain ⟨ad123, e123, hx123_0⟩ := Kd.at_int HR1.out x5_1 p123 q123
      cases e123
      replace hx123_0 := (HB.out.cell (World.block_lt_of_cell? w _ hx123_0)).trans hx123_0
      replace p123 := eq_true p123
      replace q123 := eq_true q123
      have p124 : 0 ≤ (x5_1 : Int) := of_decide_eq_true zq83_2
      have q124 : x5_1 < (l1.length : Int) := of_decide_eq_true zq83_2
      obtain ⟨ad124, e124, hx124_0⟩ := Kd.at_int HR1.out x5_1 p124 q124
      obtain rfl : ad123 = ad124 := (by injection e124)
      replace hx124_0 := (HB.out.cell (World.block_lt_of_cell? w _ hx124_0)).trans hx124_0
      replace p124 := eq_true p124
      replace q124 := eq_true q124
      go_wp2
      go_roundg k1
      case measure => have := HK1.out; omega
      case rel => exact ⟨(ji7), (wrap64 (x5_1 + 1)), (by first | rfl | (simp; done) | (simp only [← hji7] <;> (first | rfl | simp)) | (simp [*]; done)), zq83_3, H', ⟨by have := HK1.out; omega⟩, ⟨by (with_reducible repeat (first | refine blk_drewN ?_ _ | refine blk_drew ?_ | refine blk_alloc ?_ _)); exact BK122.out⟩, ⟨by repeat (first | (with_reducible first | exact HB.out | apply below_alloc | apply pw_below_drewN | apply below_drew1 | refine below_set ?_ GE122.out) | exact HB.out)⟩⟩
     ·rw [if_neg c6] at H
      have c6b0 : decide ((rd l1 x5_1) ≤ (wrap64 (x0_1 + 1))) = false := decide_eq_false c6
      clear c6
      have c8b0 := eq_true (of_decide_eq_true zq83_2 : 0 ≤ x5_1)
      by_cases c9 : x5_1 ≤ (l1.length : Int)
      ·rw [if_pos c9] at H
       have c9b0 := eq_true c9
       have c9b1 : decide (x5_1 ≤ (l1.length : Int)) = true := decide_eq_true c9
       clear c9
       replace H := Option.bind_eq_some_iff.mp H
       obtain ⟨t126, A100, H⟩ := H
       replace H : (some (x0_1, t126)) = some (r1, r2) := H
       have A10 := Aside0.mk A100
       clear A100
       simp only [Option.some.injEq, Prod.mk.injEq] at H
       obtain ⟨rfl, rfl⟩ := H
       have p123 : 0 ≤ (x5_1 : Int) := of_decide_eq_true zq83_2
       have q123 : x5_1 < (l1.length : Int) := of_decide_eq_true zq83_2
       obtain ⟨ad123, e123, hx123_0⟩ := Kd.at_int HR1.out x5_1 p123 q123
       cases e123
       replace hx123_0 := (HB.out.cell (World.block_lt_of_cell? w _ hx123_0)).trans hx123_0
       replace p123 := eq_true p123
       replace q123 := eq_true q123
       obtain ⟨i011, hi011, _, hsz11, _⟩ := info_parts info3
       obtain ⟨A11, hcut11, hA11, hC11⟩ := print_drop_of (P := Try.prog) (Value.int .i64) 0 23 3 .i64 Try.underlying23 hi011 hsz11 (some ad123) c1 l1 x5_1 (of_decide_eq_true zq83_2) (of_decide_eq_true zq83_2) HC1.out
       have HR125 := Aside0.mk (Kd.C_of_reads (h1 := fun _ => rfl) (hA11 _ (Kd.reads_of_C HR1.out)))
       have HC125 := Aside0.mk hC11
       clear hA11 hC11 hi011 hsz11
       go_wp2_with (first | ((with_reducible refine gate_callee (f := 53) rfl ?_); refine goesL_ (some 31) rfl rfl Try.func53 (by kernel_rfl) rfl #[.slice A11 (l1.drop (x5_1 : Int).toNat).length (c1 - x5_1.toNat)] rfl (by (try simp only [List.map_toArray, List.map_cons, List.map_nil]); first | done | (rw [show (l1.drop (x5_1 : Int).toNat).length = (l1.length - x5_1.toNat) from List.length_drop] <;> rfl) | rfl | (simp only [List.length_drop, List.length_take]; rfl)) ?_; (with_reducible refine (slices_Clone_int_int.calls _ _ (l1.drop (x5_1 : Int).toNat) t126 _ ?side1 ?side2 A10.out).mono ?_); (case side1 => repeat (first | exact (Kd.C_below HR125.out HB.out) | (with_reducible refine Kd.C_alloc ?_ _) | (with_reducible refine Kd.C_drewN ?_ _) | (with_reducible refine Kd.C_drew ?_))); (case side2 => exact HC125.out); rintro e w12 ⟨v127, rfl, ho0, hb⟩; refine ⟨_, rfl, ?_⟩; have HO128 := Aside0.mk (Kd.R_lower ho0 (below_size zq83_0)); replace BK122 := Aside0.mk (blk_below (g := gb122) (o := .cells #[.int .i64 0, .slice none 0 0] 44 (0, 0)) (by (with_reducible repeat (first | refine blk_drewN ?_ _ | refine blk_drew ?_ | refine blk_alloc ?_ _)); exact BK122.out) hb); replace HB := Aside0.mk (below_step zq83_0 hb); (try clear hb); (try clear hb2); (try clear hk); (try clear hi); (try clear ho0); obtain ⟨Ao13, co13, eo13⟩ := Kd.R_slice HO128.out; subst eo13; have hcz14_0 : w12.cell? ⟨gb122, 0, none⟩ = some (.int .i64 0) := (blk_cell BK122.out 0).trans rfl; have hcz14_1 : w12.cell? ⟨gb122, 1, none⟩ = some (.slice none 0 0) := (blk_cell BK122.out 1).trans rfl; have hfz14_0 := blk_frozen BK122.out 0; have hfz14_1 := blk_frozen BK122.out 1))
       refine bodyPost_ret (results_cell_row rfl _ _ gb122 44 #[.int .i64 x0_1, .slice Ao13 t126.length co13] (0, 0) _ rfl (by (with_reducible repeat (first | refine blk_drewN ?_ _ | refine blk_drew ?_ | refine blk_alloc ?_ _)); refine blk_put (cs := #[.int .i64 x0_1, .slice none 0 0]) ?_ 1 _ rfl; (with_reducible repeat (first | refine blk_drewN ?_ _ | refine blk_drew ?_ | refine blk_alloc ?_ _)); refine blk_put (cs := #[.int .i64 0, .slice none 0 0]) ?_ 0 _ rfl; (with_reducible repeat (first | refine blk_drewN ?_ _ | refine blk_drew ?_ | refine blk_alloc ?_ _)); exact BK122.out) Try.underlying44 rfl (by kernel_rfl)) rfl ?_
       exact ⟨_, by first | rfl | (simp [errW_none, errW_some] <;> rfl) | (simp [*, errW_none, errW_some] <;> rfl), by (with_reducible repeat (first | apply Kd.R_alloc | apply Kd.R_drewN | apply Kd.R_drew)); exact Kd.R_mono (Kd.R_far (p := ⟨gb122, 1, none⟩) (Kd.R_far (p := ⟨gb122, 0, none⟩) (Kd.R_types HO128.out BK122.out (by decide)) (fun _ hk => hk.2) (.int .i64 x0_1)) (fun _ hk => hk.2) (.slice Ao13 t126.length co13)) (fun _ hk => trivial), by repeat (first | (with_reducible first | exact HB.out | apply below_alloc | apply pw_below_drewN | apply below_drew1 | refine below_set ?_ GE122.out) | exact HB.out)⟩
      ·rw [if_neg c9] at H
       exact absurd H (by simp)
    ·rw [if_neg c5] at H
     exact absurd H (by simp)
   ·rw [if_neg c4] at H
    have c4b0 : decide (x5_1 < (l1.length : Int)) = false := decide_eq_false c4
    clear c4
    by_cases c15 : 0 ≤ x5_1
    ·rw [if_pos c15] at H
     have c15b0 := eq_true c15
     have c15b1 : decide (0 ≤ x5_1) = true := decide_eq_true c15
     clear c15
     by_cases c16 : x5_1 ≤ (l1.length : Int)
     ·rw [if_pos c16] at H
      have c16b0 := eq_true c16
      have c16b1 : decide (x5_1 ≤ (l1.length : Int)) = true := decide_eq_true c16
      clear c16
      replace H := Option.bind_eq_some_iff.mp H
      obtain ⟨t130, A170, H⟩ := H
      replace H : (some (x0_1, t130)) = some (r1, r2) := H
      have A17 := Aside0.mk A170
      clear A170
      simp only [Option.some.injEq, Prod.mk.injEq] at H
      obtain ⟨rfl, rfl⟩ := H
      obtain ⟨i018, hi018, _, hsz18, _⟩ := info_parts info3
      obtain ⟨A18, hcut18, hA18, hC18⟩ := print_drop_of (P := Try.prog) (Value.int .i64) 0 23 3 .i64 Try.underlying23 hi018 hsz18 A1 c1 l1 x5_1 (of_decide_eq_true zq83_2) (of_decide_eq_true zq83_2) HC1.out
      have HR129 := Aside0.mk (Kd.C_of_reads (h1 := fun _ => rfl) (hA18 _ (Kd.reads_of_C HR1.out)))
      have HC129 := Aside0.mk hC18
      clear hA18 hC18 hi018 hsz18
      go_wp2_with (first | ((with_reducible refine gate_callee (f := 53) rfl ?_); refine goesL_ (some 31) rfl rfl Try.func53 (by kernel_rfl) rfl #[.slice A18 (l1.drop (x5_1 : Int).toNat).length (c1 - x5_1.toNat)] rfl (by (try simp only [List.map_toArray, List.map_cons, List.map_nil]); first | done | (rw [show (l1.drop (x5_1 : Int).toNat).length = (l1.length - x5_1.toNat) from List.length_drop] <;> rfl) | rfl | (simp only [List.length_drop, List.length_take]; rfl)) ?_; (with_reducible refine (slices_Clone_int_int.calls _ _ (l1.drop (x5_1 : Int).toNat) t130 _ ?side1 ?side2 A17.out).mono ?_); (case side1 => repeat (first | exact (Kd.C_below HR129.out HB.out) | (with_reducible refine Kd.C_alloc ?_ _) | (with_reducible refine Kd.C_drewN ?_ _) | (with_reducible refine Kd.C_drew ?_))); (case side2 => exact HC129.out); rintro e w19 ⟨v131, rfl, ho0, hb⟩; refine ⟨_, rfl, ?_⟩; have HO132 := Aside0.mk (Kd.R_lower ho0 (below_size zq83_0)); replace BK122 := Aside0.mk (blk_below (g := gb122) (o := .cells #[.int .i64 0, .slice none 0 0] 44 (0, 0)) (by (with_reducible repeat (first | refine blk_drewN ?_ _ | refine blk_drew ?_ | refine blk_alloc ?_ _)); exact BK122.out) hb); replace HB := Aside0.mk (below_step zq83_0 hb); (try clear hb); (try clear hb2); (try clear hk); (try clear hi); (try clear ho0); obtain ⟨Ao20, co20, eo20⟩ := Kd.R_slice HO132.out; subst eo20; have hcz21_0 : w19.cell? ⟨gb122, 0, none⟩ = some (.int .i64 0) := (blk_cell BK122.out 0).trans rfl; have hcz21_1 : w19.cell? ⟨gb122, 1, none⟩ = some (.slice none 0 0) := (blk_cell BK122.out 1).trans rfl; have hfz21_0 := blk_frozen BK122.out 0; have hfz21_1 := blk_frozen BK122.out 1))
      refine bodyPost_ret (results_cell_row rfl _ _ gb122 44 #[.int .i64 x0_1, .slice Ao20 t130.length co20] (0, 0) _ rfl (by (with_reducible repeat (first | refine blk_drewN ?_ _ | refine blk_drew ?_ | refine blk_alloc ?_ _)); refine blk_put (cs := #[.int .i64 x0_1, .slice none 0 0]) ?_ 1 _ rfl; (with_reducible repeat (first | refine blk_drewN ?_ _ | refine blk_drew ?_ | refine blk_alloc ?_ _)); refine blk_put (cs := #[.int .i64 0, .slice none 0 0]) ?_ 0 _ rfl; (with_reducible repeat (first | refine blk_drewN ?_ _ | refine blk_drew ?_ | refine blk_alloc ?_ _)); exact BK122.out) Try.underlying44 rfl (by kernel_rfl)) rfl ?_
      exact ⟨_, by first | rfl | (simp [errW_none, errW_some] <;> rfl) | (simp [*, errW_none, errW_some] <;> rfl), by (with_reducible repeat (first | apply Kd.R_alloc | apply Kd.R_drewN | apply Kd.R_drew)); exact Kd.R_mono (Kd.R_far (p := ⟨gb122, 1, none⟩) (Kd.R_far (p := ⟨gb122, 0, none⟩) (Kd.R_types HO132.out BK122.out (by decide)) (fun _ hk => hk.2) (.int .i64 x0_1)) (fun _ hk => hk.2) (.slice Ao20 t130.length co20)) (fun _ hk => trivial), by repeat (first | (with_reducible first | exact HB.out | apply below_alloc | apply pw_below_drewN | apply below_drew1 | refine below_set ?_ GE122.out) | exact HB.out)⟩
     ·rw [if_neg c16] at H
      exact absurd H (by simp)
    ·rw [if_neg c15] at H
     exact absurd H (by simp)

/-! ### span_Union: function 69 -/
def laySortInt_ren : Go.Shelf.Ren := ⟨fun | 5 => 82 | 8 => 95 | 7 => 94 | 19 => 108 | 20 => 109 | 10 => 100 | 11 => 101 | 12 => 102 | 13 => 103 | 14 => 104 | 15 => 105 | 16 => 85 | 17 => 106 | 18 => 107 | 30 => 111 | 31 => 112 | 32 => 113 | 33 => 114 | 34 => 115 | 35 => 96 | 40 => 116 | n => n, fun | 23 => 23 | 25 => 3 | 3 => 3 | 32 => 109 | 22 => 23 | 0 => 0 | 44 => 129 | 46 => 94 | 4 => 4 | 36 => 123 | 35 => 122 | 41 => 80 | 5 => 5 | 9 => 9 | 53 => 132 | 57 => 136 | 63 => 138 | 64 => 139 | n => n, fun | n => n⟩
theorem laySortInt : Go.Proofs.SlLaysM.n5 Try.prog laySortInt_ren := { mixed := by kernel_rfl, f5 := ⟨Try.f82.name, by decide, Try.func82.trans (congrArg some (by kernel_rfl))⟩, f7 := ⟨Try.f94.name, by decide, Try.func94.trans (congrArg some (by kernel_rfl))⟩, f8 := Try.func95.trans (congrArg some (by kernel_rfl)), f10 := ⟨Try.f100.name, by decide, Try.func100.trans (congrArg some (by kernel_rfl))⟩, f11 := ⟨Try.f101.name, by decide, Try.func101.trans (congrArg some (by kernel_rfl))⟩, f12 := ⟨Try.f102.name, by decide, Try.func102.trans (congrArg some (by kernel_rfl))⟩, f13 := ⟨Try.f103.name, by decide, Try.func103.trans (congrArg some (by kernel_rfl))⟩, f14 := ⟨Try.f104.name, by decide, Try.func104.trans (congrArg some (by kernel_rfl))⟩, f15 := ⟨Try.f105.name, by decide, Try.func105.trans (congrArg some (by kernel_rfl))⟩, f16 := ⟨Try.f85.name, by decide, Try.func85.trans (congrArg some (by kernel_rfl))⟩, f17 := ⟨Try.f106.name, by decide, Try.func106.trans (congrArg some (by kernel_rfl))⟩, f18 := ⟨Try.f107.name, by decide, Try.func107.trans (congrArg some (by kernel_rfl))⟩, f19 := Try.func108.trans (congrArg some (by kernel_rfl)), f20 := Try.func109.trans (congrArg some (by kernel_rfl)), f30 := ⟨Try.f111.name, by decide, Try.func111.trans (congrArg some (by kernel_rfl))⟩, f31 := Try.func112.trans (congrArg some (by kernel_rfl)), f32 := Try.func113.trans (congrArg some (by kernel_rfl)), f33 := ⟨Try.f114.name, by decide, Try.func114.trans (congrArg some (by kernel_rfl))⟩, f34 := ⟨Try.f115.name, by decide, Try.func115.trans (congrArg some (by kernel_rfl))⟩, f35 := ⟨Try.f96.name, by decide, Try.func96.trans (congrArg some (by kernel_rfl))⟩, f40 := ⟨Try.f116.name, by decide, Try.func116.trans (congrArg some (by kernel_rfl))⟩, t0 := Try.underlying0, a0 := Try.isAgg0, z0 := Try.sizeOf0, v0 := Try.zeroValue0, t3 := Try.underlying3, a3 := Try.isAgg3, z3 := Try.sizeOf3, v3 := Try.zeroValue3, t4 := Try.underlying4, a4 := Try.isAgg4, z4 := Try.sizeOf4, v4 := Try.zeroValue4, t5 := Try.underlying5, a5 := Try.isAgg5, z5 := Try.sizeOf5, v5 := Try.zeroValue5, t9 := Try.underlying9, a9 := Try.isAgg9, z9 := Try.sizeOf9, v9 := Try.zeroValue9, t22 := Try.underlying23, a22 := Try.isAgg23, z22 := Try.sizeOf23, v22 := Try.zeroValue23, t23 := Try.underlying23, a23 := Try.isAgg23, z23 := Try.sizeOf23, v23 := Try.zeroValue23, t25 := Try.underlying3, a25 := Try.isAgg3, z25 := Try.sizeOf3, v25 := Try.zeroValue3, t32 := Try.underlying109, a32 := Try.isAgg109, z32 := Try.sizeOf109, v32 := Try.zeroValue109, t35 := Try.underlying122, a35 := Try.isAgg122, z35 := Try.sizeOf122, v35 := Try.zeroValue122, t36 := Try.underlying123, a36 := Try.isAgg123, z36 := Try.sizeOf123, v36 := Try.zeroValue123, t41 := Try.underlying80, a41 := Try.isAgg80, z41 := Try.sizeOf80, v41 := Try.zeroValue80, t44 := Try.underlying129, a44 := Try.isAgg129, z44 := Try.sizeOf129, v44 := Try.zeroValue129, t46 := Try.underlying94, a46 := Try.isAgg94, z46 := Try.sizeOf94, v46 := Try.zeroValue94, t53 := Try.underlying132, a53 := Try.isAgg132, z53 := Try.sizeOf132, v53 := Try.zeroValue132, t57 := Try.underlying136, a57 := Try.isAgg136, z57 := Try.sizeOf136, v57 := Try.zeroValue136, t63 := Try.underlying138, a63 := Try.isAgg138, z63 := Try.sizeOf138, v63 := Try.zeroValue138, t64 := Try.underlying139, a64 := Try.isAgg139, z64 := Try.sizeOf139, v64 := Try.zeroValue139 }
def layCompactInt_ren : Go.Shelf.Ren := ⟨fun | 43 => 84 | n => n, fun | 22 => 23 | 23 => 3 | 3 => 3 | 4 => 4 | 0 => 0 | n => n, fun | n => n⟩
theorem layCompactInt : Go.Proofs.SlLaysE.n43 Try.prog layCompactInt_ren := { mixed := by kernel_rfl, f43 := ⟨Try.f84.name, by decide, Try.func84.trans (congrArg some (by kernel_rfl))⟩, t0 := Try.underlying0, a0 := Try.isAgg0, z0 := Try.sizeOf0, v0 := Try.zeroValue0, t3 := Try.underlying3, a3 := Try.isAgg3, z3 := Try.sizeOf3, v3 := Try.zeroValue3, t4 := Try.underlying4, a4 := Try.isAgg4, z4 := Try.sizeOf4, v4 := Try.zeroValue4, t22 := Try.underlying23, a22 := Try.isAgg23, z22 := Try.sizeOf23, v22 := Try.zeroValue23, a23 := Try.isAgg3, z23 := Try.sizeOf3 }
set_option maxHeartbeats 800000 in
set_option maxRecDepth 100000 in
theorem spc_grow (n : Nat) (w : World) (hn : n * 8 ≤ 140737488355328) :
  Calls Try.prog 93 #[.slice none 0 0, .int .i64 n] w fun e w' => ∃ v : Value, e = .returned v ∧ Kd.R (Kd.int .i64) 3 w' w.heap.size (fun _ => True) v ([] : List Int) ∧ Below w.heap.size w w' := by
 obtain ⟨i0, hi0, hz0, hsz0, hby0⟩ := info_parts info3
 have hcut0 := cut_to (P := Try.prog) 23 3 .i64 Try.underlying23 hi0 none 0 0 0 (by omega) (by omega) (by omega)
 by_cases h0 : n = 0
 ·subst h0
  go_enter Try.func93, Try.ntmps93
  go_wp2
  go_ret
  exact ⟨_, rfl, Kd.R_nil _ _ _ _ _, Below.refl _ _⟩
 ·have hpos : decide ((n : Int) < 0) = false := by simp
  have hgt : decide ((0 : Int) < (n : Int)) = true := by simp; omega
  have hgt' : 0 < n := by omega
  have hg2 : (n : Int) ≤ 140737488355328 := by omega
  go_enter Try.func93, Try.ntmps93
  have hn0 : (0 : Int) ≤ (n : Int) := by omega
  go_wp2_with (first | ((with_reducible refine gate_builtin (b := .append) (xs := #[.tmp 20, .tmp 21]) rfl ?_); at_builtin; (refine Kd.R_append_zeros (Kd.int .i64) (w0 := w) w.heap.size rfl (.tmp 20) (.tmp 21) 23 3 3 (.int .i64 0) 8 rfl Try.underlying23 Try.underlying3 info3 rfl (by decide) (by omega) (.slice none 0 0) ([] : List Int) (0 : Int) (n : Int) (fun _ => True) rfl rfl rfl ?aF ?aO hn0 ?aB ?aS ?aL ?_); (case aF => exact fun _ _ => trivial); (case aO => exact Kd.R_nil _ _ _ _ _); (case aB => exact Below.refl _ _); (case aS => exact Nat.le_refl _); (case aL => simp; omega); intro v1 w1 ho hb hg hat; clear hg hat; obtain ⟨A1, c1, rfl, hl1, hr1⟩ := Kd.R_reads ho; clear hr1; have hL : ((([] : List Int) ++ List.replicate (n : Int).toNat (0 : Int)).length) = n := (by simp); rw [hL] at ho hl1 ⊢; have ht0 := Kd.R_take (m := 0) ho (Nat.zero_le _); have HT := Aside0.mk ht0; have HBb := Aside0.mk hb; clear ho hb ht0 hL; have hcut1 := cut_to (P := Try.prog) 23 3 .i64 Try.underlying23 hi0 A1 n c1 0 (by omega) (by omega) hl1))
  go_ret
  exact ⟨_, rfl, by simpa using HT.out, HBb.out⟩

set_option maxHeartbeats 1600000 in
set_option maxRecDepth 100000 in
theorem spc_concat (b : Nat) (A0 A1 : Option Addr) (c0 c1 : Nat) (l0 l1 : List Int) (w : World) (hb : w.heap[b]? = some (.cells #[.slice A0 l0.length c0, .slice A1 l1.length c1] 23 (0, 0)))
  (hr0 : Kd.C (Kd.int .i64) w A0 l0.length l0) (hc0 : l0.length ≤ c0) (hr1 : Kd.C (Kd.int .i64) w A1 l1.length l1) (hc1 : l1.length ≤ c1) (hn : (l0.length + l1.length) * 8 ≤ 140737488355328) :
  Calls Try.prog 81 #[.slice (some ⟨b, 0, none⟩) 2 2] w fun e w' => ∃ v : Value, e = .returned v ∧ Kd.R (Kd.int .i64) 3 w' w.heap.size (fun _ => True) v (l0 ++ l1) ∧ Below w.heap.size w w' := by
 have hlt : b < w.heap.size := (Array.getElem?_eq_some_iff.1 hb).1
 have hx0 : w.cell? ⟨b, 0, none⟩ = some (.slice A0 l0.length c0) := by simp [World.cell?, hb]
 have hx1 : w.cell? ⟨b, 1, none⟩ = some (.slice A1 l1.length c1) := by simp [World.cell?, hb]
 have HR0 := Aside0.mk hr0; have HR1 := Aside0.mk hr1; have HB := Aside0.mk hb
 have HX0 := Aside0.mk hx0; have HX1 := Aside0.mk hx1
 clear hr0 hr1 hb hx0 hx1
 generalize hn0 : l0.length = n0 at *
 generalize hn1 : l1.length = n1 at *
 have HN0 := Aside0.mk hn0; have HN1 := Aside0.mk hn1
 clear hn0 hn1
 have hm0 : n0 + n1 ≤ 140737488355328 := by omega
 go_enter Try.func81, Try.ntmps81
 go_wp2
 go_loop [3, 5, 11] (fun s _ i => ∃ k : Nat, k ≤ 2 ∧ i = .int .i64 k ∧ s = .int .i64 ((if k = 0 then 0 else if k = 1 then n0 else n0 + n1 : Nat))) (fun _ _ i => 2 - (intOf i).toNat)
 case atStart => exact ⟨0, Nat.zero_le _, rfl, rfl⟩
 case round =>
  obtain ⟨k, hk, rfl, rfl⟩ := hrel
  rcases (show k = 0 ∨ k = 1 ∨ k = 2 by omega) with rfl | rfl | rfl
  ·have hx := HX0.out
   go_wp2
   go_round
   case rel => exact ⟨1, by omega, by go_num, by go_num⟩
   case measure => simp [intOf]
  ·have hx := HX1.out
   go_wp2
   go_round
   case rel => exact ⟨2, by omega, by go_num, by go_num⟩
   case measure => simp [intOf]
  ·have hg := spc_grow (n0 + n1) w (by omega)
   go_wp2_with (first | (go_at_call 93; refine hg.mono ?_; rintro e w1 ⟨v1, rfl, ho1, hb1⟩; clear hg; have HO := Aside0.mk ho1; have HBL := Aside0.mk hb1; clear ho1 hb1))
   go_loopw [6, 8, 27] (fun v _ i wr => ∃ k : Nat, k ≤ 2 ∧ i = .int .i64 k ∧ Aside0 (Kd.R (Kd.int .i64) 3 wr w.heap.size (fun _ => True) v (if k = 0 then [] else if k = 1 then l0 else l0 ++ l1)) ∧ Aside0 (Below w.heap.size w wr)) (fun _ _ i _ => 2 - (intOf i).toNat)
   case atStart => exact ⟨0, Nat.zero_le _, rfl, HO, HBL⟩
   case round =>
    clear HO HBL
    obtain ⟨k, hk, rfl, HO, HBL⟩ := hrel
    rcases (show k = 0 ∨ k = 1 ∨ k = 2 by omega) with rfl | rfl | rfl
    ·have hx := (HBL.out.cell (p := ⟨b, 0, none⟩) hlt).trans HX0.out
     have HRR := Aside0.mk (Kd.C_below HR0.out HBL.out)
     go_wp2_with (first | ((with_reducible refine gate_builtin (b := .append) (xs := #[.tmp 31, .tmp 32]) rfl ?_); at_builtin; (refine Kd.R_append_rows (Kd.int .i64) (w0 := w) w.heap.size rfl (.tmp 31) (.tmp 32) 23 3 (.int .i64 0) 8 rfl Try.underlying23 info3 rfl (by decide) (by omega) u6 [] l0 A0 n0 c0 (fun _ => True) (fun _ => False) rfl rfl ?aO ?aR (fun _ _ h => h) (fun _ h => h.elim) ?aF ?aB ?aS ?aL ?_); (case aR => exact HRR.out); (case aB => exact HBL.out); (case aF => exact (fun _ _ => trivial)); (case aO => exact HO.out); (case aS => exact below_size HBL.out); (case aL => have := HN0.out; simp; omega); intro v7 w7 ho7 hb7 hg7 hat7; have HO7 := Aside0.mk ho7; have HB7 := Aside0.mk hb7; clear ho7 hb7 hg7 hat7 HO HBL))
     go_roundw
     case rel => exact ⟨1, by omega, by go_num, HO7, HB7⟩
     case measure => simp [intOf]
    ·have hx := (HBL.out.cell (p := ⟨b, 1, none⟩) hlt).trans HX1.out
     have HRR := Aside0.mk (Kd.C_below HR1.out HBL.out)
     go_wp2_with (first | ((with_reducible refine gate_builtin (b := .append) (xs := #[.tmp 31, .tmp 32]) rfl ?_); at_builtin; (refine Kd.R_append_rows (Kd.int .i64) (w0 := w) w.heap.size rfl (.tmp 31) (.tmp 32) 23 3 (.int .i64 0) 8 rfl Try.underlying23 info3 rfl (by decide) (by omega) u6 l0 l1 A1 n1 c1 (fun _ => True) (fun _ => False) rfl rfl ?aO ?aR (fun _ _ h => h) (fun _ h => h.elim) ?aF ?aB ?aS ?aL ?_); (case aR => exact HRR.out); (case aB => exact HBL.out); (case aF => exact (fun _ _ => trivial)); (case aO => exact HO.out); (case aS => exact below_size HBL.out); (case aL => have := HN0.out; simp; omega); intro v7 w7 ho7 hb7 hg7 hat7; have HO7 := Aside0.mk ho7; have HB7 := Aside0.mk hb7; clear ho7 hb7 hg7 hat7 HO HBL))
     go_roundw
     case rel => exact ⟨2, by omega, by go_num, HO7, HB7⟩
     case measure => simp [intOf]
    ·go_wp2
     go_ret
     exact ⟨_, rfl, HO.out, HBL.out⟩

set_option maxHeartbeats 800000 in
theorem spc_sort (w0 w : World) (base : Nat) (v : Value) (l : List Int) (ok : Nat → Prop) (ho : Kd.R (Kd.int .i64) 3 w base ok v l) (hb : Below base w0 w) (hbase : base ≤ w.heap.size) (hn : l.length ≤ 140737488355328) :
  Calls Try.prog 82 #[v] w fun e w' => e = .returned (.tuple #[]) ∧ Kd.R (Kd.int .i64) 3 w' base ok v (sortZ l) ∧ Below base w0 w' := by
 by_cases hl : l = []
 ·subst hl
  obtain ⟨A, c, rfl, hc, _⟩ := Kd.R_reads ho
  refine (AnyM.slices_Sort_int_none laySortInt A c w).mono ?_
  rintro e w' ⟨rfl, rfl⟩
  exact ⟨rfl, by simpa [sortZ] using ho, hb⟩
 ·obtain ⟨g, cap, cur, rfl, hg, hk, hh, h2, h3, h4, h5⟩ := R_scalar_open ho hl
  have hc := AnyM.slices_Sort_int laySortInt g 0 cap l w (holds_of_cells hh h5) (Array.getElem?_eq_some_iff.1 hh).1 (by omega)
  refine hc.mono ?_
  rintro e w' ⟨rfl, n, os, rfl⟩
  have hlen : (sortZ l).length = l.length := by simp [sortZ]
  refine ⟨rfl, ?_, below_put _ hb hg hbase⟩
  have := R_scalar_mk (h1 := fun _ => rfl) (enc := Value.int .i64) (xs := sortZ l) (w := Sort.grow (Sort.putRow (Value.int .i64) (Sort.ahead w n) g 0 (sortZ l).toArray) os) (ok := ok) hg hk (heap_put _ hh) (by rw [hlen]; exact h2) h3 (by rw [put_size, h4]) (by have := put_take (enc := Value.int .i64) cur (sortZ l) [] (by rw [hlen]; omega); simpa using this)
  rw [hlen] at this
  exact this
theorem spc_compact (w0 w : World) (base : Nat) (v : Value) (l : List Int) (ok : Nat → Prop) (ho : Kd.R (Kd.int .i64) 3 w base ok v l) (hb : Below base w0 w) (hbase : base ≤ w.heap.size) (hn : l.length ≤ 140737488355328) :
  Calls Try.prog 84 #[v] w fun e w' => ∃ v' : Value, e = .returned v' ∧ Kd.R (Kd.int .i64) 3 w' base ok v' (Lib.compactUpTo l.toArray l.toArray.size) ∧ Below base w0 w' := by
 by_cases hl : l = []
 ·subst hl
  obtain ⟨A, c, rfl, hc, _⟩ := Kd.R_reads ho
  have HO := Aside0.mk ho; have HB := Aside0.mk hb
  clear ho hb
  simp only [List.length_nil]
  go_enter Try.func84, Try.ntmps84
  go_wp2
  go_ret
  exact ⟨_, rfl, HO.out, HB.out⟩
 ·obtain ⟨g, cap, cur, rfl, hg, hk, hh, h2, h3, h4, h5⟩ := R_scalar_open ho hl
  have hc := AnyE.slices_Compact layCompactInt (Value.int .i64) (fun _ => rfl) (EqlAt.intD _ _ _) (NeqAt.intD _ _ _) (0 : Int) (Try.zeroValue3) g 0 cap l.toArray w (holds_of_cells hh h5) (by simp; omega) (by simpa using h2)
  have hs : l.toArray.size = l.length := by simp
  rw [hs] at hc ⊢
  refine hc.mono ?_
  rintro e w' ⟨rfl, q, rfl⟩
  have hlen : (Lib.compactUpTo l.toArray l.length).length ≤ l.length := by
   unfold Lib.compactUpTo
   rw [List.length_map]
   exact Nat.le_trans (List.length_filter_le _ _) (by simp)
  generalize Lib.compactUpTo l.toArray l.length = m at hlen ⊢
  rw [show Sort.putRow (Value.int .i64) (Sort.ahead w q) g 0 (m ++ List.replicate (l.length - m.length) (0 : Int)).toArray = Sort.grow (Sort.putRow (Value.int .i64) (Sort.ahead w q) g 0 (m ++ List.replicate (l.length - m.length) (0 : Int)).toArray) #[] from (Sort.grow_empty _).symm]
  refine ⟨_, rfl, ?_, below_put _ hb hg hbase⟩
  exact R_scalar_mk hg hk (heap_put _ hh) (by omega) h3 (by rw [put_size, h4]) (put_take cur m _ (by omega))

def span_Union.f (k : Nat) (a0_0 : Int) (l0_1 : List Int) (a1_0 : Int) (l1_1 : List Int) : Option (Int × List Int) := if l0_1.length + l1_1.length < 8796093022208 then span_folded.f k (mx a0_0 a1_0) (unionZ (l0_1 ++ l1_1)) else none
theorem span_Union.mono : ∀ a0 a1 a2 a3 k, LeO (span_Union.f k a0 a1 a2 a3) (span_Union.f (k + 1) a0 a1 a2 a3) := by
 intro a0 a1 a2 a3 k
 unfold span_Union.f
 exact LeO.ite (span_folded.mono _ _ _) (LeO.none _)
set_option maxHeartbeats 1600000 in
set_option maxRecDepth 100000 in
theorem span_Union.calls (k : Nat) (a0_0 : Int) (A0_1 : Option Addr) (c0_1 : Nat) (l0_1 : List Int) (a1_0 : Int) (A1_1 : Option Addr) (c1_1 : Nat) (l1_1 : List Int) (r1 : Int) (r2 : List Int) (w : World) (hr0_1 : Kd.C (Kd.int .i64) w A0_1 l0_1.length l0_1) (hc0_1 : l0_1.length ≤ c0_1) (hr1_1 : Kd.C (Kd.int .i64) w A1_1 l1_1.length l1_1) (hc1_1 : l1_1.length ≤ c1_1) (h : span_Union.f k a0_0 l0_1 a1_0 l1_1 = some (r1, r2)) :
  Calls Try.prog 69 #[.agg #[.int .i64 a0_0, .slice A0_1 l0_1.length c0_1], .agg #[.int .i64 a1_0, .slice A1_1 l1_1.length c1_1]] w fun e w' => ∃ v1_ : Value, e = .returned (.agg #[.int .i64 r1, v1_]) ∧ Kd.R (Kd.int .i64) 3 w' w.heap.size (fun _ => True) v1_ r2 ∧ Below w.heap.size w w' := by
 have hlim : l0_1.length + l1_1.length < 8796093022208 := by
  by_cases hx : l0_1.length + l1_1.length < 8796093022208
  ·exact hx
  ·rw [span_Union.f, if_neg hx] at h; cases h
 have hF : span_folded.f k (mx a0_0 a1_0) (unionZ (l0_1 ++ l1_1)) = some (r1, r2) := by rw [span_Union.f, if_pos hlim] at h; exact h
 have HF := Aside0.mk hF
 clear hF h
 have hcon : ∀ W : World, Below w.heap.size w W → W.heap.size = w.heap.size + 4 → W.heap[w.heap.size]? = some (.cells #[.int .i64 a0_0, .slice A0_1 l0_1.length c0_1] 44 (0, 0)) → W.heap[w.heap.size + 1]? = some (.cells #[.int .i64 a1_0, .slice A1_1 l1_1.length c1_1] 44 (0, 0)) → W.heap[w.heap.size + 1 + 1]? = some (.cells #[.int .i64 0, .slice none 0 0] 44 (0, 0)) → W.heap[w.heap.size + 3]? = some (.cells #[.slice A0_1 l0_1.length c0_1, .slice A1_1 l1_1.length c1_1] 23 (0, 0)) →
   Calls Try.prog 81 #[.slice (some ⟨w.heap.size + 3, 0, none⟩) 2 2] W fun e w1 => ∃ v : Value, e = .returned v ∧ Aside0 (Kd.R (Kd.int .i64) 3 w1 (w.heap.size + 4) (fun _ => True) v (l0_1 ++ l1_1)) ∧ Aside0 (Below w.heap.size w w1) ∧ Aside0 (w.heap.size + 4 ≤ w1.heap.size) ∧ Aside0 (w1.heap[w.heap.size]? = some (.cells #[.int .i64 a0_0, .slice A0_1 l0_1.length c0_1] 44 (0, 0))) ∧ Aside0 (w1.heap[w.heap.size + 1]? = some (.cells #[.int .i64 a1_0, .slice A1_1 l1_1.length c1_1] 44 (0, 0))) ∧ Aside0 (w1.heap[w.heap.size + 1 + 1]? = some (.cells #[.int .i64 0, .slice none 0 0] 44 (0, 0))) := by
  intro W hB hs h0 h1 h2 h3
  refine (spc_concat (w.heap.size + 3) A0_1 A1_1 c0_1 c1_1 l0_1 l1_1 W h3 (Kd.C_below hr0_1 hB) hc0_1 (Kd.C_below hr1_1 hB) hc1_1 (by omega)).mono ?_
  rintro e w1 ⟨v1, rfl, ho1, hb1⟩
  have hz := below_size hb1
  rw [hs] at ho1 hb1 hz
  exact ⟨v1, rfl, ⟨ho1⟩, ⟨⟨hb1.os.trans hB.os, hb1.tape.trans hB.tape, hb1.output.trans hB.output, by omega, fun k hk => (hb1.block k (by omega)).trans (hB.block k hk)⟩⟩, ⟨hz⟩, ⟨(hb1.block _ (by omega)).trans h0⟩, ⟨(hb1.block _ (by omega)).trans h1⟩, ⟨(hb1.block _ (by omega)).trans h2⟩⟩
 have HCON := Aside0.mk hcon
 clear hcon hr0_1 hr1_1
 have HL := Aside0.mk hlim
 clear hlim
 go_enter Try.func69, Try.ntmps69
 go_wp2_with fail
 refine (HCON.out _ ?b0 ?s0 ?h0 ?h1 ?h2 ?h3).mono ?_
 case b0 => exact below_alloc (below_alloc (below_alloc (below_alloc (Below.refl _ _) _) _) _) _
 case s0 => simp
 case h0 => exact (heap_alloc_old _ _ (by simp only [size_alloc]; omega)).trans ((heap_alloc_old _ _ (by simp only [size_alloc]; omega)).trans ((heap_alloc_old _ _ (by simp only [size_alloc]; omega)).trans ((heap_alloc_new _ _ (by simp only [size_alloc])))))
 case h1 => exact (heap_alloc_old _ _ (by simp only [size_alloc]; omega)).trans ((heap_alloc_old _ _ (by simp only [size_alloc]; omega)).trans ((heap_alloc_new _ _ (by simp only [size_alloc]))))
 case h2 => exact (heap_alloc_old _ _ (by simp only [size_alloc]; omega)).trans ((heap_alloc_new _ _ (by simp only [size_alloc])))
 case h3 => exact (heap_alloc_new _ _ (by simp only [size_alloc]))
 rintro e w1 ⟨v1, rfl, HO1, HB1, HZ1, BA1, BB1, BR1⟩
 clear HCON
 go_wp2_with fail
 refine (spc_sort w1 w1 (w.heap.size + 4) v1 (l0_1 ++ l1_1) _ HO1.out (Below.refl _ _) HZ1.out (by have := HL.out; simp; omega)).mono ?_
 rintro e w2 ⟨rfl, ho2, hb2⟩
 have HO2 := Aside0.mk ho2
 have HB2 := Aside0.mk hb2
 clear ho2 hb2
 go_wp2_with fail
 have BA2 := Aside0.mk ((HB2.out.block _ (show w.heap.size < w.heap.size + 4 by omega)).trans BA1.out)
 have BB2 := Aside0.mk ((HB2.out.block _ (show w.heap.size + 1 < w.heap.size + 4 by omega)).trans BB1.out)
 have BR2 := Aside0.mk ((HB2.out.block _ (show w.heap.size + 1 + 1 < w.heap.size + 4 by omega)).trans BR1.out)
 have HZ2 := Aside0.mk (Nat.le_trans HZ1.out HB2.out.size)
 have HW2 := Aside0.mk (show Below w.heap.size w w2 from ⟨HB2.out.os.trans HB1.out.os, HB2.out.tape.trans HB1.out.tape, HB2.out.output.trans HB1.out.output, by have := HZ2.out; omega, fun k hk => (HB2.out.block k (by omega)).trans (HB1.out.block k hk)⟩)
 clear BA1 BB1 BR1 HZ1 HB1 HB2 HO1
 refine start_ (n := 9) (S := fun w' => w'.cell? ⟨w.heap.size, 0, none⟩ = some (.int .i64 a0_0) ∧ w'.cell? ⟨w.heap.size + 1, 0, none⟩ = some (.int .i64 a1_0)) (ds := [8]) #[false, false, false, false, false, false, false, false, false] (by kernel_rfl) rfl rfl ⟨(blk_cell (blk_drew BA2.out) 0).trans rfl, (blk_cell (blk_drew BB2.out) 0).trans rfl⟩ (fun hHeld => ?_)
 have HO3 := Aside0.mk (Kd.R_drew HO2.out)
 have BA3 := Aside0.mk (blk_drew BA2.out)
 have BB3 := Aside0.mk (blk_drew BB2.out)
 have BR3 := Aside0.mk (blk_drew BR2.out)
 have HW3 := Aside0.mk (below_drew1 HW2.out)
 have HZ3 := Aside0.mk (show w.heap.size + 4 ≤ w2.drew.heap.size from HZ2.out)
 clear HO2 BA2 BB2 BR2 HW2 HZ2
 generalize w2.drew = w3 at HO3 BA3 BB3 BR3 HW3 HZ3 hHeld ⊢
 refine p_ 0 14 (mk_ 9 0x1) ?_
 refine p_ 2 16 (mk_ 9 0x5) ?_
 refine t_ 1 15 (mk_ 9 0x7) hHeld ?_
 refine t_ 3 17 (mk_ 9 0xf) hHeld ?_
 refine p_ 4 18 (mk_ 9 0x1f) ?_
 refine p_ 5 19 (mk_ 9 0x3f) ?_
 refine one_ (i := 6) (N := some 20) #[true, true, true, true, true, true, true, false, false] rfl rfl (by kernel_rfl) (by decide) (fun K hK => ?_)
 refine goes_ Try.func84 (by kernel_rfl) rfl #[v1] (by rfl) rfl rfl (by (try simp only [List.map_toArray, List.map_cons, List.map_nil]); first | done | rfl) ?_
 refine (spc_compact w3 w3 (w.heap.size + 4) v1 (sortZ (l0_1 ++ l1_1)) _ HO3.out (Below.refl _ _) HZ3.out (by have := HL.out; simp [sortZ]; omega)).mono ?_
 rintro e w4 ⟨v4, rfl, ho4, hb4⟩
 refine ⟨_, rfl, ?_⟩
 have HO4 := Aside0.mk ho4
 have BA4 := Aside0.mk ((hb4.block _ (show w.heap.size < w.heap.size + 4 by omega)).trans BA3.out)
 have BB4 := Aside0.mk ((hb4.block _ (show w.heap.size + 1 < w.heap.size + 4 by omega)).trans BB3.out)
 have BR4 := Aside0.mk ((hb4.block _ (show w.heap.size + 1 + 1 < w.heap.size + 4 by omega)).trans BR3.out)
 have HZ4 := Aside0.mk (Nat.le_trans HZ3.out hb4.size)
 have HW4 := Aside0.mk (show Below w.heap.size w w4 from ⟨hb4.os.trans HW3.out.os, hb4.tape.trans HW3.out.tape, hb4.output.trans HW3.out.output, by have := HZ4.out; omega, fun k hk => (hb4.block k (by omega)).trans (HW3.out.block k hk)⟩)
 clear ho4 hb4 HO3 BA3 BB3 BR3 HZ3 HW3
 obtain ⟨A4, c4, e4⟩ := Kd.R_slice HO4.out
 subst e4
 refine hK.out _ _ ⟨(blk_cell BA4.out 0).trans rfl, (blk_cell BB4.out 0).trans rfl⟩ (fun hHeld => ?_)
 clear hK K
 refine norm_ (a' := ?_) ?_ ?_
 rotate_left
 ·show Act.put _ (some 20) _ = _
  simp only [Act.put, List.setIfInBounds_toArray, List.set_cons_zero, List.set_cons_succ, i64_w, i32_w]
  rfl
 refine one_ (i := 7) (N := some 21) #[true, true, true, true, true, true, true, true, false] rfl rfl (by kernel_rfl) (by decide) (fun K hK => ?_)
 refine goes_ Try.func83 (by kernel_rfl) rfl #[.int .i64 (mx a0_0 a1_0), .slice A4 (unionZ (l0_1 ++ l1_1)).length c4] (by rfl) rfl rfl (by (try simp only [List.map_toArray, List.map_cons, List.map_nil]); first | done | rfl) ?_
 refine (span_folded.calls k (mx a0_0 a1_0) A4 c4 (unionZ (l0_1 ++ l1_1)) r1 r2 w4 (Kd.R_reads' HO4.out).2.2 (Kd.R_reads' HO4.out).2.1 HF.out).mono ?_
 rintro e w5 ⟨v5, rfl, ho5, hb5⟩
 refine ⟨_, rfl, ?_⟩
 have HO5 := Aside0.mk (Kd.R_lower ho5 (below_size HW4.out : w.heap.size ≤ w4.heap.size))
 have BA5 := Aside0.mk ((hb5.block _ (show w.heap.size < w4.heap.size by have := HZ4.out; omega)).trans BA4.out)
 have BB5 := Aside0.mk ((hb5.block _ (show w.heap.size + 1 < w4.heap.size by have := HZ4.out; omega)).trans BB4.out)
 have BR5 := Aside0.mk ((hb5.block _ (show w.heap.size + 1 + 1 < w4.heap.size by have := HZ4.out; omega)).trans BR4.out)
 have HW5 := Aside0.mk (below_step HW4.out hb5)
 clear ho5 hb5 HO4 BA4 BB4 BR4 HZ4 HW4
 obtain ⟨A5, c5, e5⟩ := Kd.R_slice HO5.out
 subst e5
 refine hK.out _ _ ⟨(blk_cell BA5.out 0).trans rfl, (blk_cell BB5.out 0).trans rfl⟩ (fun hHeld => ?_)
 clear hK K
 refine norm_ (a' := ?_) ?_ ?_
 rotate_left
 ·show Act.put _ (some 21) _ = _
  simp only [Act.put, List.setIfInBounds_toArray, List.set_cons_zero, List.set_cons_succ, i64_w, i32_w]
  rfl
 refine last_ (i := 8) (N := none) #[true, true, true, true, true, true, true, true, true] rfl rfl (by kernel_rfl) (by decide) (fun K hK => ?_)
 have hs0 : w5.cell? ⟨w.heap.size + 1 + 1, 0, none⟩ = some (.int .i64 0) := (blk_cell BR5.out 0).trans rfl
 have hf0 := blk_frozen BR5.out 0
 have hs1 : w5.cell? ⟨w.heap.size + 1 + 1, 1, none⟩ = some (.slice none 0 0) := (blk_cell BR5.out 1).trans rfl
 have hf1 := blk_frozen BR5.out 1
 refine skip_ (w1 := ?_) (by rfl) rfl ?_ ?_
 rotate_left
 ·go_simp
  rfl
 refine hK.out _ _ ?_
 clear hK K
 refine done_ (by kernel_rfl) ?_
 have hge : w.heap.size ≤ w.heap.size + 1 + 1 := by omega
 have HG := Aside0.mk hge
 clear hge
 go_wp2_with fail
 all_goals (refine bodyPost_ret (results_cell_row rfl _ _ (w.heap.size + 1 + 1) 44 #[.int .i64 r1, .slice A5 r2.length c5] (0, 0) _ rfl (by refine blk_put (cs := #[.int .i64 r1, .slice none 0 0]) ?_ 1 _ rfl; refine blk_put (cs := #[.int .i64 0, .slice none 0 0]) ?_ 0 _ rfl; exact BR5.out) Try.underlying44 rfl (by kernel_rfl)) rfl ?_)
 all_goals exact ⟨_, rfl, Kd.R_mono (Kd.R_far (p := ⟨w.heap.size + 1 + 1, 1, none⟩) (Kd.R_far (p := ⟨w.heap.size + 1 + 1, 0, none⟩) (Kd.R_types HO5.out BR5.out (by decide)) (fun _ hk => hk.2) (.int .i64 r1)) (fun _ hk => hk.2) (.slice A5 r2.length c5)) (fun _ hk => trivial), below_set (below_set HW5.out HG.out) HG.out⟩

/-! ### know_with: function 47 -/
theorem mats_hov (w : World) (vb b off lb cb m vc : Nat) (tA tB : TypeId) (kA kB : Nat) (hvb : vb ≠ b) (hsa : w.shape? vb = some (tA, kA)) (hsb : w.shape? b = some (tB, kB)) (hkB : kB ≠ 0) (hfa : w.frozen? ⟨vb, 0, none⟩ = false) (hfe : w.frozen? ⟨vb, kA, none⟩ = false) :
  (callFunc 79 #[.slice (some ⟨vb, 0, none⟩) m vc, .slice (some ⟨b, off, none⟩) lb cb]).run Try.prog w = .ok (.value (.bool false)) w := by
 rw [run_callFunc_extern Try.func79 (by kernel_rfl) (by kernel_rfl) (by kernel_rfl) (e := Extern.SlicesOverlaps.overlaps #[30, 30] #[4]) (by kernel_rfl),
  Lib.run_overlaps_apart w 30 4 61 Try.underlying30 3 (fun w => by obtain ⟨i0, hi, h0, h1, h2⟩ := info_parts info61; simp [sizeOf, typeInfo, hi, h1]) ⟨vb, 0, none⟩ ⟨b, off, none⟩ m vc lb cb hvb tA tB kA kB hsa hsb hkB hfa hfe]
 rfl
set_option maxHeartbeats 4000000 in
set_option maxRecDepth 100000 in
theorem mats_insert_room (w : World) (base : Nat) (ok okp : Nat → Prop) (g cap : Nat) (cur : Array Value) (l : List RW) (i : Nat) (x : RW) (cs : List Value) (vb : Nat) (tv : TypeId)
  (hg : base ≤ g) (hk : ok g) (hh : w.heap[g]? = some (.cells cur 61 (0, 0))) (hc : l.length + 1 ≤ cap) (h3 : cap ≤ maxLen) (h4 : cur.size = cap * 3) (hp : Reps (Kd.M kRW w base (fun k => ok k ∧ k ≠ g)) 3 l (cur.toList.take (l.length * 3)))
  (hi : i < l.length) (hx : Kd.M kRW w base okp x cs) (hokp : ∀ k, okp k → ok k ∧ k ≠ g) (hv : w.heap[vb]? = some (.cells cs.toArray tv (0, 0))) (hvb : vb ≠ g) :
  Calls Try.prog 68 #[.slice (some ⟨g, 0, none⟩) l.length cap, .int .i64 i, .slice (some ⟨vb, 0, none⟩) 1 1] w fun e w' => ∃ v' : Value, e = .returned v' ∧ Kd.R kRW 61 w' base ok v' (l.take i ++ x :: l.drop i) ∧ w.grownBy w' (some g) := by
 obtain ⟨i0, hi0, hz0, hsz0, hby0⟩ := info_parts info61
 have hR : Kd.R kRW 61 ((w.drew.setCells g ((i + 1) * 3) ((cur.toList.take (l.length * 3)).drop (i * 3))).setCells g (i * 3) cs) base ok (.slice (some ⟨g, 0, none⟩) (l.length + 1) cap) (l.take i ++ x :: l.drop i) ∧ w.grownBy ((w.drew.setCells g ((i + 1) * 3) ((cur.toList.take (l.length * 3)).drop (i * 3))).setCells g (i * 3) cs) (some g) := R_insert_room (d := kRW) (e := 61) hg hk hh hc h3 h4 hp (Nat.le_of_lt hi) hx hokp 1
 have hcl : cs.length = 3 := (Kd.K_len kRW (Kd.K_of_M kRW hx))
 have h1v : ∀ u ∈ cs, u.oneCell' = true := Kd.K_one kRW (Kd.K_of_M kRW hx)
 have h1c := cells_one (d := kRW) hp (by decide : 0 < 3)
 have hil : (cur.toList.take (l.length * 3)).length = l.length * 3 := hp.1
 generalize hinner : cur.toList.take (l.length * 3) = inner at hR h1c hil
 have hM : maxLen = 9223372036854775807 := rfl
 have hm0 : cap ≤ 9223372036854775807 := by rw [← hM]; exact h3
 have hcell : ∀ j u, inner[j]? = some u → w.cell? ⟨g, j, none⟩ = some u := fun j u hj => by
  rw [blk_cell hh j, ← Array.getElem?_toList]
  rw [← hinner, List.getElem?_take] at hj
  split at hj
  ·exact hj
  ·cases hj
 have hsp : ∀ j, j < cap * 3 → (w.cell? ⟨g, j, none⟩).isSome = true := fun j hj => by
  rw [blk_cell hh j, Array.getElem?_eq_getElem (by omega)]; rfl
 have hfz : ∀ j, w.frozen? ⟨g, j, none⟩ = false := fun j => blk_frozen hh j
 have hvs : ∀ j u, cs[j]? = some u → w.cell? ⟨vb, j, none⟩ = some u := fun j u hj => by
  rw [blk_cell hv j]; simpa using hj
 have hsa : w.shape? vb = some (tv, cs.length) := by simp [World.shape?, hv]
 have hsb : w.shape? g = some (61, cap * 3) := by simp [World.shape?, hh, h4]
 have hov : ∀ W lb cb, (∀ k, W.heap[k]? = w.heap[k]?) → (callFunc 79 #[.slice (some ⟨vb, 0, none⟩) 1 1, .slice (some ⟨g, (i + 1) * 3, none⟩) lb cb]).run Try.prog W = .ok (.value (.bool false)) W := fun W lb cb hW =>
  mats_hov W vb g ((i + 1) * 3) lb cb 1 1 tv 61 cs.length (cap * 3) hvb (by unfold World.shape? at hsa ⊢; rw [hW]; exact hsa) (by unfold World.shape? at hsb ⊢; rw [hW]; exact hsb) (by omega) (by unfold World.frozen?; simp [hW, hv]) (by unfold World.frozen?; simp [hW, hv])
 have hdl : (inner.drop (i * 3)).length = (l.length - i) * 3 := by rw [List.length_drop, hil, Nat.sub_mul]
 have hsz : (Try.prog.info? 61).map (·.size) = some 3 := by rw [hi0]; simp [hsz0]
 have hcp1 : ∀ (W : World), (∀ a, W.cell? a = w.cell? a) → (∀ a, W.frozen? a = w.frozen? a) → ∀ ty dc sc, (Builtin.copy_ #[31, 31] ty #[.slice (some ⟨g, (i + 1) * 3, none⟩) (l.length - i) dc, .slice (some ⟨g, i * 3, none⟩) (l.length + 1 - i) sc]).run Try.prog W = .ok (goInt (l.length - i : Nat)) (W.setCells g ((i + 1) * 3) (inner.drop (i * 3))) := fun W hW hF ty dc sc => by
  have := run_copy_k (P := Try.prog) W 31 31 ty 61 3 g ((i + 1) * 3) (l.length - i) dc ⟨g, i * 3, none⟩ (l.length + 1 - i) sc (inner.drop (i * 3)) Try.underlying31 hsz (by rw [hdl]; congr 1; simp only [Nat.min_def]; split <;> omega)
   (fun j u hj => by rw [Addr.add_lit, hW]; exact hcell _ u (by rwa [List.getElem?_drop] at hj))
   (fun j hj => by rw [hW]; exact hsp _ (by omega)) (fun j hj => by rw [hF]; exact hfz _) (fun u hu => h1c u (List.mem_of_mem_drop hu))
  rw [this]
  congr 2
  simp only [Nat.min_def]; split <;> omega
 have hcp2 : ∀ (W : World), (∀ a, W.cell? a = (w.setCells g ((i + 1) * 3) (inner.drop (i * 3))).cell? a) → (∀ a, W.frozen? a = w.frozen? a) → ∀ ty dc sc, (Builtin.copy_ #[31, 30] ty #[.slice (some ⟨g, i * 3, none⟩) (l.length + 1 - i) dc, .slice (some ⟨vb, 0, none⟩) 1 sc]).run Try.prog W = .ok (goInt (1 : Nat)) (W.setCells g (i * 3) cs) := fun W hW hF ty dc sc => by
  have := run_copy_k (P := Try.prog) W 31 30 ty 61 3 g (i * 3) (l.length + 1 - i) dc ⟨vb, 0, none⟩ 1 sc cs Try.underlying31 hsz (by rw [hcl]; simp only [Nat.min_def]; split <;> omega)
   (fun j u hj => by rw [Addr.add_lit, Nat.zero_add, hW, World.cell?_setCells_out _ _ _ _ _ (fun h _ => absurd h hvb)]; exact hvs _ u hj)
   (fun j hj => by
    rw [hW]
    by_cases hin : (i + 1) * 3 ≤ i * 3 + j
    ·omega
    ·rw [World.cell?_setCells_out _ _ _ _ _ (fun _ _ => Or.inl (by show i * 3 + j < (i + 1) * 3; omega))]
     exact hsp _ (by omega))
   (fun j hj => by rw [hF]; exact hfz _) h1v
  rw [this]
  congr 2
  simp only [Nat.min_def]; split <;> omega
 have e1 : ((i : Int) + 1) = ((i + 1 : Nat) : Int) := by omega
 have hw1 : IntKind.i64.wrap ((i : Int) + 1) = (i : Int) + 1 := by rw [IntKind.wrap_i64]; omega
 have hw2 : IntKind.i64.wrap ((l.length : Int) + 1) = (l.length : Int) + 1 := by rw [IntKind.wrap_i64]; omega
 have c1 := cut_from (P := Try.prog) 31 61 .i64 Try.underlying31 hi0 3 hsz0 (some ⟨g, 0, none⟩) l.length cap (i : Int) (by omega) (by omega)
 have c2 : ∀ W : World, (Instr.slice 31 (.slice (some ⟨g, 0, none⟩) l.length cap) none (some (.int .i64 ((l.length : Int) + 1))) none).run Try.prog W = .ok (.slice (some ⟨g, 0, none⟩) (l.length + 1) cap) W := by
  intro W
  have hel : (Try.prog).elem 31 = 61 := by simp [Program.elem, Try.underlying31]
  rw [run_slice_h W 31 (some ⟨g, 0, none⟩) l.length cap (by rw [hel]; exact Try.underlying31) .i64 ((l.length : Int) + 1) (by omega) (by omega), hel]
  simp [sizeOf, typeInfo, hi0, sliced, Result.andThen, Addr.add]
 have c3 : ∀ W : World, (Instr.slice 31 (.slice (some ⟨g, 0, none⟩) (l.length + 1) cap) (some (.int .i64 ((i : Int) + 1))) none none).run Try.prog W = .ok (.slice (some ⟨g, (i + 1) * 3, none⟩) (l.length - i) (cap - (i + 1))) W := by
  intro W
  rw [e1, cut_from (P := Try.prog) 31 61 .i64 Try.underlying31 hi0 3 hsz0 (some ⟨g, 0, none⟩) (l.length + 1) cap ((i + 1 : Nat) : Int) (by omega) (by omega) W, Int.toNat_natCast, if_neg (by omega), Option.map_some, Addr.add_lit, Nat.zero_add, show l.length + 1 - (i + 1) = l.length - i by omega]
 have c4 : ∀ W : World, (Instr.slice 31 (.slice (some ⟨g, 0, none⟩) (l.length + 1) cap) (some (.int .i64 (i : Int))) none none).run Try.prog W = .ok (.slice (some ⟨g, i * 3, none⟩) (l.length + 1 - i) (cap - i)) W := by
  intro W
  rw [cut_from (P := Try.prog) 31 61 .i64 Try.underlying31 hi0 3 hsz0 (some ⟨g, 0, none⟩) (l.length + 1) cap (i : Int) (by omega) (by omega) W, Int.toNat_natCast, if_neg (by omega), Option.map_some, Addr.add_lit, Nat.zero_add]
 have hb1 : decide ((1 : Int) = 0) = false := rfl
 have hb2 : decide ((i : Int) = (l.length : Int)) = false := by simp; omega
 have hb3 : decide ((cap : Int) < (l.length : Int) + 1) = false := by simp; omega
 have hovw := fun lb cb => hov w lb cb (fun _ => rfl)
 have HR := Aside0.mk hR
 clear hR hov e1
 go_enter Try.func68, Try.ntmps68
 go_wp2_with (simp only [hovw])
 have hc1 := hcp1 w.drew (fun _ => rfl) (fun _ => rfl) 3 (cap - (i + 1)) (cap - i)
 have hc2 := hcp2 (w.drew.setCells g ((i + 1) * 3) (inner.drop (i * 3))) (fun _ => by rw [← drew_setCells]; rfl) (fun _ => World.frozen?_setCells _ _ _ _ _) 3 (cap - i) 1
 have mixed : (Try.prog).follows .mixedOrders = true := rfl
 go_region_law_o (refine step_copy_runI rfl _ _ 31 31 rfl (.slice (some ⟨g, (i + 1) * 3, none⟩) (l.length - i) (cap - (i + 1))) (.slice (some ⟨g, i * 3, none⟩) (l.length + 1 - i) (cap - i)) (by simp [Act.eval, Act.put]) (by simp [Act.eval, Act.put]) hc1 ?_)
 clear hc1
 go_wp2_with (at_builtin; refine wpList_copy_runI _ rfl _ _ 31 30 rfl _ _ rfl rfl hc2 ?_)
 go_ret
 exact ⟨_, rfl, HR.out.1, HR.out.2⟩
set_option maxHeartbeats 4000000 in
set_option maxRecDepth 100000 in
theorem mats_insert_grow (w : World) (base : Nat) (ok okp : Nat → Prop) (g cap : Nat) (cur : Array Value) (l : List RW) (i : Nat) (x : RW) (cs : List Value) (vb : Nat) (tv : TypeId)
  (hbase : base ≤ w.heap.size) (hfresh : ∀ k, w.heap.size ≤ k → ok k) (hh : w.heap[g]? = some (.cells cur 61 (0, 0))) (hnc : l.length ≤ cap) (hc : cap < l.length + 1) (h4 : cur.size = cap * 3) (hp : Reps (Kd.M kRW w base (fun k => ok k ∧ k ≠ g)) 3 l (cur.toList.take (l.length * 3)))
  (hi : i < l.length) (hx : Kd.M kRW w base okp x cs) (hokp : ∀ k, okp k → ok k ∧ k ≠ g) (hv : w.heap[vb]? = some (.cells cs.toArray tv (0, 0))) (hvb : vb ≠ g) (hbig : (l.length + 1) * 48 ≤ 140737488355328) :
  Calls Try.prog 68 #[.slice (some ⟨g, 0, none⟩) l.length cap, .int .i64 i, .slice (some ⟨vb, 0, none⟩) 1 1] w fun e w' => ∃ v' : Value, e = .returned v' ∧ Kd.R kRW 61 w' base ok v' (l.take i ++ x :: l.drop i) ∧ w.grownBy w' none := by
 obtain ⟨i0, hi0, hz0, hsz0, hby0⟩ := info_parts info61
 have hcl : cs.length = 3 := (Kd.K_len kRW (Kd.K_of_M kRW hx))
 have h1v : ∀ u ∈ cs, u.oneCell' = true := Kd.K_one kRW (Kd.K_of_M kRW hx)
 have h1c := cells_one (d := kRW) hp (by decide : 0 < 3)
 have hil : (cur.toList.take (l.length * 3)).length = l.length * 3 := hp.1
 generalize hinner : cur.toList.take (l.length * 3) = inner at hp h1c hil
 have hcell : ∀ j u, inner[j]? = some u → w.cell? ⟨g, j, none⟩ = some u := fun j u hj => by
  rw [blk_cell hh j, ← Array.getElem?_toList]
  rw [← hinner, List.getElem?_take] at hj
  split at hj
  ·exact hj
  ·cases hj
 have hvs : ∀ j u, cs[j]? = some u → w.cell? ⟨vb, j, none⟩ = some u := fun j u hj => by
  rw [blk_cell hv j]; simpa using hj
 have hgw : g < w.heap.size := blk_lt hh
 have hvw : vb < w.heap.size := blk_lt hv
 have hsz : (Try.prog.info? 61).map (·.size) = some 3 := by rw [hi0]; simp [hsz0]
 have hdl : (inner.drop (i * 3)).length = (l.length - i) * 3 := by rw [List.length_drop, hil, Nat.sub_mul]
 have hik : i + (l.length + 1 - i) = l.length + 1 := by omega
 have hkk : (l.length : Int) + 1 - (i : Int) = ((l.length + 1 - i : Nat) : Int) := by omega
 have hold : (Builtin.firstCells i0.size i (.slice (some ⟨g, 0, none⟩) i cap)).run Try.prog w.drew = .ok (inner.take (i * 3)).toArray w.drew := by
  rw [hsz0]
  exact run_firstCells_some w.drew 3 i ⟨g, 0, none⟩ i cap (inner.take (i * 3)) (by rw [List.length_take, hil]; omega) (fun j v hj => by
   rw [Addr.add_lit, Nat.zero_add]
   rw [List.getElem?_take] at hj
   split at hj
   ·exact hcell j v hj
   ·cases hj)
 have hrz := Lib.run_append_grow_zeros (P := Try.prog) w 31 3 31 61 i0 _ .i64 .i64 Try.underlying31 Try.underlying3 hi0 hz0 (some ⟨g, 0, none⟩) i cap (inner.take (i * 3)) hold (l.length + 1 - i) (by omega) (by omega) (by omega) (by omega) (by rw [hby0]; omega) (by rw [hby0, hik]; exact growslice_fits hc hbig)
 rw [hik, ← hkk] at hrz
 have hGn : l.length + 1 ≤ grownCap w (l.length + 1) cap 61 := grownCap_ge w _ _ _
 have hG63 : grownCap w (l.length + 1) cap 61 ≤ maxLen := grownCap_le_maxLen w (l.length + 1) cap 61 (by unfold maxLen; omega)
 generalize grownCap w (l.length + 1) cap 61 = G at hrz hGn hG63
 generalize hROW : (inner.take (i * 3)).toArray ++ Builtin.zeroCells _ (l.length + 1 - i) ++ Builtin.zeroCells _ (G - (l.length + 1)) = ROW at hrz
 have hRl : ROW.size = G * 3 := by
  rw [← hROW]
  simp [Builtin.zeroCells, Value.cells, hil]
  omega
 have hrow : ROW.toList.take (i * 3) = inner.take (i * 3) := by
  rw [← hROW]
  simp only [Array.toList_append, List.append_assoc]
  rw [List.take_append_of_le_length (by rw [List.length_take, hil]; omega), List.take_take, Nat.min_self]
 have hR : Kd.R kRW 61 (((w.alloc (.cells ROW 61)).drew.setCells w.heap.size (i * 3) cs).drew.setCells w.heap.size ((i + 1) * 3) (inner.drop (i * 3))) base ok (.slice (some ⟨w.heap.size, 0, none⟩) (l.length + 1) G) (l.take i ++ x :: l.drop i) ∧ w.grownBy (((w.alloc (.cells ROW 61)).drew.setCells w.heap.size (i * 3) cs).drew.setCells w.heap.size ((i + 1) * 3) (inner.drop (i * 3))) none :=
  R_insert_grow (d := kRW) (e := 61) hbase hfresh hGn hG63 hRl (hp.imp_ fun _ _ hq => Kd.M_mono kRW (fun k hk => hk.1) hq) hrow (Nat.le_of_lt hi) (Kd.M_mono kRW (fun k hk => (hokp k hk).1) hx) 1 1
 have HR := Aside0.mk hR
 clear hR hROW hrow hp hx hokp hold
 obtain ⟨W1, hW1⟩ : ∃ W1, W1 = (w.alloc (.cells ROW 61)).drew := ⟨_, rfl⟩
 have hN : ∀ j, j < (l.length + 1) * 3 → (W1.cell? ⟨w.heap.size, j, none⟩).isSome = true := fun j hj => by
  rw [hW1]
  show ((w.alloc (.cells ROW 61)).cell? ⟨w.heap.size, j, none⟩).isSome = true
  rw [blk_cell (blk_new w (.cells ROW 61)) j, Array.getElem?_eq_getElem (by omega)]; rfl
 have hNf : ∀ j, W1.frozen? ⟨w.heap.size, j, none⟩ = false := fun j => by rw [hW1]; exact blk_frozen (blk_new w (.cells ROW 61)) j
 have hOb : ∀ j u, w.cell? ⟨g, j, none⟩ = some u → W1.cell? ⟨g, j, none⟩ = some u := fun j u h => by
  rw [hW1]; exact (((Below.refl w.heap.size w).alloc (Nat.le_refl _) (.cells ROW 61)).cell (p := ⟨g, j, none⟩) hgw).trans h
 have hOv : ∀ j u, w.cell? ⟨vb, j, none⟩ = some u → W1.cell? ⟨vb, j, none⟩ = some u := fun j u h => by
  rw [hW1]; exact (((Below.refl w.heap.size w).alloc (Nat.le_refl _) (.cells ROW 61)).cell (p := ⟨vb, j, none⟩) hvw).trans h
 have hcpA : ∀ (W : World), (∀ a, W.cell? a = W1.cell? a) → (∀ a, W.frozen? a = W1.frozen? a) → ∀ ty dc sc, (Builtin.copy_ #[31, 30] ty #[.slice (some ⟨w.heap.size, i * 3, none⟩) (l.length + 1 - i) dc, .slice (some ⟨vb, 0, none⟩) 1 sc]).run Try.prog W = .ok (goInt (1 : Nat)) (W.setCells w.heap.size (i * 3) cs) := fun W hW hF ty dc sc => by
  have := run_copy_k (P := Try.prog) W 31 30 ty 61 3 w.heap.size (i * 3) (l.length + 1 - i) dc ⟨vb, 0, none⟩ 1 sc cs Try.underlying31 hsz (by rw [hcl]; simp only [Nat.min_def]; split <;> omega)
   (fun j u hj => by rw [Addr.add_lit, Nat.zero_add, hW]; exact hOv _ u (hvs _ u hj))
   (fun j hj => by rw [hW]; exact hN _ (by omega)) (fun j hj => by rw [hF]; exact hNf _) h1v
  rw [this]
  congr 2
  simp only [Nat.min_def]; split <;> omega
 have hgN : g ≠ w.heap.size := by omega
 have hcpB : ∀ (W : World), (∀ a, W.cell? a = (W1.setCells w.heap.size (i * 3) cs).cell? a) → (∀ a, W.frozen? a = W1.frozen? a) → ∀ ty dc sc, (Builtin.copy_ #[31, 31] ty #[.slice (some ⟨w.heap.size, (i + 1) * 3, none⟩) (l.length - i) dc, .slice (some ⟨g, i * 3, none⟩) (l.length - i) sc]).run Try.prog W = .ok (goInt (l.length - i : Nat)) (W.setCells w.heap.size ((i + 1) * 3) (inner.drop (i * 3))) := fun W hW hF ty dc sc => by
  have := run_copy_k (P := Try.prog) W 31 31 ty 61 3 w.heap.size ((i + 1) * 3) (l.length - i) dc ⟨g, i * 3, none⟩ (l.length - i) sc (inner.drop (i * 3)) Try.underlying31 hsz (by rw [hdl]; simp)
   (fun j u hj => by
    rw [Addr.add_lit, hW, World.cell?_setCells_out _ _ _ _ _ (fun h _ => absurd h hgN)]
    exact hOb _ u (hcell _ u (by rwa [List.getElem?_drop] at hj)))
   (fun j hj => by rw [hW]; exact isSome_setCells _ _ _ _ (fun t ht => hN _ (by omega)) _ (hN _ (by omega)))
   (fun j hj => by rw [hF]; exact hNf _) (fun u hu => h1c u (List.mem_of_mem_drop hu))
  rw [this]
  congr 2
  simp
 have hw1 : IntKind.i64.wrap ((i : Int) + 1) = (i : Int) + 1 := by rw [IntKind.wrap_i64]; omega
 have hw2 : IntKind.i64.wrap ((l.length : Int) + 1) = (l.length : Int) + 1 := by rw [IntKind.wrap_i64]; omega
 have hw3 : IntKind.i64.wrap ((l.length : Int) + 1 - (i : Int)) = (l.length : Int) + 1 - (i : Int) := by rw [IntKind.wrap_i64]; omega
 have c1 : ∀ W : World, (Instr.slice 31 (.slice (some ⟨g, 0, none⟩) l.length cap) (some (.int .i64 (i : Int))) none none).run Try.prog W = .ok (.slice (some ⟨g, i * 3, none⟩) (l.length - i) (cap - i)) W := by
  intro W
  rw [cut_from (P := Try.prog) 31 61 .i64 Try.underlying31 hi0 3 hsz0 (some ⟨g, 0, none⟩) l.length cap (i : Int) (by omega) (by omega) W, Int.toNat_natCast, if_neg (by omega), Option.map_some, Addr.add_lit, Nat.zero_add]
 have c2 := cut_to (P := Try.prog) 31 61 .i64 Try.underlying31 hi0 (some ⟨g, 0, none⟩) l.length cap (i : Int) (by omega) (by omega) (by omega)
 rw [Int.toNat_natCast] at c2
 have c3 : ∀ W : World, (Instr.slice 31 (.slice (some ⟨w.heap.size, 0, none⟩) (l.length + 1) G) (some (.int .i64 (i : Int))) none none).run Try.prog W = .ok (.slice (some ⟨w.heap.size, i * 3, none⟩) (l.length + 1 - i) (G - i)) W := by
  intro W
  rw [cut_from (P := Try.prog) 31 61 .i64 Try.underlying31 hi0 3 hsz0 (some ⟨w.heap.size, 0, none⟩) (l.length + 1) G (i : Int) (by omega) (by omega) W, Int.toNat_natCast, if_neg (by omega), Option.map_some, Addr.add_lit, Nat.zero_add]
 have c4 : ∀ W : World, (Instr.slice 31 (.slice (some ⟨w.heap.size, 0, none⟩) (l.length + 1) G) (some (.int .i64 ((i : Int) + 1))) none none).run Try.prog W = .ok (.slice (some ⟨w.heap.size, (i + 1) * 3, none⟩) (l.length - i) (G - (i + 1))) W := by
  intro W
  rw [show ((i : Int) + 1) = ((i + 1 : Nat) : Int) by omega, cut_from (P := Try.prog) 31 61 .i64 Try.underlying31 hi0 3 hsz0 (some ⟨w.heap.size, 0, none⟩) (l.length + 1) G ((i + 1 : Nat) : Int) (by omega) (by omega) W, Int.toNat_natCast, if_neg (by omega), Option.map_some, Addr.add_lit, Nat.zero_add, show l.length + 1 - (i + 1) = l.length - i by omega]
 have hb1 : decide ((1 : Int) = 0) = false := rfl
 have hb2 : decide ((i : Int) = (l.length : Int)) = false := by simp; omega
 have hb3 : decide ((cap : Int) < (l.length : Int) + 1) = true := by simp; omega
 have ha := hcpA W1 (fun _ => rfl) (fun _ => rfl) 3 (G - i) 1
 have hb := hcpB ((W1.setCells w.heap.size (i * 3) cs).drew) (fun _ => rfl) (fun _ => World.frozen?_setCells _ _ _ _ _) 3 (G - (i + 1)) (cap - i)
 subst hW1
 have mixed : (Try.prog).follows .mixedOrders = true := rfl
 clear hcpA hcpB hOb hOv hN hNf hcell hvs h1c h1v hkk hik hdl hil hcl
 go_enter Try.func68, Try.ntmps68
 go_wp2_with (first
  | (at_builtin; refine Lib.wpList_append_run _ rfl _ _ _ _ rfl _ _ rfl rfl _ _ hrz ?_)
  | (at_builtin; refine wpList_copy_runI _ rfl _ _ 31 30 rfl _ _ rfl rfl ha ?_))
 go_region_law_o (refine step_copy_runI rfl _ _ 31 31 rfl (.slice (some ⟨w.heap.size, (i + 1) * 3, none⟩) (l.length - i) (G - (i + 1))) (.slice (some ⟨g, i * 3, none⟩) (l.length - i) (cap - i)) (by simp [Act.eval, Act.put]) (by simp [Act.eval, Act.put]) hb ?_)
 go_wp2
 go_ret
 exact ⟨_, rfl, HR.out.1, HR.out.2⟩
set_option maxHeartbeats 4000000 in
set_option maxRecDepth 100000 in
theorem mats_insert_end (w : World) (base : Nat) (ok okp : Nat → Prop) (A : Option Addr) (cap : Nat) (l : List RW) (x : RW) (cs : List Value) (vb : Nat) (tv : TypeId)
  (hbase : base ≤ w.heap.size) (hfresh : ∀ k, w.heap.size ≤ k → ok k) (ho : Kd.R kRW 61 w base ok (.slice A l.length cap) l)
  (hx : Kd.M kRW w base okp x cs) (hokp : ∀ k, okp k → ok k ∧ some k ≠ (Value.slice A l.length cap).ownBlock) (hv : w.heap[vb]? = some (.cells cs.toArray tv (0, 0))) (hbig : (l.length + 1) * 48 ≤ 140737488355328) :
  Calls Try.prog 68 #[.slice A l.length cap, .int .i64 (l.length : Int), .slice (some ⟨vb, 0, none⟩) 1 1] w fun e w' => ∃ v' : Value, e = .returned v' ∧ Kd.R kRW 61 w' base ok v' (l ++ [x]) ∧ Below base w w' ∧ w.grownBy w' (Value.slice A l.length cap).ownBlock := by
 obtain ⟨i0, hi0, hz0, hsz0, hby0⟩ := info_parts info61
 have hcl : cs.length = 3 := (Kd.K_len kRW (Kd.K_of_M kRW hx))
 obtain ⟨v1, w1, hrun, hR1, hg1⟩ := R_append_one_run (P := Try.prog) kRW 31 30 31 61 61 i0 _ 48 Try.underlying31 Try.underlying30 hi0 hz0 hsz0 hby0 rfl (by decide) (by decide) ho hx hokp hfresh (a := ⟨vb, 0, none⟩) (fun j u hj => by rw [Addr.add_lit, Nat.zero_add, blk_cell hv]; simpa using hj) 1 hbase hbig
 have hB : Below base w w1 := (Below.refl base w).grown hg1 hbase (Kd.R_base ho)
 obtain ⟨cc, hcut⟩ : ∃ cc : Option Addr, ∀ W : World, (Instr.slice 31 (.slice A l.length cap) (some (.int .i64 (l.length : Int))) none none).run Try.prog W = .ok (.slice cc (l.length - l.length) (cap - l.length)) W := by
  exact ⟨_, cut_from (P := Try.prog) 31 61 .i64 Try.underlying31 hi0 3 hsz0 A l.length cap (l.length : Int) (by omega) (by omega)⟩
 rw [Nat.sub_self] at hcut
 have hb1 : decide ((1 : Int) = 0) = false := rfl
 have HR := Aside0.mk hR1
 have HB := Aside0.mk hB
 have HG := Aside0.mk hg1
 have HN := Aside0.mk hrun
 clear ho hx hokp hv hcl hR1 hB hg1 hrun hz0 hi0
 go_enter Try.func68, Try.ntmps68
 go_wp2_with (at_builtin; refine Lib.wpList_append_run _ rfl _ _ _ _ rfl _ _ rfl rfl _ _ HN.out ?_)
 go_ret
 exact ⟨_, rfl, HR.out, HB.out, HG.out⟩
theorem mats_insertk (w : World) (base : Nat) (ok okp : Nat → Prop) (v : Value) (l : List RW) (i : Nat) (x : RW) (cs : List Value) (vb : Nat) (tv : TypeId)
  (ho : Kd.R kRW 61 w base ok v l) (hi : i ≤ l.length) (hbase : base ≤ w.heap.size) (hfresh : ∀ k, w.heap.size ≤ k → ok k) (hx : Kd.M kRW w base okp x cs) (hokp : ∀ k, okp k → ok k ∧ some k ≠ v.ownBlock) (hv : w.heap[vb]? = some (.cells cs.toArray tv (0, 0))) (hvb : some vb ≠ v.ownBlock) (hbig : (l.length + 1) * 48 ≤ 140737488355328) :
  Calls Try.prog 68 #[v, .int .i64 i, .slice (some ⟨vb, 0, none⟩) 1 1] w fun e w' => ∃ v' : Value, e = .returned v' ∧ Kd.R kRW 61 w' base ok v' (l.take i ++ x :: l.drop i) ∧ Below base w w' ∧ ∀ k, k < w.heap.size → some k ≠ v.ownBlock → w'.heap[k]? = w.heap[k]? := by
 by_cases he : i = l.length
 ·obtain ⟨A, c, rfl⟩ := Kd.R_slice ho
  subst he
  rw [List.take_of_length_le (Nat.le_refl _), List.drop_of_length_le (Nat.le_refl _)]
  refine (mats_insert_end w base ok okp A c l x cs vb tv hbase hfresh ho hx hokp hv hbig).mono ?_
  rintro e w' ⟨v', rfl, hR, hB, hG⟩
  exact ⟨v', rfl, hR, hB, fun k hk hne => hG.block k hk hne⟩
 ·have hlt : i < l.length := by omega
  obtain ⟨g, cap, cur, rfl, hg, hk, hh, h2, h3, h4, hp⟩ := R_open ho (fun e => by rw [e] at hlt; simp at hlt)
  have hokp' : ∀ k, okp k → ok k ∧ k ≠ g := fun k hk => ⟨(hokp k hk).1, fun e => (hokp k hk).2 (by rw [e]; rfl)⟩
  have hvb' : vb ≠ g := fun e => hvb (by rw [e]; rfl)
  by_cases hc : l.length + 1 ≤ cap
  ·refine (mats_insert_room w base ok okp g cap cur l i x cs vb tv hg hk hh hc h3 h4 hp hlt hx hokp' hv hvb').mono ?_
   rintro e w' ⟨v', rfl, hR, hG⟩
   exact ⟨v', rfl, hR, (Below.refl base w).grown hG hbase (fun k e => by injection e with e; omega), fun k hk hne => hG.block k hk hne⟩
  ·refine (mats_insert_grow w base ok okp g cap cur l i x cs vb tv hbase hfresh hh h2 (by omega) h4 hp hlt hx hokp' hv hvb' hbig).mono ?_
   rintro e w' ⟨v', rfl, hR, hG⟩
   exact ⟨v', rfl, hR, (Below.refl base w).grown hG hbase (fun k e => by cases e), fun k hk _ => hG.block k hk (by simp)⟩
theorem cell_below {w W : World} {a : Addr} {v : Value} (h : w.cell? a = some v) (hb : Below w.heap.size w W) : W.cell? a = some v := (hb.cell (World.block_lt_of_cell? w _ h)).trans h
theorem cell_drew {w : World} {a : Addr} {v : Value} (h : w.cell? a = some v) : w.drew.cell? a = some v := cell_below h (below_drew1 (Below.refl _ _))
theorem OWm.below {w w1 : World} {base : Nat} {v : Value} {rs : List RW} {xs : List S61} (h : OWm w base v rs xs) (hb : Below w.heap.size w w1) : OWm w1 base v rs xs := ⟨Kd.R_below h.1 hb, INs.below h.2 hb⟩
theorem OWm.view {w : World} {base b : Nat} {v : Value} {rs : List RW} {xs : List S61} (h : OWm w base v rs xs) : Kd.V k61 61 w b (fun k => base ≤ k) v xs := lead_view lead_m h.1 h.2 (fun k hk => hk.2)
theorem OWm.lower {w : World} {base b : Nat} {v : Value} {rs : List RW} {xs : List S61} (h : OWm w base v rs xs) (hb : b ≤ base) : OWm w b v rs xs := ⟨Kd.R_lower h.1 hb, INs.mono h.2 (fun k hk => ⟨hk.1, Nat.le_trans hb hk.2⟩)⟩
theorem OWm.store {w : World} {base g n c : Nat} {rs : List RW} {xs : List S61} (h : OWm w base (.slice (some ⟨g, 0, none⟩) n c) rs xs) {i : Nat} (hi : i < n) {s : ByteArray} (hs : (xs.getD i z61).f0 = s) (m : Int) {A2 : Option Addr} {c2 : Nat} {J : List Int} (hc2 : J.length ≤ c2) (hF : Kd.F (Kd.int .i64) w (fun k => k ≠ g ∧ base ≤ k) A2 J.length J) :
  OWm ((w.setCell ⟨g, i * 3 + 1, none⟩ (.int .i64 m)).setCell ⟨g, i * 3 + 2, none⟩ (.slice A2 J.length c2)) base (.slice (some ⟨g, 0, none⟩) n c) (rs.set i ⟨s, m, A2, J.length, c2⟩) (xs.set i ⟨s, ⟨m, J⟩⟩) := by
 obtain ⟨h1, h2⟩ := h
 have hl := F2.len h2
 have hn := (Kd.R_reads' h1).1
 obtain ⟨cc, hcl, hM, hcc, -⟩ := Kd.R_elem h1 zRW (i : Int) (by omega) (by omega)
 obtain rfl := kRW_openM hM
 have hres := Kd.R_seg (d := kRW) (W := w) (okp := fun _ => False) h1 (i : Int) (by omega) (by omega) (seg := [.int .i64 m, .slice A2 J.length c2]) (j := 1) hcl hcc (show 1 + 2 ≤ 3 by decide) (x' := ⟨s, m, A2, J.length, c2⟩) (by
  have he : (rs.getD (i : Int).toNat zRW).f0 = s := by rw [Int.toNat_natCast, ← hs]; exact INs.f0 h2 z61 rfl i
  rw [he]
  exact kRW_mkM _ _ _ _) (fun _ h => h.elim)
 rw [Int.toNat_natCast] at hres
 have hfar : ∀ k, k ≠ g → ((w.setCell ⟨g, i * 3 + 1, none⟩ (.int .i64 m)).setCell ⟨g, i * 3 + 2, none⟩ (.slice A2 J.length c2)).heap[k]? = w.heap[k]? := fun k hk => (Below.heap_setCell _ _ _ _ hk).trans (Below.heap_setCell _ _ _ _ hk)
 refine ⟨hres.1, F2.set (INs.step h2 (fun k hk _ => hfar k (fun he => hk.1 (by rw [he]; simp [Value.ownBlock])))) ⟨rfl, rfl, rfl, hc2, ?_⟩⟩
 exact Kd.F_mono (Kd.F_step hF (fun k hk _ => hfar k hk.1)) (fun k hk => ⟨fun he => hk.1 (by simpa [Value.ownBlock] using he), hk.2⟩)
def withK (k : Nat) (l0 : List S61) (a1 : ByteArray) (u : Int) (e : List Int) : Option (List S61) :=
 (span_Count.f u e).bind fun c => if c = 0 then some l0 else if mB l0 a1 = true then (span_Union.f k (l0.getD (mN l0 a1) z61).f1.f0 (l0.getD (mN l0 a1) z61).f1.f1 u e).bind fun p => some (l0.set (mN l0 a1) ⟨(l0.getD (mN l0 a1) z61).f0, ⟨p.1, p.2⟩⟩)
  else some (l0.take (mN l0 a1) ++ ⟨a1, ⟨u, e⟩⟩ :: l0.drop (mN l0 a1))
theorem withK_mono (k : Nat) (l0 : List S61) (a1 : ByteArray) (u : Int) (e : List Int) : LeO (withK k l0 a1 u e) (withK (k + 1) l0 a1 u e) := by
 unfold withK
 exact LeO.bind (LeO.refl _) (fun _ => LeO.ite (LeO.refl _) (LeO.ite (LeO.bind (span_Union.mono _ _ _ _ _) (fun _ => LeO.refl _)) (LeO.refl _)))
set_option maxHeartbeats 6400000 in
set_option maxRecDepth 100000 in
theorem know_with.own (k : Nat) (v : Value) (rs : List RW) (l0 : List S61) (a1 : ByteArray) (u : Int) (A2 : Option Addr) (c2 : Nat) (e2 : List Int) (res : List S61) (base : Nat) (w : World) (hO : OWm w base v rs l0) (hbw : base ≤ w.heap.size) (hl : l0.length < 1000000000) (hF : Kd.F (Kd.int .i64) w (fun k => base ≤ k ∧ some k ≠ v.ownBlock) A2 e2.length e2) (hc2 : e2.length ≤ c2) (h : withK k l0 a1 u e2 = some res) :
  Calls Try.prog 47 #[v, .string a1, .agg #[.int .i64 u, .slice A2 e2.length c2]] w fun e w' => ∃ (v' : Value) (rs' : List RW), e = .returned v' ∧ OWm w' base v' rs' res ∧ Below base w w' ∧ (v'.ownBlock = v.ownBlock ∨ ∃ b, v'.ownBlock = some b ∧ w.heap.size ≤ b) ∧ ∀ k, k < w.heap.size → some k ≠ v.ownBlock → w'.heap[k]? = w.heap[k]? := by
 unfold withK at h
 obtain ⟨cn, hcn, h⟩ := Option.bind_eq_some_iff.mp h
 have hrl := F2.len hO.2
 obtain ⟨A, c, rfl⟩ := Kd.R_slice hO.1
 rw [hrl] at hO hF ⊢
 have HO := Aside0.mk (hO.below (below_alloc (Below.refl w.heap.size w) (.cells #[.int .i64 u, .slice A2 e2.length c2] 44)))
 have HF := Aside0.mk (Kd.F_bound hF)
 have HFA := Aside0.mk (Kd.F_alloc (Kd.F_bound hF) (.cells #[.int .i64 u, .slice A2 e2.length c2] 44))
 have HC2 := Aside0.mk hc2
 have BK := Aside0.mk (blk_new w (.cells #[.int .i64 u, .slice A2 e2.length c2] 44))
 have HB := Aside0.mk (below_alloc (Below.refl w.heap.size w) (.cells #[.int .i64 u, .slice A2 e2.length c2] 44))
 have HLO := Aside0.mk (Kd.R_lt hO.1)
 have HBW := Aside0.mk hbw
 have HL := Aside0.mk hl
 have HRL := Aside0.mk hrl
 have HCN := Aside0.mk hcn
 have H := Aside0.mk h
 have hut := Try.underlying61
 have hut2 := Try.underlying44
 clear hO hF hc2 hcn h hrl hbw
 go_enter Try.func47, Try.ntmps47
 go_upto_region 1 with fail
 generalize w.alloc (.cells #[.int .i64 u, .slice A2 e2.length c2] 44) = w1 at HO HFA BK HB ⊢
 have hq0 : w1.cell? ⟨w.heap.size, 0, none⟩ = some (.int .i64 u) := (blk_cell BK.out 0).trans rfl
 have hq1 : w1.cell? ⟨w.heap.size, 1, none⟩ = some (.slice A2 e2.length c2) := (blk_cell BK.out 1).trans rfl
 go_wp2_with fail
 refine (span_Count.calls u A2 c2 e2 cn w1 (Kd.F_now HFA.out) HC2.out HCN.out).mono ?_
 rintro e w2 ⟨rfl, hb2⟩
 replace HO := Aside0.mk (HO.out.below hb2)
 replace HFA := Aside0.mk (Kd.F_below HFA.out hb2)
 replace BK := Aside0.mk (blk_below BK.out hb2)
 replace HB := Aside0.mk (below_step HB.out hb2)
 clear hb2 hq0 hq1
 by_cases hc0 : cn = 0
 ·have hh := H.out
  rw [if_pos hc0] at hh
  obtain rfl := Option.some.inj hh
  subst hc0
  clear hh H
  go_wp2_with fail
  go_ret
  exact ⟨_, rs, rfl, HO.out, HB.out.mono HBW.out, Or.inl rfl, fun k hk _ => HB.out.block k hk⟩
 have hh := H.out
 rw [if_neg hc0] at hh
 have hz1 : (cn == 0) = false := by rw [beq_eq_false_iff_ne]; exact hc0
 have hz2 := eq_false hc0
 have hz3 : decide (cn = 0) = false := decide_eq_false hc0
 have HH := Aside0.mk hh
 clear hc0 hh H
 have HFD := Aside0.mk (fun W (hW : Below w2.heap.size w2 W) => mfind_raw A c rs l0 a1 W _ (by have := (Kd.R_reads' (HO.out.below hW).1).2.2; have e := HRL.out; rwa [e] at this) (HO.out.below hW).2 HL.out)
 go_wp2_with fail
 refine (HFD.out w2 (Below.refl _ _)).mono ?_
 rintro e w3 ⟨rfl, hb3⟩
 replace HO := Aside0.mk (HO.out.below hb3)
 replace HFA := Aside0.mk (Kd.F_below HFA.out hb3)
 replace BK := Aside0.mk (blk_below BK.out hb3)
 replace HB := Aside0.mk (below_step HB.out hb3)
 clear hb3 HFD
 by_cases hB : mB l0 a1 = true
 ·have hlt := mN_lt hB
  have hh := HH.out
  rw [if_pos hB] at hh
  obtain ⟨p, hp, hrr⟩ := Option.bind_eq_some_iff.mp hh
  replace hrr := Option.some.inj hrr
  obtain ⟨pu, pe⟩ := p
  dsimp only at hrr
  rw [hB]
  obtain ⟨g, cap, ev, hg, hgl, cells, hcells⟩ := Kd.R_form HO.out.1 (by rw [HRL.out]; omega)
  rw [HRL.out] at ev
  injection ev with eA _ ec
  subst eA; subst ec
  obtain ⟨i0, i5, i1, i2, i3⟩ := (F2.getD HO.out.2 (j := mN l0 a1) hlt zRW z61)
  obtain ⟨ad, hA, hx0, hx1, hx2⟩ := at_RW (Kd.R_reads' HO.out.1).2.2 (mN l0 a1 : Int) (by omega) (by have := (Kd.R_reads' HO.out.1).1; have := HRL.out; omega)
  injection hA with hA
  subst hA
  have hrd : rd_RW rs (mN l0 a1 : Int) = rs.getD (mN l0 a1) zRW := by unfold rd_RW; rw [Int.toNat_natCast]
  rw [hrd] at hx0 hx1 hx2
  simp only [Int.toNat_natCast, Addr.add_lit, Nat.zero_add] at hx0 hx1 hx2
  clear hrd hx0 hh HH
  generalize hr : rs.getD (mN l0 a1) zRW = r at hx1 hx2 i0 i5 i1 i2 i3
  generalize hx : l0.getD (mN l0 a1) z61 = x at i0 i5 i1 i2 i3 hp hrr
  generalize hi : mN l0 a1 = i at *
  obtain ⟨s0, su, rA, rn, rc⟩ := r
  dsimp only at i0 i5 i1 i2 i3 hx1 hx2
  subst i0; subst i5; subst i1
  have HRR := Aside0.mk hrr
  have HX := Aside0.mk hx
  have HX1 := Aside0.mk hx1
  have HX2 := Aside0.mk hx2
  have HI3 := Aside0.mk i3
  have HI2 := Aside0.mk i2
  have HP := Aside0.mk hp
  have HGL := Aside0.mk hgl
  have HG := Aside0.mk hg
  have HGW := Aside0.mk (HLO.out g (by simp [Value.ownBlock]))
  have HCE := Aside0.mk (show ∃ cells : Array Value, w3.heap[g]? = some (.cells cells 61 (0, 0)) from ⟨cells, hcells⟩)
  have pm := eq_true (show (0 : Int) ≤ (i : Int) by omega)
  have qm := eq_true (show (i : Int) < (l0.length : Int) by omega)
  clear hr hx hx1 hx2 i3 i2 hcells cells hg hgl hp hi hB hrr
  go_upto_region 6 with fail
  refine start_ (n := 12) (S := fun w' => w'.cell? ⟨g, i * 3 + 1, none⟩ = some (.int .i64 x.f1.f0) ∧ w'.cell? ⟨g, i * 3 + 2, none⟩ = some (.slice rA x.f1.f1.length rc) ∧ w'.cell? ⟨w.heap.size, 0, none⟩ = some (.int .i64 u) ∧ w'.cell? ⟨w.heap.size, 1, none⟩ = some (.slice A2 e2.length c2)) (ds := [11]) #[false, false, false, false, false, false, false, false, false, false, false, false] (by kernel_rfl) rfl rfl ⟨cell_drew HX1.out, cell_drew HX2.out, (blk_cell (blk_drew BK.out) 0).trans rfl, (blk_cell (blk_drew BK.out) 1).trans rfl⟩ (fun hHeld => ?_)
  have hb := below_drew1 (Below.refl w3.heap.size w3)
  replace HO := Aside0.mk (HO.out.below hb)
  replace HFA := Aside0.mk (Kd.F_below HFA.out hb)
  replace HI3 := Aside0.mk (Kd.F_below HI3.out hb)
  replace BK := Aside0.mk (blk_below BK.out hb)
  replace HX1 := Aside0.mk (cell_below HX1.out hb)
  replace HX2 := Aside0.mk (cell_below HX2.out hb)
  obtain ⟨cells, hcells⟩ := HCE.out
  replace HCE := Aside0.mk (show ∃ cells : Array Value, _ = some (.cells cells 61 (0, 0)) from ⟨cells, blk_below hcells hb⟩)
  clear hcells cells
  replace HGL := Aside0.mk (Nat.lt_of_lt_of_le HGL.out hb.size)
  replace HB := Aside0.mk (below_step HB.out hb)
  clear hb
  generalize w3.drew = w4 at HO HFA HI3 BK HX1 HX2 HCE HGL HB hHeld ⊢
  refine p_ 0 28 (mk_ 12 0x1) ?_
  refine p_ 1 29 (mk_ 12 0x3) ?_
  refine p_ 2 30 (mk_ 12 0x7) ?_
  refine p_ 3 31 (mk_ 12 0xf) ?_
  refine p_ 4 32 (mk_ 12 0x1f) ?_
  refine p_ 5 33 (mk_ 12 0x3f) ?_
  refine t_ 6 34 (mk_ 12 0x7f) hHeld ?_
  refine t_ 7 35 (mk_ 12 0xff) hHeld ?_
  refine one_ (i := 8) (N := some 36) #[true, true, true, true, true, true, true, true, true, false, false, false] rfl rfl (by kernel_rfl) (by decide) (fun K hK => ?_)
  refine goes_ Try.func69 (by kernel_rfl) rfl #[.agg #[.int .i64 x.f1.f0, .slice rA x.f1.f1.length rc], .agg #[.int .i64 u, .slice A2 e2.length c2]] (by rfl) rfl rfl (by (try simp only [List.map_toArray, List.map_cons, List.map_nil]); first | done | rfl) ?_
  refine (span_Union.calls k x.f1.f0 rA rc x.f1.f1 u A2 c2 e2 pu pe w4 (Kd.F_now HI3.out) HI2.out (Kd.F_now HFA.out) HC2.out HP.out).mono ?_
  rintro ev w5 ⟨v5, rfl, ho5, hb⟩
  obtain ⟨A5, c5, rfl⟩ := Kd.R_slice ho5
  have HF5 := Aside0.mk (Kd.F_mono (Kd.R_F (Kd.R_bound ho5)) (ok' := fun k => k ≠ g ∧ base ≤ k) (fun k hk => by have := hk.2.1; have := HGL.out; have := below_size HB.out; have := HBW.out; omega))
  have HL5 := Aside0.mk (Kd.R_reads' ho5).2.1
  refine ⟨_, rfl, ?_⟩
  clear ho5
  replace HO := Aside0.mk (HO.out.below hb)
  replace HFA := Aside0.mk (Kd.F_below HFA.out hb)
  replace HI3 := Aside0.mk (Kd.F_below HI3.out hb)
  replace BK := Aside0.mk (blk_below BK.out hb)
  replace HX1 := Aside0.mk (cell_below HX1.out hb)
  replace HX2 := Aside0.mk (cell_below HX2.out hb)
  obtain ⟨cells, hcells⟩ := HCE.out
  replace HCE := Aside0.mk (show ∃ cells : Array Value, _ = some (.cells cells 61 (0, 0)) from ⟨cells, blk_below hcells hb⟩)
  clear hcells cells
  replace HGL := Aside0.mk (Nat.lt_of_lt_of_le HGL.out hb.size)
  replace HB := Aside0.mk (below_step HB.out hb)
  clear hb
  refine hK.out _ _ ⟨HX1.out, HX2.out, (blk_cell BK.out 0).trans rfl, (blk_cell BK.out 1).trans rfl⟩ (fun hHeld => ?_)
  clear hK K
  refine norm_ (a' := ?_) ?_ ?_
  rotate_left
  ·show Act.put _ (some 36) _ = _
   simp only [Act.put, List.setIfInBounds_toArray, List.set_cons_zero, List.set_cons_succ, i64_w, i32_w]
   rfl
  refine p_ 9 37 (mk_ 12 0x3ff) ?_
  refine p_ 10 38 (mk_ 12 0x7ff) ?_
  clear hHeld
  refine last_ (i := 11) (N := none) #[true, true, true, true, true, true, true, true, true, true, true, true] rfl rfl (by kernel_rfl) (by decide) (fun K hK => ?_)
  obtain ⟨cells, hcells⟩ := HCE.out
  have hz1 : w5.frozen? ⟨g, i * 3 + 1, none⟩ = false := blk_frozen hcells _
  have hz2 : w5.frozen? ⟨g, i * 3 + 2, none⟩ = false := blk_frozen hcells _
  have hx1 := HX1.out
  have hx2 := HX2.out
  refine skip_ (w1 := ?_) (by rfl) rfl ?_ ?_
  rotate_left
  ·go_simp
   rfl
  refine hK.out _ _ ?_
  clear hK K
  clear hz1 hz2 hx1 hx2 hcells cells
  refine done_ (by kernel_rfl) ?_
  have HO3 := Aside0.mk (HO.out.store (i := i) hlt (s := x.f0) (by rw [HX.out]) pu HL5.out HF5.out)
  have HB3 := Aside0.mk (show Below base w ((w5.setCell ⟨g, i * 3 + 1, none⟩ (.int .i64 pu)).setCell ⟨g, i * 3 + 2, none⟩ (.slice A5 pe.length c5)) from Below.setCell (Below.setCell (HB.out.mono HBW.out) HG.out _) HG.out _)
  have HK3 := Aside0.mk (show ∀ k, k < w.heap.size → some k ≠ (Value.slice (some ⟨g, 0, none⟩) l0.length c).ownBlock → ((w5.setCell ⟨g, i * 3 + 1, none⟩ (.int .i64 pu)).setCell ⟨g, i * 3 + 2, none⟩ (.slice A5 pe.length c5)).heap[k]? = w.heap[k]? from fun k hk hne => by
   have hkg : k ≠ g := fun e => hne (by rw [e]; simp [Value.ownBlock])
   exact ((Below.heap_setCell _ _ _ _ hkg).trans (Below.heap_setCell _ _ _ _ hkg)).trans (HB.out.block k hk))
  clear HO HF5 HX1 HX2 HCE HGL BK
  go_wp2_with fail
  go_ret
  have hv4 := HO3.out
  rw [HRR.out] at hv4
  have hl4 := congrArg List.length HRR.out
  rw [List.length_set] at hl4
  exact ⟨_, _, rfl, hv4, HB3.out, Or.inl rfl, HK3.out⟩
 ·have hh := HH.out
  rw [if_neg hB] at hh
  have HRES := Aside0.mk (Option.some.inj hh)
  have hB' : mB l0 a1 = false := by simpa using hB
  rw [hB']
  clear hh HH hB hB'
  have HLE := Aside0.mk (mN_le l0 a1)
  generalize mN l0 a1 = i at *
  have hq0 : w3.cell? ⟨w.heap.size, 0, none⟩ = some (.int .i64 u) := (blk_cell BK.out 0).trans rfl
  have hq1 : w3.cell? ⟨w.heap.size, 1, none⟩ = some (.slice A2 e2.length c2) := (blk_cell BK.out 1).trans rfl
  go_wp2_with fail
  refine (mats_insertk _ base (fun k => some k = (Value.slice A l0.length c).ownBlock ∨ w3.heap.size ≤ k) (fun _ => False) (.slice A l0.length c) rs i ⟨a1, u, A2, e2.length, c2⟩ [.string a1, .int .i64 u, .slice A2 e2.length c2] w3.heap.size _ (Kd.R_below (Kd.R_reok rfl HO.out.1 (fun k hk => Or.inl hk.symm)) (below_alloc (Below.refl _ _) _)) (by have := HLE.out; have := HRL.out; omega) ?_ (fun k hk => Or.inr (by simp at hk; omega)) (kRW_mkM _ _ _ ⟨a1, u, A2, e2.length, c2⟩) (fun _ h => h.elim) (blk_new w3 _) ?_ (by have := HL.out; have := HRL.out; omega)).mono ?_
  ·exact Nat.le_trans (Nat.le_trans HBW.out (below_size HB.out)) (by simp)
  ·intro e; have := Kd.R_lt HO.out.1 _ e.symm; omega
  rintro e w5 ⟨v5, rfl, hR5, hB5, hK5⟩
  have hI5 : INs (Kd.int .i64) S61.f0 (fun x => x.f1.f0) (fun x => x.f1.f1) w5 (fun k => (some k ≠ (Value.slice A l0.length c).ownBlock ∧ base ≤ k) ∧ k < w3.heap.size) (rs.take i ++ ⟨a1, u, A2, e2.length, c2⟩ :: rs.drop i) (l0.take i ++ ⟨a1, ⟨u, e2⟩⟩ :: l0.drop i) := by
   have h1 := INs.step (INs.below (INs.bound HO.out.2) (below_alloc (Below.refl _ _) (.cells #[.string a1, .int .i64 u, .slice A2 e2.length c2] 61))) (fun k hk hlt => hK5 k hlt hk.1.1)
   refine F2.append (F2.take h1 i) ⟨⟨rfl, rfl, rfl, HC2.out, ?_⟩, F2.drop h1 i⟩
   have h2 := Kd.F_mono (Kd.F_bound HFA.out) (ok' := fun k => (some k ≠ (Value.slice A l0.length c).ownBlock ∧ base ≤ k) ∧ k < w3.heap.size) (fun k hk => ⟨⟨hk.1.1.2, hk.1.1.1⟩, hk.2⟩)
   exact Kd.F_step (Kd.F_alloc h2 _) (fun k hk hlt => hK5 k hlt hk.1.1)
  have hown : ∀ k, v5.ownBlock = some k → some k = (Value.slice A l0.length c).ownBlock ∨ w3.heap.size ≤ k := hR5.1
  have HOW := Aside0.mk (show OWm w5 base v5 (rs.take i ++ ⟨a1, u, A2, e2.length, c2⟩ :: rs.drop i) (l0.take i ++ ⟨a1, ⟨u, e2⟩⟩ :: l0.drop i) from ⟨Kd.R_reok rfl hR5 (fun _ _ => trivial), INs.mono hI5 (fun k hk => ⟨fun he => by
   rcases hown k he.symm with h | h
   ·exact hk.1.1 h
   ·have := hk.2; omega, hk.1.2⟩)⟩)
  have HB5 := Aside0.mk ((HB.out.mono HBW.out).trans ((below_alloc (Below.refl w3.heap.size w3) (.cells #[.string a1, .int .i64 u, .slice A2 e2.length c2] 61)).mono (Nat.le_trans HBW.out (below_size HB.out)) |>.trans hB5))
  have HNB := Aside0.mk (show v5.ownBlock = (Value.slice A l0.length c).ownBlock ∨ ∃ b, v5.ownBlock = some b ∧ w.heap.size ≤ b from by
   cases hv : v5.ownBlock with
   | none =>
    obtain ⟨g, cap, e, _⟩ := Kd.R_form hR5 (by simp; omega)
    rw [e] at hv
    simp [Value.ownBlock] at hv
   | some b =>
    rcases hown b hv with h | h
    ·exact Or.inl h
    ·exact Or.inr ⟨b, rfl, Nat.le_trans (below_size HB.out) h⟩)
  have HK := Aside0.mk (show ∀ k, k < w.heap.size → some k ≠ (Value.slice A l0.length c).ownBlock → w5.heap[k]? = w.heap[k]? from fun k hk hne => by
   have h3 := HB.out.block k hk
   have hlt : k < w3.heap.size := Nat.lt_of_lt_of_le hk (below_size HB.out)
   exact ((hK5 k (by simp; omega) hne).trans (Below.heap_alloc _ _ _ hlt)).trans h3)
  clear hR5 hI5 hB5 hK5 hown hq0 hq1
  generalize (rs.take i ++ (⟨a1, u, A2, e2.length, c2⟩ : RW) :: rs.drop i) = RS at HOW
  go_wp2_with fail
  go_ret
  exact ⟨_, _, rfl, by rw [← HRES.out]; exact HOW.out, HB5.out, HNB.out, HK.out⟩

/-! ### span_Add: function 48 -/
theorem zq48_0 {p_ : Prop} (h_ : p_ := by repeat (first | (with_reducible first | exact HB.out | apply below_alloc | apply pw_below_drewN | apply below_drew1 | refine below_set ?_ GE133.out | refine below_set ?_ GE134.out) | exact HB.out)) : p_ := h_
theorem zq48_1 {p_ : Prop} (h_ : p_ := by repeat (first | (with_reducible first | exact HB.out | apply below_alloc | apply pw_below_drewN | apply below_drew1 | refine below_set ?_ GE133.out) | exact HB.out)) : p_ := h_
theorem zq48_2 {p_ : Prop} (h_ : p_ := by repeat (first | (with_reducible first | exact HB.out | apply below_alloc | apply pw_below_drewN | apply below_drew1) | exact HB.out)) : p_ := h_
theorem zq48_3 {p_ : Prop} (h_ : p_ := by (with_reducible repeat (first | refine blk_drewN ?_ _ | refine blk_drew ?_ | refine blk_alloc ?_ _)); exact BK133.out) : p_ := h_
theorem zq48_4 {p_ : Prop} (h_ : p_ := by (with_reducible repeat (first | refine blk_drewN ?_ _ | refine blk_drew ?_ | refine blk_alloc ?_ _)); exact BK134.out) : p_ := h_
def span_Add.j0 : Nat → Int → Bool → Int → List Int → Option (Int × List Int)
 | 0, _, _, _, _ => none
 | k + 1, x1, x10, x134000, x134001 => if x10 = true then ((slices_Clone_int_int.f x134001).bind fun t135 => (some (x134000, t135))) else ((span_Union.f k x134000 x134001 0 (([x1] : List Int))).bind fun bt141 => (some (bt141.1, bt141.2)))
def span_Add.f (k : Nat) (a0_0 : Int) (l0_1 : List Int) (a1 : Int) : Option (Int × List Int) := if a1 < 1 then (span_Add.j0 k a1 true a0_0 l0_1) else (span_Add.j0 k a1 (decide (a1 > 1048576)) a0_0 l0_1)
theorem span_Add.mono_l : ∀ k, (∀ y0 y1 y2 y3, LeO (span_Add.j0 k y0 y1 y2 y3) (span_Add.j0 (k + 1) y0 y1 y2 y3))
 | 0 => fun _ _ _ _ r h => by simp [span_Add.j0] at h
 | k + 1 => by
  have ih0 := span_Add.mono_l k
  ·intro y0 y1 y2 y3
   unfold span_Add.j0
   repeat' first
   | (with_reducible exact ih0 _ _ _ _)
   | (with_reducible exact span_Union.mono _ _ _ _ _)
   | (with_reducible exact LeO.refl _)
   | (with_reducible exact LeO.none _)
   | (with_reducible refine LeO.ite ?_ ?_)
   | (with_reducible refine LeO.bind ?_ (fun _ => ?_))
   | exact ih0 _ _ _ _
   | exact span_Union.mono _ _ _ _ _
   | exact LeO.none _
   | refine LeO.ite ?_ ?_
   | refine LeO.bind ?_ (fun _ => ?_)
theorem span_Add.mono : ∀ a0 a1 a2 k, LeO (span_Add.f k a0 a1 a2) (span_Add.f (k + 1) a0 a1 a2) := by
 intro a0 a1 a2 k
 have ih0 := span_Add.mono_l k
 unfold span_Add.f
 repeat' first
   | (with_reducible exact ih0 _ _ _ _)
   | (with_reducible exact span_Union.mono _ _ _ _ _)
   | (with_reducible exact LeO.refl _)
   | (with_reducible exact LeO.none _)
   | (with_reducible refine LeO.ite ?_ ?_)
   | (with_reducible refine LeO.bind ?_ (fun _ => ?_))
   | exact ih0 _ _ _ _
   | exact span_Union.mono _ _ _ _ _
   | exact LeO.none _
   | refine LeO.ite ?_ ?_
   | refine LeO.bind ?_ (fun _ => ?_)
set_option maxHeartbeats 8000000 in
set_option maxRecDepth 100000 in
theorem span_Add.calls (k : Nat) (a0_0 : Int) (A0_1 : Option Addr) (c0_1 : Nat) (l0_1 : List Int) (a1 : Int) (r1 : Int) (r2 : List Int) (w : World) (hr0_1 : Kd.C (Kd.int .i64) w A0_1 l0_1.length l0_1) (hc0_1 : l0_1.length ≤ c0_1) (h : span_Add.f k a0_0 l0_1 a1 = some (r1, r2)) :
  Calls Try.prog 48 #[.agg #[.int .i64 a0_0, .slice A0_1 l0_1.length c0_1], .int .i64 a1] w fun e w' => ∃ v1_ : Value, e = .returned (.agg #[.int .i64 r1, v1_]) ∧ Kd.R (Kd.int .i64) 3 w' w.heap.size (fun _ => True) v1_ r2 ∧ Below w.heap.size w w' := by
 have hu44 := Try.underlying44
 have HR0_1 := Aside0.mk hr0_1
 have HC0_1 := Aside0.mk hc0_1
 clear hr0_1 hc0_1
 have HB := Aside0.mk (Below.refl w.heap.size w)
 have H : (if a1 < 1 then (span_Add.j0 k a1 true a0_0 l0_1) else (span_Add.j0 k a1 (decide (a1 > 1048576)) a0_0 l0_1)) = some (r1, r2) := h
 clear h
 have HC3 := Aside0.mk H
 clear H
 go_enter Try.func48, Try.ntmps48
 go_upto_region 1 with (first | ((with_reducible refine gate_dst (N := 2) rfl ?_); refine box_event ?hg (N := 2) ?hd (cs := #[.int .i64 a0_0, .slice A0_1 l0_1.length c0_1]) (t := 44) ?hr ?_; (case hd => rfl); (case hg => rfl); (case hr => first | (go_simp; done) | (go_simp; rfl)); intro gb133 hg w4 hbox hb; have BK133 := Aside0.mk (hbox); have GW133 := Aside0.mk (((by rw [hg]; exact (below_size zq48_2)) : w.heap.size ≤ gb133)); have GE133 := Aside0.mk (((by rw [hg]; exact (below_size zq48_2)) : w.heap.size ≤ gb133)); replace HB := Aside0.mk (below_step zq48_2 hb); clear hb hbox hg) | ((with_reducible refine gate_dst (N := 4) rfl ?_); refine box_event ?hg (N := 4) ?hd (cs := #[.int .i64 0, .slice none 0 0]) (t := 44) ?hr ?_; (case hd => rfl); (case hg => rfl); (case hr => first | (go_simp; done) | (go_simp; rfl)); intro gb134 hg w5 hbox hb; have BK134 := Aside0.mk (hbox); have GW134 := Aside0.mk (((by rw [hg]; exact (below_size zq48_1)) : w.heap.size ≤ gb134)); have GE134 := Aside0.mk (((by rw [hg]; exact (below_size zq48_1)) : w.heap.size ≤ gb134)); replace HB := Aside0.mk (below_step zq48_1 hb); have NB133_134 := Aside0.mk (((by rw [hg]; exact Nat.ne_of_lt (blk_lt (g := gb133) (o := .cells #[.int .i64 a0_0, .slice A0_1 l0_1.length c0_1] 44 (0, 0)) zq48_3)) : gb133 ≠ gb134)); have NB134_133 := Aside0.mk (((by rw [hg]; exact Nat.ne_of_gt (blk_lt (g := gb133) (o := .cells #[.int .i64 a0_0, .slice A0_1 l0_1.length c0_1] 44 (0, 0)) zq48_3)) : gb134 ≠ gb133)); replace BK133 := Aside0.mk (blk_below (g := gb133) (o := .cells #[.int .i64 a0_0, .slice A0_1 l0_1.length c0_1] 44 (0, 0)) zq48_3 hb); clear hb hbox hg))
 (try simp only [Act.put, List.setIfInBounds_toArray, List.set_cons_zero, List.set_cons_succ])
 go_cut [10] (fun v10 wc => ∃ (kq : Nat) (x10_2 : Bool), v10 = .bool x10_2 ∧ Aside0 (span_Add.j0 kq a1 x10_2 a0_0 l0_1 = some (r1, r2)) ∧ Aside0 (kq ≤ k) ∧ Aside0 (wc.heap[gb133]? = some (.cells #[.int .i64 a0_0, (.slice A0_1 l0_1.length c0_1)] 44 (0, 0))) ∧ Aside0 (wc.heap[gb134]? = some (.cells #[.int .i64 0, (.slice none 0 0)] 44 (0, 0))) ∧ Aside0 (Below w.heap.size w wc))
 case first =>
  have H := HC3.out
  clear HC3
  by_cases c6 : a1 < 1
  ·rw [if_pos c6] at H
   have c6b0 : decide (a1 < 1) = true := decide_eq_true c6
   clear c6
   (first | rw [c6b0] | (simp only [i64_w, i32_w]; rw [c6b0]) | skip)
   have H' := Aside0.mk H
   clear H
   go_wp2
   go_meet
   case rel => exact ⟨_, (true), (by first | rfl | (simp; done) | (simp [*]; done)), H', ⟨by first | omega | exact Nat.le_refl _⟩, ⟨by (with_reducible repeat (first | refine blk_drewN ?_ _ | refine blk_drew ?_ | refine blk_alloc ?_ _)); exact BK133.out⟩, ⟨by (with_reducible repeat (first | refine blk_drewN ?_ _ | refine blk_drew ?_ | refine blk_alloc ?_ _)); exact BK134.out⟩, ⟨by repeat (first | (with_reducible first | exact HB.out | apply below_alloc | apply pw_below_drewN | apply below_drew1 | refine below_set ?_ GE133.out | refine below_set ?_ GE134.out) | exact HB.out)⟩⟩
  ·rw [if_neg c6] at H
   have c6b0 : decide (a1 < 1) = false := decide_eq_false c6
   clear c6
   (first | rw [c6b0] | (simp only [i64_w, i32_w]; rw [c6b0]) | skip)
   have H' := Aside0.mk H
   clear H
   go_wp2
   go_meet
   case rel => exact ⟨_, (decide (a1 > 1048576)), (by first | rfl | (simp; done) | (simp [*]; done)), H', ⟨by first | omega | exact Nat.le_refl _⟩, ⟨by (with_reducible repeat (first | refine blk_drewN ?_ _ | refine blk_drew ?_ | refine blk_alloc ?_ _)); exact BK133.out⟩, ⟨by (with_reducible repeat (first | refine blk_drewN ?_ _ | refine blk_drew ?_ | refine blk_alloc ?_ _)); exact BK134.out⟩, ⟨by repeat (first | (with_reducible first | exact HB.out | apply below_alloc | apply pw_below_drewN | apply below_drew1 | refine below_set ?_ GE133.out | refine below_set ?_ GE134.out) | exact HB.out)⟩⟩
 case rest =>
  clear HC3
  try clear p2
  try clear c4
  try clear c6
  try clear c6b0
  obtain ⟨kq, x10_2, rfl, HA, HJ2, BK133, BK134, HB⟩ := hcut
  cases kq with
  | zero => exact absurd HA.out (by simp [span_Add.j0])
  | succ kj2 =>
   have H := HA.out
   clear HA
   simp only [span_Add.j0] at H
   by_cases c7 : x10_2 = true
   ·subst c7
    have H1 : ((slices_Clone_int_int.f l0_1).bind fun t135 => (some (a0_0, t135))) = some (r1, r2) := by rw [if_pos rfl] at H; exact H
    clear H
    have H := H1
    clear H1
    replace H := Option.bind_eq_some_iff.mp H
    obtain ⟨t135, A80, H⟩ := H
    replace H : (some (a0_0, t135)) = some (r1, r2) := H
    have A8 := Aside0.mk A80
    clear A80
    simp only [Option.some.injEq, Prod.mk.injEq] at H
    obtain ⟨rfl, rfl⟩ := H
    try go_wp2
    replace BK133 := Aside0.mk (blk_drew BK133.out)
    replace BK134 := Aside0.mk (blk_drew BK134.out)
    replace HB := Aside0.mk (below_drew1 HB.out)
    refine start_ (n := 7) (S := fun w' => w'.cell? ⟨gb133, 0, none⟩ = some (.int .i64 a0_0) ∧ w'.cell? ⟨gb133, 1, none⟩ = some (.slice A0_1 l0_1.length c0_1)) (ds := []) #[false, false, false, false, false, false, false] (by kernel_rfl) rfl rfl ⟨(blk_cell BK133.out 0).trans rfl, (blk_cell BK133.out 1).trans rfl⟩ (fun hHeld => ?_)
    generalize wc.drew = w9 at BK133 BK134 HB hHeld ⊢
    refine p_ 0 11 (mk_ 7 0x1) ?_
    refine p_ 2 13 (mk_ 7 0x5) ?_
    refine t_ 1 12 (mk_ 7 0x7) hHeld ?_
    refine t_ 3 14 (mk_ 7 0xf) hHeld ?_
    refine one_ (i := 4) (N := some 15) #[true, true, true, true, true, false, false] rfl rfl (by kernel_rfl) (by decide) (fun K hK => ?_)
    refine goes_ Try.func53 (by kernel_rfl) rfl #[.slice A0_1 l0_1.length c0_1] (by rfl) rfl rfl (by (try simp only [List.map_toArray, List.map_cons, List.map_nil]); first | done | rfl | (simp only [List.length_drop, List.length_take]; rfl)) ?_
    with_reducible refine (slices_Clone_int_int.calls _ _ l0_1 t135 _ ?side1 ?side2 A8.out).mono ?_
    (case side1 => repeat (first | exact (Kd.C_below HR0_1.out HB.out) | (with_reducible refine Kd.C_alloc ?_ _) | (with_reducible refine Kd.C_drewN ?_ _) | (with_reducible refine Kd.C_drew ?_)))
    (case side2 => exact HC0_1.out)
    rintro e w10 ⟨v136, rfl, ho0, hb⟩
    refine ⟨_, rfl, ?_⟩
    have HO137 := Aside0.mk (Kd.R_lower ho0 (below_size zq48_0))
    replace BK133 := Aside0.mk (blk_below (g := gb133) (o := .cells #[.int .i64 a0_0, .slice A0_1 l0_1.length c0_1] 44 (0, 0)) zq48_3 hb)
    replace BK134 := Aside0.mk (blk_below (g := gb134) (o := .cells #[.int .i64 0, .slice none 0 0] 44 (0, 0)) zq48_4 hb)
    replace HB := Aside0.mk (below_step zq48_0 hb)
    (try clear hb)
    (try clear hb2)
    (try clear hk)
    (try clear hi)
    (try clear ho0)
    obtain ⟨Ao11, co11, eo11⟩ := Kd.R_slice HO137.out
    (first | subst eo11 | (injection eo11 with f1_ f2_ f3_; have f4_ := f1_.symm; have f5_ := f3_.symm; clear f1_ f2_ f3_; subst f4_; subst f5_))
    refine hK.out _ _ ⟨(blk_cell BK133.out 0).trans rfl, (blk_cell BK133.out 1).trans rfl⟩ (fun hHeld => ?_)
    clear hK K
    refine norm_ (a' := ?_) ?_ ?_
    rotate_left
    ·show Act.put _ (some 15) _ = _
     simp only [Act.put, List.setIfInBounds_toArray, List.set_cons_zero, List.set_cons_succ, i64_w, i32_w]
     rfl
    refine p_ 5 16 (mk_ 7 0x3f) ?_
    refine one_ (i := 6) (N := none) #[true, true, true, true, true, true, true] rfl rfl (by kernel_rfl) (by decide) (fun K hK => ?_)
    have hs12 : w10.cell? ⟨gb134, 0, none⟩ = some (.int .i64 0) := (blk_cell BK134.out 0).trans rfl
    have hfs12 := blk_frozen BK134.out 0
    have hns12_0 := NB133_134.out
    have hms12_0 := NB134_133.out
    have hs13 : w10.cell? ⟨gb134, 1, none⟩ = some (.slice none 0 0) := (blk_cell BK134.out 1).trans rfl
    have hfs13 := blk_frozen BK134.out 1
    have hns13_0 := NB133_134.out
    have hms13_0 := NB134_133.out
    refine skip_ (w1 := ?_) (by rfl) rfl ?_ ?_
    rotate_left
    ·go_simp
     rfl
    refine hK.out _ _ ⟨((cell_far (p := ⟨gb134, _, none⟩) NB133_134.out _).trans (((cell_far (p := ⟨gb134, _, none⟩) NB133_134.out _).trans (hHeld.1)))), ((cell_far (p := ⟨gb134, _, none⟩) NB133_134.out _).trans (((cell_far (p := ⟨gb134, _, none⟩) NB133_134.out _).trans (hHeld.2))))⟩ (fun hHeld => ?_)
    clear hK K
    refine done_ (by kernel_rfl) ?_
    try go_wp2
    refine bodyPost_ret (results_cell_row rfl _ _ gb134 44 #[.int .i64 a0_0, .slice Ao11 t135.length co11] (0, 0) _ rfl (by (with_reducible repeat (first | refine blk_drewN ?_ _ | refine blk_drew ?_ | refine blk_alloc ?_ _)); refine blk_put (cs := #[.int .i64 a0_0, .slice none 0 0]) ?_ 1 _ rfl; (with_reducible repeat (first | refine blk_drewN ?_ _ | refine blk_drew ?_ | refine blk_alloc ?_ _)); refine blk_put (cs := #[.int .i64 0, .slice none 0 0]) ?_ 0 _ rfl; (with_reducible repeat (first | refine blk_drewN ?_ _ | refine blk_drew ?_ | refine blk_alloc ?_ _)); exact BK134.out) Try.underlying44 rfl (by kernel_rfl)) rfl ?_
    exact ⟨_, by first | rfl | (simp [errW_none, errW_some] <;> rfl) | (simp [*, errW_none, errW_some] <;> rfl), by (with_reducible repeat (first | apply Kd.R_alloc | apply Kd.R_drewN | apply Kd.R_drew)); exact Kd.R_mono (Kd.R_far (p := ⟨gb134, 1, none⟩) (Kd.R_far (p := ⟨gb134, 0, none⟩) (Kd.R_types HO137.out BK134.out (by decide)) (fun _ hk => hk.2) (.int .i64 a0_0)) (fun _ hk => hk.2) (.slice Ao11 t135.length co11)) (fun _ hk => trivial), by repeat (first | (with_reducible first | exact HB.out | apply below_alloc | apply pw_below_drewN | apply below_drew1 | refine below_set ?_ GE133.out | refine below_set ?_ GE134.out) | exact HB.out)⟩
   ·replace c7 := Bool.eq_false_iff.mpr c7
    subst c7
    have H1 : ((span_Union.f kj2 a0_0 l0_1 0 (([a1] : List Int))).bind fun bt141 => (some (bt141.1, bt141.2))) = some (r1, r2) := by rw [if_neg (show ¬ (false = true) by decide)] at H; exact H
    clear H
    have H := H1
    clear H1
    obtain ⟨y138, hy138⟩ : ∃ y_ : List Int, y_ = (([a1] : List Int)) := ⟨_, rfl⟩
    replace H : ((span_Union.f kj2 a0_0 l0_1 0 y138).bind fun bt141 => (some (bt141.1, bt141.2))) = some (r1, r2) := by first | (rw [hy138]; with_reducible exact H) | (have H2_ := (Option.bind_some _ _).symm.trans H; rw [hy138]; with_reducible exact H2_) | (have H2_ := (Option.bind_some _ _).symm.trans H; with_reducible exact H2_) | with_reducible exact H | (rw [hy138]; exact H) | exact H
    have Ny138 := Aside0.mk hy138
    clear hy138
    replace H := Option.bind_eq_some_iff.mp H
    obtain ⟨⟨t141, t142⟩, A140, H⟩ := H
    replace H : (some (t141, t142)) = some (r1, r2) := H
    have A14 := Aside0.mk A140
    clear A140
    simp only [Option.some.injEq, Prod.mk.injEq] at H
    obtain ⟨rfl, rfl⟩ := H
    have hnb15 := NB133_134.out
    have hnc15 := NB134_133.out
    have hcz16_0 : wc.cell? ⟨gb133, 0, none⟩ = some (.int .i64 a0_0) := (blk_cell BK133.out 0).trans rfl
    have hcz16_1 : wc.cell? ⟨gb133, 1, none⟩ = some (.slice A0_1 l0_1.length c0_1) := (blk_cell BK133.out 1).trans rfl
    have hfz16_0 := blk_frozen BK133.out 0
    have hfz16_1 := blk_frozen BK133.out 1
    go_wp2_with (first | ((with_reducible refine gate_dst (N := 19) rfl ?_); refine Kd.R_lit (Kd.int .i64) _ 3 ?hg (N := 19) ?hd (xs := ([a1] : List Int)) (inner := [.int .i64 a1]) (ok := fun _ => True) (okp := fun _ => True) ?hr ?hp (fun _ hk => hk) trivial (Below.refl _ _) (Nat.le_refl _) (by simp) ?_; (case hd => rfl); (case hg => rfl); (case hr => first | (go_simp; done) | (go_simp; rfl)); (case hp => exact (Reps.one (show Kd.M (Kd.int .i64) _ _ _ a1 [.int .i64 a1] from rfl) (Reps.none _ _))); intro v139 w17 ho18 hb hg_ hnew_; clear hg_ hnew_; (first | rw [← Ny138.out] at ho18 | (simp only [Int.reduceToNat] at ho18; rw [← Ny138.out] at ho18)); have HO140 := Aside0.mk (Kd.R_lower ho18 (below_size zq48_0)); replace BK133 := Aside0.mk (blk_below (g := gb133) (o := .cells #[.int .i64 a0_0, .slice A0_1 l0_1.length c0_1] 44 (0, 0)) zq48_3 hb); replace BK134 := Aside0.mk (blk_below (g := gb134) (o := .cells #[.int .i64 0, .slice none 0 0] 44 (0, 0)) zq48_4 hb); replace HB := Aside0.mk (below_step zq48_0 hb); clear hb ho18; obtain ⟨Ao19, co19, eo19⟩ := Kd.R_slice HO140.out; subst eo19) | ((with_reducible refine gate_callee (f := 69) rfl ?_); refine goesL_ (some 21) rfl rfl Try.func69 (by kernel_rfl) rfl #[.agg #[.int .i64 a0_0, .slice A0_1 l0_1.length c0_1], .agg #[.int .i64 0, .slice Ao19 y138.length co19]] rfl (by (try simp only [List.map_toArray, List.map_cons, List.map_nil]); first | done | rfl | (simp only [List.length_drop, List.length_take]; rfl)) ?_; (with_reducible refine (span_Union.calls kj2 a0_0 _ _ l0_1 0 _ _ y138 t141 t142 _ ?side1 ?side2 ?side3 ?side4 A14.out).mono ?_); (case side1 => repeat (first | exact (Kd.C_below HR0_1.out HB.out) | (with_reducible refine Kd.C_alloc ?_ _) | (with_reducible refine Kd.C_drewN ?_ _) | (with_reducible refine Kd.C_drew ?_))); (case side2 => exact HC0_1.out); (case side3 => repeat (first | exact (Kd.R_reads' HO140.out).2.2 | (with_reducible refine Kd.C_alloc ?_ _) | (with_reducible refine Kd.C_drewN ?_ _) | (with_reducible refine Kd.C_drew ?_))); (case side4 => exact (Kd.R_reads' HO140.out).2.1); rintro e w20 ⟨v143, rfl, ho0, hb⟩; refine ⟨_, rfl, ?_⟩; have HO144 := Aside0.mk (Kd.R_lower (Kd.R_new' ho0 (Kd.R_lt (by (with_reducible repeat (first | apply Kd.R_alloc | apply Kd.R_drewN | apply Kd.R_drew)); exact HO140.out))) (below_size zq48_0)); replace HO140 := Aside0.mk (Kd.R_elder' (by (with_reducible repeat (first | apply Kd.R_alloc | apply Kd.R_drewN | apply Kd.R_drew)); exact HO140.out) (Kd.R_base ho0) hb); replace BK133 := Aside0.mk (blk_below (g := gb133) (o := .cells #[.int .i64 a0_0, .slice A0_1 l0_1.length c0_1] 44 (0, 0)) zq48_3 hb); replace BK134 := Aside0.mk (blk_below (g := gb134) (o := .cells #[.int .i64 0, .slice none 0 0] 44 (0, 0)) zq48_4 hb); replace HB := Aside0.mk (below_step zq48_0 hb); (try clear hb); (try clear hb2); (try clear hk); (try clear hi); (try clear ho0); have hcz21_0 : w20.cell? ⟨gb134, 0, none⟩ = some (.int .i64 0) := (blk_cell BK134.out 0).trans rfl; have hcz21_1 : w20.cell? ⟨gb134, 1, none⟩ = some (.slice none 0 0) := (blk_cell BK134.out 1).trans rfl; have hfz21_0 := blk_frozen BK134.out 0; have hfz21_1 := blk_frozen BK134.out 1; obtain ⟨Ao22, co22, eo22⟩ := Kd.R_slice HO144.out; subst eo22))
    refine bodyPost_ret (results_cell_row rfl _ _ gb134 44 #[.int .i64 t141, .slice Ao22 t142.length co22] (0, 0) _ rfl (by (with_reducible repeat (first | refine blk_drewN ?_ _ | refine blk_drew ?_ | refine blk_alloc ?_ _)); refine blk_put (cs := #[.int .i64 t141, .slice none 0 0]) ?_ 1 _ rfl; (with_reducible repeat (first | refine blk_drewN ?_ _ | refine blk_drew ?_ | refine blk_alloc ?_ _)); refine blk_put (cs := #[.int .i64 0, .slice none 0 0]) ?_ 0 _ rfl; (with_reducible repeat (first | refine blk_drewN ?_ _ | refine blk_drew ?_ | refine blk_alloc ?_ _)); exact BK134.out) Try.underlying44 rfl (by kernel_rfl)) rfl ?_
    exact ⟨_, by first | rfl | (simp [errW_none, errW_some] <;> rfl) | (simp [*, errW_none, errW_some] <;> rfl), by (with_reducible repeat (first | apply Kd.R_alloc | apply Kd.R_drewN | apply Kd.R_drew)); exact Kd.R_mono (Kd.R_far (p := ⟨gb134, 1, none⟩) (Kd.R_far (p := ⟨gb134, 0, none⟩) (Kd.R_types HO144.out BK134.out (by decide)) (fun _ hk => hk.2) (.int .i64 t141)) (fun _ hk => hk.2) (.slice Ao22 t142.length co22)) (fun _ hk => trivial), by repeat (first | (with_reducible first | exact HB.out | apply below_alloc | apply pw_below_drewN | apply below_drew1 | refine below_set ?_ GE133.out | refine below_set ?_ GE134.out) | exact HB.out)⟩

/-! ### know_Add: function 12 -/
instance (l : List S61) : Decidable (okM l) := by unfold okM; infer_instance
def know_Add.f (k : Nat) (l0 : List S61) (a1 : ByteArray) (a2 : Int) : Option (List S61) := if okM l0 then (if rightB a1 = true then (span_Add.f k 0 [] a2).bind fun p => withK k l0 a1 p.1 p.2 else some l0) else none
theorem know_Add.mono : ∀ a0 a1 a2 k, LeO (know_Add.f k a0 a1 a2) (know_Add.f (k + 1) a0 a1 a2) := by
 intro a0 a1 a2 k
 unfold know_Add.f
 exact LeO.ite (LeO.ite (LeO.bind (span_Add.mono _ _ _ _) (fun _ => withK_mono _ _ _ _ _)) (LeO.refl _)) (LeO.refl _)
set_option maxHeartbeats 3200000 in
set_option maxRecDepth 100000 in
theorem know_Add.calls (k : Nat) (A0 : Option Addr) (c0 : Nat) (l0 : List S61) (a1 : ByteArray) (a2 : Int) (r : List S61) (w : World) (hr0 : Kd.C k61 w A0 l0.length l0) (hc0 : l0.length ≤ c0) (h : know_Add.f k l0 a1 a2 = some r) :
  Calls Try.prog 12 #[.slice A0 l0.length c0, .string a1, .int .i64 a2] w fun e w' => ∃ v0_ : Value, e = .returned (v0_) ∧ Kd.V k61 61 w' w.heap.size (fun k_ => w.heap.size ≤ k_) v0_ r ∧ Below w.heap.size w w' := by
 unfold know_Add.f at h
 by_cases hok : okM l0
 rotate_left
 ·rw [if_neg hok] at h; cases h
 rw [if_pos hok] at h
 have HCP := Aside0.mk (fun W (hW : Below w.heap.size w W) => know_copied.own A0 c0 l0 W (Kd.C_below hr0 hW) hc0 hok)
 have HB := Aside0.mk (Below.refl w.heap.size w)
 have HL := Aside0.mk hok.1
 clear hr0 hc0 hok
 by_cases hR : rightB a1 = true
 ·rw [if_pos hR] at h
  obtain ⟨p, hp, h⟩ := Option.bind_eq_some_iff.mp h
  obtain ⟨u, e2⟩ := p
  have HP := Aside0.mk hp
  have H := Aside0.mk h
  clear hp h
  go_enter Try.func12, Try.ntmps12
  go_wp2_with fail
  refine (id_Right.calls a1 true w (by rw [← hR]; rfl)).mono ?_
  rintro e w1 ⟨rfl, hb⟩
  replace HB := Aside0.mk (below_step HB.out hb)
  clear hb hR
  go_wp2_with fail
  refine (HCP.out w1 HB.out).mono ?_
  rintro e w2 ⟨v, rs, rfl, hO, hb⟩
  have HO := Aside0.mk (hO.lower (below_size HB.out))
  replace HB := Aside0.mk (below_step HB.out hb)
  have HVL := Aside0.mk (Kd.R_lt hO.1)
  clear hO hb HCP
  go_wp2_with fail
  refine (span_Add.calls k 0 none 0 [] a2 u e2 w2 (Kd.C_nil _ _) (Nat.le_refl _) HP.out).mono ?_
  rintro e w3 ⟨v2, rfl, ho2, hb⟩
  obtain ⟨A2, c2, rfl⟩ := Kd.R_slice ho2
  have HF := Aside0.mk (Kd.F_mono (Kd.R_F (Kd.R_bound ho2)) (ok' := fun k => w.heap.size ≤ k ∧ some k ≠ v.ownBlock) (fun k hk => ⟨Nat.le_trans (below_size HB.out) hk.2.1, fun e => by have := HVL.out k e.symm; have := hk.2.1; omega⟩))
  have HC2 := Aside0.mk (Kd.R_reads' ho2).2.1
  replace HO := Aside0.mk (HO.out.below hb)
  replace HB := Aside0.mk (below_step HB.out hb)
  clear ho2 hb HVL
  go_wp2_with fail
  refine (know_with.own k v rs l0 a1 u A2 c2 e2 r w.heap.size w3 HO.out (below_size HB.out) HL.out HF.out HC2.out H.out).mono ?_
  rintro e w4 ⟨v4, rs4, rfl, hO4, hb4, -, -⟩
  have HV := Aside0.mk (hO4.view (b := w.heap.size))
  replace HB := Aside0.mk (HB.out.trans hb4)
  clear hO4 hb4
  go_wp2_with fail
  go_ret
  exact ⟨_, rfl, HV.out, HB.out⟩
 ·rw [if_neg hR] at h
  obtain rfl := Option.some.inj h
  have hR2 : rightB a1 = false := by simpa using hR
  clear h hR
  go_enter Try.func12, Try.ntmps12
  go_wp2_with fail
  refine (id_Right.calls a1 false w (by rw [← hR2]; rfl)).mono ?_
  rintro e w1 ⟨rfl, hb⟩
  replace HB := Aside0.mk (below_step HB.out hb)
  clear hb hR2
  go_wp2_with fail
  refine (HCP.out w1 HB.out).mono ?_
  rintro e w2 ⟨v, rs, rfl, hO, hb⟩
  have HV := Aside0.mk ((hO.lower (below_size HB.out)).view (b := w.heap.size))
  replace HB := Aside0.mk (below_step HB.out hb)
  clear hO hb
  go_wp2_with fail
  go_ret
  exact ⟨_, rfl, HV.out, HB.out⟩

/-! ### cmp_isNaN_int: function 96 -/
def cmp_isNaN_int.f (a0 : Int) : Option (Bool) := some (a0 != a0)
set_option maxHeartbeats 8000000 in
set_option maxRecDepth 100000 in
theorem cmp_isNaN_int.calls (a0 : Int) (r : Bool) (w : World) (h : cmp_isNaN_int.f a0 = some r) :
    Calls Try.prog 96 #[.int .i64 a0] w fun e w' => e = .returned (.bool r) ∧ Drawn0 w w' := by
  have H : (some (a0 != a0)) = some r := h
  clear h
  obtain rfl := Option.some.inj H
  go_enter Try.func96, Try.ntmps96
  go_wp2
  go_ret
  exact ⟨by first | rfl | (simp; done) | (simp [*]; done), by repeat (first | exact Drawn0.refl _ | apply Drawn0.step)⟩

/-! ### cmp_Less_int: function 85 -/
def cmp_Less_int.f (a0 : Int) (a1 : Int) : Option (Bool) := (cmp_isNaN_int.f a0).bind fun t145 => (if t145 = true then ((cmp_isNaN_int.f a1).bind fun t146 => (if t146 = true then (some (decide (a0 < a1))) else (some true))) else (some (decide (a0 < a1))))
set_option maxHeartbeats 8000000 in
set_option maxRecDepth 100000 in
theorem cmp_Less_int.calls (a0 : Int) (a1 : Int) (r : Bool) (w : World) (h : cmp_Less_int.f a0 a1 = some r) :
    Calls Try.prog 85 #[.int .i64 a0, .int .i64 a1] w fun e w' => e = .returned (.bool r) ∧ Drawn0 w w' := by
  have H := h
  unfold cmp_Less_int.f at H
  clear h
  replace H := Option.bind_eq_some_iff.mp H
  obtain ⟨t145, A30, H⟩ := H
  have A3 := Aside0.mk A30
  clear A30
  by_cases c4 : t145 = true
  · subst c4
    have H1 : ((cmp_isNaN_int.f a1).bind fun t146 => (if t146 = true then (some (decide (a0 < a1))) else (some true))) = some r := by rw [if_pos rfl] at H; exact H
    clear H
    have H := H1
    clear H1
    replace H := Option.bind_eq_some_iff.mp H
    obtain ⟨t146, A50, H⟩ := H
    have A5 := Aside0.mk A50
    clear A50
    by_cases c6 : t146 = true
    · subst c6
      have H1 : (some (decide (a0 < a1))) = some r := by rw [if_pos rfl] at H; exact H
      clear H
      have H := H1
      clear H1
      obtain rfl := Option.some.inj H
      go_enter Try.func85, Try.ntmps85
      go_wp2_with (first | ((with_reducible refine gate_callee (f := 96) rfl ?_); refine goesL_ (some 6) rfl rfl Try.func96 (by kernel_rfl) rfl #[.int .i64 a0] rfl (by (try simp only [List.map_toArray, List.map_cons, List.map_nil]); first | done | rfl | (simp only [List.length_drop, List.length_take]; rfl)) ?_; (with_reducible refine (cmp_isNaN_int.calls a0 true _ A3.out).mono ?_); rintro e w' ⟨rfl, ⟨nd, rfl⟩⟩; refine ⟨_, rfl, ?_⟩) | (go_at_call 96; (with_reducible refine (cmp_isNaN_int.calls a1 true _ A5.out).mono ?_); rintro e w' ⟨rfl, ⟨nd, rfl⟩⟩))
      go_ret
      exact ⟨by first | rfl | (simp; done) | (simp [*]; done), by repeat (first | exact Drawn0.refl _ | apply Drawn0.step)⟩
    · replace c6 := Bool.eq_false_iff.mpr c6
      subst c6
      have H1 : (some true) = some r := by rw [if_neg (show ¬ (false = true) by decide)] at H; exact H
      clear H
      have H := H1
      clear H1
      obtain rfl := Option.some.inj H
      go_enter Try.func85, Try.ntmps85
      go_wp2_with (first | ((with_reducible refine gate_callee (f := 96) rfl ?_); refine goesL_ (some 6) rfl rfl Try.func96 (by kernel_rfl) rfl #[.int .i64 a0] rfl (by (try simp only [List.map_toArray, List.map_cons, List.map_nil]); first | done | rfl | (simp only [List.length_drop, List.length_take]; rfl)) ?_; (with_reducible refine (cmp_isNaN_int.calls a0 true _ A3.out).mono ?_); rintro e w' ⟨rfl, ⟨nd, rfl⟩⟩; refine ⟨_, rfl, ?_⟩) | (go_at_call 96; (with_reducible refine (cmp_isNaN_int.calls a1 false _ A5.out).mono ?_); rintro e w' ⟨rfl, ⟨nd, rfl⟩⟩))
      go_ret
      exact ⟨by first | rfl | (simp; done) | (simp [*]; done), by repeat (first | exact Drawn0.refl _ | apply Drawn0.step)⟩
  · replace c4 := Bool.eq_false_iff.mpr c4
    subst c4
    have H1 : (some (decide (a0 < a1))) = some r := by rw [if_neg (show ¬ (false = true) by decide)] at H; exact H
    clear H
    have H := H1
    clear H1
    obtain rfl := Option.some.inj H
    go_enter Try.func85, Try.ntmps85
    go_wp2_with (first | ((with_reducible refine gate_callee (f := 96) rfl ?_); refine goesL_ (some 6) rfl rfl Try.func96 (by kernel_rfl) rfl #[.int .i64 a0] rfl (by (try simp only [List.map_toArray, List.map_cons, List.map_nil]); first | done | rfl | (simp only [List.length_drop, List.length_take]; rfl)) ?_; (with_reducible refine (cmp_isNaN_int.calls a0 false _ A3.out).mono ?_); rintro e w' ⟨rfl, ⟨nd, rfl⟩⟩; refine ⟨_, rfl, ?_⟩))
    go_ret
    exact ⟨by first | rfl | (simp; done) | (simp [*]; done), by repeat (first | exact Drawn0.refl _ | apply Drawn0.step)⟩

/-! ### slices_isNaN_int: function 86 -/
def slices_isNaN_int.f (a0 : Int) : Option (Bool) := some (a0 != a0)
set_option maxHeartbeats 8000000 in
set_option maxRecDepth 100000 in
theorem slices_isNaN_int.calls (a0 : Int) (r : Bool) (w : World) (h : slices_isNaN_int.f a0 = some r) :
    Calls Try.prog 86 #[.int .i64 a0] w fun e w' => e = .returned (.bool r) ∧ Drawn0 w w' := by
  have H : (some (a0 != a0)) = some r := h
  clear h
  obtain rfl := Option.some.inj H
  go_enter Try.func86, Try.ntmps86
  go_wp2
  go_ret
  exact ⟨by first | rfl | (simp; done) | (simp [*]; done), by repeat (first | exact Drawn0.refl _ | apply Drawn0.step)⟩

/-! ### slices_BinarySearch_int_int: function 72 -/
theorem zq72_0 {p_ : Prop} (h_ : p_ := by first | (with_reducible assumption) | assumption) : p_ := h_
theorem zq72_1 {p_ : Prop} (h_ : p_ := by first | rfl | (simp; done) | (simp [*]; done)) : p_ := h_
def slices_BinarySearch_int_int.l0 : Nat → List Int → Int → Int → Int → Int → Option (Int × Bool)
 | 0, _, _, _, _, _ => none
 | k + 1, x0, x1, x6, x7, x8 => if x7 < x8 then (if 0 ≤ (wrap64 ((IntKind.u64.wrap (wrap64 (x7 + x8))) / 2)) then (if (wrap64 ((IntKind.u64.wrap (wrap64 (x7 + x8))) / 2)) < (x0.length : Int) then ((cmp_Less_int.f (rd x0 (wrap64 ((IntKind.u64.wrap (wrap64 (x7 + x8))) / 2))) x1).bind fun t148 => (if t148 = true then (slices_BinarySearch_int_int.l0 k x0 x1 x6 (wrap64 ((wrap64 ((IntKind.u64.wrap (wrap64 (x7 + x8))) / 2)) + 1)) x8) else (slices_BinarySearch_int_int.l0 k x0 x1 x6 x7 (wrap64 ((IntKind.u64.wrap (wrap64 (x7 + x8))) / 2))))) else (none)) else (none)) else (if x7 < x6 then (if 0 ≤ x7 then (if x7 < (x0.length : Int) then (if (rd x0 x7) = x1 then (some (x7, true)) else ((slices_isNaN_int.f (rd x0 x7)).bind fun t151 => (if t151 = true then ((slices_isNaN_int.f x1).bind fun t152 => (some (x7, t152))) else (some (x7, false))))) else (none)) else (none)) else (some (x7, false)))
def slices_BinarySearch_int_int.f (k : Nat) (l0 : List Int) (a1 : Int) : Option (Int × Bool) := slices_BinarySearch_int_int.l0 k l0 a1 (l0.length : Int) 0 (l0.length : Int)
theorem slices_BinarySearch_int_int.mono_l : ∀ k, (∀ y0 y1 y2 y3 y4, LeO (slices_BinarySearch_int_int.l0 k y0 y1 y2 y3 y4) (slices_BinarySearch_int_int.l0 (k + 1) y0 y1 y2 y3 y4))
 | 0 => fun _ _ _ _ _ r h => by simp [slices_BinarySearch_int_int.l0] at h
 | k + 1 => by
  have ih0 := slices_BinarySearch_int_int.mono_l k
  ·intro y0 y1 y2 y3 y4
   unfold slices_BinarySearch_int_int.l0
   repeat' first
   | (with_reducible exact ih0 _ _ _ _ _)
   | (with_reducible exact LeO.refl _)
   | (with_reducible exact LeO.none _)
   | (with_reducible refine LeO.ite ?_ ?_)
   | (with_reducible refine LeO.bind ?_ (fun _ => ?_))
   | exact ih0 _ _ _ _ _
   | exact LeO.none _
   | refine LeO.ite ?_ ?_
   | refine LeO.bind ?_ (fun _ => ?_)
theorem slices_BinarySearch_int_int.mono : ∀ a0 a1 k, LeO (slices_BinarySearch_int_int.f k a0 a1) (slices_BinarySearch_int_int.f (k + 1) a0 a1) := by
 intro a0 a1 k
 have ih0 := slices_BinarySearch_int_int.mono_l k
 unfold slices_BinarySearch_int_int.f
 repeat' first
   | (with_reducible exact ih0 _ _ _ _ _)
   | (with_reducible exact LeO.refl _)
   | (with_reducible exact LeO.none _)
   | (with_reducible refine LeO.ite ?_ ?_)
   | (with_reducible refine LeO.bind ?_ (fun _ => ?_))
   | exact ih0 _ _ _ _ _
   | exact LeO.none _
   | refine LeO.ite ?_ ?_
   | refine LeO.bind ?_ (fun _ => ?_)
set_option maxHeartbeats 8000000 in
set_option maxRecDepth 100000 in
theorem slices_BinarySearch_int_int.calls (k : Nat) (A0 : Option Addr) (c0 : Nat) (l0 : List Int) (a1 : Int) (r1 : Int) (r2 : Bool) (w : World) (hr0 : Kd.C (Kd.int .i64) w A0 l0.length l0) (hc0 : l0.length ≤ c0) (h : slices_BinarySearch_int_int.f k l0 a1 = some (r1, r2)) :
  Calls Try.prog 72 #[.slice A0 l0.length c0, .int .i64 a1] w fun e w' => e = .returned (.tuple #[.int .i64 r1, .bool r2]) ∧ Drawn0 w w' := by
 have HR0 := Aside0.mk hr0
 have HC0 := Aside0.mk hc0
 clear hr0 hc0
 have H : (slices_BinarySearch_int_int.l0 k l0 a1 (l0.length : Int) 0 (l0.length : Int)) = some (r1, r2) := h
 clear h
 have H' := Aside0.mk H
 clear H
 go_enter Try.func72, Try.ntmps72
 go_wp2
 go_loopg [7, 8] k (fun kq v7 v8 w' => ∃ (x7_1 : Int) (x8_1 : Int), v7 = .int .i64 x7_1 ∧ v8 = .int .i64 x8_1 ∧ Aside0 (slices_BinarySearch_int_int.l0 kq l0 a1 (l0.length : Int) x7_1 x8_1 = some (r1, r2)) ∧ Aside0 (kq ≤ k) ∧ Drawn0 w w')
 case atStart => exact ⟨(0), ((l0.length : Int)), zq72_1, zq72_1, H', ⟨Nat.le_refl _⟩, by repeat (first | exact Drawn0.refl _ | apply Drawn0.step)⟩
 case round =>
  clear H'
  try clear p2
  obtain ⟨x7_1, x8_1, rfl, rfl, HA, HK1, ⟨m1, rfl⟩⟩ := hrel
  cases gk with
  | zero => exact absurd HA.out (by simp [slices_BinarySearch_int_int.l0])
  | succ k1 =>
   have H := HA.out
   clear HA
   simp only [slices_BinarySearch_int_int.l0] at H
   by_cases c3 : x7_1 < x8_1
   ·rw [if_pos c3] at H
    have c3b0 : decide (x7_1 < x8_1) = true := decide_eq_true c3
    clear c3
    obtain ⟨ji4, hji4⟩ : ∃ j_ : Int, (wrap64 ((IntKind.u64.wrap (wrap64 (x7_1 + x8_1))) / 2)) = j_ := ⟨_, rfl⟩
    replace H : (if 0 ≤ (ji4) then (if (ji4) < (l0.length : Int) then ((cmp_Less_int.f (rd l0 (ji4)) a1).bind fun t148 => (if t148 = true then (slices_BinarySearch_int_int.l0 k1 l0 a1 (l0.length : Int) (wrap64 ((ji4) + 1)) x8_1) else (slices_BinarySearch_int_int.l0 k1 l0 a1 (l0.length : Int) x7_1 ji4))) else (none)) else (none)) = some (r1, r2) := by first | (rw [hji4] at H; exact H) | (simp only [hji4] at H ⊢; exact H)
    have hji4w : (IntKind.i64.wrap ((IntKind.u64.wrap (wrap64 (x7_1 + x8_1))) / 2)) = ji4 := (i64_w _).trans hji4
    by_cases c5 : 0 ≤ (ji4)
    ·rw [if_pos c5] at H
     have c5b0 : decide (0 ≤ (ji4)) = true := decide_eq_true c5
     clear c5
     by_cases c6 : (ji4) < (l0.length : Int)
     ·rw [if_pos c6] at H
      have c6b0 : decide ((ji4) < (l0.length : Int)) = true := decide_eq_true c6
      clear c6
      replace H := Option.bind_eq_some_iff.mp H
      obtain ⟨t148, A70, H⟩ := H
      replace H : (if t148 = true then (slices_BinarySearch_int_int.l0 k1 l0 a1 (l0.length : Int) (wrap64 ((ji4) + 1)) x8_1) else (slices_BinarySearch_int_int.l0 k1 l0 a1 (l0.length : Int) x7_1 ji4)) = some (r1, r2) := H
      have A7 := Aside0.mk A70
      clear A70
      by_cases c8 : t148 = true
      ·subst c8
       have H1 : (slices_BinarySearch_int_int.l0 k1 l0 a1 (l0.length : Int) (wrap64 ((ji4) + 1)) x8_1) = some (r1, r2) := by rw [if_pos rfl] at H; exact H
       clear H
       have H := H1
       clear H1
       have H' := Aside0.mk H
       clear H
       have p147 : 0 ≤ ((ji4) : Int) := of_decide_eq_true zq72_0
       have q147 : (ji4) < (l0.length : Int) := of_decide_eq_true zq72_0
       obtain ⟨ad147, e147, hx147_0⟩ := Kd.at_int HR0.out (ji4) p147 q147
       cases e147
       replace p147 := eq_true p147
       replace q147 := eq_true q147
       go_wp2_with (first | ((with_reducible refine gate_callee (f := 85) rfl ?_); refine goesL_ (some 27) rfl rfl Try.func85 (by kernel_rfl) rfl #[.int .i64 (rd l0 (ji4)), .int .i64 a1] rfl (by (try simp only [List.map_toArray, List.map_cons, List.map_nil]); first | done | (simp only [hji4]; rfl) | rfl | (simp only [List.length_drop, List.length_take]; rfl)) ?_; (with_reducible refine (cmp_Less_int.calls (rd l0 (ji4)) a1 true _ A7.out).mono ?_); rintro e w' ⟨rfl, ⟨nd, rfl⟩⟩; refine ⟨_, rfl, ?_⟩))
       go_roundg k1
       case measure => have := HK1.out; omega
       case rel => exact ⟨(wrap64 ((ji4) + 1)), (x8_1), (by first | rfl | (simp; done) | (simp only [← hji4] <;> (first | rfl | simp)) | (simp [*]; done)), zq72_1, H', ⟨by have := HK1.out; omega⟩, by repeat (first | exact Drawn0.refl _ | apply Drawn0.step)⟩
      ·replace c8 := Bool.eq_false_iff.mpr c8
       subst c8
       have H1 : (slices_BinarySearch_int_int.l0 k1 l0 a1 (l0.length : Int) x7_1 ji4) = some (r1, r2) := by rw [if_neg (show ¬ (false = true) by decide)] at H; exact H
       clear H
       have H := H1
       clear H1
       have H' := Aside0.mk H
       clear H
       have p147 : 0 ≤ ((ji4) : Int) := of_decide_eq_true zq72_0
       have q147 : (ji4) < (l0.length : Int) := of_decide_eq_true zq72_0
       obtain ⟨ad147, e147, hx147_0⟩ := Kd.at_int HR0.out (ji4) p147 q147
       cases e147
       replace p147 := eq_true p147
       replace q147 := eq_true q147
       go_wp2_with (first | ((with_reducible refine gate_callee (f := 85) rfl ?_); refine goesL_ (some 27) rfl rfl Try.func85 (by kernel_rfl) rfl #[.int .i64 (rd l0 (ji4)), .int .i64 a1] rfl (by (try simp only [List.map_toArray, List.map_cons, List.map_nil]); first | done | (simp only [hji4]; rfl) | rfl | (simp only [List.length_drop, List.length_take]; rfl)) ?_; (with_reducible refine (cmp_Less_int.calls (rd l0 (ji4)) a1 false _ A7.out).mono ?_); rintro e w' ⟨rfl, ⟨nd, rfl⟩⟩; refine ⟨_, rfl, ?_⟩))
       go_roundg k1
       case measure => have := HK1.out; omega
       case rel => exact ⟨(x7_1), (ji4), zq72_1, (by first | rfl | (simp; done) | (simp only [← hji4] <;> (first | rfl | simp)) | (simp [*]; done)), H', ⟨by have := HK1.out; omega⟩, by repeat (first | exact Drawn0.refl _ | apply Drawn0.step)⟩
     ·rw [if_neg c6] at H
      exact absurd H (by simp)
    ·rw [if_neg c5] at H
     exact absurd H (by simp)
   ·rw [if_neg c3] at H
    have c3b0 : decide (x7_1 < x8_1) = false := decide_eq_false c3
    clear c3
    by_cases c9 : x7_1 < (l0.length : Int)
    ·rw [if_pos c9] at H
     have c9b0 : decide (x7_1 < (l0.length : Int)) = true := decide_eq_true c9
     clear c9
     by_cases c10 : 0 ≤ x7_1
     ·rw [if_pos c10] at H
      have c10b0 : decide (0 ≤ x7_1) = true := decide_eq_true c10
      clear c10
      by_cases c11 : x7_1 < (l0.length : Int)
      ·rw [if_pos c11] at H
       have c11b0 : decide (x7_1 < (l0.length : Int)) = true := decide_eq_true c11
       clear c11
       by_cases c12 : (rd l0 x7_1) = a1
       ·rw [if_pos c12] at H
        have c12b0 : ((rd l0 x7_1) == a1) = true := beq_iff_eq.mpr c12
        have c12b1 : ((rd l0 x7_1) != a1) = false := bne_eq_false_iff_eq.mpr c12
        clear c12
        simp only [Option.some.injEq, Prod.mk.injEq] at H
        obtain ⟨rfl, rfl⟩ := H
        have p149 : 0 ≤ (x7_1 : Int) := of_decide_eq_true zq72_0
        have q149 : x7_1 < (l0.length : Int) := of_decide_eq_true zq72_0
        obtain ⟨ad149, e149, hx149_0⟩ := Kd.at_int HR0.out x7_1 p149 q149
        cases e149
        replace p149 := eq_true p149
        replace q149 := eq_true q149
        go_wp2
        go_ret2
        exact ⟨by first | rfl | (simp; done) | (simp [*]; done), by repeat (first | exact Drawn0.refl _ | apply Drawn0.step)⟩
       ·rw [if_neg c12] at H
        have c12b0 : ((rd l0 x7_1) == a1) = false := beq_eq_false_iff_ne.mpr c12
        have c12b1 : ((rd l0 x7_1) != a1) = true := bne_iff_ne.mpr c12
        replace H := Option.bind_eq_some_iff.mp H
        obtain ⟨t151, A130, H⟩ := H
        replace H : (if t151 = true then ((slices_isNaN_int.f a1).bind fun t152 => (some (x7_1, t152))) else (some (x7_1, false))) = some (r1, r2) := H
        have A13 := Aside0.mk A130
        clear A130
        by_cases c14 : t151 = true
        ·subst c14
         have H1 : ((slices_isNaN_int.f a1).bind fun t152 => (some (x7_1, t152))) = some (r1, r2) := by rw [if_pos rfl] at H; exact H
         clear H
         have H := H1
         clear H1
         replace H := Option.bind_eq_some_iff.mp H
         obtain ⟨t152, A150, H⟩ := H
         replace H : (some (x7_1, t152)) = some (r1, r2) := H
         have A15 := Aside0.mk A150
         clear A150
         simp only [Option.some.injEq, Prod.mk.injEq] at H
         obtain ⟨rfl, rfl⟩ := H
         have p149 : 0 ≤ (x7_1 : Int) := of_decide_eq_true zq72_0
         have q149 : x7_1 < (l0.length : Int) := of_decide_eq_true zq72_0
         obtain ⟨ad149, e149, hx149_0⟩ := Kd.at_int HR0.out x7_1 p149 q149
         cases e149
         replace p149 := eq_true p149
         replace q149 := eq_true q149
         have p150 : 0 ≤ (x7_1 : Int) := of_decide_eq_true zq72_0
         have q150 : x7_1 < (l0.length : Int) := of_decide_eq_true zq72_0
         obtain ⟨ad150, e150, hx150_0⟩ := Kd.at_int HR0.out x7_1 p150 q150
         obtain rfl : ad149 = ad150 := (by injection e150)
         replace p150 := eq_true p150
         replace q150 := eq_true q150
         go_wp2_with (first | (go_at_call 86; (with_reducible refine (slices_isNaN_int.calls (rd l0 x7_1) true _ A13.out).mono ?_); rintro e w' ⟨rfl, ⟨nd, rfl⟩⟩) | (go_at_call 86; (with_reducible refine (slices_isNaN_int.calls a1 t152 _ A15.out).mono ?_); rintro e w' ⟨rfl, ⟨nd, rfl⟩⟩))
         go_ret2
         exact ⟨by first | rfl | (simp; done) | (simp [*]; done), by repeat (first | exact Drawn0.refl _ | apply Drawn0.step)⟩
        ·replace c14 := Bool.eq_false_iff.mpr c14
         subst c14
         have H1 : (some (x7_1, false)) = some (r1, r2) := by rw [if_neg (show ¬ (false = true) by decide)] at H; exact H
         clear H
         have H := H1
         clear H1
         simp only [Option.some.injEq, Prod.mk.injEq] at H
         obtain ⟨rfl, rfl⟩ := H
         have p149 : 0 ≤ (x7_1 : Int) := of_decide_eq_true zq72_0
         have q149 : x7_1 < (l0.length : Int) := of_decide_eq_true zq72_0
         obtain ⟨ad149, e149, hx149_0⟩ := Kd.at_int HR0.out x7_1 p149 q149
         cases e149
         replace p149 := eq_true p149
         replace q149 := eq_true q149
         have p150 : 0 ≤ (x7_1 : Int) := of_decide_eq_true zq72_0
         have q150 : x7_1 < (l0.length : Int) := of_decide_eq_true zq72_0
         obtain ⟨ad150, e150, hx150_0⟩ := Kd.at_int HR0.out x7_1 p150 q150
         obtain rfl : ad149 = ad150 := (by injection e150)
         replace p150 := eq_true p150
         replace q150 := eq_true q150
         go_wp2_with (first | (go_at_call 86; (with_reducible refine (slices_isNaN_int.calls (rd l0 x7_1) false _ A13.out).mono ?_); rintro e w' ⟨rfl, ⟨nd, rfl⟩⟩))
         go_ret2
         exact ⟨by first | rfl | (simp; done) | (simp [*]; done), by repeat (first | exact Drawn0.refl _ | apply Drawn0.step)⟩
      ·rw [if_neg c11] at H
       exact absurd H (by simp)
     ·rw [if_neg c10] at H
      exact absurd H (by simp)
    ·rw [if_neg c9] at H
     have c9b0 : decide (x7_1 < (l0.length : Int)) = false := decide_eq_false c9
     clear c9
     simp only [Option.some.injEq, Prod.mk.injEq] at H
     obtain ⟨rfl, rfl⟩ := H
     go_wp2
     go_ret2
     exact ⟨by first | rfl | (simp; done) | (simp [*]; done), by repeat (first | exact Drawn0.refl _ | apply Drawn0.step)⟩

/-! ### span_Has: function 54 -/
def span_Has.f (k : Nat) (a0_0 : Int) (l0_1 : List Int) (a1 : Int) : Option (Bool) := if a1 ≤ a0_0 then (some (decide (a1 ≥ 1))) else ((slices_BinarySearch_int_int.f k l0_1 a1).bind fun bt154 => (some bt154.2))
theorem span_Has.mono : ∀ a0 a1 a2 k, LeO (span_Has.f k a0 a1 a2) (span_Has.f (k + 1) a0 a1 a2) := by
  intro a0 a1 a2 k
  unfold span_Has.f
  repeat' first
      | (with_reducible exact slices_BinarySearch_int_int.mono _ _ _)
      | (with_reducible exact LeO.refl _)
      | (with_reducible exact LeO.none _)
      | (with_reducible refine LeO.ite ?_ ?_)
      | (with_reducible refine LeO.bind ?_ (fun _ => ?_))
      | exact slices_BinarySearch_int_int.mono _ _ _
      | exact LeO.none _
      | refine LeO.ite ?_ ?_
      | refine LeO.bind ?_ (fun _ => ?_)
set_option maxHeartbeats 8000000 in
set_option maxRecDepth 100000 in
theorem span_Has.calls (k : Nat) (a0_0 : Int) (A0_1 : Option Addr) (c0_1 : Nat) (l0_1 : List Int) (a1 : Int) (r : Bool) (w : World) (hr0_1 : Kd.C (Kd.int .i64) w A0_1 l0_1.length l0_1) (hc0_1 : l0_1.length ≤ c0_1) (h : span_Has.f k a0_0 l0_1 a1 = some r) :
    Calls Try.prog 54 #[.agg #[.int .i64 a0_0, .slice A0_1 l0_1.length c0_1], .int .i64 a1] w fun e w' => e = .returned (.bool r) ∧ Below w.heap.size w w' := by
  have hu44 := Try.underlying44
  have HR0_1 := Aside0.mk hr0_1
  have HC0_1 := Aside0.mk hc0_1
  clear hr0_1 hc0_1
  have HB := Aside0.mk (Below.refl w.heap.size w)
  have H : (if a1 ≤ a0_0 then (some (decide (a1 ≥ 1))) else ((slices_BinarySearch_int_int.f k l0_1 a1).bind fun bt154 => (some bt154.2))) = some r := h
  clear h
  by_cases c3 : a1 ≤ a0_0
  · rw [if_pos c3] at H
    have c3b0 : decide (a1 ≤ a0_0) = true := decide_eq_true c3
    clear c3
    obtain rfl := Option.some.inj H
    go_enter Try.func54, Try.ntmps54
    go_wp2_with (first | ((with_reducible refine gate_dst (N := 2) rfl ?_); refine box_event ?hg (N := 2) ?hd (cs := #[.int .i64 a0_0, .slice A0_1 l0_1.length c0_1]) (t := 44) ?hr ?_; (case hd => rfl); (case hg => rfl); (case hr => first | (go_simp; done) | (go_simp; rfl)); intro gb153 hg w4 hbox hb; have BK153 := Aside0.mk (hbox); have GW153 := Aside0.mk ((by rw [hg]; exact (below_size (by repeat (first | (with_reducible first | exact HB.out | apply below_alloc | apply pw_below_drewN | apply below_drew1) | exact HB.out))) : w.heap.size ≤ gb153)); have GE153 := Aside0.mk ((by rw [hg]; exact (below_size (by repeat (first | (with_reducible first | exact HB.out | apply below_alloc | apply pw_below_drewN | apply below_drew1) | exact HB.out))) : w.heap.size ≤ gb153)); replace HB := Aside0.mk (below_step (by repeat (first | (with_reducible first | exact HB.out | apply below_alloc | apply pw_below_drewN | apply below_drew1) | exact HB.out)) hb); clear hb hbox hg; have hcz5_0 : w4.cell? ⟨gb153, 0, none⟩ = some (.int .i64 a0_0) := (blk_cell BK153.out 0).trans rfl; have hcz5_1 : w4.cell? ⟨gb153, 1, none⟩ = some (.slice A0_1 l0_1.length c0_1) := (blk_cell BK153.out 1).trans rfl; have hfz5_0 := blk_frozen BK153.out 0; have hfz5_1 := blk_frozen BK153.out 1))
    go_ret
    exact ⟨by first | rfl | (simp [errW_none, errW_some] <;> rfl) | (simp [*, errW_none, errW_some] <;> rfl), by repeat (first | (with_reducible first | exact HB.out | apply below_alloc | apply pw_below_drewN | apply below_drew1 | refine below_set ?_ GE153.out) | exact HB.out)⟩
  · rw [if_neg c3] at H
    have c3b0 : decide (a1 ≤ a0_0) = false := decide_eq_false c3
    clear c3
    replace H := Option.bind_eq_some_iff.mp H
    obtain ⟨⟨t154, t155⟩, A60, H⟩ := H
    have A6 := Aside0.mk A60
    clear A60
    obtain rfl := Option.some.inj H
    go_enter Try.func54, Try.ntmps54
    go_wp2_with (first | ((with_reducible refine gate_dst (N := 2) rfl ?_); refine box_event ?hg (N := 2) ?hd (cs := #[.int .i64 a0_0, .slice A0_1 l0_1.length c0_1]) (t := 44) ?hr ?_; (case hd => rfl); (case hg => rfl); (case hr => first | (go_simp; done) | (go_simp; rfl)); intro gb153 hg w7 hbox hb; have BK153 := Aside0.mk (hbox); have GW153 := Aside0.mk ((by rw [hg]; exact (below_size (by repeat (first | (with_reducible first | exact HB.out | apply below_alloc | apply pw_below_drewN | apply below_drew1) | exact HB.out))) : w.heap.size ≤ gb153)); have GE153 := Aside0.mk ((by rw [hg]; exact (below_size (by repeat (first | (with_reducible first | exact HB.out | apply below_alloc | apply pw_below_drewN | apply below_drew1) | exact HB.out))) : w.heap.size ≤ gb153)); replace HB := Aside0.mk (below_step (by repeat (first | (with_reducible first | exact HB.out | apply below_alloc | apply pw_below_drewN | apply below_drew1) | exact HB.out)) hb); clear hb hbox hg; have hcz8_0 : w7.cell? ⟨gb153, 0, none⟩ = some (.int .i64 a0_0) := (blk_cell BK153.out 0).trans rfl; have hcz8_1 : w7.cell? ⟨gb153, 1, none⟩ = some (.slice A0_1 l0_1.length c0_1) := (blk_cell BK153.out 1).trans rfl; have hfz8_0 := blk_frozen BK153.out 0; have hfz8_1 := blk_frozen BK153.out 1) | ((with_reducible refine gate_callee (f := 72) rfl ?_); refine goesL_ (some 17) rfl rfl Try.func72 (by kernel_rfl) rfl #[.slice A0_1 l0_1.length c0_1, .int .i64 a1] rfl (by (try simp only [List.map_toArray, List.map_cons, List.map_nil]); first | done | rfl | (simp only [List.length_drop, List.length_take]; rfl)) ?_; (with_reducible refine (slices_BinarySearch_int_int.calls k _ _ l0_1 a1 t154 t155 _ ?side1 ?side2 A6.out).mono ?_); (case side1 => repeat (first | exact (Kd.C_below HR0_1.out HB.out) | (with_reducible refine Kd.C_alloc ?_ _) | (with_reducible refine Kd.C_drewN ?_ _) | (with_reducible refine Kd.C_drew ?_))); (case side2 => exact HC0_1.out); rintro e w' ⟨rfl, ⟨nd, rfl⟩⟩; refine ⟨_, rfl, ?_⟩))
    go_ret
    exact ⟨by first | rfl | (simp [errW_none, errW_some] <;> rfl) | (simp [*, errW_none, errW_some] <;> rfl), by repeat (first | (with_reducible first | exact HB.out | apply below_alloc | apply pw_below_drewN | apply below_drew1 | refine below_set ?_ GE153.out) | exact HB.out)⟩

/-! ### know_Has: function 22 -/
def know_Has.f (k : Nat) (l0 : List (S61)) (a1 : ByteArray) (a2 : Int) : Option (Bool) := (know_find.f l0 a1).bind fun bt156 => (if bt156.2 = true then (if 0 ≤ bt156.1 then (if bt156.1 < (l0.length : Int) then ((span_Has.f k ((rd_T61 l0 bt156.1).f1.f0) ((rd_T61 l0 bt156.1).f1.f1) a2).bind fun t159 => (some t159)) else (none)) else (none)) else (some false))
theorem know_Has.mono : ∀ a0 a1 a2 k, LeO (know_Has.f k a0 a1 a2) (know_Has.f (k + 1) a0 a1 a2) := by
  intro a0 a1 a2 k
  unfold know_Has.f
  repeat' first
      | (with_reducible exact span_Has.mono _ _ _ _)
      | (with_reducible exact LeO.refl _)
      | (with_reducible exact LeO.none _)
      | (with_reducible refine LeO.ite ?_ ?_)
      | (with_reducible refine LeO.bind ?_ (fun _ => ?_))
      | exact span_Has.mono _ _ _ _
      | exact LeO.none _
      | refine LeO.ite ?_ ?_
      | refine LeO.bind ?_ (fun _ => ?_)
set_option maxHeartbeats 8000000 in
set_option maxRecDepth 100000 in
theorem know_Has.calls (k : Nat) (A0 : Option Addr) (c0 : Nat) (l0 : List (S61)) (a1 : ByteArray) (a2 : Int) (r : Bool) (w : World) (hr0 : Kd.C k61 w A0 l0.length l0) (hc0 : l0.length ≤ c0) (h : know_Has.f k l0 a1 a2 = some r) :
    Calls Try.prog 22 #[.slice A0 l0.length c0, .string a1, .int .i64 a2] w fun e w' => e = .returned (.bool r) ∧ Below w.heap.size w w' := by
  have hu44 := Try.underlying44
  have HR0 := Aside0.mk hr0
  have HC0 := Aside0.mk hc0
  clear hr0 hc0
  have HB := Aside0.mk (Below.refl w.heap.size w)
  have H := h
  unfold know_Has.f at H
  clear h
  replace H := Option.bind_eq_some_iff.mp H
  obtain ⟨⟨t156, t157⟩, A40, H⟩ := H
  have A4 := Aside0.mk A40
  clear A40
  by_cases c5 : t157 = true
  · subst c5
    have H1 : (if 0 ≤ t156 then (if t156 < (l0.length : Int) then ((span_Has.f k ((rd_T61 l0 t156).f1.f0) ((rd_T61 l0 t156).f1.f1) a2).bind fun t159 => (some t159)) else (none)) else (none)) = some r := by rw [if_pos rfl] at H; exact H
    clear H
    have H := H1
    clear H1
    by_cases c6 : 0 ≤ t156
    · rw [if_pos c6] at H
      have c6b0 : decide (0 ≤ t156) = true := decide_eq_true c6
      clear c6
      by_cases c7 : t156 < (l0.length : Int)
      · rw [if_pos c7] at H
        have c7b0 : decide (t156 < (l0.length : Int)) = true := decide_eq_true c7
        clear c7
        replace H := Option.bind_eq_some_iff.mp H
        obtain ⟨t159, A80, H⟩ := H
        have A8 := Aside0.mk A80
        clear A80
        obtain rfl := Option.some.inj H
        go_enter Try.func22, Try.ntmps22
        go_wp2_with (first | ((with_reducible refine gate_callee (f := 52) rfl ?_); refine goesL_ (some 12) rfl rfl Try.func52 (by kernel_rfl) rfl #[.slice A0 l0.length c0, .string a1] rfl (by (try simp only [List.map_toArray, List.map_cons, List.map_nil]); first | done | rfl | (simp only [List.length_drop, List.length_take]; rfl)) ?_; (with_reducible refine (know_find.calls _ _ l0 a1 t156 true _ ?side1 ?side2 A4.out).mono ?_); (case side1 => repeat (first | exact HR0.out | (with_reducible refine Kd.C_alloc ?_ _) | (with_reducible refine Kd.C_drewN ?_ _) | (with_reducible refine Kd.C_drew ?_))); (case side2 => exact HC0.out); rintro e w9 ⟨rfl, hb⟩; refine ⟨_, rfl, ?_⟩; replace HB := Aside0.mk (below_step (by repeat (first | (with_reducible first | exact HB.out | apply below_alloc | apply pw_below_drewN | apply below_drew1) | exact HB.out)) hb); (try clear hb); (try clear hb2); (try clear hk); (try clear hi); have p158 : 0 ≤ (t156 : Int) := of_decide_eq_true (by first | (with_reducible assumption) | assumption); have q158 : t156 < (l0.length : Int) := of_decide_eq_true (by first | (with_reducible assumption) | assumption); obtain ⟨ad158, A158_2, c158_2, e158, hx158_0, hx158_1, hx158_2, hl158_2, hi158_2⟩ := at_T61 HR0.out t156 p158 q158; cases e158; replace hx158_0 := (HB.out.cell (World.block_lt_of_cell? w _ hx158_0)).trans hx158_0; replace hx158_1 := (HB.out.cell (World.block_lt_of_cell? w _ hx158_1)).trans hx158_1; replace hx158_2 := (HB.out.cell (World.block_lt_of_cell? w _ hx158_2)).trans hx158_2; have HR158_2 := Aside0.mk hi158_2; have HC158_2 := Aside0.mk hl158_2; clear hi158_2 hl158_2; replace p158 := eq_true p158; replace q158 := eq_true q158) | (go_at_call 54; (with_reducible refine (span_Has.calls k ((rd_T61 l0 t156).f1.f0) _ _ ((rd_T61 l0 t156).f1.f1) a2 t159 _ ?side1 ?side2 A8.out).mono ?_); (case side1 => repeat (first | exact (Kd.C_below HR158_2.out HB.out) | (with_reducible refine Kd.C_alloc ?_ _) | (with_reducible refine Kd.C_drewN ?_ _) | (with_reducible refine Kd.C_drew ?_))); (case side2 => exact HC158_2.out); rintro e w10 ⟨rfl, hb⟩; replace HB := Aside0.mk (below_step (by repeat (first | (with_reducible first | exact HB.out | apply below_alloc | apply pw_below_drewN | apply below_drew1) | exact HB.out)) hb); (try clear hb); (try clear hb2); (try clear hk); (try clear hi)))
        go_ret
        exact ⟨by first | rfl | (simp [errW_none, errW_some] <;> rfl) | (simp [*, errW_none, errW_some] <;> rfl), by repeat (first | (with_reducible first | exact HB.out | apply below_alloc | apply pw_below_drewN | apply below_drew1) | exact HB.out)⟩
      · rw [if_neg c7] at H
        exact absurd H (by simp)
    · rw [if_neg c6] at H
      exact absurd H (by simp)
  · replace c5 := Bool.eq_false_iff.mpr c5
    subst c5
    have H1 : (some false) = some r := by rw [if_neg (show ¬ (false = true) by decide)] at H; exact H
    clear H
    have H := H1
    clear H1
    obtain rfl := Option.some.inj H
    go_enter Try.func22, Try.ntmps22
    go_wp2_with (first | ((with_reducible refine gate_callee (f := 52) rfl ?_); refine goesL_ (some 12) rfl rfl Try.func52 (by kernel_rfl) rfl #[.slice A0 l0.length c0, .string a1] rfl (by (try simp only [List.map_toArray, List.map_cons, List.map_nil]); first | done | rfl | (simp only [List.length_drop, List.length_take]; rfl)) ?_; (with_reducible refine (know_find.calls _ _ l0 a1 t156 false _ ?side1 ?side2 A4.out).mono ?_); (case side1 => repeat (first | exact HR0.out | (with_reducible refine Kd.C_alloc ?_ _) | (with_reducible refine Kd.C_drewN ?_ _) | (with_reducible refine Kd.C_drew ?_))); (case side2 => exact HC0.out); rintro e w11 ⟨rfl, hb⟩; refine ⟨_, rfl, ?_⟩; replace HB := Aside0.mk (below_step (by repeat (first | (with_reducible first | exact HB.out | apply below_alloc | apply pw_below_drewN | apply below_drew1) | exact HB.out)) hb); (try clear hb); (try clear hb2); (try clear hk); (try clear hi)))
    go_ret
    exact ⟨by first | rfl | (simp [errW_none, errW_some] <;> rfl) | (simp [*, errW_none, errW_some] <;> rfl), by repeat (first | (with_reducible first | exact HB.out | apply below_alloc | apply pw_below_drewN | apply below_drew1) | exact HB.out)⟩

end Go.Proofs.Ytkfehkaiifjkmaa.P
