-- Written by a program of this session (wip/pp.py over the kit's printer, with our own texts put in).
import Derived.Test.YtoodahceejdbcaaP0
import Derived.Test.YtoodahceejdbcaaP3
import Derived.Test.YtoodahceejdbcaaP5
import Derived.Test.YtoodahceejdbcaaP7
import Derived.Test.YtoodahceejdbcaaP8
import Derived.Test.YtoodahceejdbcaaP9
import Derived.Test.YtoodahceejdbcaaP10
import Derived.Test.YtoodahceejdbcaaP11
namespace Go.Proofs.Ytoodahceejdbcaa.P
open Go.RowKit Go.Proofs.YtoodahceejdbcaaW.PrintWords Go.Proofs.YtoodahceejdbcaaW.PrintLast Go.Proofs.YtoodahceejdbcaaW.PrintMore
attribute [local go_sem] max2_int min2_int max_two min_two max_three min_three max_four min_four   -- for this text's walks alone
set_option linter.unusedVariables false
set_option linter.unusedSimpArgs false

/-! ### cenotaphref10_Merge: function 35 -/
theorem zq35_0 {p_ : Prop} (h_ : p_ := by repeat (first | (with_reducible first | exact HB.out | apply below_alloc | apply pw_below_drewN | apply below_drew1) | exact HB.out)) : p_ := h_
theorem zq35_1 {p_ : Prop} (h_ : p_ := by first | (with_reducible assumption) | assumption) : p_ := h_
def cenotaphref10_Merge.l0 : Nat → List (S25) → List (S25) → Int → Option ((List (S25)))
 | 0, _, _, _ => none
 | k + 1, x1, x5, x6 => if x6 < (x1.length : Int) then (if 0 ≤ x6 then ((cenotaphref10_Put.f k x5 ((rd_T25 x1 x6).f0) ((rd_T25 x1 x6).f1)).bind fun t482 => (cenotaphref10_Merge.l0 k x1 t482 (wrap64 (x6 + 1)))) else (none)) else (some x5)
def cenotaphref10_Merge.f (k : Nat) (l0 : List (S25)) (l1 : List (S25)) : Option ((List (S25))) := (some (([] : List (S25)) : List (S25))).bind fun y474 => (if y474.length + l0.length < 3518437208883 then (cenotaphref10_Merge.l0 k l1 (y474 ++ l0) 0) else (none))
theorem cenotaphref10_Merge.mono_l : ∀ k, (∀ y0 y1 y2, LeO (cenotaphref10_Merge.l0 k y0 y1 y2) (cenotaphref10_Merge.l0 (k + 1) y0 y1 y2))
 | 0 => fun _ _ _ r h => by simp [cenotaphref10_Merge.l0] at h
 | k + 1 => by
  have ih0 := cenotaphref10_Merge.mono_l k
  ·intro y0 y1 y2
   unfold cenotaphref10_Merge.l0
   repeat' first
   | (with_reducible exact ih0 _ _ _)
   | (with_reducible exact cenotaphref10_Put.mono _ _ _ _)
   | (with_reducible exact LeO.refl _)
   | (with_reducible exact LeO.none _)
   | (with_reducible refine LeO.ite ?_ ?_)
   | (with_reducible refine LeO.bind ?_ (fun _ => ?_))
   | exact ih0 _ _ _
   | exact cenotaphref10_Put.mono _ _ _ _
   | exact LeO.none _
   | refine LeO.ite ?_ ?_
   | refine LeO.bind ?_ (fun _ => ?_)
theorem cenotaphref10_Merge.mono : ∀ a0 a1 k, LeO (cenotaphref10_Merge.f k a0 a1) (cenotaphref10_Merge.f (k + 1) a0 a1) := by
 intro a0 a1 k
 have ih0 := cenotaphref10_Merge.mono_l k
 unfold cenotaphref10_Merge.f
 repeat' first
   | (with_reducible exact ih0 _ _ _)
   | (with_reducible exact cenotaphref10_Put.mono _ _ _ _)
   | (with_reducible exact LeO.refl _)
   | (with_reducible exact LeO.none _)
   | (with_reducible refine LeO.ite ?_ ?_)
   | (with_reducible refine LeO.bind ?_ (fun _ => ?_))
   | exact ih0 _ _ _
   | exact cenotaphref10_Put.mono _ _ _ _
   | exact LeO.none _
   | refine LeO.ite ?_ ?_
   | refine LeO.bind ?_ (fun _ => ?_)
def cenotaphref10_Merge.T5 : Bool × List (List Nat × List Nat) := (true, [([], []), ([], []), ([], []), ([1, 2], [1, 2]), ([3], [3]), ([4], [4]), ([], []), ([], []), ([6, 7], [6, 7]), ([8], [8]), ([9], [9]), ([0, 5, 10], [0, 5, 10]), ([11, 11, 0, 1, 2, 3, 4, 5, 6, 7, 8, 9, 10, 11], [0, 11])])
def cenotaphref10_Merge.B5 : List Nat := [0, 0, 0, 6, 14, 30, 0, 0, 192, 448, 960, 2047, 4095]
theorem cenotaphref10_Merge.tab5 : rtab .any (opsOf Try.f35 5) = cenotaphref10_Merge.T5 := by kernel_rfl
theorem cenotaphref10_Merge.bits5 : waitsOk cenotaphref10_Merge.T5.2 cenotaphref10_Merge.B5 = true := by kernel_rfl
set_option maxHeartbeats 8000000 in
set_option maxRecDepth 100000 in
theorem cenotaphref10_Merge.calls (k : Nat) (P0_ : Nat → Prop) (A0 : Option Addr) (c0 : Nat) (l0 : List (S25)) (A1 : Option Addr) (c1 : Nat) (l1 : List (S25)) (r : List (S25)) (w : World) (hs0 : Kd.V k25 25 w w.heap.size (fun k_ => P0_ k_) (.slice A0 l0.length c0) l0) (hr1 : Kd.C k25 w A1 l1.length l1) (hc1 : l1.length ≤ c1) (h : cenotaphref10_Merge.f k l0 l1 = some r) :
  Calls Try.prog 35 #[.slice A0 l0.length c0, .slice A1 l1.length c1] w fun e w' => ∃ v0_ : Value, e = .returned (v0_) ∧ Kd.V k25 25 w' w.heap.size (fun k_ => (P0_ k_ ∨ w.heap.size ≤ k_)) v0_ r ∧ Below w.heap.size w w' := by
 have HO0 := Aside0.mk (show Kd.V k25 25 w w.heap.size (fun k_ => (P0_ k_ ∨ w.heap.size ≤ k_)) (.slice A0 l0.length c0) l0 from Kd.V_mono hs0 (fun k_ hk => .inl hk))
 have HR1 := Aside0.mk hr1
 have HC1 := Aside0.mk hc1
 clear hr1 hc1
 have HB := Aside0.mk (Below.refl w.heap.size w)
 have H : ((some (([] : List (S25)) : List (S25))).bind fun y474 => (if y474.length + l0.length < 3518437208883 then (cenotaphref10_Merge.l0 k l1 (y474 ++ l0) 0) else (none))) = some r := h
 clear h
 obtain ⟨y474, hy474⟩ : ∃ y_ : List (S25), y_ = (([] : List (S25))) := ⟨_, rfl⟩
 replace H : (if y474.length + l0.length < 3518437208883 then (cenotaphref10_Merge.l0 k l1 (y474 ++ l0) 0) else (none)) = some r := by first | (rw [hy474]; with_reducible exact H) | (have H2_ := (Option.bind_some _ _).symm.trans H; rw [hy474]; with_reducible exact H2_) | (have H2_ := (Option.bind_some _ _).symm.trans H; with_reducible exact H2_) | with_reducible exact H | (rw [hy474]; exact H) | exact H
 have Ny474 := Aside0.mk hy474
 clear hy474
 by_cases c3 : y474.length + l0.length < 3518437208883
 ·rw [if_pos c3] at H
  have LMc3 := Aside0.mk c3
  clear c3
  obtain ⟨y477, hy477⟩ : ∃ y_ : List (S25), y_ = (y474 ++ l0) := ⟨_, rfl⟩
  replace H : (cenotaphref10_Merge.l0 k l1 y477 0) = some r := by first | (rw [hy477]; with_reducible exact H) | (have H2_ := (Option.bind_some _ _).symm.trans H; rw [hy477]; with_reducible exact H2_) | (have H2_ := (Option.bind_some _ _).symm.trans H; with_reducible exact H2_) | with_reducible exact H | (rw [hy477]; exact H) | exact H
  have Ny477 := Aside0.mk hy477
  clear hy477
  have H' := Aside0.mk H
  clear H
  go_enter Try.func35, Try.ntmps35
  go_wp2_with (first | ((with_reducible refine gate_dst (N := 7) rfl ?_); refine Kd.N_lit k25 _ 25 ?hg (N' := 7) ?hd (xs := ([] : List (S25))) (inner := []) (ok := (fun k_ => (P0_ k_ ∨ w.heap.size ≤ k_))) (okp := (fun k_ => (P0_ k_ ∨ w.heap.size ≤ k_))) ?hr ?hp (fun _ hk => hk) ((show ∀ k_, w.heap.size ≤ k_ → (fun k_ => (P0_ k_ ∨ w.heap.size ≤ k_)) k_ from fun k_ hk => (.inr (Nat.le_trans (below_size zq35_0) hk))) _ (Nat.le_refl _)) (Below.refl _ _) (Nat.le_refl _) (by simp) ?_; (case hd => rfl); (case hg => rfl); (case hr => first | (go_simp; done) | (go_simp; rfl)); (case hp => exact (Reps.none _ _)); intro v475 w4 ho5 hb hg_ hnew_; clear hg_ hnew_; (first | rw [← Ny474.out] at ho5 | (simp only [Int.reduceToNat] at ho5; rw [← Ny474.out] at ho5)); replace HO0 := Aside0.mk (Kd.V_elder' (by (with_reducible repeat (first | apply Kd.V_alloc | apply Kd.V_drewN | apply Kd.V_drew)); exact HO0.out) (Kd.N_base ho5) hb); have HO476 := Aside0.mk (Kd.N_lower ho5 (below_size zq35_0)); replace HB := Aside0.mk (below_step zq35_0 hb); clear hb ho5) | ((with_reducible refine gate_builtin (b := .append) (xs := #[.tmp 7, .tmp 8]) rfl ?_); at_builtin; refine Kd.N_append_rows k25 (w0 := w) w.heap.size rfl (.tmp 7) (.tmp 8) 22 25 (.agg #[(.string ⟨#[]⟩), (.slice none 0 0)]) 40 rfl Try.underlying22 info25 rfl (by decide) (by omega) v475 y474 l0 _ _ _ (fun k_ => (P0_ k_ ∨ w.heap.size ≤ k_)) (fun k_ => ((fun k_ => (P0_ k_ ∨ w.heap.size ≤ k_))) k_ ∧ some k_ ≠ (v475 : Value).ownBlock) rfl rfl ?aO ?aR (fun _ hk => hk) ?aF ?aB ?aS ?aL ?_; (case aR => exact (by skip; exact Kd.V_F (Kd.V_mono (ok' := (fun k_ => ((fun k_ => (P0_ k_ ∨ w.heap.size ≤ k_))) k_ ∧ some k_ ≠ (v475 : Value).ownBlock)) (HO0.out) (fun k_ hk => ⟨hk.1, hk.2⟩)))); (case aB => exact zq35_0); (case aF => exact (fun k_ hk => (.inr (Nat.le_trans (below_size zq35_0) hk)))); (case aO => exact (by (with_reducible repeat (first | apply Kd.N_alloc | apply Kd.N_drewN | apply Kd.N_drew)); exact HO476.out)); (case aS => exact (below_size zq35_0)); (case aL => have := LMc3.out; omega); intro v478 w6 ho hb hg hat; rw [← Ny477.out] at ho; replace HO0 := Aside0.mk (Kd.V_afterv (ok := (fun k_ => (P0_ k_ ∨ w.heap.size ≤ k_))) (by (with_reducible repeat (first | apply Kd.V_alloc | apply Kd.V_drewN | apply Kd.V_drew)); exact HO0.out) hg hat); replace HB := Aside0.mk (hb); have HO479 := Aside0.mk (ho); clear HO476; clear ho hb hg hat))
  go_loopg [5, 6] k (fun kq v5 v6 w' => ∃ (x5_1 : List (S25)) (x6_1 : Int), v6 = .int .i64 x6_1 ∧ Aside0 (cenotaphref10_Merge.l0 kq l1 x5_1 x6_1 = some r) ∧ Aside0 (kq ≤ k) ∧ Aside0 (Kd.V k25 25 w' w.heap.size (fun k_ => (P0_ k_ ∨ w.heap.size ≤ k_)) v5 x5_1) ∧ Aside0 (Below w.heap.size w w'))
  case atStart => exact ⟨(y477), (0), (by first | rfl | (simp; done) | (simp [*]; done)), H', ⟨Nat.le_refl _⟩, ⟨Kd.N_V (by (with_reducible repeat (first | apply Kd.N_alloc | apply Kd.N_drewN | apply Kd.N_drew)); exact HO479.out)⟩, ⟨by repeat (first | (with_reducible first | exact HB.out | apply below_alloc | apply pw_below_drewN | apply below_drew1) | exact HB.out)⟩⟩
  case round =>
   clear H'
   try clear c1
   try clear p2
   try clear c3
   obtain ⟨x5_1, x6_1, rfl, HA, HK1, HO_5, HB⟩ := hrel
   cases gk with
   | zero => exact absurd HA.out (by simp [cenotaphref10_Merge.l0])
   | succ k1 =>
    have H := HA.out
    clear HA
    simp only [cenotaphref10_Merge.l0] at H
    by_cases c7 : x6_1 < (l1.length : Int)
    ·rw [if_pos c7] at H
     have c7b0 : decide (x6_1 < (l1.length : Int)) = true := decide_eq_true c7
     clear c7
     by_cases c8 : 0 ≤ x6_1
     ·rw [if_pos c8] at H
      have c8b0 : decide (0 ≤ x6_1) = true := decide_eq_true c8
      clear c8
      replace H := Option.bind_eq_some_iff.mp H
      obtain ⟨t482, A90, H⟩ := H
      have A9 := Aside0.mk A90
      clear A90
      have H' := Aside0.mk H
      clear H
      try go_wp2
      replace HO_5 := Aside0.mk (Kd.V_drew HO_5.out)
      replace HB := Aside0.mk (below_drew1 HB.out)
      have p480 : 0 ≤ (x6_1 : Int) := of_decide_eq_true zq35_1
      have q480 : x6_1 < (l1.length : Int) := of_decide_eq_true zq35_1
      obtain ⟨ad480, A480_1, c480_1, e480, hx480_0, hx480_1, hl480_1, hi480_1⟩ := at_T25 HR1.out x6_1 p480 q480
      have hw480_1 := hx480_1
      have hw480_0 := hx480_0
      cases e480
      replace hx480_0 := (HB.out.cell (World.block_lt_of_cell? w _ hx480_0)).trans hx480_0
      replace hx480_1 := (HB.out.cell (World.block_lt_of_cell? w _ hx480_1)).trans hx480_1
      have HR480_1 := Aside0.mk hi480_1
      have HC480_1 := Aside0.mk hl480_1
      clear hi480_1 hl480_1
      replace p480 := eq_true p480
      replace q480 := eq_true q480
      have p481 : 0 ≤ (x6_1 : Int) := of_decide_eq_true zq35_1
      have q481 : x6_1 < (l1.length : Int) := of_decide_eq_true zq35_1
      obtain ⟨ad481, A481_1, c481_1, e481, hx481_0, hx481_1, hl481_1, hi481_1⟩ := at_T25 HR1.out x6_1 p481 q481
      have hw481_1 := hx481_1
      have hw481_0 := hx481_0
      obtain rfl : ad480 = ad481 := (by injection e481)
      replace hx481_0 := (HB.out.cell (World.block_lt_of_cell? w _ hx481_0)).trans hx481_0
      replace hx481_1 := (HB.out.cell (World.block_lt_of_cell? w _ hx481_1)).trans hx481_1
      have HR481_1 := Aside0.mk hi481_1
      have HC481_1 := Aside0.mk hl481_1
      clear hi481_1 hl481_1
      replace p481 := eq_true p481
      replace q481 := eq_true q481
      have ea_ := Option.some.inj (hx480_1.symm.trans hx481_1)
      injection ea_ with ea_ en_ ec_
      subst ea_
      subst ec_
      clear en_
      obtain ⟨Ao11, co11, eo11⟩ := Kd.V_slice HO_5.out
      (first | subst eo11 | (injection eo11 with f1_ f2_ f3_; have f4_ := f1_.symm; have f5_ := f3_.symm; clear f1_ f2_ f3_; subst f4_; subst f5_))
      refine start_ (n := 13) (S := fun w' => w'.cell? (ad480.add ((x6_1).toNat * 2)) = some (.string ((rd_T25 l1 x6_1).f0)) ∧ w'.cell? ⟨(ad480.add ((x6_1).toNat * 2)).block, (ad480.add ((x6_1).toNat * 2)).off + 1, none⟩ = some (.slice A480_1 ((rd_T25 l1 x6_1).f1).length c480_1) ∧ w'.cell? (ad480.add ((x6_1).toNat * 2)) = some (.string ((rd_T25 l1 x6_1).f0)) ∧ w'.cell? ⟨(ad480.add ((x6_1).toNat * 2)).block, (ad480.add ((x6_1).toNat * 2)).off + 1, none⟩ = some (.slice A480_1 ((rd_T25 l1 x6_1).f1).length c480_1)) (ds := []) #[false, false, false, false, false, false, false, false, false, false, false, false, false] (by kernel_rfl) rfl rfl ⟨((HB.out.cell (World.block_lt_of_cell? w _ hw480_0)).trans hw480_0), ((HB.out.cell (World.block_lt_of_cell? w _ hw480_1)).trans hw480_1), ((HB.out.cell (World.block_lt_of_cell? w _ hw481_0)).trans hw481_0), ((HB.out.cell (World.block_lt_of_cell? w _ hw481_1)).trans hw481_1)⟩ (fun hHeld => ?_); refine with_tabW cenotaphref10_Merge.tab5 cenotaphref10_Merge.bits5 (fun HT_ HW_ => ?_)
      generalize wr.drew = w10 at HO_5 HB HR480_1 HR481_1 hx480_0 hx480_1 hx481_0 hx481_1 hHeld ⊢
      refine p_ 0 16 (mk_ 13 0x1) ?_
      refine p_ 1 17 (mk_ 13 0x3) ?_
      refine p_ 2 18 (mk_ 13 0x7) ?_
      refine p_ 3 19 (mk_ 13 0xf) ?_
      refine p_ 4 20 (mk_ 13 0x1f) ?_
      refine p_ 6 22 (mk_ 13 0x5f) ?_
      refine p_ 7 23 (mk_ 13 0xdf) ?_
      refine p_ 8 24 (mk_ 13 0x1df) ?_
      refine p_ 9 25 (mk_ 13 0x3df) ?_
      refine t_ 5 21 (mk_ 13 0x3ff) hHeld ?_
      refine t_ 10 26 (mk_ 13 0x7ff) hHeld ?_
      refine one_ (i := 11) (N := some 27) #[true, true, true, true, true, true, true, true, true, true, true, true, false] rfl rfl (one_of HT_.out (by kernel_rfl)) (by decide) (fun K hK => ?_)
      refine goes_ Try.func31 (by kernel_rfl) rfl #[.slice Ao11 x5_1.length co11, .string ((rd_T25 l1 x6_1).f0), .slice A480_1 ((rd_T25 l1 x6_1).f1).length c480_1] (by rfl) rfl rfl (by (try simp only [List.map_toArray, List.map_cons, List.map_nil]); first | done | rfl | (simp only [List.length_drop, List.length_take]; rfl)) ?_
      with_reducible refine (cenotaphref10_Put.calls k1 (fun k_ => (P0_ k_ ∨ w.heap.size ≤ k_)) _ _ x5_1 ((rd_T25 l1 x6_1).f0) _ _ ((rd_T25 l1 x6_1).f1) t482 _ ?side1 ?side2 ?side3 A9.out).mono ?_
      (case side1 => exact HO_5.out)
      (case side2 => repeat (first | exact (Kd.C_below HR481_1.out HB.out) | (with_reducible refine Kd.C_alloc ?_ _) | (with_reducible refine Kd.C_drewN ?_ _) | (with_reducible refine Kd.C_drew ?_)))
      (case side3 => exact HC481_1.out)
      rintro e w12 ⟨v483, rfl, ho0, hb⟩
      refine ⟨_, rfl, ?_⟩
      replace HO_5 := Aside0.mk (Kd.V_below (by (with_reducible repeat (first | apply Kd.V_alloc | apply Kd.V_drewN | apply Kd.V_drew)); exact HO_5.out) hb)
      have HO484 := Aside0.mk (Kd.V_lower (Kd.V_mono (ok' := fun k_ => (P0_ k_ ∨ w.heap.size ≤ k_)) ho0 (fun k_ hk_ => Or.elim hk_ (fun hs_ => hs_) (fun hn_ => (.inr (Nat.le_trans (below_size zq35_0) hn_))))) (below_size zq35_0))
      replace HB := Aside0.mk (below_step zq35_0 hb)
      (try clear hb)
      (try clear hb2)
      (try clear hk)
      (try clear hi)
      (try clear ho0)
      refine hK.out _ _ ⟨((HB.out.cell (World.block_lt_of_cell? w _ hw480_0)).trans hw480_0), ((HB.out.cell (World.block_lt_of_cell? w _ hw480_1)).trans hw480_1), ((HB.out.cell (World.block_lt_of_cell? w _ hw481_0)).trans hw481_0), ((HB.out.cell (World.block_lt_of_cell? w _ hw481_1)).trans hw481_1)⟩ (fun hHeld => ?_)
      clear hK K
      refine norm_ (a' := ?_) ?_ ?_
      rotate_left
      ·show Act.put _ (some 27) _ = _
       simp only [Act.put, List.setIfInBounds_toArray, List.set_cons_zero, List.set_cons_succ, i64_w, i32_w]
       rfl
      refine p_ 12 5 (mk_ 13 0x1fff) ?_
      refine done_ (done_of HT_.out (by kernel_rfl)) ?_
      try go_wp2
      go_roundg k1
      case measure => have := HK1.out; omega
      case rel => exact ⟨(t482), (wrap64 (x6_1 + 1)), (by first | rfl | (simp; done) | (simp [*]; done)), H', ⟨by have := HK1.out; omega⟩, ⟨by (with_reducible repeat (first | apply Kd.V_alloc | apply Kd.V_drewN | apply Kd.V_drew)); exact HO484.out⟩, ⟨by repeat (first | (with_reducible first | exact HB.out | apply below_alloc | apply pw_below_drewN | apply below_drew1) | exact HB.out)⟩⟩
     ·rw [if_neg c8] at H
      exact absurd H (by simp)
    ·rw [if_neg c7] at H
     have c7b0 : decide (x6_1 < (l1.length : Int)) = false := decide_eq_false c7
     clear c7
     obtain rfl := Option.some.inj H
     go_wp2
     go_ret
     exact ⟨_, by first | rfl | (simp [errW_none, errW_some] <;> rfl) | (simp [*, errW_none, errW_some] <;> rfl), by (with_reducible repeat (first | apply Kd.V_alloc | apply Kd.V_drewN | apply Kd.V_drew)); exact HO_5.out, by repeat (first | (with_reducible first | exact HB.out | apply below_alloc | apply pw_below_drewN | apply below_drew1) | exact HB.out)⟩
 ·rw [if_neg c3] at H
  exact absurd H (by simp)

/-! ### cenotaphlaw10_MatrixMerges: function 7 -/
theorem zq7x_0 {p_ : Prop} (h_ : p_ := by (try simp only [List.map_toArray, List.map_cons, List.map_nil]); first | done | rfl | (simp only [List.length_drop, List.length_take]; rfl)) : p_ := h_
theorem zq7x_1 {p_ : Prop} (h_ : p_ := by repeat (first | (with_reducible first | exact HB.out | apply below_alloc | apply pw_below_drewN | apply below_drew1) | exact HB.out)) : p_ := h_
theorem zq7x_2 {p_ : Prop} (h_ : p_ := by (with_reducible repeat (first | apply Kd.V_alloc | apply Kd.V_drewN | apply Kd.V_drew)); exact HO487.out) : p_ := h_
theorem zq7x_3 {p_ : Prop} (h_ : p_ := by (with_reducible repeat (first | apply Kd.V_alloc | apply Kd.V_drewN | apply Kd.V_drew)); exact HO490.out) : p_ := h_
theorem zq7x_4 {p_ : Prop} (h_ : p_ := by (with_reducible repeat (first | apply Kd.S_alloc | apply Kd.S_drewN | apply Kd.S_drew)); exact HO494.out) : p_ := h_
theorem zq7x_5 {p_ : Prop} (h_ : p_ := by (with_reducible repeat (first | apply Kd.S_alloc | apply Kd.S_drewN | apply Kd.S_drew)); exact HO497.out) : p_ := h_
theorem zq7x_6 {p_ : Prop} (h_ : p_ := by (with_reducible repeat (first | apply Kd.V_alloc | apply Kd.V_drewN | apply Kd.V_drew)); exact HO500.out) : p_ := h_
theorem zq7x_7 {p_ : Prop} (h_ : p_ := by (with_reducible repeat (first | apply Kd.R_alloc | apply Kd.R_drewN | apply Kd.R_drew)); exact HO503.out) : p_ := h_
theorem zq7x_8 {p_ : Prop} (h_ : p_ := by (with_reducible repeat (first | apply Kd.V_alloc | apply Kd.V_drewN | apply Kd.V_drew)); exact HO506.out) : p_ := h_
theorem zq7x_9 {p_ : Prop} (h_ : p_ := by (with_reducible repeat (first | apply Kd.S_alloc | apply Kd.S_drewN | apply Kd.S_drew)); exact HO510.out) : p_ := h_
theorem zq7x_10 {p_ : Prop} (h_ : p_ := by (with_reducible repeat (first | apply Kd.V_alloc | apply Kd.V_drewN | apply Kd.V_drew)); exact HO513.out) : p_ := h_
theorem zq7x_11 {p_ : Prop} (h_ : p_ := by (with_reducible repeat (first | apply Kd.V_alloc | apply Kd.V_drewN | apply Kd.V_drew)); exact HO517.out) : p_ := h_
theorem zq7x_12 {p_ : Prop} (h_ : p_ := by (with_reducible repeat (first | apply Kd.R_alloc | apply Kd.R_drewN | apply Kd.R_drew)); exact HO523.out) : p_ := h_
theorem zq7x_13 {p_ : Prop} (h_ : p_ := by (with_reducible repeat (first | apply Kd.V_alloc | apply Kd.V_drewN | apply Kd.V_drew)); exact HO526.out) : p_ := h_
theorem zq7x_14 {p_ : Prop} (h_ : p_ := by (with_reducible repeat (first | apply Kd.R_alloc | apply Kd.R_drewN | apply Kd.R_drew)); exact HO529.out) : p_ := h_
theorem zq7x_15 {p_ : Prop} (h_ : p_ := by (with_reducible repeat (first | apply Kd.R_alloc | apply Kd.R_drewN | apply Kd.R_drew)); exact HO533.out) : p_ := h_
theorem zq7x_16 {p_ : Prop} (h_ : p_ := by (with_reducible repeat (first | apply Kd.V_alloc | apply Kd.V_drewN | apply Kd.V_drew)); exact HO536.out) : p_ := h_
theorem zq7x_17 {p_ : Prop} (h_ : p_ := by (with_reducible repeat (first | apply Kd.R_alloc | apply Kd.R_drewN | apply Kd.R_drew)); exact HO540.out) : p_ := h_
theorem zq7x_18 {p_ : Prop} (h_ : p_ := by first | (with_reducible assumption) | assumption) : p_ := h_
def cenotaphlaw10_MatrixMerges.f (k : Nat) (l0 : List (S25)) (l1 : List (S25)) (l2 : List ByteArray) : Option (Bool) := (cenotaphref10_Fix.f k l0).bind fun t485 => ((cenotaphref10_Fix.f k l1).bind fun t488 => (if 0 ≤ (mn (l2.length : Int) 12) then (if (mn (l2.length : Int) 12) ≤ (l2.length : Int) then ((cenotaphlaw10_To.f k t485).bind fun t492 => ((cenotaphlaw10_To.f k t488).bind fun t495 => ((matrix_Merge.f k t492 t495).bind fun t498 => ((cenotaphlaw01_To.f k (l2.take ((mn (l2.length : Int) 12) : Int).toNat)).bind fun t501 => ((matrix_Stable.f k t498 t501).bind fun t504 => ((cenotaphlaw10_told.f k).bind fun t507 => (if t507 = true then ((cenotaphlaw10_From.f k t498).bind fun t508 => ((cenotaphref10_Merge.f k t485 t488).bind fun t511 => ((cenotaphref10_Same.f k t508 t511).bind fun t514 => (if t514 = true then ((matrix_Merge.f k t495 t492).bind fun t515 => ((matrix_Same.f k t498 t515).bind fun t518 => (if t518 = true then ((matrix_Same.f k t492 t495).bind fun t519 => ((cenotaphref10_Same.f k t485 t488).bind fun t520 => (if (t519 != t520) = true then (none) else ((cenotaphlaw03_From.f k t504).bind fun t521 => ((cenotaphref10_Merge.f k t485 t488).bind fun t524 => ((cenotaphref10_Stable.f k t524 (l2.take ((mn (l2.length : Int) 12) : Int).toNat)).bind fun t527 => ((cenotaphref03_Same.f k t521 t527).bind fun t530 => (if t530 = true then ((cenotaphlaw01_To.f k (l2.take ((mn (l2.length : Int) 12) : Int).toNat)).bind fun t531 => ((matrix_Stable.f k t492 t531).bind fun t534 => ((vec_Within.f t534 t504).bind fun t537 => (if t537 = true then ((cenotaphlaw01_To.f k (l2.take ((mn (l2.length : Int) 12) : Int).toNat)).bind fun t538 => ((matrix_Stable.f k t495 t538).bind fun t541 => ((vec_Within.f t541 t504).bind fun t544 => (some t544)))) else (none))))) else (none))))))))) else (none)))) else (none))))) else (none)))))))) else (none)) else (none)))
theorem cenotaphlaw10_MatrixMerges.mono : ∀ a0 a1 a2 k, LeO (cenotaphlaw10_MatrixMerges.f k a0 a1 a2) (cenotaphlaw10_MatrixMerges.f (k + 1) a0 a1 a2) := by
 intro a0 a1 a2 k
 unfold cenotaphlaw10_MatrixMerges.f
 repeat' first
   | (with_reducible exact cenotaphlaw01_To.mono _ _)
   | (with_reducible exact cenotaphlaw03_From.mono _ _)
   | (with_reducible exact cenotaphlaw10_From.mono _ _)
   | (with_reducible exact cenotaphlaw10_To.mono _ _)
   | (with_reducible exact cenotaphlaw10_told.mono _)
   | (with_reducible exact cenotaphref03_Same.mono _ _ _)
   | (with_reducible exact cenotaphref10_Fix.mono _ _)
   | (with_reducible exact cenotaphref10_Merge.mono _ _ _)
   | (with_reducible exact cenotaphref10_Same.mono _ _ _)
   | (with_reducible exact cenotaphref10_Stable.mono _ _ _)
   | (with_reducible exact matrix_Merge.mono _ _ _)
   | (with_reducible exact matrix_Same.mono _ _ _)
   | (with_reducible exact matrix_Stable.mono _ _ _)
   | (with_reducible exact LeO.refl _)
   | (with_reducible exact LeO.none _)
   | (with_reducible refine LeO.ite ?_ ?_)
   | (with_reducible refine LeO.bind ?_ (fun _ => ?_))
   | exact cenotaphlaw01_To.mono _ _
   | exact cenotaphlaw03_From.mono _ _
   | exact cenotaphlaw10_From.mono _ _
   | exact cenotaphlaw10_To.mono _ _
   | exact cenotaphlaw10_told.mono _
   | exact cenotaphref03_Same.mono _ _ _
   | exact cenotaphref10_Fix.mono _ _
   | exact cenotaphref10_Merge.mono _ _ _
   | exact cenotaphref10_Same.mono _ _ _
   | exact cenotaphref10_Stable.mono _ _ _
   | exact matrix_Merge.mono _ _ _
   | exact matrix_Same.mono _ _ _
   | exact matrix_Stable.mono _ _ _
   | exact LeO.none _
   | refine LeO.ite ?_ ?_
   | refine LeO.bind ?_ (fun _ => ?_)
set_option maxHeartbeats 8000000 in
set_option maxRecDepth 100000 in
theorem cenotaphlaw10_MatrixMerges.calls (k : Nat) (A0 : Option Addr) (c0 : Nat) (l0 : List (S25)) (A1 : Option Addr) (c1 : Nat) (l1 : List (S25)) (A2 : Option Addr) (c2 : Nat) (l2 : List ByteArray) (r : Bool) (w : World) (hr0 : Kd.C k25 w A0 l0.length l0) (hc0 : l0.length ≤ c0) (hr1 : Kd.C k25 w A1 l1.length l1) (hc1 : l1.length ≤ c1) (hr2 : Kd.C Kd.string w A2 l2.length l2) (hc2 : l2.length ≤ c2) (h : cenotaphlaw10_MatrixMerges.f k l0 l1 l2 = some r) :
  Calls Try.prog 7 #[.slice A0 l0.length c0, .slice A1 l1.length c1, .slice A2 l2.length c2] w fun e w' => e = .returned (.bool r) ∧ Below w.heap.size w w' := by
 have HR0 := Aside0.mk hr0
 have HC0 := Aside0.mk hc0
 clear hr0 hc0
 have HR1 := Aside0.mk hr1
 have HC1 := Aside0.mk hc1
 clear hr1 hc1
 have HR2 := Aside0.mk hr2
 have HC2 := Aside0.mk hc2
 clear hr2 hc2
 have HB := Aside0.mk (Below.refl w.heap.size w)
 have H := h
 unfold cenotaphlaw10_MatrixMerges.f at H
 clear h
 replace H := Option.bind_eq_some_iff.mp H
 obtain ⟨t485, A40, H⟩ := H
 have A4 := Aside0.mk A40
 clear A40
 replace H := Option.bind_eq_some_iff.mp H
 obtain ⟨t488, A50, H⟩ := H
 have A5 := Aside0.mk A50
 clear A50
 obtain ⟨ji6, hji6⟩ : ∃ j_ : Int, (mn (l2.length : Int) 12) = j_ := ⟨_, rfl⟩
 replace H : (if 0 ≤ (ji6) then (if (ji6) ≤ (l2.length : Int) then ((cenotaphlaw10_To.f k t485).bind fun t492 => ((cenotaphlaw10_To.f k t488).bind fun t495 => ((matrix_Merge.f k t492 t495).bind fun t498 => ((cenotaphlaw01_To.f k (l2.take ((ji6) : Int).toNat)).bind fun t501 => ((matrix_Stable.f k t498 t501).bind fun t504 => ((cenotaphlaw10_told.f k).bind fun t507 => (if t507 = true then ((cenotaphlaw10_From.f k t498).bind fun t508 => ((cenotaphref10_Merge.f k t485 t488).bind fun t511 => ((cenotaphref10_Same.f k t508 t511).bind fun t514 => (if t514 = true then ((matrix_Merge.f k t495 t492).bind fun t515 => ((matrix_Same.f k t498 t515).bind fun t518 => (if t518 = true then ((matrix_Same.f k t492 t495).bind fun t519 => ((cenotaphref10_Same.f k t485 t488).bind fun t520 => (if (t519 != t520) = true then (none) else ((cenotaphlaw03_From.f k t504).bind fun t521 => ((cenotaphref10_Merge.f k t485 t488).bind fun t524 => ((cenotaphref10_Stable.f k t524 (l2.take ((ji6) : Int).toNat)).bind fun t527 => ((cenotaphref03_Same.f k t521 t527).bind fun t530 => (if t530 = true then ((cenotaphlaw01_To.f k (l2.take ((ji6) : Int).toNat)).bind fun t531 => ((matrix_Stable.f k t492 t531).bind fun t534 => ((vec_Within.f t534 t504).bind fun t537 => (if t537 = true then ((cenotaphlaw01_To.f k (l2.take ((ji6) : Int).toNat)).bind fun t538 => ((matrix_Stable.f k t495 t538).bind fun t541 => ((vec_Within.f t541 t504).bind fun t544 => (some t544)))) else (none))))) else (none))))))))) else (none)))) else (none))))) else (none)))))))) else (none)) else (none)) = some r := by first | (rw [hji6] at H; exact H) | (simp only [hji6] at H ⊢; exact H)
 (try rw [hji6] at A4)
 (try rw [hji6] at A5)
 (try (have hji6h : ji6 ≤ 12 := by (rw [← hji6]; unfold mn; (repeat' split) <;> omega)))
 (try (have hji6g : ji6 ≤ 64 := by omega))
 (try (have hji6l : 0 ≤ ji6 := by (rw [← hji6]; unfold mn; (repeat' split) <;> omega)))
 (try (have hji6m : 0 ≤ ji6 := by omega))
 have hji6_ : (if 12 < (l2.length : Int) then 12 else (l2.length : Int)) = ji6 := hji6
 by_cases c7 : 0 ≤ (ji6)
 ·rw [if_pos c7] at H
  have c7b0 := eq_true c7
  have c7b1 : decide (0 ≤ (ji6)) = true := decide_eq_true c7
  clear c7
  by_cases c8 : (ji6) ≤ (l2.length : Int)
  ·rw [if_pos c8] at H
   have c8b0 := eq_true c8
   have c8b1 : decide ((ji6) ≤ (l2.length : Int)) = true := decide_eq_true c8
   clear c8
   replace H := Option.bind_eq_some_iff.mp H
   obtain ⟨t492, A90, H⟩ := H
   have A9 := Aside0.mk A90
   clear A90
   replace H := Option.bind_eq_some_iff.mp H
   obtain ⟨t495, A100, H⟩ := H
   have A10 := Aside0.mk A100
   clear A100
   replace H := Option.bind_eq_some_iff.mp H
   obtain ⟨t498, A110, H⟩ := H
   have A11 := Aside0.mk A110
   clear A110
   replace H := Option.bind_eq_some_iff.mp H
   obtain ⟨t501, A120, H⟩ := H
   have A12 := Aside0.mk A120
   clear A120
   replace H := Option.bind_eq_some_iff.mp H
   obtain ⟨t504, A130, H⟩ := H
   have A13 := Aside0.mk A130
   clear A130
   replace H := Option.bind_eq_some_iff.mp H
   obtain ⟨t507, A140, H⟩ := H
   have A14 := Aside0.mk A140
   clear A140
   by_cases c15 : t507 = true
   ·subst c15
    have H1 : ((cenotaphlaw10_From.f k t498).bind fun t508 => ((cenotaphref10_Merge.f k t485 t488).bind fun t511 => ((cenotaphref10_Same.f k t508 t511).bind fun t514 => (if t514 = true then ((matrix_Merge.f k t495 t492).bind fun t515 => ((matrix_Same.f k t498 t515).bind fun t518 => (if t518 = true then ((matrix_Same.f k t492 t495).bind fun t519 => ((cenotaphref10_Same.f k t485 t488).bind fun t520 => (if (t519 != t520) = true then (none) else ((cenotaphlaw03_From.f k t504).bind fun t521 => ((cenotaphref10_Merge.f k t485 t488).bind fun t524 => ((cenotaphref10_Stable.f k t524 (l2.take ((ji6) : Int).toNat)).bind fun t527 => ((cenotaphref03_Same.f k t521 t527).bind fun t530 => (if t530 = true then ((cenotaphlaw01_To.f k (l2.take ((ji6) : Int).toNat)).bind fun t531 => ((matrix_Stable.f k t492 t531).bind fun t534 => ((vec_Within.f t534 t504).bind fun t537 => (if t537 = true then ((cenotaphlaw01_To.f k (l2.take ((ji6) : Int).toNat)).bind fun t538 => ((matrix_Stable.f k t495 t538).bind fun t541 => ((vec_Within.f t541 t504).bind fun t544 => (some t544)))) else (none))))) else (none))))))))) else (none)))) else (none))))) = some r := by rw [if_pos rfl] at H; exact H
    clear H
    have H := H1
    clear H1
    replace H := Option.bind_eq_some_iff.mp H
    obtain ⟨t508, A160, H⟩ := H
    have A16 := Aside0.mk A160
    clear A160
    replace H := Option.bind_eq_some_iff.mp H
    obtain ⟨t511, A170, H⟩ := H
    have A17 := Aside0.mk A170
    clear A170
    replace H := Option.bind_eq_some_iff.mp H
    obtain ⟨t514, A180, H⟩ := H
    have A18 := Aside0.mk A180
    clear A180
    by_cases c19 : t514 = true
    ·subst c19
     have H1 : ((matrix_Merge.f k t495 t492).bind fun t515 => ((matrix_Same.f k t498 t515).bind fun t518 => (if t518 = true then ((matrix_Same.f k t492 t495).bind fun t519 => ((cenotaphref10_Same.f k t485 t488).bind fun t520 => (if (t519 != t520) = true then (none) else ((cenotaphlaw03_From.f k t504).bind fun t521 => ((cenotaphref10_Merge.f k t485 t488).bind fun t524 => ((cenotaphref10_Stable.f k t524 (l2.take ((ji6) : Int).toNat)).bind fun t527 => ((cenotaphref03_Same.f k t521 t527).bind fun t530 => (if t530 = true then ((cenotaphlaw01_To.f k (l2.take ((ji6) : Int).toNat)).bind fun t531 => ((matrix_Stable.f k t492 t531).bind fun t534 => ((vec_Within.f t534 t504).bind fun t537 => (if t537 = true then ((cenotaphlaw01_To.f k (l2.take ((ji6) : Int).toNat)).bind fun t538 => ((matrix_Stable.f k t495 t538).bind fun t541 => ((vec_Within.f t541 t504).bind fun t544 => (some t544)))) else (none))))) else (none))))))))) else (none)))) = some r := by rw [if_pos rfl] at H; exact H
     clear H
     have H := H1
     clear H1
     replace H := Option.bind_eq_some_iff.mp H
     obtain ⟨t515, A200, H⟩ := H
     have A20 := Aside0.mk A200
     clear A200
     replace H := Option.bind_eq_some_iff.mp H
     obtain ⟨t518, A210, H⟩ := H
     have A21 := Aside0.mk A210
     clear A210
     by_cases c22 : t518 = true
     ·subst c22
      have H1 : ((matrix_Same.f k t492 t495).bind fun t519 => ((cenotaphref10_Same.f k t485 t488).bind fun t520 => (if (t519 != t520) = true then (none) else ((cenotaphlaw03_From.f k t504).bind fun t521 => ((cenotaphref10_Merge.f k t485 t488).bind fun t524 => ((cenotaphref10_Stable.f k t524 (l2.take ((ji6) : Int).toNat)).bind fun t527 => ((cenotaphref03_Same.f k t521 t527).bind fun t530 => (if t530 = true then ((cenotaphlaw01_To.f k (l2.take ((ji6) : Int).toNat)).bind fun t531 => ((matrix_Stable.f k t492 t531).bind fun t534 => ((vec_Within.f t534 t504).bind fun t537 => (if t537 = true then ((cenotaphlaw01_To.f k (l2.take ((ji6) : Int).toNat)).bind fun t538 => ((matrix_Stable.f k t495 t538).bind fun t541 => ((vec_Within.f t541 t504).bind fun t544 => (some t544)))) else (none))))) else (none))))))))) = some r := by rw [if_pos rfl] at H; exact H
      clear H
      have H := H1
      clear H1
      replace H := Option.bind_eq_some_iff.mp H
      obtain ⟨t519, A230, H⟩ := H
      have A23 := Aside0.mk A230
      clear A230
      replace H := Option.bind_eq_some_iff.mp H
      obtain ⟨t520, A240, H⟩ := H
      have A24 := Aside0.mk A240
      clear A240
      by_cases c25 : (t519 != t520) = true
      ·rw [if_pos c25] at H
       exact absurd H (by simp)
      ·rw [if_neg c25] at H
       have c25b0 : (t519 != t520) = false := by simpa using c25
       (try (have c25b1 : decide (t519 = t520) = true := by simpa using c25))
       (try (have c25b2 : (t519 == t520) = true := by simpa using c25))
       clear c25
       replace H := Option.bind_eq_some_iff.mp H
       obtain ⟨t521, A260, H⟩ := H
       have A26 := Aside0.mk A260
       clear A260
       replace H := Option.bind_eq_some_iff.mp H
       obtain ⟨t524, A270, H⟩ := H
       have A27 := Aside0.mk A270
       clear A270
       replace H := Option.bind_eq_some_iff.mp H
       obtain ⟨t527, A280, H⟩ := H
       have A28 := Aside0.mk A280
       clear A280
       replace H := Option.bind_eq_some_iff.mp H
       obtain ⟨t530, A290, H⟩ := H
       have A29 := Aside0.mk A290
       clear A290
       by_cases c30 : t530 = true
       ·subst c30
        have H1 : ((cenotaphlaw01_To.f k (l2.take ((ji6) : Int).toNat)).bind fun t531 => ((matrix_Stable.f k t492 t531).bind fun t534 => ((vec_Within.f t534 t504).bind fun t537 => (if t537 = true then ((cenotaphlaw01_To.f k (l2.take ((ji6) : Int).toNat)).bind fun t538 => ((matrix_Stable.f k t495 t538).bind fun t541 => ((vec_Within.f t541 t504).bind fun t544 => (some t544)))) else (none))))) = some r := by rw [if_pos rfl] at H; exact H
        clear H
        have H := H1
        clear H1
        replace H := Option.bind_eq_some_iff.mp H
        obtain ⟨t531, A310, H⟩ := H
        have A31 := Aside0.mk A310
        clear A310
        replace H := Option.bind_eq_some_iff.mp H
        obtain ⟨t534, A320, H⟩ := H
        have A32 := Aside0.mk A320
        clear A320
        replace H := Option.bind_eq_some_iff.mp H
        obtain ⟨t537, A330, H⟩ := H
        have A33 := Aside0.mk A330
        clear A330
        by_cases c34 : t537 = true
        ·subst c34
         have H1 : ((cenotaphlaw01_To.f k (l2.take ((ji6) : Int).toNat)).bind fun t538 => ((matrix_Stable.f k t495 t538).bind fun t541 => ((vec_Within.f t541 t504).bind fun t544 => (some t544)))) = some r := by rw [if_pos rfl] at H; exact H
         clear H
         have H := H1
         clear H1
         replace H := Option.bind_eq_some_iff.mp H
         obtain ⟨t538, A350, H⟩ := H
         have A35 := Aside0.mk A350
         clear A350
         replace H := Option.bind_eq_some_iff.mp H
         obtain ⟨t541, A360, H⟩ := H
         have A36 := Aside0.mk A360
         clear A360
         replace H := Option.bind_eq_some_iff.mp H
         obtain ⟨t544, A370, H⟩ := H
         have A37 := Aside0.mk A370
         clear A370
         obtain rfl := Option.some.inj H
         go_enter Try.func7, Try.ntmps7
         go_wp2_with (first | ((with_reducible refine gate_callee (f := 12) rfl ?_); refine goesL_ (some 12) rfl rfl Try.func12 (by kernel_rfl) rfl #[.slice A0 l0.length c0] rfl zq7x_0 ?_; (with_reducible refine (cenotaphref10_Fix.calls k _ _ l0 t485 _ ?side1 ?side2 A4.out).mono ?_); (case side1 => repeat (first | exact HR0.out | (with_reducible refine Kd.C_alloc ?_ _) | (with_reducible refine Kd.C_drewN ?_ _) | (with_reducible refine Kd.C_drew ?_))); (case side2 => exact HC0.out); rintro e w38 ⟨v486, rfl, ho0, hb⟩; refine ⟨_, rfl, ?_⟩; have HO487 := Aside0.mk (Kd.V_lower (Kd.V_mono (ok' := fun k_ => True) ho0 (fun k_ hk_ => trivial)) (below_size zq7x_1)); replace HB := Aside0.mk (below_step zq7x_1 hb); (try clear hb); (try clear hb2); (try clear hk); (try clear hi); (try clear ho0)) | ((with_reducible refine gate_callee (f := 12) rfl ?_); refine goesL_ (some 14) rfl rfl Try.func12 (by kernel_rfl) rfl #[.slice A1 l1.length c1] rfl zq7x_0 ?_; (with_reducible refine (cenotaphref10_Fix.calls k _ _ l1 t488 _ ?side1 ?side2 A5.out).mono ?_); (case side1 => repeat (first | exact (Kd.C_below HR1.out HB.out) | (with_reducible refine Kd.C_alloc ?_ _) | (with_reducible refine Kd.C_drewN ?_ _) | (with_reducible refine Kd.C_drew ?_))); (case side2 => exact HC1.out); rintro e w39 ⟨v489, rfl, ho0, hb⟩; refine ⟨_, rfl, ?_⟩; replace HO487 := Aside0.mk (Kd.V_below zq7x_2 hb); have HO490 := Aside0.mk (Kd.V_lower (Kd.V_mono (ok' := fun k_ => True) ho0 (fun k_ hk_ => trivial)) (below_size zq7x_1)); replace HB := Aside0.mk (below_step zq7x_1 hb); (try clear hb); (try clear hb2); (try clear hk); (try clear hi); (try clear ho0); obtain ⟨i040, hi040, _, hsz40, _⟩ := info_parts info9; obtain ⟨hcut40, hA40, hC40⟩ := print_take_of (P := Try.prog) Value.string (⟨#[]⟩ : ByteArray) 32 9 .i64 Try.underlying32 hi040 hsz40 A2 c2 l2 (ji6) (of_decide_eq_true zq7x_18) (of_decide_eq_true zq7x_18) HC2.out; have HR491 := Aside0.mk (Kd.C_of_reads (h1 := fun _ => rfl) (hA40 _ (Kd.reads_of_C HR2.out))); have HC491 := Aside0.mk hC40; clear hA40 hC40 hi040 hsz40; obtain ⟨x40, hx40⟩ : ∃ x_, x_ = (l2.take ((ji6) : Int).toNat) := ⟨_, rfl⟩; rw [← hx40] at hcut40 HR491 HC491; ((try rw [← hx40] at HC0) <;> (try rw [← hx40] at HC1) <;> (try rw [← hx40] at HC2) <;> (try rw [← hx40] at A4) <;> (try rw [← hx40] at A5) <;> (try rw [← hx40] at A9) <;> (try rw [← hx40] at A10) <;> (try rw [← hx40] at A11) <;> (try rw [← hx40] at A12) <;> (try rw [← hx40] at A13) <;> (try rw [← hx40] at A14) <;> (try rw [← hx40] at A16) <;> (try rw [← hx40] at A17) <;> (try rw [← hx40] at A18) <;> (try rw [← hx40] at A20) <;> (try rw [← hx40] at A21) <;> (try rw [← hx40] at A23) <;> (try rw [← hx40] at A24) <;> (try rw [← hx40] at A26) <;> (try rw [← hx40] at A27) <;> (try rw [← hx40] at A28) <;> (try rw [← hx40] at A29) <;> (try rw [← hx40] at A31) <;> (try rw [← hx40] at A32) <;> (try rw [← hx40] at A33) <;> (try rw [← hx40] at A35) <;> (try rw [← hx40] at A36) <;> (try rw [← hx40] at A37)); have KX40 := Aside0.mk hx40; clear hx40; obtain ⟨Ao41, co41, eo41⟩ := Kd.V_slice HO487.out; subst eo41) | ((with_reducible refine gate_callee (f := 10) rfl ?_); refine goesL_ (some 21) rfl rfl Try.func10 (by kernel_rfl) rfl #[.slice Ao41 t485.length co41] rfl zq7x_0 ?_; (with_reducible refine (cenotaphlaw10_To.calls k _ _ t485 t492 _ ?side1 ?side2 A9.out).mono ?_); (case side1 => repeat (first | exact (Kd.V_reads' HO487.out).2.2 | (with_reducible refine Kd.C_alloc ?_ _) | (with_reducible refine Kd.C_drewN ?_ _) | (with_reducible refine Kd.C_drew ?_))); (case side2 => exact (Kd.V_reads' HO487.out).2.1); rintro e w42 ⟨v493, rfl, ho0, hb⟩; refine ⟨_, rfl, ?_⟩; replace HO487 := Aside0.mk (Kd.V_elder' zq7x_2 (Kd.S_base ho0) hb); replace HO490 := Aside0.mk (Kd.V_elder' zq7x_3 (Kd.S_base ho0) hb); have HO494 := Aside0.mk (Kd.S_lower ho0 (below_size zq7x_1)); replace HB := Aside0.mk (below_step zq7x_1 hb); (try clear hb); (try clear hb2); (try clear hk); (try clear hi); (try clear ho0); obtain ⟨Ao43, co43, eo43⟩ := Kd.V_slice HO490.out; subst eo43) | ((with_reducible refine gate_callee (f := 10) rfl ?_); refine goesL_ (some 23) rfl rfl Try.func10 (by kernel_rfl) rfl #[.slice Ao43 t488.length co43] rfl zq7x_0 ?_; (with_reducible refine (cenotaphlaw10_To.calls k _ _ t488 t495 _ ?side1 ?side2 A10.out).mono ?_); (case side1 => repeat (first | exact (Kd.V_reads' HO490.out).2.2 | (with_reducible refine Kd.C_alloc ?_ _) | (with_reducible refine Kd.C_drewN ?_ _) | (with_reducible refine Kd.C_drew ?_))); (case side2 => exact (Kd.V_reads' HO490.out).2.1); rintro e w44 ⟨v496, rfl, ho0, hb⟩; refine ⟨_, rfl, ?_⟩; replace HO487 := Aside0.mk (Kd.V_elder' zq7x_2 (Kd.S_base ho0) hb); replace HO490 := Aside0.mk (Kd.V_elder' zq7x_3 (Kd.S_base ho0) hb); have HO497 := Aside0.mk (Kd.S_lower (Kd.S_new' ho0 (Kd.S_lt zq7x_4)) (below_size zq7x_1)); replace HO494 := Aside0.mk (Kd.S_elder' zq7x_4 (Kd.S_base ho0) hb); replace HB := Aside0.mk (below_step zq7x_1 hb); (try clear hb); (try clear hb2); (try clear hk); (try clear hi); (try clear ho0); obtain ⟨Ao45, co45, eo45⟩ := Kd.S_slice HO494.out; subst eo45; obtain ⟨Ao46, co46, eo46⟩ := Kd.S_slice HO497.out; subst eo46) | ((with_reducible refine gate_callee (f := 22) rfl ?_); refine goesL_ (some 26) rfl rfl Try.func22 (by kernel_rfl) rfl #[.slice Ao45 t492.length co45, .slice Ao46 t495.length co46] rfl zq7x_0 ?_; (with_reducible refine (matrix_Merge.calls k _ _ t492 _ _ t495 t498 _ ?side1 ?side2 ?side3 ?side4 A11.out).mono ?_); (case side1 => repeat (first | exact (Kd.S_reads' HO494.out).2.2 | (with_reducible refine Kd.C_alloc ?_ _) | (with_reducible refine Kd.C_drewN ?_ _) | (with_reducible refine Kd.C_drew ?_))); (case side2 => exact (Kd.S_reads' HO494.out).2.1); (case side3 => repeat (first | exact (Kd.S_reads' HO497.out).2.2 | (with_reducible refine Kd.C_alloc ?_ _) | (with_reducible refine Kd.C_drewN ?_ _) | (with_reducible refine Kd.C_drew ?_))); (case side4 => exact (Kd.S_reads' HO497.out).2.1); rintro e w47 ⟨v499, rfl, ho0, hb⟩; refine ⟨_, rfl, ?_⟩; replace HO487 := Aside0.mk (Kd.V_below zq7x_2 hb); replace HO490 := Aside0.mk (Kd.V_below zq7x_3 hb); have HO500 := Aside0.mk (Kd.V_lower (Kd.V_mono (ok' := fun k_ => some k_ ≠ (.slice Ao45 t492.length co45 : Value).ownBlock ∧ some k_ ≠ (.slice Ao46 t495.length co46 : Value).ownBlock) ho0 (fun k_ hk_ => ⟨(Kd.fresh' (Kd.S_lt zq7x_4) k_ hk_), (Kd.fresh' (Kd.S_lt zq7x_5) k_ hk_)⟩)) (below_size zq7x_1)); replace HO494 := Aside0.mk (Kd.S_below zq7x_4 hb); replace HO497 := Aside0.mk (Kd.S_below zq7x_5 hb); replace HB := Aside0.mk (below_step zq7x_1 hb); (try clear hb); (try clear hb2); (try clear hk); (try clear hi); (try clear ho0)) | ((with_reducible refine gate_callee (f := 15) rfl ?_); refine goesL_ (some 29) rfl rfl Try.func15 (by kernel_rfl) rfl #[.slice A2 x40.length c2] rfl (by (try simp only [List.map_toArray, List.map_cons, List.map_nil]); first | done | (rw [show x40.length = (ji6).toNat from (by rw [List.length_take]; have h_ : ((ji6) : Int) ≤ (l2.length : Int) := of_decide_eq_true zq7x_18; omega)] <;> rfl) | (simp only [hji6]; rfl) | rfl | (simp only [List.length_drop, List.length_take]; rfl)) ?_; (with_reducible refine (cenotaphlaw01_To.calls k _ _ x40 t501 _ ?side1 ?side2 A12.out).mono ?_); (case side1 => repeat (first | exact (Kd.C_below HR491.out HB.out) | (with_reducible refine Kd.C_alloc ?_ _) | (with_reducible refine Kd.C_drewN ?_ _) | (with_reducible refine Kd.C_drew ?_))); (case side2 => exact HC491.out); rintro e w48 ⟨v502, rfl, ho0, hb⟩; refine ⟨_, rfl, ?_⟩; replace HO487 := Aside0.mk (Kd.V_elder' zq7x_2 (Kd.R_base ho0) hb); replace HO490 := Aside0.mk (Kd.V_elder' zq7x_3 (Kd.R_base ho0) hb); replace HO494 := Aside0.mk (Kd.S_below zq7x_4 hb); replace HO497 := Aside0.mk (Kd.S_below zq7x_5 hb); replace HO500 := Aside0.mk (Kd.V_elder' zq7x_6 (Kd.R_base ho0) hb); have HO503 := Aside0.mk (Kd.R_lower ho0 (below_size zq7x_1)); replace HB := Aside0.mk (below_step zq7x_1 hb); (try clear hb); (try clear hb2); (try clear hk); (try clear hi); (try clear ho0); obtain ⟨Ao49, co49, eo49⟩ := Kd.V_slice HO500.out; subst eo49; obtain ⟨Ao50, co50, eo50⟩ := Kd.R_slice HO503.out; subst eo50) | ((with_reducible refine gate_callee (f := 14) rfl ?_); refine goesL_ (some 30) rfl rfl Try.func14 (by kernel_rfl) rfl #[.slice Ao49 t498.length co49, .slice Ao50 t501.length co50] rfl zq7x_0 ?_; (with_reducible refine (matrix_Stable.calls k _ _ t498 _ _ t501 t504 _ ?side1 ?side2 ?side3 ?side4 A13.out).mono ?_); (case side1 => repeat (first | exact (Kd.V_reads' HO500.out).2.2 | (with_reducible refine Kd.C_alloc ?_ _) | (with_reducible refine Kd.C_drewN ?_ _) | (with_reducible refine Kd.C_drew ?_))); (case side2 => exact (Kd.V_reads' HO500.out).2.1); (case side3 => repeat (first | exact (Kd.R_reads' HO503.out).2.2 | (with_reducible refine Kd.C_alloc ?_ _) | (with_reducible refine Kd.C_drewN ?_ _) | (with_reducible refine Kd.C_drew ?_))); (case side4 => exact (Kd.R_reads' HO503.out).2.1); rintro e w51 ⟨v505, rfl, ho0, hb⟩; refine ⟨_, rfl, ?_⟩; replace HO487 := Aside0.mk (Kd.V_below zq7x_2 hb); replace HO490 := Aside0.mk (Kd.V_below zq7x_3 hb); replace HO500 := Aside0.mk (Kd.V_below zq7x_6 hb); have HO506 := Aside0.mk (Kd.V_lower (Kd.V_mono (ok' := fun k_ => some k_ ≠ (.slice Ao45 t492.length co45 : Value).ownBlock ∧ some k_ ≠ (.slice Ao46 t495.length co46 : Value).ownBlock ∧ some k_ ≠ (.slice Ao50 t501.length co50 : Value).ownBlock) ho0 (fun k_ hk_ => ⟨(Kd.fresh' (Kd.S_lt zq7x_4) k_ hk_), (Kd.fresh' (Kd.S_lt zq7x_5) k_ hk_), (Kd.fresh' (Kd.R_lt zq7x_7) k_ hk_)⟩)) (below_size zq7x_1)); replace HO494 := Aside0.mk (Kd.S_below zq7x_4 hb); replace HO497 := Aside0.mk (Kd.S_below zq7x_5 hb); replace HO503 := Aside0.mk (Kd.R_below zq7x_7 hb); replace HB := Aside0.mk (below_step zq7x_1 hb); (try clear hb); (try clear hb2); (try clear hk); (try clear hi); (try clear ho0)) | ((with_reducible refine gate_callee (f := 8) rfl ?_); refine goesL_ (some 31) rfl rfl Try.func8 (by kernel_rfl) rfl #[] rfl zq7x_0 ?_; (with_reducible refine (cenotaphlaw10_told.calls k  true _ A14.out).mono ?_); rintro e w52 ⟨rfl, hb⟩; refine ⟨_, rfl, ?_⟩; replace HO487 := Aside0.mk (Kd.V_below zq7x_2 hb); replace HO490 := Aside0.mk (Kd.V_below zq7x_3 hb); replace HO494 := Aside0.mk (Kd.S_below zq7x_4 hb); replace HO497 := Aside0.mk (Kd.S_below zq7x_5 hb); replace HO500 := Aside0.mk (Kd.V_below zq7x_6 hb); replace HO503 := Aside0.mk (Kd.R_below zq7x_7 hb); replace HO506 := Aside0.mk (Kd.V_below zq7x_8 hb); replace HB := Aside0.mk (below_step zq7x_1 hb); (try clear hb); (try clear hb2); (try clear hk); (try clear hi)) | (go_at_call 30; (with_reducible refine (cenotaphlaw10_From.calls k _ _ t498 t508 _ ?side1 ?side2 A16.out).mono ?_); (case side1 => repeat (first | exact (Kd.V_reads' HO500.out).2.2 | (with_reducible refine Kd.C_alloc ?_ _) | (with_reducible refine Kd.C_drewN ?_ _) | (with_reducible refine Kd.C_drew ?_))); (case side2 => exact (Kd.V_reads' HO500.out).2.1); rintro e w53 ⟨v509, rfl, ho0, hb⟩; replace HO487 := Aside0.mk (Kd.V_elder' zq7x_2 (Kd.S_base ho0) hb); replace HO490 := Aside0.mk (Kd.V_elder' zq7x_3 (Kd.S_base ho0) hb); replace HO494 := Aside0.mk (Kd.S_below zq7x_4 hb); replace HO497 := Aside0.mk (Kd.S_below zq7x_5 hb); replace HO500 := Aside0.mk (Kd.V_elder' zq7x_6 (Kd.S_base ho0) hb); replace HO503 := Aside0.mk (Kd.R_below zq7x_7 hb); replace HO506 := Aside0.mk (Kd.V_elder' zq7x_8 (Kd.S_base ho0) hb); have HO510 := Aside0.mk (Kd.S_lower ho0 (below_size zq7x_1)); replace HB := Aside0.mk (below_step zq7x_1 hb); (try clear hb); (try clear hb2); (try clear hk); (try clear hi); (try clear ho0)) | (go_at_call 35; (with_reducible refine (cenotaphref10_Merge.calls k (fun k_ => ((((True ∧ some k_ ≠ (.slice Ao45 t492.length co45 : Value).ownBlock) ∧ some k_ ≠ (.slice Ao46 t495.length co46 : Value).ownBlock) ∧ some k_ ≠ (.slice Ao50 t501.length co50 : Value).ownBlock) ∧ some k_ ≠ (v509 : Value).ownBlock)) _ _ t485 _ _ t488 t511 _ ?side1 ?side2 ?side3 A17.out).mono ?_); (case side1 => exact HO487.out); (case side2 => repeat (first | exact (Kd.V_reads' HO490.out).2.2 | (with_reducible refine Kd.C_alloc ?_ _) | (with_reducible refine Kd.C_drewN ?_ _) | (with_reducible refine Kd.C_drew ?_))); (case side3 => exact (Kd.V_reads' HO490.out).2.1); rintro e w54 ⟨v512, rfl, ho0, hb⟩; replace HO487 := Aside0.mk (Kd.V_below zq7x_2 hb); replace HO490 := Aside0.mk (Kd.V_below zq7x_3 hb); replace HO500 := Aside0.mk (Kd.V_below zq7x_6 hb); replace HO506 := Aside0.mk (Kd.V_below zq7x_8 hb); have HO513 := Aside0.mk (Kd.V_lower (Kd.V_mono (ok' := fun k_ => some k_ ≠ (.slice Ao45 t492.length co45 : Value).ownBlock ∧ some k_ ≠ (.slice Ao46 t495.length co46 : Value).ownBlock ∧ some k_ ≠ (.slice Ao50 t501.length co50 : Value).ownBlock ∧ some k_ ≠ (v509 : Value).ownBlock) ho0 (fun k_ hk_ => ⟨Or.elim hk_ (fun hs_ => hs_.1.1.1.2) (fun hn_ => (Kd.fresh' (Kd.S_lt zq7x_4) k_ hn_)), Or.elim hk_ (fun hs_ => hs_.1.1.2) (fun hn_ => (Kd.fresh' (Kd.S_lt zq7x_5) k_ hn_)), Or.elim hk_ (fun hs_ => hs_.1.2) (fun hn_ => (Kd.fresh' (Kd.R_lt zq7x_7) k_ hn_)), Or.elim hk_ (fun hs_ => hs_.2) (fun hn_ => (Kd.fresh' (Kd.S_lt zq7x_9) k_ hn_))⟩)) (below_size zq7x_1)); replace HO494 := Aside0.mk (Kd.S_below zq7x_4 hb); replace HO497 := Aside0.mk (Kd.S_below zq7x_5 hb); replace HO503 := Aside0.mk (Kd.R_below zq7x_7 hb); replace HO510 := Aside0.mk (Kd.S_below zq7x_9 hb); replace HB := Aside0.mk (below_step zq7x_1 hb); (try clear hb); (try clear hb2); (try clear hk); (try clear hi); (try clear ho0); obtain ⟨Ao55, co55, eo55⟩ := Kd.S_slice HO510.out; subst eo55; obtain ⟨Ao56, co56, eo56⟩ := Kd.V_slice HO513.out; subst eo56) | (go_at_call 29; (with_reducible refine (cenotaphref10_Same.calls k _ _ t508 _ _ t511 true _ ?side1 ?side2 ?side3 ?side4 A18.out).mono ?_); (case side1 => repeat (first | exact (Kd.S_reads' HO510.out).2.2 | (with_reducible refine Kd.C_alloc ?_ _) | (with_reducible refine Kd.C_drewN ?_ _) | (with_reducible refine Kd.C_drew ?_))); (case side2 => exact (Kd.S_reads' HO510.out).2.1); (case side3 => repeat (first | exact (Kd.V_reads' HO513.out).2.2 | (with_reducible refine Kd.C_alloc ?_ _) | (with_reducible refine Kd.C_drewN ?_ _) | (with_reducible refine Kd.C_drew ?_))); (case side4 => exact (Kd.V_reads' HO513.out).2.1); rintro e w' ⟨rfl, ⟨nd, rfl⟩⟩) | (go_at_call 22; (with_reducible refine (matrix_Merge.calls k _ _ t495 _ _ t492 t515 _ ?side1 ?side2 ?side3 ?side4 A20.out).mono ?_); (case side1 => repeat (first | exact (Kd.S_reads' HO497.out).2.2 | (with_reducible refine Kd.C_alloc ?_ _) | (with_reducible refine Kd.C_drewN ?_ _) | (with_reducible refine Kd.C_drew ?_))); (case side2 => exact (Kd.S_reads' HO497.out).2.1); (case side3 => repeat (first | exact (Kd.S_reads' HO494.out).2.2 | (with_reducible refine Kd.C_alloc ?_ _) | (with_reducible refine Kd.C_drewN ?_ _) | (with_reducible refine Kd.C_drew ?_))); (case side4 => exact (Kd.S_reads' HO494.out).2.1); rintro e w57 ⟨v516, rfl, ho0, hb⟩; replace HO487 := Aside0.mk (Kd.V_below zq7x_2 hb); replace HO490 := Aside0.mk (Kd.V_below zq7x_3 hb); replace HO500 := Aside0.mk (Kd.V_below zq7x_6 hb); replace HO506 := Aside0.mk (Kd.V_below zq7x_8 hb); replace HO513 := Aside0.mk (Kd.V_below zq7x_10 hb); have HO517 := Aside0.mk (Kd.V_lower (Kd.V_mono (ok' := fun k_ => some k_ ≠ (.slice Ao45 t492.length co45 : Value).ownBlock ∧ some k_ ≠ (.slice Ao46 t495.length co46 : Value).ownBlock ∧ some k_ ≠ (.slice Ao50 t501.length co50 : Value).ownBlock ∧ some k_ ≠ (.slice Ao55 t508.length co55 : Value).ownBlock) ho0 (fun k_ hk_ => ⟨(Kd.fresh' (Kd.S_lt zq7x_4) k_ hk_), (Kd.fresh' (Kd.S_lt zq7x_5) k_ hk_), (Kd.fresh' (Kd.R_lt zq7x_7) k_ hk_), (Kd.fresh' (Kd.S_lt zq7x_9) k_ hk_)⟩)) (below_size zq7x_1)); replace HO494 := Aside0.mk (Kd.S_below zq7x_4 hb); replace HO497 := Aside0.mk (Kd.S_below zq7x_5 hb); replace HO503 := Aside0.mk (Kd.R_below zq7x_7 hb); replace HO510 := Aside0.mk (Kd.S_below zq7x_9 hb); replace HB := Aside0.mk (below_step zq7x_1 hb); (try clear hb); (try clear hb2); (try clear hk); (try clear hi); (try clear ho0); obtain ⟨Ao58, co58, eo58⟩ := Kd.V_slice HO517.out; subst eo58) | (go_at_call 25; (with_reducible refine (matrix_Same.calls k _ _ t498 _ _ t515 true _ ?side1 ?side2 ?side3 ?side4 A21.out).mono ?_); (case side1 => repeat (first | exact (Kd.V_reads' HO500.out).2.2 | (with_reducible refine Kd.C_alloc ?_ _) | (with_reducible refine Kd.C_drewN ?_ _) | (with_reducible refine Kd.C_drew ?_))); (case side2 => exact (Kd.V_reads' HO500.out).2.1); (case side3 => repeat (first | exact (Kd.V_reads' HO517.out).2.2 | (with_reducible refine Kd.C_alloc ?_ _) | (with_reducible refine Kd.C_drewN ?_ _) | (with_reducible refine Kd.C_drew ?_))); (case side4 => exact (Kd.V_reads' HO517.out).2.1); rintro e w59 ⟨rfl, hb⟩; replace HO487 := Aside0.mk (Kd.V_below zq7x_2 hb); replace HO490 := Aside0.mk (Kd.V_below zq7x_3 hb); replace HO494 := Aside0.mk (Kd.S_below zq7x_4 hb); replace HO497 := Aside0.mk (Kd.S_below zq7x_5 hb); replace HO500 := Aside0.mk (Kd.V_below zq7x_6 hb); replace HO503 := Aside0.mk (Kd.R_below zq7x_7 hb); replace HO506 := Aside0.mk (Kd.V_below zq7x_8 hb); replace HO510 := Aside0.mk (Kd.S_below zq7x_9 hb); replace HO513 := Aside0.mk (Kd.V_below zq7x_10 hb); replace HO517 := Aside0.mk (Kd.V_below zq7x_11 hb); replace HB := Aside0.mk (below_step zq7x_1 hb); (try clear hb); (try clear hb2); (try clear hk); (try clear hi)) | (go_at_call 25; (with_reducible refine (matrix_Same.calls k _ _ t492 _ _ t495 t519 _ ?side1 ?side2 ?side3 ?side4 A23.out).mono ?_); (case side1 => repeat (first | exact (Kd.S_reads' HO494.out).2.2 | (with_reducible refine Kd.C_alloc ?_ _) | (with_reducible refine Kd.C_drewN ?_ _) | (with_reducible refine Kd.C_drew ?_))); (case side2 => exact (Kd.S_reads' HO494.out).2.1); (case side3 => repeat (first | exact (Kd.S_reads' HO497.out).2.2 | (with_reducible refine Kd.C_alloc ?_ _) | (with_reducible refine Kd.C_drewN ?_ _) | (with_reducible refine Kd.C_drew ?_))); (case side4 => exact (Kd.S_reads' HO497.out).2.1); rintro e w60 ⟨rfl, hb⟩; replace HO487 := Aside0.mk (Kd.V_below zq7x_2 hb); replace HO490 := Aside0.mk (Kd.V_below zq7x_3 hb); replace HO494 := Aside0.mk (Kd.S_below zq7x_4 hb); replace HO497 := Aside0.mk (Kd.S_below zq7x_5 hb); replace HO500 := Aside0.mk (Kd.V_below zq7x_6 hb); replace HO503 := Aside0.mk (Kd.R_below zq7x_7 hb); replace HO506 := Aside0.mk (Kd.V_below zq7x_8 hb); replace HO510 := Aside0.mk (Kd.S_below zq7x_9 hb); replace HO513 := Aside0.mk (Kd.V_below zq7x_10 hb); replace HO517 := Aside0.mk (Kd.V_below zq7x_11 hb); replace HB := Aside0.mk (below_step zq7x_1 hb); (try clear hb); (try clear hb2); (try clear hk); (try clear hi)) | (go_at_call 29; (with_reducible refine (cenotaphref10_Same.calls k _ _ t485 _ _ t488 t520 _ ?side1 ?side2 ?side3 ?side4 A24.out).mono ?_); (case side1 => repeat (first | exact (Kd.V_reads' HO487.out).2.2 | (with_reducible refine Kd.C_alloc ?_ _) | (with_reducible refine Kd.C_drewN ?_ _) | (with_reducible refine Kd.C_drew ?_))); (case side2 => exact (Kd.V_reads' HO487.out).2.1); (case side3 => repeat (first | exact (Kd.V_reads' HO490.out).2.2 | (with_reducible refine Kd.C_alloc ?_ _) | (with_reducible refine Kd.C_drewN ?_ _) | (with_reducible refine Kd.C_drew ?_))); (case side4 => exact (Kd.V_reads' HO490.out).2.1); rintro e w' ⟨rfl, ⟨nd, rfl⟩⟩; obtain ⟨Ao61, co61, eo61⟩ := Kd.V_slice HO506.out; subst eo61) | (go_at_call 17; (with_reducible refine (cenotaphlaw03_From.calls k _ _ t504 t521 _ ?side1 ?side2 A26.out).mono ?_); (case side1 => repeat (first | exact (Kd.V_reads' HO506.out).2.2 | (with_reducible refine Kd.C_alloc ?_ _) | (with_reducible refine Kd.C_drewN ?_ _) | (with_reducible refine Kd.C_drew ?_))); (case side2 => exact (Kd.V_reads' HO506.out).2.1); rintro e w62 ⟨v522, rfl, ho0, hb⟩; replace HO487 := Aside0.mk (Kd.V_elder' zq7x_2 (Kd.R_base ho0) hb); replace HO490 := Aside0.mk (Kd.V_elder' zq7x_3 (Kd.R_base ho0) hb); replace HO494 := Aside0.mk (Kd.S_below zq7x_4 hb); replace HO497 := Aside0.mk (Kd.S_below zq7x_5 hb); replace HO500 := Aside0.mk (Kd.V_elder' zq7x_6 (Kd.R_base ho0) hb); replace HO503 := Aside0.mk (Kd.R_below zq7x_7 hb); replace HO506 := Aside0.mk (Kd.V_elder' zq7x_8 (Kd.R_base ho0) hb); replace HO510 := Aside0.mk (Kd.S_elder' zq7x_9 (Kd.R_base ho0) hb); replace HO513 := Aside0.mk (Kd.V_elder' zq7x_10 (Kd.R_base ho0) hb); replace HO517 := Aside0.mk (Kd.V_elder' zq7x_11 (Kd.R_base ho0) hb); have HO523 := Aside0.mk (Kd.R_lower ho0 (below_size zq7x_1)); replace HB := Aside0.mk (below_step zq7x_1 hb); (try clear hb); (try clear hb2); (try clear hk); (try clear hi); (try clear ho0)) | (go_at_call 35; (with_reducible refine (cenotaphref10_Merge.calls k (fun k_ => (((((True ∧ some k_ ≠ (.slice Ao45 t492.length co45 : Value).ownBlock) ∧ some k_ ≠ (.slice Ao46 t495.length co46 : Value).ownBlock) ∧ some k_ ≠ (.slice Ao50 t501.length co50 : Value).ownBlock) ∧ some k_ ≠ (.slice Ao55 t508.length co55 : Value).ownBlock) ∧ some k_ ≠ (v522 : Value).ownBlock)) _ _ t485 _ _ t488 t524 _ ?side1 ?side2 ?side3 A27.out).mono ?_); (case side1 => exact HO487.out); (case side2 => repeat (first | exact (Kd.V_reads' HO490.out).2.2 | (with_reducible refine Kd.C_alloc ?_ _) | (with_reducible refine Kd.C_drewN ?_ _) | (with_reducible refine Kd.C_drew ?_))); (case side3 => exact (Kd.V_reads' HO490.out).2.1); rintro e w63 ⟨v525, rfl, ho0, hb⟩; replace HO487 := Aside0.mk (Kd.V_below zq7x_2 hb); replace HO490 := Aside0.mk (Kd.V_below zq7x_3 hb); replace HO500 := Aside0.mk (Kd.V_below zq7x_6 hb); replace HO506 := Aside0.mk (Kd.V_below zq7x_8 hb); replace HO513 := Aside0.mk (Kd.V_below zq7x_10 hb); replace HO517 := Aside0.mk (Kd.V_below zq7x_11 hb); have HO526 := Aside0.mk (Kd.V_lower (Kd.V_mono (ok' := fun k_ => some k_ ≠ (.slice Ao45 t492.length co45 : Value).ownBlock ∧ some k_ ≠ (.slice Ao46 t495.length co46 : Value).ownBlock ∧ some k_ ≠ (.slice Ao50 t501.length co50 : Value).ownBlock ∧ some k_ ≠ (.slice Ao55 t508.length co55 : Value).ownBlock ∧ some k_ ≠ (v522 : Value).ownBlock) ho0 (fun k_ hk_ => ⟨Or.elim hk_ (fun hs_ => hs_.1.1.1.1.2) (fun hn_ => (Kd.fresh' (Kd.S_lt zq7x_4) k_ hn_)), Or.elim hk_ (fun hs_ => hs_.1.1.1.2) (fun hn_ => (Kd.fresh' (Kd.S_lt zq7x_5) k_ hn_)), Or.elim hk_ (fun hs_ => hs_.1.1.2) (fun hn_ => (Kd.fresh' (Kd.R_lt zq7x_7) k_ hn_)), Or.elim hk_ (fun hs_ => hs_.1.2) (fun hn_ => (Kd.fresh' (Kd.S_lt zq7x_9) k_ hn_)), Or.elim hk_ (fun hs_ => hs_.2) (fun hn_ => (Kd.fresh' (Kd.R_lt zq7x_12) k_ hn_))⟩)) (below_size zq7x_1)); replace HO494 := Aside0.mk (Kd.S_below zq7x_4 hb); replace HO497 := Aside0.mk (Kd.S_below zq7x_5 hb); replace HO503 := Aside0.mk (Kd.R_below zq7x_7 hb); replace HO510 := Aside0.mk (Kd.S_below zq7x_9 hb); replace HO523 := Aside0.mk (Kd.R_below zq7x_12 hb); replace HB := Aside0.mk (below_step zq7x_1 hb); (try clear hb); (try clear hb2); (try clear hk); (try clear hi); (try clear ho0); obtain ⟨Ao64, co64, eo64⟩ := Kd.V_slice HO526.out; subst eo64) | (go_at_call 18; (with_reducible refine (cenotaphref10_Stable.calls k _ _ t524 _ _ x40 t527 _ ?side1 ?side2 ?side3 ?side4 A28.out).mono ?_); (case side1 => repeat (first | exact (Kd.V_reads' HO526.out).2.2 | (with_reducible refine Kd.C_alloc ?_ _) | (with_reducible refine Kd.C_drewN ?_ _) | (with_reducible refine Kd.C_drew ?_))); (case side2 => exact (Kd.V_reads' HO526.out).2.1); (case side3 => repeat (first | exact (Kd.C_below HR491.out HB.out) | (with_reducible refine Kd.C_alloc ?_ _) | (with_reducible refine Kd.C_drewN ?_ _) | (with_reducible refine Kd.C_drew ?_))); (case side4 => exact HC491.out); rintro e w65 ⟨v528, rfl, ho0, hb⟩; replace HO487 := Aside0.mk (Kd.V_elder' zq7x_2 (Kd.R_base ho0) hb); replace HO490 := Aside0.mk (Kd.V_elder' zq7x_3 (Kd.R_base ho0) hb); replace HO494 := Aside0.mk (Kd.S_below zq7x_4 hb); replace HO497 := Aside0.mk (Kd.S_below zq7x_5 hb); replace HO500 := Aside0.mk (Kd.V_elder' zq7x_6 (Kd.R_base ho0) hb); replace HO503 := Aside0.mk (Kd.R_below zq7x_7 hb); replace HO506 := Aside0.mk (Kd.V_elder' zq7x_8 (Kd.R_base ho0) hb); replace HO510 := Aside0.mk (Kd.S_elder' zq7x_9 (Kd.R_base ho0) hb); replace HO513 := Aside0.mk (Kd.V_elder' zq7x_10 (Kd.R_base ho0) hb); replace HO517 := Aside0.mk (Kd.V_elder' zq7x_11 (Kd.R_base ho0) hb); replace HO526 := Aside0.mk (Kd.V_elder' zq7x_13 (Kd.R_base ho0) hb); have HO529 := Aside0.mk (Kd.R_lower (Kd.R_new' ho0 (Kd.R_lt zq7x_12)) (below_size zq7x_1)); replace HO523 := Aside0.mk (Kd.R_elder' zq7x_12 (Kd.R_base ho0) hb); replace HB := Aside0.mk (below_step zq7x_1 hb); (try clear hb); (try clear hb2); (try clear hk); (try clear hi); (try clear ho0); obtain ⟨Ao66, co66, eo66⟩ := Kd.R_slice HO523.out; subst eo66; obtain ⟨Ao67, co67, eo67⟩ := Kd.R_slice HO529.out; subst eo67) | (go_at_call 16; (with_reducible refine (cenotaphref03_Same.calls k _ _ t521 _ _ t527 true _ ?side1 ?side2 ?side3 ?side4 A29.out).mono ?_); (case side1 => repeat (first | exact (Kd.R_reads' HO523.out).2.2 | (with_reducible refine Kd.C_alloc ?_ _) | (with_reducible refine Kd.C_drewN ?_ _) | (with_reducible refine Kd.C_drew ?_))); (case side2 => exact (Kd.R_reads' HO523.out).2.1); (case side3 => repeat (first | exact (Kd.R_reads' HO529.out).2.2 | (with_reducible refine Kd.C_alloc ?_ _) | (with_reducible refine Kd.C_drewN ?_ _) | (with_reducible refine Kd.C_drew ?_))); (case side4 => exact (Kd.R_reads' HO529.out).2.1); rintro e w' ⟨rfl, ⟨nd, rfl⟩⟩) | ((with_reducible refine gate_callee (f := 15) rfl ?_); refine goesL_ (some 72) rfl rfl Try.func15 (by kernel_rfl) rfl #[.slice A2 x40.length c2] rfl (by (try simp only [List.map_toArray, List.map_cons, List.map_nil]); first | done | (rw [show x40.length = (ji6).toNat from (by rw [List.length_take]; have h_ : ((ji6) : Int) ≤ (l2.length : Int) := of_decide_eq_true zq7x_18; omega)] <;> rfl) | (simp only [hji6]; rfl) | rfl | (simp only [List.length_drop, List.length_take]; rfl)) ?_; (with_reducible refine (cenotaphlaw01_To.calls k _ _ x40 t531 _ ?side1 ?side2 A31.out).mono ?_); (case side1 => repeat (first | exact (Kd.C_below HR491.out zq7x_1) | (with_reducible refine Kd.C_alloc ?_ _) | (with_reducible refine Kd.C_drewN ?_ _) | (with_reducible refine Kd.C_drew ?_))); (case side2 => exact HC491.out); rintro e w68 ⟨v532, rfl, ho0, hb⟩; refine ⟨_, rfl, ?_⟩; replace HO487 := Aside0.mk (Kd.V_elder' zq7x_2 (Kd.R_base ho0) hb); replace HO490 := Aside0.mk (Kd.V_elder' zq7x_3 (Kd.R_base ho0) hb); replace HO494 := Aside0.mk (Kd.S_below zq7x_4 hb); replace HO497 := Aside0.mk (Kd.S_below zq7x_5 hb); replace HO500 := Aside0.mk (Kd.V_elder' zq7x_6 (Kd.R_base ho0) hb); replace HO506 := Aside0.mk (Kd.V_elder' zq7x_8 (Kd.R_base ho0) hb); replace HO510 := Aside0.mk (Kd.S_below zq7x_9 hb); replace HO513 := Aside0.mk (Kd.V_elder' zq7x_10 (Kd.R_base ho0) hb); replace HO517 := Aside0.mk (Kd.V_elder' zq7x_11 (Kd.R_base ho0) hb); replace HO523 := Aside0.mk (Kd.R_below zq7x_12 hb); replace HO526 := Aside0.mk (Kd.V_elder' zq7x_13 (Kd.R_base ho0) hb); replace HO529 := Aside0.mk (Kd.R_below zq7x_14 hb); have HO533 := Aside0.mk (Kd.R_lower (Kd.R_new' ho0 (Kd.R_lt zq7x_7)) (below_size zq7x_1)); replace HO503 := Aside0.mk (Kd.R_elder' zq7x_7 (Kd.R_base ho0) hb); replace HB := Aside0.mk (below_step zq7x_1 hb); (try clear hb); (try clear hb2); (try clear hk); (try clear hi); (try clear ho0); obtain ⟨Ao69, co69, eo69⟩ := Kd.R_slice HO533.out; subst eo69) | ((with_reducible refine gate_callee (f := 14) rfl ?_); refine goesL_ (some 73) rfl rfl Try.func14 (by kernel_rfl) rfl #[.slice Ao45 t492.length co45, .slice Ao69 t531.length co69] rfl zq7x_0 ?_; (with_reducible refine (matrix_Stable.calls k _ _ t492 _ _ t531 t534 _ ?side1 ?side2 ?side3 ?side4 A32.out).mono ?_); (case side1 => repeat (first | exact (Kd.S_reads' HO494.out).2.2 | (with_reducible refine Kd.C_alloc ?_ _) | (with_reducible refine Kd.C_drewN ?_ _) | (with_reducible refine Kd.C_drew ?_))); (case side2 => exact (Kd.S_reads' HO494.out).2.1); (case side3 => repeat (first | exact (Kd.R_reads' HO533.out).2.2 | (with_reducible refine Kd.C_alloc ?_ _) | (with_reducible refine Kd.C_drewN ?_ _) | (with_reducible refine Kd.C_drew ?_))); (case side4 => exact (Kd.R_reads' HO533.out).2.1); rintro e w70 ⟨v535, rfl, ho0, hb⟩; refine ⟨_, rfl, ?_⟩; replace HO487 := Aside0.mk (Kd.V_below zq7x_2 hb); replace HO490 := Aside0.mk (Kd.V_below zq7x_3 hb); replace HO500 := Aside0.mk (Kd.V_below zq7x_6 hb); replace HO506 := Aside0.mk (Kd.V_below zq7x_8 hb); replace HO513 := Aside0.mk (Kd.V_below zq7x_10 hb); replace HO517 := Aside0.mk (Kd.V_below zq7x_11 hb); replace HO526 := Aside0.mk (Kd.V_below zq7x_13 hb); have HO536 := Aside0.mk (Kd.V_lower (Kd.V_mono (ok' := fun k_ => some k_ ≠ (.slice Ao45 t492.length co45 : Value).ownBlock ∧ some k_ ≠ (.slice Ao46 t495.length co46 : Value).ownBlock ∧ some k_ ≠ (.slice Ao50 t501.length co50 : Value).ownBlock ∧ some k_ ≠ (.slice Ao55 t508.length co55 : Value).ownBlock ∧ some k_ ≠ (.slice Ao66 t521.length co66 : Value).ownBlock ∧ some k_ ≠ (.slice Ao67 t527.length co67 : Value).ownBlock ∧ some k_ ≠ (.slice Ao69 t531.length co69 : Value).ownBlock) ho0 (fun k_ hk_ => ⟨(Kd.fresh' (Kd.S_lt zq7x_4) k_ hk_), (Kd.fresh' (Kd.S_lt zq7x_5) k_ hk_), (Kd.fresh' (Kd.R_lt zq7x_7) k_ hk_), (Kd.fresh' (Kd.S_lt zq7x_9) k_ hk_), (Kd.fresh' (Kd.R_lt zq7x_12) k_ hk_), (Kd.fresh' (Kd.R_lt zq7x_14) k_ hk_), (Kd.fresh' (Kd.R_lt zq7x_15) k_ hk_)⟩)) (below_size zq7x_1)); replace HO494 := Aside0.mk (Kd.S_below zq7x_4 hb); replace HO497 := Aside0.mk (Kd.S_below zq7x_5 hb); replace HO503 := Aside0.mk (Kd.R_below zq7x_7 hb); replace HO510 := Aside0.mk (Kd.S_below zq7x_9 hb); replace HO523 := Aside0.mk (Kd.R_below zq7x_12 hb); replace HO529 := Aside0.mk (Kd.R_below zq7x_14 hb); replace HO533 := Aside0.mk (Kd.R_below zq7x_15 hb); replace HB := Aside0.mk (below_step zq7x_1 hb); (try clear hb); (try clear hb2); (try clear hk); (try clear hi); (try clear ho0); obtain ⟨Ao71, co71, eo71⟩ := Kd.V_slice HO536.out; subst eo71) | ((with_reducible refine gate_callee (f := 20) rfl ?_); refine goesL_ (some 75) rfl rfl Try.func20 (by kernel_rfl) rfl #[.slice Ao71 t534.length co71, .slice Ao61 t504.length co61] rfl zq7x_0 ?_; (with_reducible refine (vec_Within.calls _ _ t534 _ _ t504 true _ ?side1 ?side2 ?side3 ?side4 A33.out).mono ?_); (case side1 => repeat (first | exact (Kd.V_reads' HO536.out).2.2 | (with_reducible refine Kd.C_alloc ?_ _) | (with_reducible refine Kd.C_drewN ?_ _) | (with_reducible refine Kd.C_drew ?_))); (case side2 => exact (Kd.V_reads' HO536.out).2.1); (case side3 => repeat (first | exact (Kd.V_reads' HO506.out).2.2 | (with_reducible refine Kd.C_alloc ?_ _) | (with_reducible refine Kd.C_drewN ?_ _) | (with_reducible refine Kd.C_drew ?_))); (case side4 => exact (Kd.V_reads' HO506.out).2.1); rintro e w72 ⟨rfl, hb⟩; refine ⟨_, rfl, ?_⟩; replace HO487 := Aside0.mk (Kd.V_below zq7x_2 hb); replace HO490 := Aside0.mk (Kd.V_below zq7x_3 hb); replace HO494 := Aside0.mk (Kd.S_below zq7x_4 hb); replace HO497 := Aside0.mk (Kd.S_below zq7x_5 hb); replace HO500 := Aside0.mk (Kd.V_below zq7x_6 hb); replace HO503 := Aside0.mk (Kd.R_below zq7x_7 hb); replace HO506 := Aside0.mk (Kd.V_below zq7x_8 hb); replace HO510 := Aside0.mk (Kd.S_below zq7x_9 hb); replace HO513 := Aside0.mk (Kd.V_below zq7x_10 hb); replace HO517 := Aside0.mk (Kd.V_below zq7x_11 hb); replace HO523 := Aside0.mk (Kd.R_below zq7x_12 hb); replace HO526 := Aside0.mk (Kd.V_below zq7x_13 hb); replace HO529 := Aside0.mk (Kd.R_below zq7x_14 hb); replace HO533 := Aside0.mk (Kd.R_below zq7x_15 hb); replace HO536 := Aside0.mk (Kd.V_below zq7x_16 hb); replace HB := Aside0.mk (below_step zq7x_1 hb); (try clear hb); (try clear hb2); (try clear hk); (try clear hi)) | (go_at_call 15; (with_reducible refine (cenotaphlaw01_To.calls k _ _ x40 t538 _ ?side1 ?side2 A35.out).mono ?_); (case side1 => repeat (first | exact (Kd.C_below HR491.out HB.out) | (with_reducible refine Kd.C_alloc ?_ _) | (with_reducible refine Kd.C_drewN ?_ _) | (with_reducible refine Kd.C_drew ?_))); (case side2 => exact HC491.out); rintro e w73 ⟨v539, rfl, ho0, hb⟩; replace HO487 := Aside0.mk (Kd.V_elder' zq7x_2 (Kd.R_base ho0) hb); replace HO490 := Aside0.mk (Kd.V_elder' zq7x_3 (Kd.R_base ho0) hb); replace HO494 := Aside0.mk (Kd.S_below zq7x_4 hb); replace HO497 := Aside0.mk (Kd.S_below zq7x_5 hb); replace HO500 := Aside0.mk (Kd.V_elder' zq7x_6 (Kd.R_base ho0) hb); replace HO506 := Aside0.mk (Kd.V_elder' zq7x_8 (Kd.R_base ho0) hb); replace HO510 := Aside0.mk (Kd.S_below zq7x_9 hb); replace HO513 := Aside0.mk (Kd.V_elder' zq7x_10 (Kd.R_base ho0) hb); replace HO517 := Aside0.mk (Kd.V_elder' zq7x_11 (Kd.R_base ho0) hb); replace HO523 := Aside0.mk (Kd.R_below zq7x_12 hb); replace HO526 := Aside0.mk (Kd.V_elder' zq7x_13 (Kd.R_base ho0) hb); replace HO529 := Aside0.mk (Kd.R_below zq7x_14 hb); replace HO536 := Aside0.mk (Kd.V_elder' zq7x_16 (Kd.R_base ho0) hb); have HO540 := Aside0.mk (Kd.R_lower (Kd.R_new' (Kd.R_new' ho0 (Kd.R_lt zq7x_7)) (Kd.R_lt zq7x_15)) (below_size zq7x_1)); replace HO503 := Aside0.mk (Kd.R_elder' zq7x_7 (Kd.R_base ho0) hb); replace HO533 := Aside0.mk (Kd.R_elder' zq7x_15 (Kd.R_base ho0) hb); replace HB := Aside0.mk (below_step zq7x_1 hb); (try clear hb); (try clear hb2); (try clear hk); (try clear hi); (try clear ho0); obtain ⟨Ao74, co74, eo74⟩ := Kd.R_slice HO540.out; subst eo74) | (go_at_call 14; (with_reducible refine (matrix_Stable.calls k _ _ t495 _ _ t538 t541 _ ?side1 ?side2 ?side3 ?side4 A36.out).mono ?_); (case side1 => repeat (first | exact (Kd.S_reads' HO497.out).2.2 | (with_reducible refine Kd.C_alloc ?_ _) | (with_reducible refine Kd.C_drewN ?_ _) | (with_reducible refine Kd.C_drew ?_))); (case side2 => exact (Kd.S_reads' HO497.out).2.1); (case side3 => repeat (first | exact (Kd.R_reads' HO540.out).2.2 | (with_reducible refine Kd.C_alloc ?_ _) | (with_reducible refine Kd.C_drewN ?_ _) | (with_reducible refine Kd.C_drew ?_))); (case side4 => exact (Kd.R_reads' HO540.out).2.1); rintro e w75 ⟨v542, rfl, ho0, hb⟩; replace HO487 := Aside0.mk (Kd.V_below zq7x_2 hb); replace HO490 := Aside0.mk (Kd.V_below zq7x_3 hb); replace HO500 := Aside0.mk (Kd.V_below zq7x_6 hb); replace HO506 := Aside0.mk (Kd.V_below zq7x_8 hb); replace HO513 := Aside0.mk (Kd.V_below zq7x_10 hb); replace HO517 := Aside0.mk (Kd.V_below zq7x_11 hb); replace HO526 := Aside0.mk (Kd.V_below zq7x_13 hb); replace HO536 := Aside0.mk (Kd.V_below zq7x_16 hb); have HO543 := Aside0.mk (Kd.V_lower (Kd.V_mono (ok' := fun k_ => some k_ ≠ (.slice Ao45 t492.length co45 : Value).ownBlock ∧ some k_ ≠ (.slice Ao46 t495.length co46 : Value).ownBlock ∧ some k_ ≠ (.slice Ao50 t501.length co50 : Value).ownBlock ∧ some k_ ≠ (.slice Ao55 t508.length co55 : Value).ownBlock ∧ some k_ ≠ (.slice Ao66 t521.length co66 : Value).ownBlock ∧ some k_ ≠ (.slice Ao67 t527.length co67 : Value).ownBlock ∧ some k_ ≠ (.slice Ao69 t531.length co69 : Value).ownBlock ∧ some k_ ≠ (.slice Ao74 t538.length co74 : Value).ownBlock) ho0 (fun k_ hk_ => ⟨(Kd.fresh' (Kd.S_lt zq7x_4) k_ hk_), (Kd.fresh' (Kd.S_lt zq7x_5) k_ hk_), (Kd.fresh' (Kd.R_lt zq7x_7) k_ hk_), (Kd.fresh' (Kd.S_lt zq7x_9) k_ hk_), (Kd.fresh' (Kd.R_lt zq7x_12) k_ hk_), (Kd.fresh' (Kd.R_lt zq7x_14) k_ hk_), (Kd.fresh' (Kd.R_lt zq7x_15) k_ hk_), (Kd.fresh' (Kd.R_lt zq7x_17) k_ hk_)⟩)) (below_size zq7x_1)); replace HO494 := Aside0.mk (Kd.S_below zq7x_4 hb); replace HO497 := Aside0.mk (Kd.S_below zq7x_5 hb); replace HO503 := Aside0.mk (Kd.R_below zq7x_7 hb); replace HO510 := Aside0.mk (Kd.S_below zq7x_9 hb); replace HO523 := Aside0.mk (Kd.R_below zq7x_12 hb); replace HO529 := Aside0.mk (Kd.R_below zq7x_14 hb); replace HO533 := Aside0.mk (Kd.R_below zq7x_15 hb); replace HO540 := Aside0.mk (Kd.R_below zq7x_17 hb); replace HB := Aside0.mk (below_step zq7x_1 hb); (try clear hb); (try clear hb2); (try clear hk); (try clear hi); (try clear ho0); obtain ⟨Ao76, co76, eo76⟩ := Kd.V_slice HO543.out; subst eo76) | (go_at_call 20; (with_reducible refine (vec_Within.calls _ _ t541 _ _ t504 t544 _ ?side1 ?side2 ?side3 ?side4 A37.out).mono ?_); (case side1 => repeat (first | exact (Kd.V_reads' HO543.out).2.2 | (with_reducible refine Kd.C_alloc ?_ _) | (with_reducible refine Kd.C_drewN ?_ _) | (with_reducible refine Kd.C_drew ?_))); (case side2 => exact (Kd.V_reads' HO543.out).2.1); (case side3 => repeat (first | exact (Kd.V_reads' HO506.out).2.2 | (with_reducible refine Kd.C_alloc ?_ _) | (with_reducible refine Kd.C_drewN ?_ _) | (with_reducible refine Kd.C_drew ?_))); (case side4 => exact (Kd.V_reads' HO506.out).2.1); rintro e w77 ⟨rfl, hb⟩; replace HO487 := Aside0.mk (Kd.V_below zq7x_2 hb); replace HO490 := Aside0.mk (Kd.V_below zq7x_3 hb); replace HO494 := Aside0.mk (Kd.S_below zq7x_4 hb); replace HO497 := Aside0.mk (Kd.S_below zq7x_5 hb); replace HO500 := Aside0.mk (Kd.V_below zq7x_6 hb); replace HO503 := Aside0.mk (Kd.R_below zq7x_7 hb); replace HO506 := Aside0.mk (Kd.V_below zq7x_8 hb); replace HO510 := Aside0.mk (Kd.S_below zq7x_9 hb); replace HO513 := Aside0.mk (Kd.V_below zq7x_10 hb); replace HO517 := Aside0.mk (Kd.V_below zq7x_11 hb); replace HO523 := Aside0.mk (Kd.R_below zq7x_12 hb); replace HO526 := Aside0.mk (Kd.V_below zq7x_13 hb); replace HO529 := Aside0.mk (Kd.R_below zq7x_14 hb); replace HO533 := Aside0.mk (Kd.R_below zq7x_15 hb); replace HO536 := Aside0.mk (Kd.V_below zq7x_16 hb); replace HO540 := Aside0.mk (Kd.R_below zq7x_17 hb); replace HO543 := Aside0.mk (Kd.V_below (by (with_reducible repeat (first | apply Kd.V_alloc | apply Kd.V_drewN | apply Kd.V_drew)); exact HO543.out) hb); replace HB := Aside0.mk (below_step zq7x_1 hb); (try clear hb); (try clear hb2); (try clear hk); (try clear hi)))
         go_ret
         exact ⟨by first | rfl | (simp [errW_none, errW_some] <;> rfl) | (simp only [← hji6]; first | rfl | (simp [errW_none, errW_some] <;> rfl)) | (simp [*, errW_none, errW_some] <;> rfl), by repeat (first | (with_reducible first | exact HB.out | apply below_alloc | apply pw_below_drewN | apply below_drew1) | exact HB.out)⟩
        ·replace c34 := Bool.eq_false_iff.mpr c34
         subst c34
         have H1 : (none) = some r := by rw [if_neg (show ¬ (false = true) by decide)] at H; exact H
         clear H
         have H := H1
         clear H1
         exact absurd H (by simp)
       ·replace c30 := Bool.eq_false_iff.mpr c30
        subst c30
        have H1 : (none) = some r := by rw [if_neg (show ¬ (false = true) by decide)] at H; exact H
        clear H
        have H := H1
        clear H1
        exact absurd H (by simp)
     ·replace c22 := Bool.eq_false_iff.mpr c22
      subst c22
      have H1 : (none) = some r := by rw [if_neg (show ¬ (false = true) by decide)] at H; exact H
      clear H
      have H := H1
      clear H1
      exact absurd H (by simp)
    ·replace c19 := Bool.eq_false_iff.mpr c19
     subst c19
     have H1 : (none) = some r := by rw [if_neg (show ¬ (false = true) by decide)] at H; exact H
     clear H
     have H := H1
     clear H1
     exact absurd H (by simp)
   ·replace c15 := Bool.eq_false_iff.mpr c15
    subst c15
    have H1 : (none) = some r := by rw [if_neg (show ¬ (false = true) by decide)] at H; exact H
    clear H
    have H := H1
    clear H1
    exact absurd H (by simp)
  ·rw [if_neg c8] at H
   exact absurd H (by simp)
 ·rw [if_neg c7] at H
  exact absurd H (by simp)

end Go.Proofs.Ytoodahceejdbcaa.P
