import Derived.Test.YtgdkgobplinelaaP0
import Derived.Test.YtgdkgobplinelaaP6
namespace Go.Proofs.Ytgdkgobplinelaa.P
open Go.RowKit Go.Proofs.YtgdkgobplinelaaW.PrintWords Go.Proofs.YtgdkgobplinelaaW.PrintLast Go.Proofs.YtgdkgobplinelaaW.PrintMore
set_option maxHeartbeats 8000000
set_option maxRecDepth 100000
attribute [local go_sem] run_store_complex max2_int min2_int max_two min_two max_three min_three max_four min_four
set_option linter.unusedVariables false
set_option linter.unusedSimpArgs false
theorem zq68_0 {p_ : Prop} (h_ : p_ := by repeat (first | (with_reducible first | exact HB.out | apply bA | apply pB | apply bW) | exact HB.out)) : p_ := h_
theorem zq68_1 {p_ : Prop} (h_ : p_ := by first | (with_reducible assumption) | assumption) : p_ := h_
theorem zq68_2 {p_ : Prop} (h_ : p_ := by first | rfl | (simp; done) | (simp [*]; done)) : p_ := h_
def cenotaphref04_Drop.l0 : Nat → List (S91) → ByteArray → List (S91) → Int → Option ((List (S91)))
 | 0, _, _, _, _ => none
 | k + 1, x0, x1, x5, x6 => if x6 < (x0.length : Int) then (if 0 ≤ x6 then (if ((rd_T91 x0 x6).f0).toList = x1.toList then (cenotaphref04_Drop.l0 k x0 x1 x5 (wrap64 (x6 + 1))) else (if x5.length < 2932031007402 then (cenotaphref04_Drop.l0 k x0 x1 (x5 ++ [(⟨(rd_T91 x0 x6).f0, (⟨(rd_T91 x0 x6).f1.f0, (rd_T91 x0 x6).f1.f1⟩ : S89)⟩ : S91)]) (wrap64 (x6 + 1))) else (none))) else (none)) else (some x5)
def cenotaphref04_Drop.f (k : Nat) (l0 : List (S91)) (a1 : ByteArray) : Option ((List (S91))) := cenotaphref04_Drop.l0 k l0 a1 ([] : List (S91)) 0
theorem cenotaphref04_Drop.mono_l : ∀ k, (∀ y0 y1 y2 y3, LeO (cenotaphref04_Drop.l0 k y0 y1 y2 y3) (cenotaphref04_Drop.l0 (k + 1) y0 y1 y2 y3))
 | 0 => fun _ _ _ _ r h => by simp [cenotaphref04_Drop.l0] at h
 | k + 1 => by
  have ih0 := cenotaphref04_Drop.mono_l k
  ·intro y0 y1 y2 y3
   unfold cenotaphref04_Drop.l0
   repeat' first
   | (with_reducible exact ih0 _ _ _ _)
   | (with_reducible exact LeO.refl _)
   | (with_reducible exact LeO.none _)
   | (with_reducible refine LeO.ite ?_ ?_)
   | (with_reducible refine LeO.bind ?_ (fun _ => ?_))
   | exact ih0 _ _ _ _
   | exact LeO.none _
   | refine LeO.ite ?_ ?_
   | refine LeO.bind ?_ (fun _ => ?_)
theorem cenotaphref04_Drop.mono : ∀ a0 a1 k, LeO (cenotaphref04_Drop.f k a0 a1) (cenotaphref04_Drop.f (k + 1) a0 a1) := by
 intro a0 a1 k
 have ih0 := cenotaphref04_Drop.mono_l k
 unfold cenotaphref04_Drop.f
 repeat' first
   | (with_reducible exact ih0 _ _ _ _)
   | (with_reducible exact LeO.refl _)
   | (with_reducible exact LeO.none _)
   | (with_reducible refine LeO.ite ?_ ?_)
   | (with_reducible refine LeO.bind ?_ (fun _ => ?_))
   | exact ih0 _ _ _ _
   | exact LeO.none _
   | refine LeO.ite ?_ ?_
   | refine LeO.bind ?_ (fun _ => ?_)
theorem cenotaphref04_Drop.calls (k : Nat) (P0_ : Nat → Prop) (A0 : Option Addr) (c0 : Nat) (l0 : List (S91)) (a1 : ByteArray) (r : List (S91)) (w : World) (hs0 : Kd.V k91 91 w w.heap.size (fun k_ => P0_ k_) (.slice A0 l0.length c0) l0) (h : cenotaphref04_Drop.f k l0 a1 = some r) :
  Calls Try.prog 68 #[.slice A0 l0.length c0, .string a1] w fun e w' => ∃ v0_ : Value, e = .returned (v0_) ∧ Kd.N k91 91 w' w.heap.size (fun k_ => (P0_ k_ ∨ w.heap.size ≤ k_)) v0_ r ∧ Below w.heap.size w w' := by
 have hu91 := Try.underlying91
 have HO0 := aK (show Kd.V k91 91 w w.heap.size (fun k_ => (P0_ k_ ∨ w.heap.size ≤ k_)) (.slice A0 l0.length c0) l0 from Kd.V_mono hs0 (fun k_ hk => .inl hk))
 have HB := aK (Below.refl w.heap.size w)
 have H : (cenotaphref04_Drop.l0 k l0 a1 ([] : List (S91)) 0) = some r := h
 clear h
 have H' := aK H
 clear H
 go_enter Try.func68, Try.ntmps68
 go_wp2
 go_loopg [5, 6] k (fun kq v5 v6 w' => ∃ (x5_1 : List (S91)) (x6_1 : Int), v6 = .int .i64 x6_1 ∧ Aside0 (cenotaphref04_Drop.l0 kq l0 a1 x5_1 x6_1 = some r) ∧ Aside0 (kq ≤ k) ∧ Aside0 (Kd.V k91 91 w' w.heap.size (fun k_ => (P0_ k_ ∨ w.heap.size ≤ k_) ∧ some k_ ≠ (v5 : Value).ownBlock) (.slice A0 l0.length c0) l0) ∧ Aside0 (Kd.N k91 91 w' w.heap.size (fun k_ => (P0_ k_ ∨ w.heap.size ≤ k_)) v5 x5_1) ∧ Aside0 (Below w.heap.size w w'))
 case atStart => exact ⟨(([] : List (S91))), (0), zq68_2, H', ⟨Nat.le_refl _⟩, ⟨by (with_reducible repeat (first | apply Kd.V_alloc | apply Kd.V_drewN | apply Kd.V_drew)); exact Kd.V_mono HO0.out (fun _ hk => ⟨hk, (by simp [Value.ownBlock])⟩)⟩, ⟨by first | exact Kd.S_nil _ _ _ _ _ | exact Kd.N_nil _ _ _ _ _ | exact Kd.V_nil _ _ _ _ _ | exact Kd.Q_nil _ _ _ _ _ | exact Kd.R_nil _ _ _ _ _⟩, ⟨by repeat (first | (with_reducible first | exact HB.out | apply bA | apply pB | apply bW) | exact HB.out)⟩⟩
 case round =>
  clear H'
  try clear p2
  obtain ⟨x5_1, x6_1, rfl, HA, HK1, HO_0, HO_5, HB⟩ := hrel
  cases gk with
  | zero => exact absurd HA.out (by simp [cenotaphref04_Drop.l0])
  | succ k1 =>
   have H := HA.out
   clear HA
   simp only [cenotaphref04_Drop.l0] at H
   by_cases c3 : x6_1 < (l0.length : Int)
   ·rw [if_pos c3] at H
    have c3b0 : decide (x6_1 < (l0.length : Int)) = true := dT c3
    clear c3
    by_cases c4 : 0 ≤ x6_1
    ·rw [if_pos c4] at H
     have c4b0 : decide (0 ≤ x6_1) = true := dT c4
     clear c4
     by_cases c5 : ((rd_T91 l0 x6_1).f0).toList = a1.toList
     ·rw [if_pos c5] at H
      have c5b0 : (((rd_T91 l0 x6_1).f0).toList == a1.toList) = true := beq_iff_eq.mpr c5
      have c5b1 : (((rd_T91 l0 x6_1).f0).toList != a1.toList) = false := bne_eq_false_iff_eq.mpr c5
      clear c5
      have H' := aK H
      clear H
      have p591 : 0 ≤ (x6_1 : Int) := oD zq68_1
      have q591 : x6_1 < (l0.length : Int) := oD zq68_1
      obtain ⟨ad591, A591_2, c591_2, e591, hx591_0, hx591_1, hx591_2, hl591_2, hi591_2⟩ := at_T91 (Kd.V_reads' HO_0.out).2.2 x6_1 p591 q591
      cases e591
      obtain ⟨ce591, hce591, hMe591, hcc591⟩ := Kd.V_get HO_0.out z91 x6_1 p591 (by first | exact q591 | exact oD zq68_1 | (have e_ := (Kd.V_reads' HO_0.out).1; omega))
      obtain ⟨ua591_2, uc591_2, rfl, ul591_2, ge591_2⟩ := k91_openF hMe591
      have hv591_2 := hcc591 2 _ rfl
      rw [add_field _ _ 2 (by omega)] at hv591_2
      replace hv591_2 := sI (hv591_2.symm.trans hx591_2)
      injection hv591_2 with hva_ hvn_ hvc_
      rw [hva_] at ge591_2
      rw [hvc_] at ul591_2
      have HL591_2 := aK (show Kd.V (Kd.int .i64) 3 _ w.heap.size _ _ ((rd_T91 l0 x6_1).f1.f1) from Kd.V_mk ul591_2 ge591_2)
      clear hva_ hvn_ hvc_ ge591_2 ul591_2
      clear hcc591 hce591
      have HR591_2 := aK hi591_2
      have HC591_2 := aK hl591_2
      clear hi591_2 hl591_2
      replace p591 := eT p591
      replace q591 := eT q591
      go_wp2
      go_roundg k1
      case measure => have := HK1.out; omega
      case rel => exact ⟨(x5_1), (wrap64 (x6_1 + 1)), zq68_2, H', ⟨by have := HK1.out; omega⟩, ⟨by (with_reducible repeat (first | apply Kd.V_alloc | apply Kd.V_drewN | apply Kd.V_drew)); exact HO_0.out⟩, ⟨by (with_reducible repeat (first | apply Kd.N_alloc | apply Kd.N_drewN | apply Kd.N_drew)); exact HO_5.out⟩, ⟨by repeat (first | (with_reducible first | exact HB.out | apply bA | apply pB | apply bW) | exact HB.out)⟩⟩
     ·rw [if_neg c5] at H
      have c5b0 : (((rd_T91 l0 x6_1).f0).toList == a1.toList) = false := beq_eq_false_iff_ne.mpr c5
      have c5b1 : (((rd_T91 l0 x6_1).f0).toList != a1.toList) = true := bne_iff_ne.mpr c5
      by_cases c6 : x5_1.length < 2932031007402
      ·rw [if_pos c6] at H
       have LMc6 := aK c6
       clear c6
       obtain ⟨y593, hy593⟩ : ∃ y_ : List (S91), y_ = (x5_1 ++ [(⟨(rd_T91 l0 x6_1).f0, (⟨(rd_T91 l0 x6_1).f1.f0, (rd_T91 l0 x6_1).f1.f1⟩ : S89)⟩ : S91)]) := ⟨_, rfl⟩
       replace H : (cenotaphref04_Drop.l0 k1 l0 a1 y593 (wrap64 (x6_1 + 1))) = some r := by first | (rw [hy593]; with_reducible exact H) | (have H2_ := (Option.bind_some _ _).symm.trans H; rw [hy593]; with_reducible exact H2_) | (have H2_ := (Option.bind_some _ _).symm.trans H; with_reducible exact H2_) | with_reducible exact H | (rw [hy593]; exact H) | exact H
       have Ny593 := aK hy593
       clear hy593
       have H' := aK H
       clear H
       have p591 : 0 ≤ (x6_1 : Int) := oD zq68_1
       have q591 : x6_1 < (l0.length : Int) := oD zq68_1
       obtain ⟨ad591, A591_2, c591_2, e591, hx591_0, hx591_1, hx591_2, hl591_2, hi591_2⟩ := at_T91 (Kd.V_reads' HO_0.out).2.2 x6_1 p591 q591
       cases e591
       obtain ⟨ce591, hce591, hMe591, hcc591⟩ := Kd.V_get HO_0.out z91 x6_1 p591 (by first | exact q591 | exact oD zq68_1 | (have e_ := (Kd.V_reads' HO_0.out).1; omega))
       obtain ⟨ua591_2, uc591_2, rfl, ul591_2, ge591_2⟩ := k91_openF hMe591
       have hv591_2 := hcc591 2 _ rfl
       rw [add_field _ _ 2 (by omega)] at hv591_2
       replace hv591_2 := sI (hv591_2.symm.trans hx591_2)
       injection hv591_2 with hva_ hvn_ hvc_
       rw [hva_] at ge591_2
       rw [hvc_] at ul591_2
       have HL591_2 := aK (show Kd.V (Kd.int .i64) 3 _ w.heap.size _ _ ((rd_T91 l0 x6_1).f1.f1) from Kd.V_mk ul591_2 ge591_2)
       clear hva_ hvn_ hvc_ ge591_2 ul591_2
       clear hcc591 hce591
       have HR591_2 := aK hi591_2
       have HC591_2 := aK hl591_2
       clear hi591_2 hl591_2
       replace p591 := eT p591
       replace q591 := eT q591
       have p592 : 0 ≤ (x6_1 : Int) := oD zq68_1
       have q592 : x6_1 < (l0.length : Int) := oD zq68_1
       obtain ⟨ad592, A592_2, c592_2, e592, hx592_0, hx592_1, hx592_2, hl592_2, hi592_2⟩ := at_T91 (Kd.V_reads' HO_0.out).2.2 x6_1 p592 q592
       obtain rfl : ad591 = ad592 := (by injection e592)
       obtain ⟨ce592, hce592, hMe592, hcc592⟩ := Kd.V_get HO_0.out z91 x6_1 p592 (by first | exact q592 | exact oD zq68_1 | (have e_ := (Kd.V_reads' HO_0.out).1; omega))
       obtain ⟨ua592_2, uc592_2, rfl, ul592_2, ge592_2⟩ := k91_openF hMe592
       have hv592_2 := hcc592 2 _ rfl
       rw [add_field _ _ 2 (by omega)] at hv592_2
       replace hv592_2 := sI (hv592_2.symm.trans hx592_2)
       injection hv592_2 with hva_ hvn_ hvc_
       rw [hva_] at ge592_2
       rw [hvc_] at ul592_2
       have HL592_2 := aK (show Kd.V (Kd.int .i64) 3 _ w.heap.size _ _ ((rd_T91 l0 x6_1).f1.f1) from Kd.V_mk ul592_2 ge592_2)
       clear hva_ hvn_ hvc_ ge592_2 ul592_2
       clear hcc592 hce592
       have HR592_2 := aK hi592_2
       have HC592_2 := aK hl592_2
       clear hi592_2 hl592_2
       replace p592 := eT p592
       replace q592 := eT q592
       have ea_ := sI (hx591_2.symm.trans hx592_2)
       injection ea_ with ea_ en_ ec_
       subst ea_
       subst ec_
       clear en_
       go_wp2_with (first | ((with_reducible refine gate_builtin (b := .append) (xs := #[.tmp 20, .tmp 25]) rfl ?_); at_builtin; refine Kd.N_append k91 (w0 := w) w.heap.size rfl (.tmp 20) (.tmp 25) 63 91 (.agg #[(.string ⟨#[]⟩), (.int .i64 0), (.slice none 0 0)]) 48 rfl Try.underlying63 info91 rfl (by decide) (by omega) u5 x5_1 (⟨(rd_T91 l0 x6_1).f0, (⟨(rd_T91 l0 x6_1).f1.f0, (rd_T91 l0 x6_1).f1.f1⟩ : S89)⟩ : S91) [.string ((rd_T91 l0 x6_1).f0), .int .i64 ((rd_T91 l0 x6_1).f1.f0), .slice A591_2 ((rd_T91 l0 x6_1).f1.f1).length c591_2] (fun k_ => (P0_ k_ ∨ w.heap.size ≤ k_)) (fun k_ => ((fun k_ => (P0_ k_ ∨ w.heap.size ≤ k_))) k_ ∧ some k_ ≠ (u5 : Value).ownBlock) rfl rfl ?aP (fun _ hk => hk) ?aF ?aO ?aB ?aS ?aL ?_; (case aP => exact (k91_mkF _ _ (⟨(rd_T91 l0 x6_1).f0, (⟨(rd_T91 l0 x6_1).f1.f0, (rd_T91 l0 x6_1).f1.f1⟩ : S89)⟩ : S91) (Kd.V_reads' (Kd.V_mono (ok' := (fun k_ => ((fun k_ => (P0_ k_ ∨ w.heap.size ≤ k_))) k_ ∧ some k_ ≠ (u5 : Value).ownBlock)) (HL592_2.out) (fun k_ hk => ⟨hk.1, hk.2⟩))).2.1 (Kd.V_F (Kd.V_mono (ok' := (fun k_ => ((fun k_ => (P0_ k_ ∨ w.heap.size ≤ k_))) k_ ∧ some k_ ≠ (u5 : Value).ownBlock)) (HL592_2.out) (fun k_ hk => ⟨hk.1, hk.2⟩))))); (case aB => exact zq68_0); (case aF => exact (fun k_ hk => (.inr (Nat.le_trans (below_size zq68_0) hk)))); (case aO => exact (by (with_reducible repeat (first | apply Kd.N_alloc | apply Kd.N_drewN | apply Kd.N_drew)); exact HO_5.out)); (case aS => exact (below_size zq68_0)); (case aL => have := LMc6.out; omega); intro v594 w7 ho hb hg hat; rw [← Ny593.out] at ho; replace HO_0 := aK (Kd.V_afterv (ok := (fun k_ => (P0_ k_ ∨ w.heap.size ≤ k_))) (by (with_reducible repeat (first | apply Kd.V_alloc | apply Kd.V_drewN | apply Kd.V_drew)); exact HO_0.out) hg hat); replace HL591_2 := aK (Kd.V_afterv (ok := (fun k_ => (P0_ k_ ∨ w.heap.size ≤ k_))) (by (with_reducible repeat (first | apply Kd.V_alloc | apply Kd.V_drewN | apply Kd.V_drew)); exact HL591_2.out) hg hat); replace HL592_2 := aK (Kd.V_afterv (ok := (fun k_ => (P0_ k_ ∨ w.heap.size ≤ k_))) (by (with_reducible repeat (first | apply Kd.V_alloc | apply Kd.V_drewN | apply Kd.V_drew)); exact HL592_2.out) hg hat); replace HB := aK (hb); have HO595 := aK (ho); clear HO_5; clear ho hb hg hat))
       go_roundg k1
       case measure => have := HK1.out; omega
       case rel => exact ⟨(y593), (wrap64 (x6_1 + 1)), zq68_2, H', ⟨by have := HK1.out; omega⟩, ⟨by (with_reducible repeat (first | apply Kd.V_alloc | apply Kd.V_drewN | apply Kd.V_drew)); exact HO_0.out⟩, ⟨by (with_reducible repeat (first | apply Kd.N_alloc | apply Kd.N_drewN | apply Kd.N_drew)); exact HO595.out⟩, ⟨by repeat (first | (with_reducible first | exact HB.out | apply bA | apply pB | apply bW) | exact HB.out)⟩⟩
      ·rw [if_neg c6] at H
       exact absurd H (by simp)
    ·rw [if_neg c4] at H
     exact absurd H (by simp)
   ·rw [if_neg c3] at H
    have c3b0 : decide (x6_1 < (l0.length : Int)) = false := decide_eq_false c3
    clear c3
    obtain rfl := sI H
    go_wp2
    go_ret
    exact ⟨_, by first | rfl | (simp [errW_none, errW_some] <;> rfl) | (simp [*, errW_none, errW_some] <;> rfl), by (with_reducible repeat (first | apply Kd.N_alloc | apply Kd.N_drewN | apply Kd.N_drew)); exact HO_5.out, by repeat (first | (with_reducible first | exact HB.out | apply bA | apply pB | apply bW) | exact HB.out)⟩
def cenotaphref02_Count.f (a0_0 : Int) (l0_1 : List Int) : Option (Int) := some (wrap64 (a0_0 + (l0_1.length : Int)))
theorem cenotaphref02_Count.calls (a0_0 : Int) (A0_1 : Option Addr) (c0_1 : Nat) (l0_1 : List Int) (r : Int) (w : World) (hr0_1 : Kd.C (Kd.int .i64) w A0_1 l0_1.length l0_1) (hc0_1 : l0_1.length ≤ c0_1) (h : cenotaphref02_Count.f a0_0 l0_1 = some r) :
  Calls Try.prog 69 #[.agg #[.int .i64 a0_0, .slice A0_1 l0_1.length c0_1]] w fun e w' => e = .returned (.int .i64 r) ∧ Below w.heap.size w w' := by
 have hu89 := Try.underlying89
 have HR0_1 := aK hr0_1
 have HC0_1 := aK hc0_1
 clear hr0_1 hc0_1
 have HB := aK (Below.refl w.heap.size w)
 have H : (some (wrap64 (a0_0 + (l0_1.length : Int)))) = some r := h
 clear h
 obtain rfl := sI H
 go_enter Try.func69, Try.ntmps69
 go_wp2_with (first | ((with_reducible refine gate_dst (N := 1) rfl ?_); refine box_event ?hg (N := 1) ?hd (cs := #[.int .i64 a0_0, .slice A0_1 l0_1.length c0_1]) (t := 89) ?hr ?_; (case hd => rfl); (case hg => rfl); (case hr => first | (go_simp; done) | (go_simp; rfl)); intro gb596 hg w2 hbox hb; have BK596 := aK (hbox); have GW596 := aK ((by rw [hg]; exact (below_size (by repeat (first | (with_reducible first | exact HB.out | apply bA | apply pB | apply bW) | exact HB.out))) : w.heap.size ≤ gb596)); have GE596 := aK ((by rw [hg]; exact (below_size (by repeat (first | (with_reducible first | exact HB.out | apply bA | apply pB | apply bW) | exact HB.out))) : w.heap.size ≤ gb596)); replace HB := aK (bS (by repeat (first | (with_reducible first | exact HB.out | apply bA | apply pB | apply bW) | exact HB.out)) hb); clear hb hbox hg; have hcz3_0 : w2.cell? ⟨gb596, 0, none⟩ = some (.int .i64 a0_0) := (bC BK596.out 0).trans rfl; have hcz3_1 : w2.cell? ⟨gb596, 1, none⟩ = some (.slice A0_1 l0_1.length c0_1) := (bC BK596.out 1).trans rfl; have hfz3_0 := bF_ BK596.out 0; have hfz3_1 := bF_ BK596.out 1))
 go_ret
 exact ⟨by first | rfl | (simp [errW_none, errW_some] <;> rfl) | (simp [*, errW_none, errW_some] <;> rfl), by repeat (first | (with_reducible first | exact HB.out | apply bA | apply pB | apply bW | refine below_set ?_ GE596.out) | exact HB.out)⟩
theorem lead_r : LeadK k91 (Kd.int .i64) S91.f0 (fun x => x.f1.f0) (fun x => x.f1.f1) := ⟨rfl, (Kd.heap_int .i64), fun h => k91_open h, fun h1 h2 => k91_mk _ _ h1 h2⟩
def sinkO (k : Nat) (v : S91) : List S91 → List S91 → Option (List S91)
 | [], q => some (v :: q)
 | u :: p, q => (cenotaphref01_Compare.f k u.f0 v.f0).bind fun c => if c > 0 then sinkO k v p (u :: q) else some ((u :: p).reverse ++ v :: q)
theorem sinkO_mono (k : Nat) (v : S91) : ∀ (p q : List S91), LeO (sinkO k v p q) (sinkO (k + 1) v p q)
 | [], _ => LeO.refl _
 | u :: p, q => by unfold sinkO; exact LeO.bind (cenotaphref01_Compare.mono _ _ _) (fun _ => LeO.ite (sinkO_mono k v p _) (LeO.refl _))
def cenotaphref04_put.f (k : Nat) (l0 : List S91) (a1 : ByteArray) (u2 : Int) (e2 : List Int) : Option (List S91) := (cenotaphref04_Drop.f k l0 a1).bind fun d => (cenotaphref02_Count.f u2 e2).bind fun c => if c < 1 then some d else if d.length < 1000000000 then sinkO k ⟨a1, ⟨u2, e2⟩⟩ d.reverse [] else none
theorem cenotaphref04_put.mono : ∀ a0 a1 a2 a3 k, LeO (cenotaphref04_put.f k a0 a1 a2 a3) (cenotaphref04_put.f (k + 1) a0 a1 a2 a3) := by
 intro a0 a1 a2 a3 k
 unfold cenotaphref04_put.f
 exact LeO.bind (cenotaphref04_Drop.mono _ _ _) (fun _ => LeO.bind (LeO.refl _) (fun _ => LeO.ite (LeO.refl _) (LeO.ite (sinkO_mono _ _ _ _) (LeO.refl _))))
theorem cell_below2 {w W : World} {a : Addr} {v : Value} (h : w.cell? a = some v) (hb : Below w.heap.size w W) : W.cell? a = some v := (hb.cell (wl_ w _ h)).trans h
theorem cell_drew2 {w : World} {a : Addr} {v : Value} (h : w.cell? a = some v) : w.drew.cell? a = some v := cell_below2 h (bW (Below.refl _ _))
theorem swap_list {α : Type} (p q : List α) (u v z : α) : (((u :: p).reverse ++ v :: q).set p.length (((u :: p).reverse ++ v :: q).getD (p.length + 1) z)).set (p.length + 1) (((u :: p).reverse ++ v :: q).getD p.length z) = p.reverse ++ v :: u :: q := by
 have e : (u :: p).reverse ++ v :: q = p.reverse ++ u :: v :: q := by simp
 rw [e]
 have hl : p.reverse.length = p.length := List.length_reverse
 have g1 : (p.reverse ++ u :: v :: q).getD (p.length + 1) z = v := by
  rw [List.getD_eq_getElem?_getD, ← hl, List.getElem?_append_right (by omega)]
  simp
 have g2 : (p.reverse ++ u :: v :: q).getD p.length z = u := by
  rw [List.getD_eq_getElem?_getD, ← hl, List.getElem?_append_right (by omega)]
  simp
 rw [g1, g2, ← hl, List.set_append_right _ _ (by omega), List.set_append_right _ _ (by omega)]
 simp
theorem cenotaphref04_put.calls (k : Nat) (P0_ : Nat → Prop) (A0 : Option Addr) (c0 : Nat) (l0 : List S91) (a1 : ByteArray) (u2 : Int) (P2_1_ : Nat → Prop) (A2 : Option Addr) (c2 : Nat) (e2 : List Int) (r : List S91) (w : World) (hs0 : Kd.V k91 91 w w.heap.size (fun k_ => P0_ k_) (.slice A0 l0.length c0) l0) (hs2 : Kd.V (Kd.int .i64) 3 w w.heap.size (fun k_ => P2_1_ k_) (.slice A2 e2.length c2) e2) (h : cenotaphref04_put.f k l0 a1 u2 e2 = some r) :
  Calls Try.prog 49 #[.slice A0 l0.length c0, .string a1, .agg #[.int .i64 u2, .slice A2 e2.length c2]] w fun e w' => ∃ v0_ : Value, e = .returned (v0_) ∧ Kd.V k91 91 w' w.heap.size (fun k_ => ((P0_ k_ ∨ P2_1_ k_) ∨ w.heap.size ≤ k_)) v0_ r ∧ Below w.heap.size w w' := by
 unfold cenotaphref04_put.f at h
 obtain ⟨d, hd, h⟩ := bM h
 obtain ⟨cn, hcn, h⟩ := bM h
 have HV0 := aK hs0
 have HJF := aK (Kd.F_alloc (Kd.F_bound (Kd.V_F hs2)) (.cells #[.int .i64 u2, .slice A2 e2.length c2] 89))
 have HJL := aK (Kd.V_reads' hs2).2.1
 have HD := aK hd
 have HCN := aK hcn
 have H := aK h
 have HB := aK (bA (Below.refl w.heap.size w) (.cells #[.int .i64 u2, .slice A2 e2.length c2] 89))
 have BK := aK (blk_new w (.cells #[.int .i64 u2, .slice A2 e2.length c2] 89))
 clear hd hcn h hs0 hs2
 have hut := Try.underlying91
 have hut2 := Try.underlying89
 go_enter Try.func49, Try.ntmps49
 go_upto_region 1 with fail
 have HSZ0 := aK (show w.heap.size ≤ (w.alloc (.cells #[.int .i64 u2, .slice A2 e2.length c2] 89)).heap.size by simp)
 generalize w.alloc (.cells #[.int .i64 u2, .slice A2 e2.length c2] 89) = w3 at HJF HB BK HSZ0 ⊢
 go_wp2_with fail
 refine (cenotaphref04_Drop.calls k P0_ A0 c0 l0 a1 d _ (Kd.V_map (base' := w3.heap.size) (Kd.V_below HV0.out HB.out) (fun _ h => h)) HD.out).mono ?_
 rintro e w4 ⟨v4, rfl, hN, hb4⟩
 obtain ⟨rs, hR4, hI4⟩ := lead_N lead_r hN
 have hlen := F2.len hI4
 have HBS := aK (Kd.R_base hR4)
 have HO := aK (Kd.R_lower hR4 (below_size HB.out))
 have HI := aK (INs.bound (INs.mono (ok' := fun k => (P0_ k ∨ w.heap.size ≤ k) ∧ some k ≠ v4.ownBlock) hI4 (fun k hk => ⟨hk.1.imp_right (fun h => Nat.le_trans (below_size HB.out) h), hk.2⟩)))
 have HSZ := aK (Nat.le_trans HSZ0.out hb4.size)
 replace HBS := aK (show ∀ k, v4.ownBlock = some k → w.heap.size ≤ k from fun k hk => Nat.le_trans HSZ0.out (HBS.out k hk))
 replace HJF := aK (Kd.F_below HJF.out hb4)
 replace BK := aK (bB BK.out hb4)
 replace HB := aK (bS HB.out hb4)
 obtain ⟨A4, c4, rfl⟩ := Kd.R_slice HO.out
 have HLEN := aK hlen
 clear hN hR4 hI4 hb4 HD hlen HSZ0
 have hq0 : w4.cell? ⟨w.heap.size, 0, none⟩ = some (.int .i64 u2) := (bC BK.out 0).trans rfl
 have hq1 : w4.cell? ⟨w.heap.size, 1, none⟩ = some (.slice A2 e2.length c2) := (bC BK.out 1).trans rfl
 go_wp2_with fail
 refine (cenotaphref02_Count.calls u2 A2 c2 e2 cn w4 (Kd.F_now HJF.out) HJL.out HCN.out).mono ?_
 rintro e wb ⟨rfl, hb⟩
 replace HO := aK (Kd.R_below HO.out hb)
 have HSB := aK hb.size
 replace HI := aK (INs.mono (INs.below HI.out hb) (ok' := fun k => ((P0_ k ∨ w.heap.size ≤ k) ∧ some k ≠ (Value.slice A4 rs.length c4).ownBlock) ∧ k < wb.heap.size) (fun k hk => ⟨hk.1, Nat.lt_of_lt_of_le hk.2 HSB.out⟩))
 replace HSZ := aK (Nat.le_trans HSZ.out hb.size)
 replace HJF := aK (Kd.F_below HJF.out hb)
 replace BK := aK (bB BK.out hb)
 replace HB := aK (bS HB.out hb)
 clear hb hq0 hq1 HSB HCN
 have hh := H.out
 clear H
 by_cases hc1 : cn < 1
 ·rw [if_pos hc1] at hh
  obtain rfl := sI hh
  have hz1 : decide (cn < 1) = true := dT hc1
  have hz2 := eT hc1
  clear hh hc1
  go_wp2_with fail
  go_ret
  exact ⟨_, rfl, lead_view2 lead_r HO.out HI.out (fun k hk => .inr hk) (fun k hk => hk.1.1.imp_left Or.inl), HB.out⟩
 rw [if_neg hc1] at hh
 by_cases hdl : d.length < 1000000000
 rotate_left
 ·rw [if_neg hdl] at hh; cases hh
 rw [if_pos hdl] at hh
 have hz1 : decide (cn < 1) = false := decide_eq_false hc1
 have hz2 := eq_false hc1
 have HH := aK hh
 have LM := aK (show rs.length < 1000000000 by rw [HLEN.out]; exact hdl)
 clear hh hdl hc1
 have hq0 : wb.cell? ⟨w.heap.size, 0, none⟩ = some (.int .i64 u2) := (bC BK.out 0).trans rfl
 have hq1 : wb.cell? ⟨w.heap.size, 1, none⟩ = some (.slice A2 e2.length c2) := (bC BK.out 1).trans rfl
 go_upto_region 5 with (first | ((with_reducible refine gate_dst (N := 20) rfl ?_); refine Kd.R_lit kRW _ 91 ?hg (N := 20) ?hd (xs := ([⟨a1, u2, A2, e2.length, c2⟩] : List RW)) (inner := [.string a1, .int .i64 u2, .slice A2 e2.length c2]) (ok := fun _ => True) (okp := fun _ => True) ?hr ?hp (fun _ hk => hk) trivial (Below.refl _ _) (Nat.le_refl _) (by simp) ?_; (case hd => rfl); (case hg => rfl); (case hr => first | (go_simp; done) | (go_simp; rfl)); (case hp => exact (Reps.c3 (show Kd.M kRW _ _ _ (⟨a1, u2, A2, e2.length, c2⟩ : RW) [.string a1, .int .i64 u2, .slice A2 e2.length c2] from kRW_mkM _ _ _ _) (Reps.none _ _))); intro v121 w5 ho4 hb hg_ hnew_; clear hg_ hnew_; obtain ⟨AL, cL, rfl⟩ := Kd.R_slice ho4; have n0_ := aK (Kd.R_reads' ho4); have n1_ := aK (bS HB.out hb); have n2_ := aK (INs.below HI.out hb); have n3_ := aK (Kd.F_below HJF.out hb); have n4_ := aK (Kd.R_below HO.out hb); have n5_ := aK (Nat.le_trans HSZ.out (below_size hb)); clear HB HI HJF HO HSZ; have HL1 := n0_; have HB := n1_; have HI := n2_; have HJF := n3_; have HO := n4_; have HSZ := n5_; clear n0_ n1_ n2_ n3_ n4_ n5_; clear hb ho4) | ((with_reducible refine gate_builtin (b := .append) (xs := #[.tmp 16, .tmp 20]) rfl ?_); at_builtin; refine Kd.R_append_rows kRW (w0 := w) w.heap.size rfl (.tmp 16) (.tmp 20) 63 91 (.agg #[(.string ⟨#[]⟩), (.int .i64 0), (.slice none 0 0)]) 48 rfl Try.underlying63 info91 rfl (by decide) (by omega) (.slice A4 rs.length c4) rs [⟨a1, u2, A2, e2.length, c2⟩] _ _ _ (fun _ => True) (fun _ => False) rfl rfl ?aO ?aR (fun _ _ h => h) (fun _ h => h.elim) ?aF ?aB ?aS ?aL ?_; (case aR => exact HL1.out.2.2); (case aB => exact HB.out); (case aF => exact (fun _ _ => trivial)); (case aO => exact HO.out); (case aS => exact (below_size HB.out)); (case aL => have := LM.out; simp only [List.length_cons, List.length_nil]; omega); intro v6 w6 ho hb hg hat; have n0_ := aK (hb); have n1_ := aK (ho); have n2_ := aK hg; have n3_ := aK hat; clear HB HO; have HB := n0_; have HO := n1_; have HG := n2_; have HAT := n3_; clear n0_ n1_ n2_ n3_; clear ho hb hg hat))
 have hIN : INs (Kd.int .i64) S91.f0 (fun x => x.f1.f0) (fun x => x.f1.f1) w6 (fun k => ((P0_ k ∨ P2_1_ k) ∨ w.heap.size ≤ k) ∧ some k ≠ v6.ownBlock) (rs ++ [⟨a1, u2, A2, e2.length, c2⟩]) (d ++ [(⟨a1, ⟨u2, e2⟩⟩ : S91)]) := by
  have hfar : ∀ k, k < w5.heap.size → some k ≠ (Value.slice A4 rs.length c4).ownBlock → some k ≠ v6.ownBlock := fun k hk hne => by
   rcases HAT.out with h | ⟨b, h, hle⟩
   ·rw [h]; exact hne
   ·rw [h]; intro e; injection e with e; omega
  refine F2.append (INs.mono (INs.step (INs.bound HI.out) (fun k hk hlt => HG.out.block k hlt hk.1.1.2)) (fun k hk => ⟨hk.1.1.1.imp_left Or.inl, hfar k hk.2 hk.1.1.2⟩)) ⟨⟨rfl, rfl, rfl, HJL.out, ?_⟩, trivial⟩
  have hne : ∀ k, k < w.heap.size → some k ≠ (Value.slice A4 rs.length c4).ownBlock := fun k hk e => by have := HBS.out k e.symm; omega
  exact Kd.F_mono (Kd.F_step (Kd.F_bound HJF.out) (fun k hk hlt => HG.out.block k hlt (hne k hk.1.2))) (fun k hk => ⟨.inl (.inr hk.1.1), hfar k hk.2 (hne k hk.1.2)⟩)
 obtain ⟨g, cp, rfl, hg0, hg1, -⟩ := Kd.R_form HO.out (by simp)
 replace HI := aK (show INs (Kd.int .i64) S91.f0 (fun x => x.f1.f0) (fun x => x.f1.f1) w6 (fun k => ((P0_ k ∨ P2_1_ k) ∨ w.heap.size ≤ k) ∧ k ≠ g) (rs ++ [⟨a1, u2, A2, e2.length, c2⟩]) (d ++ [(⟨a1, ⟨u2, e2⟩⟩ : S91)]) from INs.mono hIN (fun k hk => ⟨hk.1, fun e => hk.2 (by rw [e]; simp [Value.ownBlock])⟩))
 have HGB := aK hg0
 clear hIN HL1 HJF HJL HG HAT HBS HSZ HV0 BK hg0 hg1 hq0 hq1
 have hN : (rs ++ [(⟨a1, u2, A2, e2.length, c2⟩ : RW)]).length = d.length + 1 := by rw [List.length_append, HLEN.out]; rfl
 have LD := aK (show d.length < 1000000000 by have := LM.out; have := HLEN.out; omega)
 rw [hN] at HO ⊢
 generalize (rs ++ [(⟨a1, u2, A2, e2.length, c2⟩ : RW)]) = L at HI HO
 clear hN LM HLEN
 generalize hN : d.length + 1 = N at HO ⊢
 have HN := aK hN
 have hmax : maxLen = 9223372036854775807 := rfl
 have hs0 : (N : Int) - 1 = (d.length : Int) := by omega
 have hw0 : wrap64 (d.length : Int) = (d.length : Int) := by rw [Go.Proofs.Ytgdkgobplinelaa.Pure.wrap_id (by omega) (by have := LD.out; omega)]
 have hwi : IntKind.i64.wrap ((N : Int) - 1) = (d.length : Int) := by rw [hs0, IntKind.wrap_i64] <;> (have := LD.out; omega)
 clear hN
 go_wp2_with fail
 go_loopw [8] (fun vi wr => ∃ (p q : List S91) (L : List RW), vi = .int .i64 ((p.length : Nat) : Int) ∧ Aside0 (p.length + q.length + 1 = N) ∧ Aside0 (sinkO k (⟨a1, ⟨u2, e2⟩⟩ : S91) p q = some r) ∧ Aside0 (Kd.R kRW 91 wr w.heap.size (fun _ => True) (.slice (some ⟨g, 0, none⟩) N cp) L) ∧ Aside0 (INs (Kd.int .i64) S91.f0 (fun x => x.f1.f0) (fun x => x.f1.f1) wr (fun k => ((P0_ k ∨ P2_1_ k) ∨ w.heap.size ≤ k) ∧ k ≠ g) L (p.reverse ++ (⟨a1, ⟨u2, e2⟩⟩ : S91) :: q)) ∧ Aside0 (Below w.heap.size w wr)) (fun vi _ => (intOf vi).toNat)
 case atStart => exact ⟨d.reverse, [], L, by rw [List.length_reverse, hw0], ⟨by rw [List.length_reverse]; exact HN.out⟩, HH, HO, ⟨by rw [List.reverse_reverse]; exact HI.out⟩, HB⟩
 case round =>
  clear HO HI HB HH hs0 hw0 hwi
  obtain ⟨p, q, L, rfl, HPQ, HH, HO, HI, HB⟩ := hrel
  cases p with
  | nil =>
   have hr : r = (⟨a1, ⟨u2, e2⟩⟩ : S91) :: q := by have h := HH.out; unfold sinkO at h; exact (sI h).symm
   subst hr
   simp only [List.length_nil]
   go_upto_region 6 with fail
   refine start_ (n := 17) (S := fun w' => True) (ds := []) #[false, false, false, false, false, false, false, false, false, false, false, false, false, false, false, false, false] (by kernel_rfl) rfl rfl trivial (fun hHeld => ?_)
   replace HO := aK (Kd.R_drew HO.out)
   replace HI := aK (INs.below HI.out (bW (Below.refl _ _)))
   replace HB := aK (bW HB.out)
   generalize wr.drew = w7 at HO HI HB hHeld ⊢
   refine p_ 0 25 (mk_ 17 0x1) ?_
   refine p_ 1 26 (mk_ 17 0x3) ?_
   refine p_ 2 27 (mk_ 17 0x7) ?_
   refine u_ 3 28 (mk_ 17 0xf) ?_
   refine u_ 4 29 (mk_ 17 0x1f) ?_
   refine u_ 5 30 (mk_ 17 0x3f) ?_
   refine u_ 6 31 (mk_ 17 0x7f) ?_
   refine u_ 7 32 (mk_ 17 0xff) ?_
   refine u_ 8 33 (mk_ 17 0x1ff) ?_
   refine u_ 9 34 (mk_ 17 0x3ff) ?_
   refine u_ 10 35 (mk_ 17 0x7ff) ?_
   refine u_ 11 36 (mk_ 17 0xfff) ?_
   refine u_ 12 37 (mk_ 17 0x1fff) ?_
   refine u_ 13 38 (mk_ 17 0x3fff) ?_
   refine u_ 14 39 (mk_ 17 0x7fff) ?_
   refine u_ 15 40 (mk_ 17 0xffff) ?_
   refine p_ 16 41 (mk_ 17 0x1ffff) ?_
   refine done_ (by kernel_rfl) ?_
   go_wp2_with fail
   go_ret
   exact ⟨_, rfl, lead_view2 lead_r HO.out HI.out (fun k hk => .inr hk) (fun k hk => hk.1), HB.out⟩
  | cons u p =>
   obtain ⟨i, hi⟩ : ∃ i, (u :: p).length = i := ⟨_, rfl⟩
   obtain ⟨m, hm⟩ : ∃ m, p.length = m := ⟨_, rfl⟩
   have him : i = m + 1 := by rw [← hi, ← hm]; rfl
   have hiN : i < N := by have := HPQ.out; rw [hi] at this; omega
   have hmN : m < N := by omega
   have hmB : (m : Int) < 4000000000 := by have := LD.out; have := HN.out; omega
   rw [hi]
   have hs1 : (i : Int) - 1 = (m : Int) := by omega
   have hw1 : wrap64 (m : Int) = (m : Int) := by rw [Go.Proofs.Ytgdkgobplinelaa.Pure.wrap_id (by omega) (by omega)]
   have hwi : IntKind.i64.wrap ((i : Int) - 1) = (m : Int) := by rw [hs1, IntKind.wrap_i64] <;> omega
   have gt1 : decide ((i : Int) > 0) = true := dT (by omega)
   have gt2 := eT (show (i : Int) > 0 by omega)
   have gt3 := eT (show 0 < i by omega)
   have gt4 : decide (0 < i) = true := dT (by omega)
   have pm := eT (show (0 : Int) ≤ (m : Int) by omega)
   have qm := eT (show (m : Int) < (N : Int) by omega)
   have pi := eT (show (0 : Int) ≤ (i : Int) by omega)
   have qi := eT (show (i : Int) < (N : Int) by omega)
   have hlx : ((u :: p).reverse ++ (⟨a1, ⟨u2, e2⟩⟩ : S91) :: q).length = N := by have := HPQ.out; simp only [List.length_append, List.length_reverse, List.length_cons] at this ⊢; omega
   have gu : ((u :: p).reverse ++ (⟨a1, ⟨u2, e2⟩⟩ : S91) :: q).getD m z91 = u := by
    rw [List.getD_eq_getElem?_getD, List.reverse_cons, List.append_assoc, List.getElem?_append_right (by rw [List.length_reverse]; omega), List.length_reverse, hm]
    simp
   have gv : ((u :: p).reverse ++ (⟨a1, ⟨u2, e2⟩⟩ : S91) :: q).getD i z91 = (⟨a1, ⟨u2, e2⟩⟩ : S91) := by
    rw [List.getD_eq_getElem?_getD, List.getElem?_append_right (by rw [List.length_reverse]; omega), List.length_reverse, hi]
    simp
   have iu := F2.getD HI.out (j := m) (by omega) zRW z91
   have iv := F2.getD HI.out (j := i) (by omega) zRW z91
   rw [gu] at iu
   rw [gv] at iv
   obtain ⟨cu, hclu, hMu, hcu, -⟩ := Kd.R_elem HO.out zRW (m : Int) (by omega) (by omega)
   obtain ⟨cv, hclv, hMv, hcv, -⟩ := Kd.R_elem HO.out zRW (i : Int) (by omega) (by omega)
   rw [Int.toNat_natCast] at hMu hcu hMv hcv
   have hSW := F2.set (F2.set HI.out (i := m) iv) (i := i) iu
   have hsw := swap_list p q u (⟨a1, ⟨u2, e2⟩⟩ : S91) z91
   rw [hm, ← him, gu, gv] at hsw
   rw [hsw] at hSW
   generalize hru : L.getD m zRW = ru at iu hMu hSW
   generalize hrv : L.getD i zRW = rv at iv hMv hSW
   obtain ⟨su, uu, uA, un, uc⟩ := ru
   obtain ⟨sv, vu, vA, vn, vc⟩ := rv
   obtain rfl := kRW_openM hMu
   obtain rfl := kRW_openM hMv
   have e1 : su = u.f0 := iu.1
   have e2 : sv = a1 := iv.1
   subst e1
   subst e2
   have HX0 := aK (show wr.cell? ⟨g, m * 3, none⟩ = some (.string u.f0) from hcu 0 _ rfl)
   have HX4 := aK (show wr.cell? ⟨g, m * 3 + 1, none⟩ = some (.int .i64 uu) from hcu 1 _ rfl)
   have HX1 := aK (show wr.cell? ⟨g, m * 3 + 2, none⟩ = some (.slice uA un uc) from hcu 2 _ rfl)
   have HX2 := aK (show wr.cell? ⟨g, i * 3, none⟩ = some (.string sv) from hcv 0 _ rfl)
   have HX5 := aK (show wr.cell? ⟨g, i * 3 + 1, none⟩ = some (.int .i64 vu) from hcv 1 _ rfl)
   have HX3 := aK (show wr.cell? ⟨g, i * 3 + 2, none⟩ = some (.slice vA vn vc) from hcv 2 _ rfl)
   have HHH := HH.out
   unfold sinkO at HHH
   obtain ⟨c, hc, HHH⟩ := bM HHH
   have HCM := aK (show cenotaphref01_Compare.f k u.f0 sv = some c from hc)
   have HRS := aK (And.intro hru hrv)
   have HPM := aK hm
   have HIM := aK him
   have HHI := aK hi
   have HSW := aK hsw
   have HGU := aK gu
   have HGV := aK gv
   have HLX := aK hlx
   clear hru hrv hm him hi hsw hSW hc HH iu iv hcu hcv hclu hclv hMu hMv gu gv hlx
   by_cases hc0 : c > 0
   ·rw [if_pos hc0] at HHH
    have HH := aK HHH
    clear HHH
    have hq1 : decide (c > 0) = true := dT hc0
    have hq2 := eT hc0
    have hq3 := eT (show 0 < c from hc0)
    clear hc0
    go_upto_region 6 with fail
    refine start_ (n := 17) (S := fun w' => w'.cell? ⟨g, m * 3, none⟩ = some (.string u.f0) ∧ w'.cell? ⟨g, m * 3 + 1, none⟩ = some (.int .i64 uu) ∧ w'.cell? ⟨g, m * 3 + 2, none⟩ = some (.slice uA un uc) ∧ w'.cell? ⟨g, i * 3, none⟩ = some (.string sv) ∧ w'.cell? ⟨g, i * 3 + 1, none⟩ = some (.int .i64 vu) ∧ w'.cell? ⟨g, i * 3 + 2, none⟩ = some (.slice vA vn vc)) (ds := []) #[false, false, false, false, false, false, false, false, false, false, false, false, false, false, false, false, false] (by kernel_rfl) rfl rfl ⟨cell_drew2 HX0.out, cell_drew2 HX4.out, cell_drew2 HX1.out, cell_drew2 HX2.out, cell_drew2 HX5.out, cell_drew2 HX3.out⟩ (fun hHeld => ?_)
    replace HO := aK (Kd.R_drew HO.out)
    replace HI := aK (INs.below HI.out (bW (Below.refl _ _)))
    replace HB := aK (bW HB.out)
    replace HX0 := aK (cell_drew2 HX0.out)
    replace HX1 := aK (cell_drew2 HX1.out)
    replace HX2 := aK (cell_drew2 HX2.out)
    replace HX3 := aK (cell_drew2 HX3.out)
    replace HX4 := aK (cell_drew2 HX4.out)
    replace HX5 := aK (cell_drew2 HX5.out)
    generalize wr.drew = w7 at HO HI HB HX0 HX1 HX2 HX3 HX4 HX5 hHeld ⊢
    refine p_ 0 25 (mk_ 17 0x1) ?_
    refine p_ 1 26 (mk_ 17 0x3) ?_
    refine p_ 2 27 (mk_ 17 0x7) ?_
    refine p_ 3 28 (mk_ 17 0xf) ?_
    refine p_ 4 29 (mk_ 17 0x1f) ?_
    refine p_ 5 30 (mk_ 17 0x3f) ?_
    refine p_ 6 31 (mk_ 17 0x7f) ?_
    refine p_ 7 32 (mk_ 17 0xff) ?_
    refine t_ 8 33 (mk_ 17 0x1ff) hHeld ?_
    refine p_ 9 34 (mk_ 17 0x3ff) ?_
    refine p_ 10 35 (mk_ 17 0x7ff) ?_
    refine p_ 11 36 (mk_ 17 0xfff) ?_
    refine p_ 12 37 (mk_ 17 0x1fff) ?_
    refine t_ 13 38 (mk_ 17 0x3fff) hHeld ?_
    refine one_ (i := 14) (N := some 39) #[true, true, true, true, true, true, true, true, true, true, true, true, true, true, true, false, false] rfl rfl (by kernel_rfl) (by decide) (fun K hK => ?_)
    refine goes_ Try.func46 (by kernel_rfl) rfl #[.string u.f0, .string sv] (by rfl) rfl rfl (by (try simp only [List.map_toArray, List.map_cons, List.map_nil]); first | done | rfl) ?_
    refine (cenotaphref01_Compare.calls k u.f0 sv c w7 HCM.out).mono ?_
    rintro ev w8 ⟨rfl, hb⟩
    replace hb := hb.below
    refine ⟨_, rfl, ?_⟩
    replace HO := aK (Kd.R_below HO.out hb)
    replace HI := aK (INs.below HI.out hb)
    replace HB := aK (bS HB.out hb)
    replace HX0 := aK (cell_below2 HX0.out hb)
    replace HX1 := aK (cell_below2 HX1.out hb)
    replace HX2 := aK (cell_below2 HX2.out hb)
    replace HX3 := aK (cell_below2 HX3.out hb)
    replace HX4 := aK (cell_below2 HX4.out hb)
    replace HX5 := aK (cell_below2 HX5.out hb)
    clear hb
    refine hK.out _ _ ⟨HX0.out, HX4.out, HX1.out, HX2.out, HX5.out, HX3.out⟩ (fun hHeld => ?_)
    clear hK K
    refine norm_ (a' := ?_) ?_ ?_
    rotate_left
    ·show Act.put _ (some 39) _ = _
     simp only [Act.put, lA, lB, lC, i64_w, i32_w]
     rfl
    refine p_ 15 40 (mk_ 17 0xffff) ?_
    refine p_ 16 41 (mk_ 17 0x1ffff) ?_
    refine done_ (by kernel_rfl) ?_
    have HIS := aK HI.out
    go_upto_region 8 with fail
    refine start_ (n := 18) (S := fun w' => w'.cell? ⟨g, m * 3, none⟩ = some (.string u.f0) ∧ w'.cell? ⟨g, m * 3 + 1, none⟩ = some (.int .i64 uu) ∧ w'.cell? ⟨g, m * 3 + 2, none⟩ = some (.slice uA un uc) ∧ w'.cell? ⟨g, i * 3, none⟩ = some (.string sv) ∧ w'.cell? ⟨g, i * 3 + 1, none⟩ = some (.int .i64 vu) ∧ w'.cell? ⟨g, i * 3 + 2, none⟩ = some (.slice vA vn vc)) (ds := [15, 17]) #[false, false, false, false, false, false, false, false, false, false, false, false, false, false, false, false, false, false] (by kernel_rfl) rfl rfl ⟨cell_drew2 HX0.out, cell_drew2 HX4.out, cell_drew2 HX1.out, cell_drew2 HX2.out, cell_drew2 HX5.out, cell_drew2 HX3.out⟩ (fun hHeld => ?_)
    replace HO := aK (Kd.R_drew HO.out)
    replace HI := aK (INs.below HI.out (bW (Below.refl _ _)))
    replace HB := aK (bW HB.out)
    clear HX0 HX1 HX2 HX3 HX4 HX5
    generalize w8.drew = w9 at HO HI HB hHeld ⊢
    refine p_ 0 44 (mk_ 18 0x1) ?_
    refine p_ 1 45 (mk_ 18 0x3) ?_
    refine p_ 2 46 (mk_ 18 0x7) ?_
    refine p_ 3 47 (mk_ 18 0xf) ?_
    refine p_ 4 48 (mk_ 18 0x1f) ?_
    refine p_ 5 49 (mk_ 18 0x3f) ?_
    refine p_ 6 50 (mk_ 18 0x7f) ?_
    refine p_ 7 51 (mk_ 18 0xff) ?_
    refine t_ 8 52 (mk_ 18 0x1ff) hHeld ?_
    refine p_ 9 53 (mk_ 18 0x3ff) ?_
    refine p_ 10 54 (mk_ 18 0x7ff) ?_
    refine p_ 11 55 (mk_ 18 0xfff) ?_
    refine p_ 12 56 (mk_ 18 0x1fff) ?_
    refine t_ 13 57 (mk_ 18 0x3fff) hHeld ?_
    refine p_ 14 58 (mk_ 18 0x7fff) ?_
    clear hHeld
    refine last_ (i := 15) (N := none) #[true, true, true, true, true, true, true, true, true, true, true, true, true, true, true, true, false, false] rfl rfl (by kernel_rfl) (by decide) (fun K hK => ?_)
    obtain ⟨cz, hclz, hMz, hcz, hfz⟩ := Kd.R_elem HO.out zRW (m : Int) (by omega) (by omega)
    obtain rfl := kRW_openM hMz
    generalize (List.getD _ (m : Int).toNat zRW) = rz at hcz
    rw [Int.toNat_natCast] at hcz hfz
    have hz0 : World.frozen? w9 ⟨g, m * 3, none⟩ = false := hfz 0
    have hz1 : World.frozen? w9 ⟨g, m * 3 + 1, none⟩ = false := hfz 1
    have hz4 : World.frozen? w9 ⟨g, m * 3 + 2, none⟩ = false := hfz 2
    have hz2 : World.cell? w9 ⟨g, m * 3, none⟩ = some (.string rz.f0) := hcz 0 _ rfl
    have hz3 : World.cell? w9 ⟨g, m * 3 + 1, none⟩ = some (.int .i64 rz.u) := hcz 1 _ rfl
    have hz5 : World.cell? w9 ⟨g, m * 3 + 2, none⟩ = some (.slice rz.A rz.n rz.c) := hcz 2 _ rfl
    clear hclz hMz hcz hfz
    refine skip_ (w1 := ?_) (by rfl) rfl ?_ ?_
    rotate_left
    ·go_simp
     rfl
    refine hK.out _ _ ?_
    clear hK K
    clear hz0 hz1 hz2 hz3 hz4 hz5
    replace HO := aK (show Kd.R kRW 91 (((w9.setCell ⟨g, m * 3, none⟩ (.string sv)).setCell ⟨g, m * 3 + 1, none⟩ (.int .i64 vu)).setCell ⟨g, m * 3 + 2, none⟩ (.slice vA vn vc)) w.heap.size (fun _ => True) (.slice (some ⟨g, 0, none⟩) N cp) (L.set m ⟨sv, vu, vA, vn, vc⟩) from RW_put HO.out hmN ⟨sv, vu, vA, vn, vc⟩)
    replace HI := aK (show INs (Kd.int .i64) S91.f0 (fun x => x.f1.f0) (fun x => x.f1.f1) (((w9.setCell ⟨g, m * 3, none⟩ (.string sv)).setCell ⟨g, m * 3 + 1, none⟩ (.int .i64 vu)).setCell ⟨g, m * 3 + 2, none⟩ (.slice vA vn vc)) (fun k => ((P0_ k ∨ P2_1_ k) ∨ w.heap.size ≤ k) ∧ k ≠ g) L ((u :: p).reverse ++ (⟨sv, ⟨u2, e2⟩⟩ : S91) :: q) from INs.far (o := m * 3) (seg := [.string sv, .int .i64 vu, .slice vA vn vc]) HI.out (fun k hk => hk.2))
    replace HB := aK (show Below w.heap.size w (((w9.setCell ⟨g, m * 3, none⟩ (.string sv)).setCell ⟨g, m * 3 + 1, none⟩ (.int .i64 vu)).setCell ⟨g, m * 3 + 2, none⟩ (.slice vA vn vc)) from below_set (below_set (below_set HB.out HGB.out) HGB.out) HGB.out)
    generalize ((w9.setCell ⟨g, m * 3, none⟩ (.string sv)).setCell ⟨g, m * 3 + 1, none⟩ (.int .i64 vu)).setCell ⟨g, m * 3 + 2, none⟩ (.slice vA vn vc) = w10 at HO HI HB ⊢
    refine p_ 16 59 (mk_ 18 0x1ffff) ?_
    refine last_ (i := 17) (N := none) #[true, true, true, true, true, true, true, true, true, true, true, true, true, true, true, true, true, true] rfl rfl (by kernel_rfl) (by decide) (fun K hK => ?_)
    obtain ⟨cz, hclz, hMz, hcz, hfz⟩ := Kd.R_elem HO.out zRW (i : Int) (by omega) (by omega)
    obtain rfl := kRW_openM hMz
    generalize (List.getD _ (i : Int).toNat zRW) = rz at hcz
    rw [Int.toNat_natCast] at hcz hfz
    have hz0 : World.frozen? w10 ⟨g, i * 3, none⟩ = false := hfz 0
    have hz1 : World.frozen? w10 ⟨g, i * 3 + 1, none⟩ = false := hfz 1
    have hz4 : World.frozen? w10 ⟨g, i * 3 + 2, none⟩ = false := hfz 2
    have hz2 : World.cell? w10 ⟨g, i * 3, none⟩ = some (.string rz.f0) := hcz 0 _ rfl
    have hz3 : World.cell? w10 ⟨g, i * 3 + 1, none⟩ = some (.int .i64 rz.u) := hcz 1 _ rfl
    have hz5 : World.cell? w10 ⟨g, i * 3 + 2, none⟩ = some (.slice rz.A rz.n rz.c) := hcz 2 _ rfl
    clear hclz hMz hcz hfz
    refine skip_ (w1 := ?_) (by rfl) rfl ?_ ?_
    rotate_left
    ·go_simp
     rfl
    refine hK.out _ _ ?_
    clear hK K
    clear hz0 hz1 hz2 hz3 hz4 hz5
    replace HO := aK (show Kd.R kRW 91 (((w10.setCell ⟨g, i * 3, none⟩ (.string u.f0)).setCell ⟨g, i * 3 + 1, none⟩ (.int .i64 uu)).setCell ⟨g, i * 3 + 2, none⟩ (.slice uA un uc)) w.heap.size (fun _ => True) (.slice (some ⟨g, 0, none⟩) N cp) ((L.set m ⟨sv, vu, vA, vn, vc⟩).set i ⟨u.f0, uu, uA, un, uc⟩) from RW_put HO.out hiN ⟨u.f0, uu, uA, un, uc⟩)
    replace HI := aK (show INs (Kd.int .i64) S91.f0 (fun x => x.f1.f0) (fun x => x.f1.f1) (((w10.setCell ⟨g, i * 3, none⟩ (.string u.f0)).setCell ⟨g, i * 3 + 1, none⟩ (.int .i64 uu)).setCell ⟨g, i * 3 + 2, none⟩ (.slice uA un uc)) (fun k => ((P0_ k ∨ P2_1_ k) ∨ w.heap.size ≤ k) ∧ k ≠ g) L ((u :: p).reverse ++ (⟨sv, ⟨u2, e2⟩⟩ : S91) :: q) from INs.far (o := i * 3) (seg := [.string u.f0, .int .i64 uu, .slice uA un uc]) HI.out (fun k hk => hk.2))
    replace HB := aK (show Below w.heap.size w (((w10.setCell ⟨g, i * 3, none⟩ (.string u.f0)).setCell ⟨g, i * 3 + 1, none⟩ (.int .i64 uu)).setCell ⟨g, i * 3 + 2, none⟩ (.slice uA un uc)) from below_set (below_set (below_set HB.out HGB.out) HGB.out) HGB.out)
    generalize ((w10.setCell ⟨g, i * 3, none⟩ (.string u.f0)).setCell ⟨g, i * 3 + 1, none⟩ (.int .i64 uu)).setCell ⟨g, i * 3 + 2, none⟩ (.slice uA un uc) = w11 at HO HI HB ⊢
    refine done_ (by kernel_rfl) ?_
    replace HI := aK (show INs (Kd.int .i64) S91.f0 (fun x => x.f1.f0) (fun x => x.f1.f1) w11 (fun k => ((P0_ k ∨ P2_1_ k) ∨ w.heap.size ≤ k) ∧ k ≠ g) ((L.set m ⟨sv, vu, vA, vn, vc⟩).set i ⟨u.f0, uu, uA, un, uc⟩) (p.reverse ++ (⟨sv, ⟨u2, e2⟩⟩ : S91) :: u :: q) from by
     have iu := F2.getD HI.out (j := m) (by have := HLX.out; omega) zRW z91
     have iv := F2.getD HI.out (j := i) (by have := HLX.out; omega) zRW z91
     rw [HGU.out, HRS.out.1] at iu
     rw [HGV.out, HRS.out.2] at iv
     have h := F2.set (F2.set HI.out (i := m) iv) (i := i) iu
     rw [HSW.out] at h
     exact h)
    go_wp2_with fail
    go_roundw
    case rel => exact ⟨p, u :: q, _, by rw [HPM.out], ⟨by have := HPQ.out; simp only [List.length_cons] at this ⊢; omega⟩, HH, HO, HI, HB⟩
    case measure => simp [intOf]; have := HIM.out; omega
   ·rw [if_neg hc0] at HHH
    have HRR := aK (sI HHH)
    clear HHH
    have hq1 : decide (c > 0) = false := decide_eq_false hc0
    have hq2 := eq_false hc0
    have hq3 := eq_false (show ¬ 0 < c from hc0)
    clear hc0
    go_upto_region 6 with fail
    refine start_ (n := 17) (S := fun w' => w'.cell? ⟨g, m * 3, none⟩ = some (.string u.f0) ∧ w'.cell? ⟨g, m * 3 + 1, none⟩ = some (.int .i64 uu) ∧ w'.cell? ⟨g, m * 3 + 2, none⟩ = some (.slice uA un uc) ∧ w'.cell? ⟨g, i * 3, none⟩ = some (.string sv) ∧ w'.cell? ⟨g, i * 3 + 1, none⟩ = some (.int .i64 vu) ∧ w'.cell? ⟨g, i * 3 + 2, none⟩ = some (.slice vA vn vc)) (ds := []) #[false, false, false, false, false, false, false, false, false, false, false, false, false, false, false, false, false] (by kernel_rfl) rfl rfl ⟨cell_drew2 HX0.out, cell_drew2 HX4.out, cell_drew2 HX1.out, cell_drew2 HX2.out, cell_drew2 HX5.out, cell_drew2 HX3.out⟩ (fun hHeld => ?_)
    replace HO := aK (Kd.R_drew HO.out)
    replace HI := aK (INs.below HI.out (bW (Below.refl _ _)))
    replace HB := aK (bW HB.out)
    replace HX0 := aK (cell_drew2 HX0.out)
    replace HX1 := aK (cell_drew2 HX1.out)
    replace HX2 := aK (cell_drew2 HX2.out)
    replace HX3 := aK (cell_drew2 HX3.out)
    replace HX4 := aK (cell_drew2 HX4.out)
    replace HX5 := aK (cell_drew2 HX5.out)
    generalize wr.drew = w7 at HO HI HB HX0 HX1 HX2 HX3 HX4 HX5 hHeld ⊢
    refine p_ 0 25 (mk_ 17 0x1) ?_
    refine p_ 1 26 (mk_ 17 0x3) ?_
    refine p_ 2 27 (mk_ 17 0x7) ?_
    refine p_ 3 28 (mk_ 17 0xf) ?_
    refine p_ 4 29 (mk_ 17 0x1f) ?_
    refine p_ 5 30 (mk_ 17 0x3f) ?_
    refine p_ 6 31 (mk_ 17 0x7f) ?_
    refine p_ 7 32 (mk_ 17 0xff) ?_
    refine t_ 8 33 (mk_ 17 0x1ff) hHeld ?_
    refine p_ 9 34 (mk_ 17 0x3ff) ?_
    refine p_ 10 35 (mk_ 17 0x7ff) ?_
    refine p_ 11 36 (mk_ 17 0xfff) ?_
    refine p_ 12 37 (mk_ 17 0x1fff) ?_
    refine t_ 13 38 (mk_ 17 0x3fff) hHeld ?_
    refine one_ (i := 14) (N := some 39) #[true, true, true, true, true, true, true, true, true, true, true, true, true, true, true, false, false] rfl rfl (by kernel_rfl) (by decide) (fun K hK => ?_)
    refine goes_ Try.func46 (by kernel_rfl) rfl #[.string u.f0, .string sv] (by rfl) rfl rfl (by (try simp only [List.map_toArray, List.map_cons, List.map_nil]); first | done | rfl) ?_
    refine (cenotaphref01_Compare.calls k u.f0 sv c w7 HCM.out).mono ?_
    rintro ev w8 ⟨rfl, hb⟩
    replace hb := hb.below
    refine ⟨_, rfl, ?_⟩
    replace HO := aK (Kd.R_below HO.out hb)
    replace HI := aK (INs.below HI.out hb)
    replace HB := aK (bS HB.out hb)
    replace HX0 := aK (cell_below2 HX0.out hb)
    replace HX1 := aK (cell_below2 HX1.out hb)
    replace HX2 := aK (cell_below2 HX2.out hb)
    replace HX3 := aK (cell_below2 HX3.out hb)
    replace HX4 := aK (cell_below2 HX4.out hb)
    replace HX5 := aK (cell_below2 HX5.out hb)
    clear hb
    refine hK.out _ _ ⟨HX0.out, HX4.out, HX1.out, HX2.out, HX5.out, HX3.out⟩ (fun hHeld => ?_)
    clear hK K
    refine norm_ (a' := ?_) ?_ ?_
    rotate_left
    ·show Act.put _ (some 39) _ = _
     simp only [Act.put, lA, lB, lC, i64_w, i32_w]
     rfl
    refine p_ 15 40 (mk_ 17 0xffff) ?_
    refine p_ 16 41 (mk_ 17 0x1ffff) ?_
    refine done_ (by kernel_rfl) ?_
    go_wp2_with fail
    go_ret
    exact ⟨_, rfl, by rw [← HRR.out]; exact lead_view2 lead_r HO.out HI.out (fun k hk => .inr hk) (fun k hk => hk.1), HB.out⟩
mutual
def cenotaphref02_Has.j0 : Nat → Int → Bool → Int → List Int → Option (Bool)
 | 0, _, _, _, _ => none
 | k + 1, x1, x13, x598000, x598001 => if x13 = true then (some true) else (cenotaphref02_Has.l0 k x1 0 x598000 x598001)
def cenotaphref02_Has.l0 : Nat → Int → Int → Int → List Int → Option (Bool)
 | 0, _, _, _, _ => none
 | k + 1, x1, x5, x598000, x598001 => if x5 < (x598001.length : Int) then (if 0 ≤ x5 then (if (rd x598001 x5) = x1 then (some true) else (cenotaphref02_Has.l0 k x1 (wrap64 (x5 + 1)) x598000 x598001)) else (none)) else (some false)
end
def cenotaphref02_Has.f (k : Nat) (a0_0 : Int) (l0_1 : List Int) (a1 : Int) : Option (Bool) := if a1 ≥ 1 then (cenotaphref02_Has.j0 k a1 (decide (a1 ≤ a0_0)) a0_0 l0_1) else (cenotaphref02_Has.j0 k a1 false a0_0 l0_1)
theorem cenotaphref02_Has.mono_l : ∀ k, (∀ y0 y1 y2 y3, LeO (cenotaphref02_Has.j0 k y0 y1 y2 y3) (cenotaphref02_Has.j0 (k + 1) y0 y1 y2 y3)) ∧ (∀ y0 y1 y2 y3, LeO (cenotaphref02_Has.l0 k y0 y1 y2 y3) (cenotaphref02_Has.l0 (k + 1) y0 y1 y2 y3))
 | 0 => ⟨fun _ _ _ _ r h => by simp [cenotaphref02_Has.j0] at h, fun _ _ _ _ r h => by simp [cenotaphref02_Has.l0] at h⟩
 | k + 1 => by
  obtain ⟨ih0, ih1⟩ := cenotaphref02_Has.mono_l k
  refine ⟨?_, ?_⟩
  ·intro y0 y1 y2 y3
   unfold cenotaphref02_Has.j0
   repeat' first
   | (with_reducible exact ih0 _ _ _ _)
   | (with_reducible exact ih1 _ _ _ _)
   | (with_reducible exact LeO.refl _)
   | (with_reducible exact LeO.none _)
   | (with_reducible refine LeO.ite ?_ ?_)
   | (with_reducible refine LeO.bind ?_ (fun _ => ?_))
   | exact ih0 _ _ _ _
   | exact ih1 _ _ _ _
   | exact LeO.none _
   | refine LeO.ite ?_ ?_
   | refine LeO.bind ?_ (fun _ => ?_)
  ·intro y0 y1 y2 y3
   unfold cenotaphref02_Has.l0
   repeat' first
   | (with_reducible exact ih0 _ _ _ _)
   | (with_reducible exact ih1 _ _ _ _)
   | (with_reducible exact LeO.refl _)
   | (with_reducible exact LeO.none _)
   | (with_reducible refine LeO.ite ?_ ?_)
   | (with_reducible refine LeO.bind ?_ (fun _ => ?_))
   | exact ih0 _ _ _ _
   | exact ih1 _ _ _ _
   | exact LeO.none _
   | refine LeO.ite ?_ ?_
   | refine LeO.bind ?_ (fun _ => ?_)
theorem cenotaphref02_Has.mono : ∀ a0 a1 a2 k, LeO (cenotaphref02_Has.f k a0 a1 a2) (cenotaphref02_Has.f (k + 1) a0 a1 a2) := by
 intro a0 a1 a2 k
 obtain ⟨ih0, ih1⟩ := cenotaphref02_Has.mono_l k
 unfold cenotaphref02_Has.f
 repeat' first
   | (with_reducible exact ih0 _ _ _ _)
   | (with_reducible exact ih1 _ _ _ _)
   | (with_reducible exact LeO.refl _)
   | (with_reducible exact LeO.none _)
   | (with_reducible refine LeO.ite ?_ ?_)
   | (with_reducible refine LeO.bind ?_ (fun _ => ?_))
   | exact ih0 _ _ _ _
   | exact ih1 _ _ _ _
   | exact LeO.none _
   | refine LeO.ite ?_ ?_
   | refine LeO.bind ?_ (fun _ => ?_)
theorem cenotaphref02_Has.calls (k : Nat) (a0_0 : Int) (A0_1 : Option Addr) (c0_1 : Nat) (l0_1 : List Int) (a1 : Int) (r : Bool) (w : World) (hr0_1 : Kd.C (Kd.int .i64) w A0_1 l0_1.length l0_1) (hc0_1 : l0_1.length ≤ c0_1) (h : cenotaphref02_Has.f k a0_0 l0_1 a1 = some r) :
  Calls Try.prog 76 #[.agg #[.int .i64 a0_0, .slice A0_1 l0_1.length c0_1], .int .i64 a1] w fun e w' => e = .returned (.bool r) ∧ Below w.heap.size w w' := by
 have hu89 := Try.underlying89
 have HR0_1 := aK hr0_1
 have HC0_1 := aK hc0_1
 clear hr0_1 hc0_1
 have HB := aK (Below.refl w.heap.size w)
 have H : (if a1 ≥ 1 then (cenotaphref02_Has.j0 k a1 (decide (a1 ≤ a0_0)) a0_0 l0_1) else (cenotaphref02_Has.j0 k a1 false a0_0 l0_1)) = some r := h
 clear h
 have HC3 := aK H
 clear H
 go_enter Try.func76, Try.ntmps76
 go_upto_region 1 with (first | ((with_reducible refine gate_dst (N := 2) rfl ?_); refine box_event ?hg (N := 2) ?hd (cs := #[.int .i64 a0_0, .slice A0_1 l0_1.length c0_1]) (t := 89) ?hr ?_; (case hd => rfl); (case hg => rfl); (case hr => first | (go_simp; done) | (go_simp; rfl)); intro gb597 hg w4 hbox hb; have BK597 := aK (hbox); have GW597 := aK ((by rw [hg]; exact (below_size (by repeat (first | (with_reducible first | exact HB.out | apply bA | apply pB | apply bW) | exact HB.out))) : w.heap.size ≤ gb597)); have GE597 := aK ((by rw [hg]; exact (below_size (by repeat (first | (with_reducible first | exact HB.out | apply bA | apply pB | apply bW) | exact HB.out))) : w.heap.size ≤ gb597)); replace HB := aK (bS (by repeat (first | (with_reducible first | exact HB.out | apply bA | apply pB | apply bW) | exact HB.out)) hb); clear hb hbox hg))
 (try simp only [Act.put, lA, lB, lC])
 go_cut [13] (fun v13 wc => ∃ (kq : Nat) (x13_2 : Bool), v13 = .bool x13_2 ∧ Aside0 (cenotaphref02_Has.j0 kq a1 x13_2 a0_0 l0_1 = some r) ∧ Aside0 (kq ≤ k) ∧ Aside0 (wc.heap[gb597]? = some (.cells #[.int .i64 a0_0, (.slice A0_1 l0_1.length c0_1)] 89 (0, 0))) ∧ Aside0 (Below w.heap.size w wc))
 case first =>
  have H := HC3.out
  clear HC3
  by_cases c5 : a1 ≥ 1
  ·rw [if_pos c5] at H
   have c5b0 : decide (1 ≤ a1) = true := dT c5
   clear c5
   (first | rw [c5b0] | (simp only [i64_w, i32_w]; rw [c5b0]) | skip)
   have H' := aK H
   clear H
   have hcz6_0 : w4.cell? ⟨gb597, 0, none⟩ = some (.int .i64 a0_0) := (bC BK597.out 0).trans rfl
   have hcz6_1 : w4.cell? ⟨gb597, 1, none⟩ = some (.slice A0_1 l0_1.length c0_1) := (bC BK597.out 1).trans rfl
   have hfz6_0 := bF_ BK597.out 0
   have hfz6_1 := bF_ BK597.out 1
   go_wp2
   go_meet
   case rel => exact ⟨_, (decide (a1 ≤ a0_0)), (by first | rfl | (simp; done) | (simp [*]; done)), H', ⟨by first | omega | exact Nat.le_refl _⟩, ⟨by (with_reducible repeat (first | refine blk_drewN ?_ _ | refine blk_drew ?_ | refine blk_alloc ?_ _)); exact BK597.out⟩, ⟨by repeat (first | (with_reducible first | exact HB.out | apply bA | apply pB | apply bW | refine below_set ?_ GE597.out) | exact HB.out)⟩⟩
  ·rw [if_neg c5] at H
   have c5b0 : decide (1 ≤ a1) = false := decide_eq_false c5
   clear c5
   (first | rw [c5b0] | (simp only [i64_w, i32_w]; rw [c5b0]) | skip)
   have H' := aK H
   clear H
   go_wp2
   go_meet
   case rel => exact ⟨_, (false), (by first | rfl | (simp; done) | (simp [*]; done)), H', ⟨by first | omega | exact Nat.le_refl _⟩, ⟨by (with_reducible repeat (first | refine blk_drewN ?_ _ | refine blk_drew ?_ | refine blk_alloc ?_ _)); exact BK597.out⟩, ⟨by repeat (first | (with_reducible first | exact HB.out | apply bA | apply pB | apply bW | refine below_set ?_ GE597.out) | exact HB.out)⟩⟩
 case rest =>
  clear HC3
  try clear p2
  try clear c5
  try clear c5b0
  try clear hcz6_0
  try clear hcz6_1
  try clear hfz6_0
  try clear hfz6_1
  obtain ⟨kq, x13_2, rfl, HA, HJ2, BK597, HB⟩ := hcut
  cases kq with
  | zero => exact absurd HA.out (by simp [cenotaphref02_Has.j0])
  | succ kj2 =>
   have H := HA.out
   clear HA
   simp only [cenotaphref02_Has.j0] at H
   by_cases c7 : x13_2 = true
   ·subst c7
    have H1 : (some true) = some r := by rw [if_pos rfl] at H; exact H
    clear H
    have H := H1
    clear H1
    obtain rfl := sI H
    go_wp2
    go_ret
    exact ⟨by first | rfl | (simp [errW_none, errW_some] <;> rfl) | (simp [*, errW_none, errW_some] <;> rfl), by repeat (first | (with_reducible first | exact HB.out | apply bA | apply pB | apply bW | refine below_set ?_ GE597.out) | exact HB.out)⟩
   ·replace c7 := Bool.eq_false_iff.mpr c7
    subst c7
    have H1 : (cenotaphref02_Has.l0 kj2 a1 0 a0_0 l0_1) = some r := by rw [if_neg (show ¬ (false = true) by decide)] at H; exact H
    clear H
    have H := H1
    clear H1
    have H' := aK H
    clear H
    go_wp2
    go_loopg [5] kj2 (fun kq v5 w' => ∃ (x5_2 : Int), v5 = .int .i64 x5_2 ∧ Aside0 (cenotaphref02_Has.l0 kq a1 x5_2 a0_0 l0_1 = some r) ∧ Aside0 (kq ≤ kj2) ∧ Aside0 (w'.heap[gb597]? = some (.cells #[.int .i64 a0_0, (.slice A0_1 l0_1.length c0_1)] 89 (0, 0))) ∧ Aside0 (Below w.heap.size w w'))
    case atStart => exact ⟨(0), (by first | rfl | (simp; done) | (simp [*]; done)), H', ⟨Nat.le_refl _⟩, ⟨by (with_reducible repeat (first | refine blk_drewN ?_ _ | refine blk_drew ?_ | refine blk_alloc ?_ _)); exact BK597.out⟩, ⟨by repeat (first | (with_reducible first | exact HB.out | apply bA | apply pB | apply bW | refine below_set ?_ GE597.out) | exact HB.out)⟩⟩
    case round =>
     clear H'
     try clear p2
     try clear c5
     try clear c5b0
     try clear c7
     try clear hcz6_0
     try clear hcz6_1
     try clear hfz6_0
     try clear hfz6_1
     try clear p2
     obtain ⟨x5_2, rfl, HA, HK2, BK597, HB⟩ := hrel
     cases gk with
     | zero => exact absurd HA.out (by simp [cenotaphref02_Has.l0])
     | succ k2 =>
      have H := HA.out
      clear HA
      simp only [cenotaphref02_Has.l0] at H
      by_cases c8 : x5_2 < (l0_1.length : Int)
      ·rw [if_pos c8] at H
       have c8b0 : decide (x5_2 < (l0_1.length : Int)) = true := dT c8
       clear c8
       by_cases c9 : 0 ≤ x5_2
       ·rw [if_pos c9] at H
        have c9b0 : decide (0 ≤ x5_2) = true := dT c9
        clear c9
        by_cases c10 : (rd l0_1 x5_2) = a1
        ·rw [if_pos c10] at H
         have c10b0 : ((rd l0_1 x5_2) == a1) = true := beq_iff_eq.mpr c10
         have c10b1 : ((rd l0_1 x5_2) != a1) = false := bne_eq_false_iff_eq.mpr c10
         clear c10
         obtain rfl := sI H
         have hcz11_0 : wr.cell? ⟨gb597, 0, none⟩ = some (.int .i64 a0_0) := (bC BK597.out 0).trans rfl
         have hcz11_1 : wr.cell? ⟨gb597, 1, none⟩ = some (.slice A0_1 l0_1.length c0_1) := (bC BK597.out 1).trans rfl
         have hfz11_0 := bF_ BK597.out 0
         have hfz11_1 := bF_ BK597.out 1
         have p598 : 0 ≤ (x5_2 : Int) := oD (by first | (with_reducible assumption) | assumption)
         have q598 : x5_2 < (l0_1.length : Int) := oD (by first | (with_reducible assumption) | assumption)
         obtain ⟨ad598, e598, hx598_0⟩ := Kd.at_int HR0_1.out x5_2 p598 q598
         cases e598
         replace hx598_0 := pc_ HB hx598_0
         replace p598 := eT p598
         replace q598 := eT q598
         go_wp2
         go_ret
         exact ⟨by first | rfl | (simp [errW_none, errW_some] <;> rfl) | (simp [*, errW_none, errW_some] <;> rfl), by repeat (first | (with_reducible first | exact HB.out | apply bA | apply pB | apply bW | refine below_set ?_ GE597.out) | exact HB.out)⟩
        ·rw [if_neg c10] at H
         have c10b0 : ((rd l0_1 x5_2) == a1) = false := beq_eq_false_iff_ne.mpr c10
         have c10b1 : ((rd l0_1 x5_2) != a1) = true := bne_iff_ne.mpr c10
         have H' := aK H
         clear H
         have hcz12_0 : wr.cell? ⟨gb597, 0, none⟩ = some (.int .i64 a0_0) := (bC BK597.out 0).trans rfl
         have hcz12_1 : wr.cell? ⟨gb597, 1, none⟩ = some (.slice A0_1 l0_1.length c0_1) := (bC BK597.out 1).trans rfl
         have hfz12_0 := bF_ BK597.out 0
         have hfz12_1 := bF_ BK597.out 1
         have p598 : 0 ≤ (x5_2 : Int) := oD (by first | (with_reducible assumption) | assumption)
         have q598 : x5_2 < (l0_1.length : Int) := oD (by first | (with_reducible assumption) | assumption)
         obtain ⟨ad598, e598, hx598_0⟩ := Kd.at_int HR0_1.out x5_2 p598 q598
         cases e598
         replace hx598_0 := pc_ HB hx598_0
         replace p598 := eT p598
         replace q598 := eT q598
         go_wp2
         go_roundg k2
         case measure => have := HJ2.out; have := HK2.out; omega
         case rel => exact ⟨(wrap64 (x5_2 + 1)), (by first | rfl | (simp; done) | (simp [*]; done)), H', ⟨by have := HJ2.out; have := HK2.out; omega⟩, ⟨by (with_reducible repeat (first | refine blk_drewN ?_ _ | refine blk_drew ?_ | refine blk_alloc ?_ _)); exact BK597.out⟩, ⟨by repeat (first | (with_reducible first | exact HB.out | apply bA | apply pB | apply bW | refine below_set ?_ GE597.out) | exact HB.out)⟩⟩
       ·rw [if_neg c9] at H
        exact absurd H (by simp)
      ·rw [if_neg c8] at H
       have c8b0 : decide (x5_2 < (l0_1.length : Int)) = false := decide_eq_false c8
       clear c8
       obtain rfl := sI H
       have hcz13_0 : wr.cell? ⟨gb597, 0, none⟩ = some (.int .i64 a0_0) := (bC BK597.out 0).trans rfl
       have hcz13_1 : wr.cell? ⟨gb597, 1, none⟩ = some (.slice A0_1 l0_1.length c0_1) := (bC BK597.out 1).trans rfl
       have hfz13_0 := bF_ BK597.out 0
       have hfz13_1 := bF_ BK597.out 1
       go_wp2
       go_ret
       exact ⟨by first | rfl | (simp [errW_none, errW_some] <;> rfl) | (simp [*, errW_none, errW_some] <;> rfl), by repeat (first | (with_reducible first | exact HB.out | apply bA | apply pB | apply bW | refine below_set ?_ GE597.out) | exact HB.out)⟩
theorem zq70_0 {p_ : Prop} (h_ : p_ := by repeat (first | (with_reducible first | exact HB.out | apply bA | apply pB | apply bW | refine below_set ?_ GE599.out | refine below_set ?_ GE600.out) | exact HB.out)) : p_ := h_
theorem zq70_1 {p_ : Prop} (h_ : p_ := by repeat (first | (with_reducible first | exact HB.out | apply bA | apply pB | apply bW | refine below_set ?_ GE599.out) | exact HB.out)) : p_ := h_
theorem zq70_2 {p_ : Prop} (h_ : p_ := by repeat (first | (with_reducible first | exact HB.out | apply bA | apply pB | apply bW) | exact HB.out)) : p_ := h_
theorem zq70_3 {p_ : Prop} (h_ : p_ := by (with_reducible repeat (first | refine blk_drewN ?_ _ | refine blk_drew ?_ | refine blk_alloc ?_ _)); exact BK599.out) : p_ := h_
theorem zq70_4 {p_ : Prop} (h_ : p_ := by (with_reducible repeat (first | refine blk_drewN ?_ _ | refine blk_drew ?_ | refine blk_alloc ?_ _)); exact BK600.out) : p_ := h_
theorem zq70_5 {p_ : Prop} (h_ : p_ := by (with_reducible repeat (first | apply Kd.Q_alloc | apply Kd.Q_drewN | apply Kd.Q_drew)); exact HO_5.out) : p_ := h_
theorem zq70_6 {p_ : Prop} (h_ : p_ := by first | (with_reducible assumption) | assumption) : p_ := h_
theorem zq70_7 {p_ : Prop} (h_ : p_ := by first | rfl | (simp; done) | (simp [*]; done)) : p_ := h_
mutual
def cenotaphref02_Add.j0 : Nat → Int → Bool → Int → List Int → Option (Int × List Int)
 | 0, _, _, _, _ => none
 | k + 1, x1, x19, x600000, x600001 => if x19 = true then ((some (([] : List Int) : List Int)).bind fun y602 => (if y602.length + x600001.length < 17592186044416 then (some (x600000, (y602 ++ x600001))) else (none))) else (cenotaphref02_Add.l0 k x1 ([] : List Int) false 0 x600000 x600001)
def cenotaphref02_Add.l0 : Nat → Int → List Int → Bool → Int → Int → List Int → Option (Int × List Int)
 | 0, _, _, _, _, _, _ => none
 | k + 1, x1, x5, x6, x7, x600000, x600001 => if x7 < (x600001.length : Int) then (if x6 = true then (if 0 ≤ x7 then (if x5.length < 17592186044416 then (cenotaphref02_Add.l0 k x1 (x5 ++ [rd x600001 x7]) x6 (wrap64 (x7 + 1)) x600000 x600001) else (none)) else (none)) else (if 0 ≤ x7 then (if (rd x600001 x7) > x1 then (if x5.length < 17592186044416 then ((some (x5 ++ [x1] : List Int)).bind fun y613 => (if y613.length < 17592186044416 then (cenotaphref02_Add.l0 k x1 (y613 ++ [rd x600001 x7]) true (wrap64 (x7 + 1)) x600000 x600001) else (none))) else (none)) else (if x5.length < 17592186044416 then (cenotaphref02_Add.l0 k x1 (x5 ++ [rd x600001 x7]) x6 (wrap64 (x7 + 1)) x600000 x600001) else (none))) else (none))) else (if x6 = true then (cenotaphref02_Add.j2 k x5 x600000 x600001) else (if x5.length < 17592186044416 then (cenotaphref02_Add.j2 k (x5 ++ [x1]) x600000 x600001) else (none)))
def cenotaphref02_Add.j2 : Nat → List Int → Int → List Int → Option (Int × List Int)
 | 0, _, _, _ => none
 | k + 1, x5, x600000, x600001 => cenotaphref02_Add.l1 k x5 x600000
def cenotaphref02_Add.l1 : Nat → List Int → Int → Option (Int × List Int)
 | 0, _, _ => none
 | k + 1, x5, x8 => if (x5.length : Int) > 0 then (if 0 < (x5.length : Int) then (if (rd x5 0) = (wrap64 (x8 + 1)) then (if 1 ≤ (x5.length : Int) then (cenotaphref02_Add.l1 k (x5.drop (1 : Int).toNat) (wrap64 (x8 + 1))) else (none)) else ((some (([] : List Int) : List Int)).bind fun y631 => (if y631.length + x5.length < 17592186044416 then (some (x8, (y631 ++ x5))) else (none)))) else (none)) else ((some (([] : List Int) : List Int)).bind fun y637 => (if y637.length + x5.length < 17592186044416 then (some (x8, (y637 ++ x5))) else (none)))
end
def cenotaphref02_Add.f (k : Nat) (a0_0 : Int) (l0_1 : List Int) (a1 : Int) : Option (Int × List Int) := if a1 < 1 then (cenotaphref02_Add.j0 k a1 true a0_0 l0_1) else (if a1 > 1048576 then (cenotaphref02_Add.j0 k a1 true a0_0 l0_1) else ((cenotaphref02_Has.f k a0_0 l0_1 a1).bind fun t601 => (cenotaphref02_Add.j0 k a1 t601 a0_0 l0_1)))
theorem cenotaphref02_Add.mono_l : ∀ k, (∀ y0 y1 y2 y3, LeO (cenotaphref02_Add.j0 k y0 y1 y2 y3) (cenotaphref02_Add.j0 (k + 1) y0 y1 y2 y3)) ∧ (∀ y0 y1 y2 y3 y4 y5, LeO (cenotaphref02_Add.l0 k y0 y1 y2 y3 y4 y5) (cenotaphref02_Add.l0 (k + 1) y0 y1 y2 y3 y4 y5)) ∧ (∀ y0 y1 y2, LeO (cenotaphref02_Add.j2 k y0 y1 y2) (cenotaphref02_Add.j2 (k + 1) y0 y1 y2)) ∧ (∀ y0 y1, LeO (cenotaphref02_Add.l1 k y0 y1) (cenotaphref02_Add.l1 (k + 1) y0 y1))
 | 0 => ⟨fun _ _ _ _ r h => by simp [cenotaphref02_Add.j0] at h, fun _ _ _ _ _ _ r h => by simp [cenotaphref02_Add.l0] at h, fun _ _ _ r h => by simp [cenotaphref02_Add.j2] at h, fun _ _ r h => by simp [cenotaphref02_Add.l1] at h⟩
 | k + 1 => by
  obtain ⟨ih0, ih1, ih2, ih3⟩ := cenotaphref02_Add.mono_l k
  refine ⟨?_, ?_, ?_, ?_⟩
  ·intro y0 y1 y2 y3
   unfold cenotaphref02_Add.j0
   repeat' first
   | (with_reducible exact ih0 _ _ _ _)
   | (with_reducible exact ih1 _ _ _ _ _ _)
   | (with_reducible exact ih2 _ _ _)
   | (with_reducible exact ih3 _ _)
   | (with_reducible exact cenotaphref02_Has.mono _ _ _ _)
   | (with_reducible exact LeO.refl _)
   | (with_reducible exact LeO.none _)
   | (with_reducible refine LeO.ite ?_ ?_)
   | (with_reducible refine LeO.bind ?_ (fun _ => ?_))
   | exact ih0 _ _ _ _
   | exact ih1 _ _ _ _ _ _
   | exact ih2 _ _ _
   | exact ih3 _ _
   | exact cenotaphref02_Has.mono _ _ _ _
   | exact LeO.none _
   | refine LeO.ite ?_ ?_
   | refine LeO.bind ?_ (fun _ => ?_)
  ·intro y0 y1 y2 y3 y4 y5
   unfold cenotaphref02_Add.l0
   repeat' first
   | (with_reducible exact ih0 _ _ _ _)
   | (with_reducible exact ih1 _ _ _ _ _ _)
   | (with_reducible exact ih2 _ _ _)
   | (with_reducible exact ih3 _ _)
   | (with_reducible exact cenotaphref02_Has.mono _ _ _ _)
   | (with_reducible exact LeO.refl _)
   | (with_reducible exact LeO.none _)
   | (with_reducible refine LeO.ite ?_ ?_)
   | (with_reducible refine LeO.bind ?_ (fun _ => ?_))
   | exact ih0 _ _ _ _
   | exact ih1 _ _ _ _ _ _
   | exact ih2 _ _ _
   | exact ih3 _ _
   | exact cenotaphref02_Has.mono _ _ _ _
   | exact LeO.none _
   | refine LeO.ite ?_ ?_
   | refine LeO.bind ?_ (fun _ => ?_)
  ·intro y0 y1 y2
   unfold cenotaphref02_Add.j2
   repeat' first
   | (with_reducible exact ih0 _ _ _ _)
   | (with_reducible exact ih1 _ _ _ _ _ _)
   | (with_reducible exact ih2 _ _ _)
   | (with_reducible exact ih3 _ _)
   | (with_reducible exact cenotaphref02_Has.mono _ _ _ _)
   | (with_reducible exact LeO.refl _)
   | (with_reducible exact LeO.none _)
   | (with_reducible refine LeO.ite ?_ ?_)
   | (with_reducible refine LeO.bind ?_ (fun _ => ?_))
   | exact ih0 _ _ _ _
   | exact ih1 _ _ _ _ _ _
   | exact ih2 _ _ _
   | exact ih3 _ _
   | exact cenotaphref02_Has.mono _ _ _ _
   | exact LeO.none _
   | refine LeO.ite ?_ ?_
   | refine LeO.bind ?_ (fun _ => ?_)
  ·intro y0 y1
   unfold cenotaphref02_Add.l1
   repeat' first
   | (with_reducible exact ih0 _ _ _ _)
   | (with_reducible exact ih1 _ _ _ _ _ _)
   | (with_reducible exact ih2 _ _ _)
   | (with_reducible exact ih3 _ _)
   | (with_reducible exact cenotaphref02_Has.mono _ _ _ _)
   | (with_reducible exact LeO.refl _)
   | (with_reducible exact LeO.none _)
   | (with_reducible refine LeO.ite ?_ ?_)
   | (with_reducible refine LeO.bind ?_ (fun _ => ?_))
   | exact ih0 _ _ _ _
   | exact ih1 _ _ _ _ _ _
   | exact ih2 _ _ _
   | exact ih3 _ _
   | exact cenotaphref02_Has.mono _ _ _ _
   | exact LeO.none _
   | refine LeO.ite ?_ ?_
   | refine LeO.bind ?_ (fun _ => ?_)
theorem cenotaphref02_Add.mono : ∀ a0 a1 a2 k, LeO (cenotaphref02_Add.f k a0 a1 a2) (cenotaphref02_Add.f (k + 1) a0 a1 a2) := by
 intro a0 a1 a2 k
 obtain ⟨ih0, ih1, ih2, ih3⟩ := cenotaphref02_Add.mono_l k
 unfold cenotaphref02_Add.f
 repeat' first
   | (with_reducible exact ih0 _ _ _ _)
   | (with_reducible exact ih1 _ _ _ _ _ _)
   | (with_reducible exact ih2 _ _ _)
   | (with_reducible exact ih3 _ _)
   | (with_reducible exact cenotaphref02_Has.mono _ _ _ _)
   | (with_reducible exact LeO.refl _)
   | (with_reducible exact LeO.none _)
   | (with_reducible refine LeO.ite ?_ ?_)
   | (with_reducible refine LeO.bind ?_ (fun _ => ?_))
   | exact ih0 _ _ _ _
   | exact ih1 _ _ _ _ _ _
   | exact ih2 _ _ _
   | exact ih3 _ _
   | exact cenotaphref02_Has.mono _ _ _ _
   | exact LeO.none _
   | refine LeO.ite ?_ ?_
   | refine LeO.bind ?_ (fun _ => ?_)
def cenotaphref02_Add.T2 : Bool × List (List Nat × List Nat) := (true, [([], []), ([0], [0]), ([], []), ([], []), ([3], [3]), ([2, 4], [2, 4]), ([1, 5], [1, 5]), ([6, 5, 0, 1, 2, 3, 4, 5, 6], [6])])
def cenotaphref02_Add.B2 : List Nat := [0, 1, 0, 0, 8, 28, 63, 127]
theorem cenotaphref02_Add.tab2 : rtab .any (opsOf Try.f70 2) = cenotaphref02_Add.T2 := by kernel_rfl
theorem cenotaphref02_Add.bits2 : waitsOk cenotaphref02_Add.T2.2 cenotaphref02_Add.B2 = true := by kernel_rfl
theorem cenotaphref02_Add.calls (k : Nat) (a0_0 : Int) (A0_1 : Option Addr) (c0_1 : Nat) (l0_1 : List Int) (a1 : Int) (r1 : Int) (r2 : List Int) (w : World) (hr0_1 : Kd.C (Kd.int .i64) w A0_1 l0_1.length l0_1) (hc0_1 : l0_1.length ≤ c0_1) (h : cenotaphref02_Add.f k a0_0 l0_1 a1 = some (r1, r2)) :
  Calls Try.prog 70 #[.agg #[.int .i64 a0_0, .slice A0_1 l0_1.length c0_1], .int .i64 a1] w fun e w' => ∃ v1_ : Value, e = .returned (.agg #[.int .i64 r1, v1_]) ∧ Kd.R (Kd.int .i64) 3 w' w.heap.size (fun _ => True) v1_ r2 ∧ Below w.heap.size w w' := by
 have hu89 := Try.underlying89
 have HR0_1 := aK hr0_1
 have HC0_1 := aK hc0_1
 clear hr0_1 hc0_1
 have HB := aK (Below.refl w.heap.size w)
 have H : (if a1 < 1 then (cenotaphref02_Add.j0 k a1 true a0_0 l0_1) else (if a1 > 1048576 then (cenotaphref02_Add.j0 k a1 true a0_0 l0_1) else ((cenotaphref02_Has.f k a0_0 l0_1 a1).bind fun t601 => (cenotaphref02_Add.j0 k a1 t601 a0_0 l0_1)))) = some (r1, r2) := h
 clear h
 have HC3 := aK H
 clear H
 go_enter Try.func70, Try.ntmps70
 go_upto_region 1 with (first | ((with_reducible refine gate_dst (N := 2) rfl ?_); refine box_event ?hg (N := 2) ?hd (cs := #[.int .i64 a0_0, .slice A0_1 l0_1.length c0_1]) (t := 89) ?hr ?_; (case hd => rfl); (case hg => rfl); (case hr => first | (go_simp; done) | (go_simp; rfl)); intro gb599 hg w4 hbox hb; have BK599 := aK (hbox); have GW599 := aK (((by rw [hg]; exact (below_size zq70_2)) : w.heap.size ≤ gb599)); have GE599 := aK (((by rw [hg]; exact (below_size zq70_2)) : w.heap.size ≤ gb599)); replace HB := aK (bS zq70_2 hb); clear hb hbox hg) | ((with_reducible refine gate_dst (N := 4) rfl ?_); refine box_event ?hg (N := 4) ?hd (cs := #[.int .i64 0, .slice none 0 0]) (t := 89) ?hr ?_; (case hd => rfl); (case hg => rfl); (case hr => first | (go_simp; done) | (go_simp; rfl)); intro gb600 hg w5 hbox hb; have BK600 := aK (hbox); have GW600 := aK (((by rw [hg]; exact (below_size zq70_1)) : w.heap.size ≤ gb600)); have GE600 := aK (((by rw [hg]; exact (below_size zq70_1)) : w.heap.size ≤ gb600)); replace HB := aK (bS zq70_1 hb); have NB599_600 := aK (((by rw [hg]; exact Nat.ne_of_lt (blk_lt (g := gb599) (o := .cells #[.int .i64 a0_0, .slice A0_1 l0_1.length c0_1] 89 (0, 0)) zq70_3)) : gb599 ≠ gb600)); have NB600_599 := aK (((by rw [hg]; exact Nat.ne_of_gt (blk_lt (g := gb599) (o := .cells #[.int .i64 a0_0, .slice A0_1 l0_1.length c0_1] 89 (0, 0)) zq70_3)) : gb600 ≠ gb599)); replace BK599 := aK (bB (g := gb599) (o := .cells #[.int .i64 a0_0, .slice A0_1 l0_1.length c0_1] 89 (0, 0)) zq70_3 hb); clear hb hbox hg))
 (try simp only [Act.put, lA, lB, lC])
 go_cut [19] (fun v19 wc => ∃ (kq : Nat) (x19_2 : Bool), v19 = .bool x19_2 ∧ Aside0 (cenotaphref02_Add.j0 kq a1 x19_2 a0_0 l0_1 = some (r1, r2)) ∧ Aside0 (kq ≤ k) ∧ Aside0 (wc.heap[gb599]? = some (.cells #[.int .i64 a0_0, (.slice A0_1 l0_1.length c0_1)] 89 (0, 0))) ∧ Aside0 (wc.heap[gb600]? = some (.cells #[.int .i64 0, (.slice none 0 0)] 89 (0, 0))) ∧ Aside0 (Below w.heap.size w wc))
 case first =>
  have H := HC3.out
  clear HC3
  by_cases c6 : a1 < 1
  ·rw [if_pos c6] at H
   have c6b0 : decide (a1 < 1) = true := dT c6
   clear c6
   (first | rw [c6b0] | (simp only [i64_w, i32_w]; rw [c6b0]) | skip)
   have H' := aK H
   clear H
   go_wp2
   go_meet
   case rel => exact ⟨_, (true), zq70_7, H', ⟨by first | omega | exact Nat.le_refl _⟩, ⟨by (with_reducible repeat (first | refine blk_drewN ?_ _ | refine blk_drew ?_ | refine blk_alloc ?_ _)); exact BK599.out⟩, ⟨by (with_reducible repeat (first | refine blk_drewN ?_ _ | refine blk_drew ?_ | refine blk_alloc ?_ _)); exact BK600.out⟩, ⟨by repeat (first | (with_reducible first | exact HB.out | apply bA | apply pB | apply bW | refine below_set ?_ GE599.out | refine below_set ?_ GE600.out) | exact HB.out)⟩⟩
  ·rw [if_neg c6] at H
   have c6b0 : decide (a1 < 1) = false := decide_eq_false c6
   clear c6
   (first | rw [c6b0] | (simp only [i64_w, i32_w]; rw [c6b0]) | skip)
   by_cases c7 : a1 > 1048576
   ·rw [if_pos c7] at H
    have c7b0 : decide (1048576 < a1) = true := dT c7
    clear c7
    have H' := aK H
    clear H
    go_wp2
    go_meet
    case rel => exact ⟨_, (true), zq70_7, H', ⟨by first | omega | exact Nat.le_refl _⟩, ⟨by (with_reducible repeat (first | refine blk_drewN ?_ _ | refine blk_drew ?_ | refine blk_alloc ?_ _)); exact BK599.out⟩, ⟨by (with_reducible repeat (first | refine blk_drewN ?_ _ | refine blk_drew ?_ | refine blk_alloc ?_ _)); exact BK600.out⟩, ⟨by repeat (first | (with_reducible first | exact HB.out | apply bA | apply pB | apply bW | refine below_set ?_ GE599.out | refine below_set ?_ GE600.out) | exact HB.out)⟩⟩
   ·rw [if_neg c7] at H
    have c7b0 : decide (1048576 < a1) = false := decide_eq_false c7
    clear c7
    replace H := bM H
    obtain ⟨t601, A80, H⟩ := H
    replace H : (cenotaphref02_Add.j0 k a1 t601 a0_0 l0_1) = some (r1, r2) := H
    have A8 := aK A80
    clear A80
    have H' := aK H
    clear H
    have hnb9 := NB599_600.out
    have hnc9 := NB600_599.out
    have hcz10_0 : w5.cell? ⟨gb599, 0, none⟩ = some (.int .i64 a0_0) := (bC BK599.out 0).trans rfl
    have hcz10_1 : w5.cell? ⟨gb599, 1, none⟩ = some (.slice A0_1 l0_1.length c0_1) := (bC BK599.out 1).trans rfl
    have hfz10_0 := bF_ BK599.out 0
    have hfz10_1 := bF_ BK599.out 1
    go_wp2_with (first | (go_at_call 76; (with_reducible refine (cenotaphref02_Has.calls k a0_0 _ _ l0_1 a1 t601 _ ?side1 ?side2 A8.out).mono ?_); (case side1 => repeat (first | exact (cB HR0_1.out HB.out) | (with_reducible refine Kd.C_alloc ?_ _) | (with_reducible refine Kd.C_drewN ?_ _) | (with_reducible refine Kd.C_drew ?_))); (case side2 => exact HC0_1.out); rintro e w11 ⟨rfl, hb⟩; replace BK599 := aK (bB (g := gb599) (o := .cells #[.int .i64 a0_0, .slice A0_1 l0_1.length c0_1] 89 (0, 0)) zq70_3 hb); replace BK600 := aK (bB (g := gb600) (o := .cells #[.int .i64 0, .slice none 0 0] 89 (0, 0)) zq70_4 hb); replace HB := aK (bS zq70_0 hb); (try clear hb); (try clear hb2); (try clear hk); (try clear hi)))
    go_meet
    case rel => exact ⟨_, (t601), zq70_7, H', ⟨by first | omega | exact Nat.le_refl _⟩, ⟨by (with_reducible repeat (first | refine blk_drewN ?_ _ | refine blk_drew ?_ | refine blk_alloc ?_ _)); exact BK599.out⟩, ⟨by (with_reducible repeat (first | refine blk_drewN ?_ _ | refine blk_drew ?_ | refine blk_alloc ?_ _)); exact BK600.out⟩, ⟨by repeat (first | (with_reducible first | exact HB.out | apply bA | apply pB | apply bW | refine below_set ?_ GE599.out | refine below_set ?_ GE600.out) | exact HB.out)⟩⟩
 case rest =>
  clear HC3
  try clear p2
  try clear c6
  try clear c6b0
  try clear c7
  try clear c7b0
  try clear c9
  try clear hcz10_0
  try clear hcz10_1
  try clear hfz10_0
  try clear hfz10_1
  obtain ⟨kq, x19_2, rfl, HA, HJ2, BK599, BK600, HB⟩ := hcut
  cases kq with
  | zero => exact absurd HA.out (by simp [cenotaphref02_Add.j0])
  | succ kj2 =>
   have H := HA.out
   clear HA
   simp only [cenotaphref02_Add.j0] at H
   by_cases c12 : x19_2 = true
   ·subst c12
    have H1 : ((some (([] : List Int) : List Int)).bind fun y602 => (if y602.length + l0_1.length < 17592186044416 then (some (a0_0, (y602 ++ l0_1))) else (none))) = some (r1, r2) := by rw [if_pos rfl] at H; exact H
    clear H
    have H := H1
    clear H1
    obtain ⟨y602, hy602⟩ : ∃ y_ : List Int, y_ = (([] : List Int)) := ⟨_, rfl⟩
    replace H : (if y602.length + l0_1.length < 17592186044416 then (some (a0_0, (y602 ++ l0_1))) else (none)) = some (r1, r2) := by first | (rw [hy602]; with_reducible exact H) | (have H2_ := (Option.bind_some _ _).symm.trans H; rw [hy602]; with_reducible exact H2_) | (have H2_ := (Option.bind_some _ _).symm.trans H; with_reducible exact H2_) | with_reducible exact H | (rw [hy602]; exact H) | exact H
    have Ny602 := aK hy602
    clear hy602
    by_cases c13 : y602.length + l0_1.length < 17592186044416
    ·rw [if_pos c13] at H
     have LMc13 := aK c13
     clear c13
     obtain ⟨y605, hy605⟩ : ∃ y_ : List Int, y_ = (y602 ++ l0_1) := ⟨_, rfl⟩
     replace H : (some (a0_0, y605)) = some (r1, r2) := by first | (rw [hy605]; with_reducible exact H) | (have H2_ := (Option.bind_some _ _).symm.trans H; rw [hy605]; with_reducible exact H2_) | (have H2_ := (Option.bind_some _ _).symm.trans H; with_reducible exact H2_) | with_reducible exact H | (rw [hy605]; exact H) | exact H
     have Ny605 := aK hy605
     clear hy605
     simp only [Option.some.injEq, Prod.mk.injEq] at H
     obtain ⟨rfl, rfl⟩ := H
     try go_wp2
     replace BK599 := aK (blk_drew BK599.out)
     replace BK600 := aK (blk_drew BK600.out)
     replace HB := aK (bW HB.out)
     refine start_ (n := 8) (S := fun w' => w'.cell? ⟨gb599, 0, none⟩ = some (.int .i64 a0_0) ∧ w'.cell? ⟨gb599, 1, none⟩ = some (.slice A0_1 l0_1.length c0_1)) (ds := []) #[false, false, false, false, false, false, false, false] (by kernel_rfl) rfl rfl ⟨(bC BK599.out 0).trans rfl, (bC BK599.out 1).trans rfl⟩ (fun hHeld => ?_); refine with_tabW cenotaphref02_Add.tab2 cenotaphref02_Add.bits2 (fun HT_ HW_ => ?_)
     generalize wc.drew = w14 at BK599 BK600 HB hHeld ⊢
     refine p_ 0 20 (mk_ 8 0x1) ?_
     refine p_ 3 23 (mk_ 8 0x9) ?_
     refine t_ 1 21 (mk_ 8 0xb) hHeld ?_
     refine t_ 4 24 (mk_ 8 0x1b) hHeld ?_
     refine one_ (i := 2) (N := some 22) #[true, true, true, true, true, false, false, false] rfl rfl (one_of HT_.out (by kernel_rfl)) (by decide) (fun K hK => ?_)
     refine Kd.R_lit_step (Kd.int .i64) _ 3 ?hg (N := 22) ?hd (xs := ([] : List Int)) (inner := []) (ok := fun _ => True) (okp := fun _ => True) ?hr ?hp (fun _ hk => hk) trivial (Below.refl _ _) (Nat.le_refl _) (by simp) ?_; (case hd => rfl); (case hg => rfl); (case hr => first | (go_simp; done) | (go_simp; rfl)); (case hp => exact (Reps.none _ _))
     intro v603 w15 ho16 hb hg_ hnew_
     clear hg_ hnew_
     (first | rw [← Ny602.out] at ho16 | (simp only [Int.reduceToNat] at ho16; rw [← Ny602.out] at ho16))
     have HO604 := aK (Kd.R_lower ho16 (below_size zq70_0))
     replace BK599 := aK (bB (g := gb599) (o := .cells #[.int .i64 a0_0, .slice A0_1 l0_1.length c0_1] 89 (0, 0)) zq70_3 hb)
     replace BK600 := aK (bB (g := gb600) (o := .cells #[.int .i64 0, .slice none 0 0] 89 (0, 0)) zq70_4 hb)
     replace HB := aK (bS zq70_0 hb)
     clear hb ho16
     refine hK.out _ _ ⟨(bC BK599.out 0).trans rfl, (bC BK599.out 1).trans rfl⟩ (fun hHeld => ?_)
     clear hK K
     refine norm_ (a' := ?_) ?_ ?_
     rotate_left
     ·show Act.put _ (some 22) _ = _
      simp only [Act.put, lA, lB, lC, i64_w, i32_w]
      rfl
     refine one_ (i := 5) (N := some 25) #[true, true, true, true, true, true, false, false] rfl rfl (one_of HT_.out (by kernel_rfl)) (by decide) (fun K hK => ?_)
     refine Kd.R_append_rows_step (Kd.int .i64) (w0 := w) w.heap.size (by rfl) (.tmp 22) (.tmp 24) 57 3 (.int .i64 0) 8 rfl Try.underlying57 info3 rfl (by decide) (by omega) v603 y602 l0_1 _ _ _ (fun _ => True) (fun _ => False) rfl rfl ?aO ?aR (fun _ _ h => h) (fun _ h => h.elim) ?aF ?aB ?aS ?aL ?_
     (case aR => repeat (first | exact (cB HR0_1.out HB.out) | (with_reducible refine Kd.C_alloc ?_ _) | (with_reducible refine Kd.C_drewN ?_ _) | (with_reducible refine Kd.C_drew ?_)))
     (case aB => exact zq70_0)
     (case aF => exact (fun _ _ => trivial))
     (case aO => exact (by (with_reducible repeat (first | apply Kd.R_alloc | apply Kd.R_drewN | apply Kd.R_drew)); exact HO604.out))
     (case aS => exact (below_size zq70_0))
     (case aL => have := LMc13.out; omega)
     intro v606 w17 ho hb hg hat
     rw [← Ny605.out] at ho
     replace BK599 := aK (blk_grown (g := gb599) (o := .cells #[.int .i64 a0_0, .slice A0_1 l0_1.length c0_1] 89 (0, 0)) zq70_3 hg (Kd.R_ne HO604.out BK599.out (by decide)))
     replace BK600 := aK (blk_grown (g := gb600) (o := .cells #[.int .i64 0, .slice none 0 0] 89 (0, 0)) zq70_4 hg (Kd.R_ne HO604.out BK600.out (by decide)))
     replace HB := aK (hb)
     have HO607 := aK (ho)
     clear HO604
     clear ho hb hg hat
     obtain ⟨Ao18, co18, eo18⟩ := Kd.R_slice HO607.out
     (first | subst eo18 | (injection eo18 with f1_ f2_ f3_; have f4_ := f1_.symm; have f5_ := f3_.symm; clear f1_ f2_ f3_; subst f4_; subst f5_))
     refine hK.out _ _ ⟨(bC BK599.out 0).trans rfl, (bC BK599.out 1).trans rfl⟩ (fun hHeld => ?_)
     clear hK K
     refine norm_ (a' := ?_) ?_ ?_
     rotate_left
     ·show Act.put _ (some 25) _ = _
      simp only [Act.put, lA, lB, lC, i64_w, i32_w]
      rfl
     refine p_ 6 26 (mk_ 8 0x7f) ?_
     refine one_ (i := 7) (N := none) #[true, true, true, true, true, true, true, true] rfl rfl (one_of HT_.out (by kernel_rfl)) (by decide) (fun K hK => ?_)
     have hs19 : w17.cell? ⟨gb600, 0, none⟩ = some (.int .i64 0) := (bC BK600.out 0).trans rfl
     have hfs19 := bF_ BK600.out 0
     have hns19_0 := NB599_600.out
     have hms19_0 := NB600_599.out
     have hs20 : w17.cell? ⟨gb600, 1, none⟩ = some (.slice none 0 0) := (bC BK600.out 1).trans rfl
     have hfs20 := bF_ BK600.out 1
     have hns20_0 := NB599_600.out
     have hms20_0 := NB600_599.out
     refine skip_ (w1 := ?_) (by rfl) rfl ?_ ?_
     rotate_left
     ·go_simp
      rfl
     refine hK.out _ _ ⟨((cell_far (p := ⟨gb600, _, none⟩) NB599_600.out _).trans (((cell_far (p := ⟨gb600, _, none⟩) NB599_600.out _).trans (hHeld.1)))), ((cell_far (p := ⟨gb600, _, none⟩) NB599_600.out _).trans (((cell_far (p := ⟨gb600, _, none⟩) NB599_600.out _).trans (hHeld.2))))⟩ (fun hHeld => ?_)
     clear hK K
     refine done_ (done_of HT_.out (by kernel_rfl)) ?_
     try go_wp2
     refine bodyPost_ret (results_cell_row rfl _ _ gb600 89 #[.int .i64 a0_0, .slice Ao18 y605.length co18] (0, 0) _ rfl (by (with_reducible repeat (first | refine blk_drewN ?_ _ | refine blk_drew ?_ | refine blk_alloc ?_ _)); refine blk_put (cs := #[.int .i64 a0_0, .slice none 0 0]) ?_ 1 _ rfl; (with_reducible repeat (first | refine blk_drewN ?_ _ | refine blk_drew ?_ | refine blk_alloc ?_ _)); refine blk_put (cs := #[.int .i64 0, .slice none 0 0]) ?_ 0 _ rfl; (with_reducible repeat (first | refine blk_drewN ?_ _ | refine blk_drew ?_ | refine blk_alloc ?_ _)); exact BK600.out) Try.underlying89 rfl (by kernel_rfl)) rfl ?_
     exact ⟨_, by first | rfl | (simp [errW_none, errW_some] <;> rfl) | (simp [*, errW_none, errW_some] <;> rfl), by (with_reducible repeat (first | apply Kd.R_alloc | apply Kd.R_drewN | apply Kd.R_drew)); exact Kd.R_mono (Kd.R_far (p := ⟨gb600, 1, none⟩) (Kd.R_far (p := ⟨gb600, 0, none⟩) (Kd.R_types HO607.out BK600.out (by decide)) (fun _ hk => hk.2) (.int .i64 a0_0)) (fun _ hk => hk.2) (.slice Ao18 y605.length co18)) (fun _ hk => trivial), by repeat (first | (with_reducible first | exact HB.out | apply bA | apply pB | apply bW | refine below_set ?_ GE599.out | refine below_set ?_ GE600.out) | exact HB.out)⟩
    ·rw [if_neg c13] at H
     exact absurd H (by simp)
   ·replace c12 := Bool.eq_false_iff.mpr c12
    subst c12
    have H1 : (cenotaphref02_Add.l0 kj2 a1 ([] : List Int) false 0 a0_0 l0_1) = some (r1, r2) := by rw [if_neg (show ¬ (false = true) by decide)] at H; exact H
    clear H
    have H := H1
    clear H1
    have H' := aK H
    clear H
    go_wp2
    go_loopg [5, 6, 7] kj2 (fun kq v5 v6 v7 w' => ∃ (x5_2 : List Int) (x6_2 : Bool) (x7_2 : Int), v6 = .bool x6_2 ∧ v7 = .int .i64 x7_2 ∧ Aside0 (cenotaphref02_Add.l0 kq a1 x5_2 x6_2 x7_2 a0_0 l0_1 = some (r1, r2)) ∧ Aside0 (kq ≤ kj2) ∧ Aside0 (Kd.Q (Kd.int .i64) 3 w' w.heap.size (fun _ => True) v5 x5_2) ∧ Aside0 (w'.heap[gb599]? = some (.cells #[.int .i64 a0_0, (.slice A0_1 l0_1.length c0_1)] 89 (0, 0))) ∧ Aside0 (w'.heap[gb600]? = some (.cells #[.int .i64 0, (.slice none 0 0)] 89 (0, 0))) ∧ Aside0 (Below w.heap.size w w'))
    case atStart => exact ⟨(([] : List Int)), (false), (0), zq70_7, zq70_7, H', ⟨Nat.le_refl _⟩, ⟨Kd.Q_of_R (by first | exact Kd.R_nil _ _ _ _ _ | exact Kd.N_nil _ _ _ _ _ | exact Kd.V_nil _ _ _ _ _ | exact Kd.Q_nil _ _ _ _ _ | exact Kd.S_nil _ _ _ _ _)⟩, ⟨by (with_reducible repeat (first | refine blk_drewN ?_ _ | refine blk_drew ?_ | refine blk_alloc ?_ _)); exact BK599.out⟩, ⟨by (with_reducible repeat (first | refine blk_drewN ?_ _ | refine blk_drew ?_ | refine blk_alloc ?_ _)); exact BK600.out⟩, ⟨by repeat (first | (with_reducible first | exact HB.out | apply bA | apply pB | apply bW | refine below_set ?_ GE599.out | refine below_set ?_ GE600.out) | exact HB.out)⟩⟩
    case round =>
     clear H'
     try clear c1
     try clear p2
     try clear c6
     try clear c6b0
     try clear c7
     try clear c7b0
     try clear c9
     try clear c12
     try clear c13
     try clear hcz10_0
     try clear hcz10_1
     try clear hfz10_0
     try clear hfz10_1
     try clear p2
     obtain ⟨x5_2, x6_2, x7_2, rfl, rfl, HA, HK2, HO_5, BK599, BK600, HB⟩ := hrel
     cases gk with
     | zero => exact absurd HA.out (by simp [cenotaphref02_Add.l0])
     | succ k2 =>
      have H := HA.out
      clear HA
      simp only [cenotaphref02_Add.l0] at H
      by_cases c21 : x7_2 < (l0_1.length : Int)
      ·rw [if_pos c21] at H
       have c21b0 : decide (x7_2 < (l0_1.length : Int)) = true := dT c21
       clear c21
       by_cases c22 : x6_2 = true
       ·subst c22
        have H1 : (if 0 ≤ x7_2 then (if x5_2.length < 17592186044416 then (cenotaphref02_Add.l0 k2 a1 (x5_2 ++ [rd l0_1 x7_2]) true (wrap64 (x7_2 + 1)) a0_0 l0_1) else (none)) else (none)) = some (r1, r2) := by rw [if_pos rfl] at H; exact H
        clear H
        have H := H1
        clear H1
        by_cases c23 : 0 ≤ x7_2
        ·rw [if_pos c23] at H
         have c23b0 : decide (0 ≤ x7_2) = true := dT c23
         clear c23
         by_cases c24 : x5_2.length < 17592186044416
         ·rw [if_pos c24] at H
          have LMc24 := aK c24
          clear c24
          obtain ⟨y609, hy609⟩ : ∃ y_ : List Int, y_ = (x5_2 ++ [rd l0_1 x7_2]) := ⟨_, rfl⟩
          replace H : (cenotaphref02_Add.l0 k2 a1 y609 true (wrap64 (x7_2 + 1)) a0_0 l0_1) = some (r1, r2) := by first | (rw [hy609]; with_reducible exact H) | (have H2_ := (Option.bind_some _ _).symm.trans H; rw [hy609]; with_reducible exact H2_) | (have H2_ := (Option.bind_some _ _).symm.trans H; with_reducible exact H2_) | with_reducible exact H | (rw [hy609]; exact H) | exact H
          have Ny609 := aK hy609
          clear hy609
          have H' := aK H
          clear H
          have hnb25 := NB599_600.out
          have hnc25 := NB600_599.out
          have hcz26_0 : wr.cell? ⟨gb599, 0, none⟩ = some (.int .i64 a0_0) := (bC BK599.out 0).trans rfl
          have hcz26_1 : wr.cell? ⟨gb599, 1, none⟩ = some (.slice A0_1 l0_1.length c0_1) := (bC BK599.out 1).trans rfl
          have hfz26_0 := bF_ BK599.out 0
          have hfz26_1 := bF_ BK599.out 1
          have p608 : 0 ≤ (x7_2 : Int) := oD zq70_6
          have q608 : x7_2 < (l0_1.length : Int) := oD zq70_6
          obtain ⟨ad608, e608, hx608_0⟩ := Kd.at_int HR0_1.out x7_2 p608 q608
          cases e608
          replace hx608_0 := pc_ HB hx608_0
          replace p608 := eT p608
          replace q608 := eT q608
          go_wp2_with (first | ((with_reducible refine gate_builtin (b := .append) (xs := #[.tmp 49, .tmp 55]) rfl ?_); at_builtin; refine Kd.Q_append (Kd.int .i64) (w0 := w) w.heap.size rfl (.tmp 49) (.tmp 55) 57 3 (.int .i64 0) 8 rfl Try.underlying57 info3 rfl (by decide) (by omega) u5 x5_2 (rd l0_1 x7_2) [.int .i64 (rd l0_1 x7_2)] (fun _ => True) (fun _ => False) rfl rfl ?aP (fun _ hk => hk.elim) ?aF ?aO ?aB ?aS ?aL ?_; (case aP => exact rfl); (case aB => exact zq70_0); (case aF => exact (fun _ _ => trivial)); (case aO => exact zq70_5); (case aS => exact (below_size zq70_0)); (case aL => have := LMc24.out; omega); intro v610 w27 ho hb hg hat; rw [← Ny609.out] at ho; replace BK599 := aK (blk_grown (g := gb599) (o := .cells #[.int .i64 a0_0, .slice (some ad608) l0_1.length c0_1] 89 (0, 0)) zq70_3 hg (Kd.Q_ne HO_5.out BK599.out (by decide))); replace BK600 := aK (blk_grown (g := gb600) (o := .cells #[.int .i64 0, .slice none 0 0] 89 (0, 0)) zq70_4 hg (Kd.Q_ne HO_5.out BK600.out (by decide))); replace HB := aK (hb); have HO611 := aK (ho); clear HO_5; clear ho hb hg hat))
          go_roundg k2
          case measure => have := HJ2.out; have := HK2.out; omega
          case rel => exact ⟨(y609), (true), (wrap64 (x7_2 + 1)), zq70_7, zq70_7, H', ⟨by have := HJ2.out; have := HK2.out; omega⟩, ⟨by (with_reducible repeat (first | apply Kd.Q_alloc | apply Kd.Q_drewN | apply Kd.Q_drew)); exact HO611.out⟩, ⟨by (with_reducible repeat (first | refine blk_drewN ?_ _ | refine blk_drew ?_ | refine blk_alloc ?_ _)); exact BK599.out⟩, ⟨by (with_reducible repeat (first | refine blk_drewN ?_ _ | refine blk_drew ?_ | refine blk_alloc ?_ _)); exact BK600.out⟩, ⟨by repeat (first | (with_reducible first | exact HB.out | apply bA | apply pB | apply bW | refine below_set ?_ GE599.out | refine below_set ?_ GE600.out) | exact HB.out)⟩⟩
         ·rw [if_neg c24] at H
          exact absurd H (by simp)
        ·rw [if_neg c23] at H
         exact absurd H (by simp)
       ·replace c22 := Bool.eq_false_iff.mpr c22
        subst c22
        have H1 : (if 0 ≤ x7_2 then (if (rd l0_1 x7_2) > a1 then (if x5_2.length < 17592186044416 then ((some (x5_2 ++ [a1] : List Int)).bind fun y613 => (if y613.length < 17592186044416 then (cenotaphref02_Add.l0 k2 a1 (y613 ++ [rd l0_1 x7_2]) true (wrap64 (x7_2 + 1)) a0_0 l0_1) else (none))) else (none)) else (if x5_2.length < 17592186044416 then (cenotaphref02_Add.l0 k2 a1 (x5_2 ++ [rd l0_1 x7_2]) false (wrap64 (x7_2 + 1)) a0_0 l0_1) else (none))) else (none)) = some (r1, r2) := by rw [if_neg (show ¬ (false = true) by decide)] at H; exact H
        clear H
        have H := H1
        clear H1
        by_cases c28 : 0 ≤ x7_2
        ·rw [if_pos c28] at H
         have c28b0 : decide (0 ≤ x7_2) = true := dT c28
         clear c28
         by_cases c29 : (rd l0_1 x7_2) > a1
         ·rw [if_pos c29] at H
          have c29b0 : decide (a1 < (rd l0_1 x7_2)) = true := dT c29
          clear c29
          by_cases c30 : x5_2.length < 17592186044416
          ·rw [if_pos c30] at H
           have LMc30 := aK c30
           clear c30
           obtain ⟨y613, hy613⟩ : ∃ y_ : List Int, y_ = (x5_2 ++ [a1]) := ⟨_, rfl⟩
           replace H : (if y613.length < 17592186044416 then (cenotaphref02_Add.l0 k2 a1 (y613 ++ [rd l0_1 x7_2]) true (wrap64 (x7_2 + 1)) a0_0 l0_1) else (none)) = some (r1, r2) := by first | (rw [hy613]; with_reducible exact H) | (have H2_ := (Option.bind_some _ _).symm.trans H; rw [hy613]; with_reducible exact H2_) | (have H2_ := (Option.bind_some _ _).symm.trans H; with_reducible exact H2_) | with_reducible exact H | (rw [hy613]; exact H) | exact H
           have Ny613 := aK hy613
           clear hy613
           by_cases c31 : y613.length < 17592186044416
           ·rw [if_pos c31] at H
            have LMc31 := aK c31
            clear c31
            obtain ⟨y617, hy617⟩ : ∃ y_ : List Int, y_ = (y613 ++ [rd l0_1 x7_2]) := ⟨_, rfl⟩
            replace H : (cenotaphref02_Add.l0 k2 a1 y617 true (wrap64 (x7_2 + 1)) a0_0 l0_1) = some (r1, r2) := by first | (rw [hy617]; with_reducible exact H) | (have H2_ := (Option.bind_some _ _).symm.trans H; rw [hy617]; with_reducible exact H2_) | (have H2_ := (Option.bind_some _ _).symm.trans H; with_reducible exact H2_) | with_reducible exact H | (rw [hy617]; exact H) | exact H
            have Ny617 := aK hy617
            clear hy617
            have H' := aK H
            clear H
            have hnb32 := NB599_600.out
            have hnc32 := NB600_599.out
            have hcz33_0 : wr.cell? ⟨gb599, 0, none⟩ = some (.int .i64 a0_0) := (bC BK599.out 0).trans rfl
            have hcz33_1 : wr.cell? ⟨gb599, 1, none⟩ = some (.slice A0_1 l0_1.length c0_1) := (bC BK599.out 1).trans rfl
            have hfz33_0 := bF_ BK599.out 0
            have hfz33_1 := bF_ BK599.out 1
            have p612 : 0 ≤ (x7_2 : Int) := oD zq70_6
            have q612 : x7_2 < (l0_1.length : Int) := oD zq70_6
            obtain ⟨ad612, e612, hx612_0⟩ := Kd.at_int HR0_1.out x7_2 p612 q612
            cases e612
            replace hx612_0 := pc_ HB hx612_0
            replace p612 := eT p612
            replace q612 := eT q612
            go_wp2_with (first | ((with_reducible refine gate_builtin (b := .append) (xs := #[.tmp 45, .tmp 47]) rfl ?_); at_builtin; refine Kd.Q_append (Kd.int .i64) (w0 := w) w.heap.size rfl (.tmp 45) (.tmp 47) 57 3 (.int .i64 0) 8 rfl Try.underlying57 info3 rfl (by decide) (by omega) u5 x5_2 a1 [.int .i64 a1] (fun _ => True) (fun _ => False) rfl rfl ?aP (fun _ hk => hk.elim) ?aF ?aO ?aB ?aS ?aL ?_; (case aP => exact rfl); (case aB => exact zq70_0); (case aF => exact (fun _ _ => trivial)); (case aO => exact zq70_5); (case aS => exact (below_size zq70_0)); (case aL => have := LMc30.out; omega); intro v614 w34 ho hb hg hat; rw [← Ny613.out] at ho; replace BK599 := aK (blk_grown (g := gb599) (o := .cells #[.int .i64 a0_0, .slice (some ad612) l0_1.length c0_1] 89 (0, 0)) zq70_3 hg (Kd.Q_ne HO_5.out BK599.out (by decide))); replace BK600 := aK (blk_grown (g := gb600) (o := .cells #[.int .i64 0, .slice none 0 0] 89 (0, 0)) zq70_4 hg (Kd.Q_ne HO_5.out BK600.out (by decide))); replace HB := aK (hb); have HO615 := aK (ho); clear HO_5; clear ho hb hg hat; have hcz35_0 : w34.cell? ⟨gb599, 0, none⟩ = some (.int .i64 a0_0) := (bC BK599.out 0).trans rfl; have hcz35_1 : w34.cell? ⟨gb599, 1, none⟩ = some (.slice (some ad612) l0_1.length c0_1) := (bC BK599.out 1).trans rfl; have hfz35_0 := bF_ BK599.out 0; have hfz35_1 := bF_ BK599.out 1; have p616 : 0 ≤ (x7_2 : Int) := oD zq70_6; have q616 : x7_2 < (l0_1.length : Int) := oD zq70_6; obtain ⟨ad616, e616, hx616_0⟩ := Kd.at_int HR0_1.out x7_2 p616 q616; obtain rfl : ad612 = ad616 := (by injection e616); replace hx616_0 := pc_ HB hx616_0; replace p616 := eT p616; replace q616 := eT q616) | ((with_reducible refine gate_builtin (b := .append) (xs := #[.tmp 49, .tmp 55]) rfl ?_); at_builtin; refine Kd.Q_append (Kd.int .i64) (w0 := w) w.heap.size rfl (.tmp 49) (.tmp 55) 57 3 (.int .i64 0) 8 rfl Try.underlying57 info3 rfl (by decide) (by omega) v614 y613 (rd l0_1 x7_2) [.int .i64 (rd l0_1 x7_2)] (fun _ => True) (fun _ => False) rfl rfl ?aP (fun _ hk => hk.elim) ?aF ?aO ?aB ?aS ?aL ?_; (case aP => exact rfl); (case aB => exact zq70_0); (case aF => exact (fun _ _ => trivial)); (case aO => exact (by (with_reducible repeat (first | apply Kd.Q_alloc | apply Kd.Q_drewN | apply Kd.Q_drew)); exact HO615.out)); (case aS => exact (below_size zq70_0)); (case aL => have := LMc31.out; omega); intro v618 w36 ho hb hg hat; rw [← Ny617.out] at ho; replace BK599 := aK (blk_grown (g := gb599) (o := .cells #[.int .i64 a0_0, .slice (some ad612) l0_1.length c0_1] 89 (0, 0)) zq70_3 hg (Kd.Q_ne HO615.out BK599.out (by decide))); replace BK600 := aK (blk_grown (g := gb600) (o := .cells #[.int .i64 0, .slice none 0 0] 89 (0, 0)) zq70_4 hg (Kd.Q_ne HO615.out BK600.out (by decide))); replace HB := aK (hb); have HO619 := aK (ho); clear HO615; clear ho hb hg hat))
            go_roundg k2
            case measure => have := HJ2.out; have := HK2.out; omega
            case rel => exact ⟨(y617), (true), (wrap64 (x7_2 + 1)), zq70_7, zq70_7, H', ⟨by have := HJ2.out; have := HK2.out; omega⟩, ⟨by (with_reducible repeat (first | apply Kd.Q_alloc | apply Kd.Q_drewN | apply Kd.Q_drew)); exact HO619.out⟩, ⟨by (with_reducible repeat (first | refine blk_drewN ?_ _ | refine blk_drew ?_ | refine blk_alloc ?_ _)); exact BK599.out⟩, ⟨by (with_reducible repeat (first | refine blk_drewN ?_ _ | refine blk_drew ?_ | refine blk_alloc ?_ _)); exact BK600.out⟩, ⟨by repeat (first | (with_reducible first | exact HB.out | apply bA | apply pB | apply bW | refine below_set ?_ GE599.out | refine below_set ?_ GE600.out) | exact HB.out)⟩⟩
           ·rw [if_neg c31] at H
            exact absurd H (by simp)
          ·rw [if_neg c30] at H
           exact absurd H (by simp)
         ·rw [if_neg c29] at H
          have c29b0 : decide (a1 < (rd l0_1 x7_2)) = false := decide_eq_false c29
          clear c29
          by_cases c37 : x5_2.length < 17592186044416
          ·rw [if_pos c37] at H
           have LMc37 := aK c37
           clear c37
           obtain ⟨y621, hy621⟩ : ∃ y_ : List Int, y_ = (x5_2 ++ [rd l0_1 x7_2]) := ⟨_, rfl⟩
           replace H : (cenotaphref02_Add.l0 k2 a1 y621 false (wrap64 (x7_2 + 1)) a0_0 l0_1) = some (r1, r2) := by first | (rw [hy621]; with_reducible exact H) | (have H2_ := (Option.bind_some _ _).symm.trans H; rw [hy621]; with_reducible exact H2_) | (have H2_ := (Option.bind_some _ _).symm.trans H; with_reducible exact H2_) | with_reducible exact H | (rw [hy621]; exact H) | exact H
           have Ny621 := aK hy621
           clear hy621
           have H' := aK H
           clear H
           have hnb38 := NB599_600.out
           have hnc38 := NB600_599.out
           have hcz39_0 : wr.cell? ⟨gb599, 0, none⟩ = some (.int .i64 a0_0) := (bC BK599.out 0).trans rfl
           have hcz39_1 : wr.cell? ⟨gb599, 1, none⟩ = some (.slice A0_1 l0_1.length c0_1) := (bC BK599.out 1).trans rfl
           have hfz39_0 := bF_ BK599.out 0
           have hfz39_1 := bF_ BK599.out 1
           have p612 : 0 ≤ (x7_2 : Int) := oD zq70_6
           have q612 : x7_2 < (l0_1.length : Int) := oD zq70_6
           obtain ⟨ad612, e612, hx612_0⟩ := Kd.at_int HR0_1.out x7_2 p612 q612
           cases e612
           replace hx612_0 := pc_ HB hx612_0
           replace p612 := eT p612
           replace q612 := eT q612
           have p620 : 0 ≤ (x7_2 : Int) := oD zq70_6
           have q620 : x7_2 < (l0_1.length : Int) := oD zq70_6
           obtain ⟨ad620, e620, hx620_0⟩ := Kd.at_int HR0_1.out x7_2 p620 q620
           obtain rfl : ad612 = ad620 := (by injection e620)
           replace hx620_0 := pc_ HB hx620_0
           replace p620 := eT p620
           replace q620 := eT q620
           go_wp2_with (first | ((with_reducible refine gate_builtin (b := .append) (xs := #[.tmp 49, .tmp 55]) rfl ?_); at_builtin; refine Kd.Q_append (Kd.int .i64) (w0 := w) w.heap.size rfl (.tmp 49) (.tmp 55) 57 3 (.int .i64 0) 8 rfl Try.underlying57 info3 rfl (by decide) (by omega) u5 x5_2 (rd l0_1 x7_2) [.int .i64 (rd l0_1 x7_2)] (fun _ => True) (fun _ => False) rfl rfl ?aP (fun _ hk => hk.elim) ?aF ?aO ?aB ?aS ?aL ?_; (case aP => exact rfl); (case aB => exact zq70_0); (case aF => exact (fun _ _ => trivial)); (case aO => exact zq70_5); (case aS => exact (below_size zq70_0)); (case aL => have := LMc37.out; omega); intro v622 w40 ho hb hg hat; rw [← Ny621.out] at ho; replace BK599 := aK (blk_grown (g := gb599) (o := .cells #[.int .i64 a0_0, .slice (some ad612) l0_1.length c0_1] 89 (0, 0)) zq70_3 hg (Kd.Q_ne HO_5.out BK599.out (by decide))); replace BK600 := aK (blk_grown (g := gb600) (o := .cells #[.int .i64 0, .slice none 0 0] 89 (0, 0)) zq70_4 hg (Kd.Q_ne HO_5.out BK600.out (by decide))); replace HB := aK (hb); have HO623 := aK (ho); clear HO_5; clear ho hb hg hat))
           go_roundg k2
           case measure => have := HJ2.out; have := HK2.out; omega
           case rel => exact ⟨(y621), (false), (wrap64 (x7_2 + 1)), zq70_7, zq70_7, H', ⟨by have := HJ2.out; have := HK2.out; omega⟩, ⟨by (with_reducible repeat (first | apply Kd.Q_alloc | apply Kd.Q_drewN | apply Kd.Q_drew)); exact HO623.out⟩, ⟨by (with_reducible repeat (first | refine blk_drewN ?_ _ | refine blk_drew ?_ | refine blk_alloc ?_ _)); exact BK599.out⟩, ⟨by (with_reducible repeat (first | refine blk_drewN ?_ _ | refine blk_drew ?_ | refine blk_alloc ?_ _)); exact BK600.out⟩, ⟨by repeat (first | (with_reducible first | exact HB.out | apply bA | apply pB | apply bW | refine below_set ?_ GE599.out | refine below_set ?_ GE600.out) | exact HB.out)⟩⟩
          ·rw [if_neg c37] at H
           exact absurd H (by simp)
        ·rw [if_neg c28] at H
         exact absurd H (by simp)
      ·rw [if_neg c21] at H
       have c21b0 : decide (x7_2 < (l0_1.length : Int)) = false := decide_eq_false c21
       clear c21
       have HC41 := aK H
       clear H
       have hnb42 := NB599_600.out
       have hnc42 := NB600_599.out
       have hcz43_0 : wr.cell? ⟨gb599, 0, none⟩ = some (.int .i64 a0_0) := (bC BK599.out 0).trans rfl
       have hcz43_1 : wr.cell? ⟨gb599, 1, none⟩ = some (.slice A0_1 l0_1.length c0_1) := (bC BK599.out 1).trans rfl
       have hfz43_0 := bF_ BK599.out 0
       have hfz43_1 := bF_ BK599.out 1
       go_upto_if 58 with (fail)
       go_cut [5] (fun v5 wc => ∃ (kq : Nat) (x5_40 : List Int), Aside0 (cenotaphref02_Add.j2 kq x5_40 a0_0 l0_1 = some (r1, r2)) ∧ Aside0 (kq ≤ k2) ∧ Aside0 (Kd.Q (Kd.int .i64) 3 wc w.heap.size (fun _ => True) v5 x5_40) ∧ Aside0 (wc.heap[gb599]? = some (.cells #[.int .i64 a0_0, (.slice A0_1 l0_1.length c0_1)] 89 (0, 0))) ∧ Aside0 (wc.heap[gb600]? = some (.cells #[.int .i64 0, (.slice none 0 0)] 89 (0, 0))) ∧ Aside0 (Below w.heap.size w wc))
       case first =>
        have H := HC41.out
        clear HC41
        by_cases c44 : x6_2 = true
        ·subst c44
         have H1 : (cenotaphref02_Add.j2 k2 x5_2 a0_0 l0_1) = some (r1, r2) := by rw [if_pos rfl] at H; exact H
         clear H
         have H := H1
         clear H1
         have H' := aK H
         clear H
         go_wp2
         go_meet
         case rel => exact ⟨_, (x5_2), H', ⟨by have := HJ2.out; have := HK2.out; first | omega | exact Nat.le_refl _⟩, ⟨by (with_reducible repeat (first | apply Kd.Q_alloc | apply Kd.Q_drewN | apply Kd.Q_drew)); exact HO_5.out⟩, ⟨by (with_reducible repeat (first | refine blk_drewN ?_ _ | refine blk_drew ?_ | refine blk_alloc ?_ _)); exact BK599.out⟩, ⟨by (with_reducible repeat (first | refine blk_drewN ?_ _ | refine blk_drew ?_ | refine blk_alloc ?_ _)); exact BK600.out⟩, ⟨by repeat (first | (with_reducible first | exact HB.out | apply bA | apply pB | apply bW | refine below_set ?_ GE599.out | refine below_set ?_ GE600.out) | exact HB.out)⟩⟩
        ·replace c44 := Bool.eq_false_iff.mpr c44
         subst c44
         have H1 : (if x5_2.length < 17592186044416 then (cenotaphref02_Add.j2 k2 (x5_2 ++ [a1]) a0_0 l0_1) else (none)) = some (r1, r2) := by rw [if_neg (show ¬ (false = true) by decide)] at H; exact H
         clear H
         have H := H1
         clear H1
         by_cases c45 : x5_2.length < 17592186044416
         ·rw [if_pos c45] at H
          have LMc45 := aK c45
          clear c45
          obtain ⟨y624, hy624⟩ : ∃ y_ : List Int, y_ = (x5_2 ++ [a1]) := ⟨_, rfl⟩
          replace H : (cenotaphref02_Add.j2 k2 y624 a0_0 l0_1) = some (r1, r2) := by first | (rw [hy624]; with_reducible exact H) | (have H2_ := (Option.bind_some _ _).symm.trans H; rw [hy624]; with_reducible exact H2_) | (have H2_ := (Option.bind_some _ _).symm.trans H; with_reducible exact H2_) | with_reducible exact H | (rw [hy624]; exact H) | exact H
          have Ny624 := aK hy624
          clear hy624
          have H' := aK H
          clear H
          go_wp2_with (first | ((with_reducible refine gate_builtin (b := .append) (xs := #[.tmp 59, .tmp 61]) rfl ?_); at_builtin; refine Kd.Q_append (Kd.int .i64) (w0 := w) w.heap.size rfl (.tmp 59) (.tmp 61) 57 3 (.int .i64 0) 8 rfl Try.underlying57 info3 rfl (by decide) (by omega) u5 x5_2 a1 [.int .i64 a1] (fun _ => True) (fun _ => False) rfl rfl ?aP (fun _ hk => hk.elim) ?aF ?aO ?aB ?aS ?aL ?_; (case aP => exact rfl); (case aB => exact zq70_0); (case aF => exact (fun _ _ => trivial)); (case aO => exact zq70_5); (case aS => exact (below_size zq70_0)); (case aL => have := LMc45.out; omega); intro v625 w46 ho hb hg hat; rw [← Ny624.out] at ho; replace BK599 := aK (blk_grown (g := gb599) (o := .cells #[.int .i64 a0_0, .slice A0_1 l0_1.length c0_1] 89 (0, 0)) zq70_3 hg (Kd.Q_ne HO_5.out BK599.out (by decide))); replace BK600 := aK (blk_grown (g := gb600) (o := .cells #[.int .i64 0, .slice none 0 0] 89 (0, 0)) zq70_4 hg (Kd.Q_ne HO_5.out BK600.out (by decide))); replace HB := aK (hb); have HO626 := aK (ho); clear HO_5; clear ho hb hg hat))
          go_meet
          case rel => exact ⟨_, (y624), H', ⟨by have := HJ2.out; have := HK2.out; first | omega | exact Nat.le_refl _⟩, ⟨by (with_reducible repeat (first | apply Kd.Q_alloc | apply Kd.Q_drewN | apply Kd.Q_drew)); exact HO626.out⟩, ⟨by (with_reducible repeat (first | refine blk_drewN ?_ _ | refine blk_drew ?_ | refine blk_alloc ?_ _)); exact BK599.out⟩, ⟨by (with_reducible repeat (first | refine blk_drewN ?_ _ | refine blk_drew ?_ | refine blk_alloc ?_ _)); exact BK600.out⟩, ⟨by repeat (first | (with_reducible first | exact HB.out | apply bA | apply pB | apply bW | refine below_set ?_ GE599.out | refine below_set ?_ GE600.out) | exact HB.out)⟩⟩
         ·rw [if_neg c45] at H
          exact absurd H (by simp)
       case rest =>
        clear HC41
        try clear c1
        try clear c2
        try clear p2
        try clear c3
        try clear c4
        try clear c6
        try clear c6b0
        try clear p6
        try clear q6
        try clear hx6
        try clear c7
        try clear c7b0
        try clear c9
        try clear c12
        try clear c13
        try clear c21
        try clear c21b0
        try clear c22
        try clear c23
        try clear c23b0
        try clear c24
        try clear c25
        try clear c28
        try clear c28b0
        try clear c29
        try clear c29b0
        try clear c30
        try clear c31
        try clear c32
        try clear c37
        try clear c38
        try clear c42
        try clear c44
        try clear c45
        try clear hcz10_0
        try clear hcz10_1
        try clear hcz26_0
        try clear hcz26_1
        try clear hcz33_0
        try clear hcz33_1
        try clear hcz35_0
        try clear hcz35_1
        try clear hcz39_0
        try clear hcz39_1
        try clear hcz43_0
        try clear hcz43_1
        try clear hfz10_0
        try clear hfz10_1
        try clear hfz26_0
        try clear hfz26_1
        try clear hfz33_0
        try clear hfz33_1
        try clear hfz35_0
        try clear hfz35_1
        try clear hfz39_0
        try clear hfz39_1
        try clear hfz43_0
        try clear hfz43_1
        try clear hx608_0
        try clear hx612_0
        try clear hx616_0
        try clear hx620_0
        try clear p2
        try clear p608
        try clear p612
        try clear p616
        try clear p620
        try clear q608
        try clear q612
        try clear q616
        try clear q620
        obtain ⟨kq, x5_40, HA, HJ40, HO_5, BK599, BK600, HB⟩ := hcut
        cases kq with
        | zero => exact absurd HA.out (by simp [cenotaphref02_Add.j2])
        | succ kj40 =>
         have H := HA.out
         clear HA
         simp only [cenotaphref02_Add.j2] at H
         have H' := aK H
         clear H
         have hnb47 := NB599_600.out
         have hnc47 := NB600_599.out
         have hcz48_0 : wc.cell? ⟨gb599, 0, none⟩ = some (.int .i64 a0_0) := (bC BK599.out 0).trans rfl
         have hcz48_1 : wc.cell? ⟨gb599, 1, none⟩ = some (.slice A0_1 l0_1.length c0_1) := (bC BK599.out 1).trans rfl
         have hfz48_0 := bF_ BK599.out 0
         have hfz48_1 := bF_ BK599.out 1
         go_wp2
         go_loopg [5, 8] kj40 (fun kq v5 v8 w' => ∃ (x5_4 : List Int) (x8_4 : Int), v8 = .int .i64 x8_4 ∧ Aside0 (cenotaphref02_Add.l1 kq x5_4 x8_4 = some (r1, r2)) ∧ Aside0 (kq ≤ kj40) ∧ Aside0 (Kd.Q (Kd.int .i64) 3 w' w.heap.size (fun _ => True) v5 x5_4) ∧ Aside0 (w'.heap[gb599]? = some (.cells #[.int .i64 a0_0, (.slice A0_1 l0_1.length c0_1)] 89 (0, 0))) ∧ Aside0 (w'.heap[gb600]? = some (.cells #[.int .i64 0, (.slice none 0 0)] 89 (0, 0))) ∧ Aside0 (Below w.heap.size w w'))
         case atStart => exact ⟨(x5_40), (a0_0), zq70_7, H', ⟨Nat.le_refl _⟩, ⟨by (with_reducible repeat (first | apply Kd.Q_alloc | apply Kd.Q_drewN | apply Kd.Q_drew)); exact HO_5.out⟩, ⟨by (with_reducible repeat (first | refine blk_drewN ?_ _ | refine blk_drew ?_ | refine blk_alloc ?_ _)); exact BK599.out⟩, ⟨by (with_reducible repeat (first | refine blk_drewN ?_ _ | refine blk_drew ?_ | refine blk_alloc ?_ _)); exact BK600.out⟩, ⟨by repeat (first | (with_reducible first | exact HB.out | apply bA | apply pB | apply bW | refine below_set ?_ GE599.out | refine below_set ?_ GE600.out) | exact HB.out)⟩⟩
         case round =>
          clear H'
          try clear c1
          try clear c2
          try clear p2
          try clear c3
          try clear c4
          try clear c6
          try clear c6b0
          try clear p6
          try clear q6
          try clear hx6
          try clear c7
          try clear c7b0
          try clear c9
          try clear c12
          try clear c13
          try clear c21
          try clear c21b0
          try clear c22
          try clear c23
          try clear c23b0
          try clear c24
          try clear c25
          try clear c28
          try clear c28b0
          try clear c29
          try clear c29b0
          try clear c30
          try clear c31
          try clear c32
          try clear c37
          try clear c38
          try clear c42
          try clear c44
          try clear c45
          try clear c47
          try clear hcz10_0
          try clear hcz10_1
          try clear hcz26_0
          try clear hcz26_1
          try clear hcz33_0
          try clear hcz33_1
          try clear hcz35_0
          try clear hcz35_1
          try clear hcz39_0
          try clear hcz39_1
          try clear hcz43_0
          try clear hcz43_1
          try clear hcz48_0
          try clear hcz48_1
          try clear hfz10_0
          try clear hfz10_1
          try clear hfz26_0
          try clear hfz26_1
          try clear hfz33_0
          try clear hfz33_1
          try clear hfz35_0
          try clear hfz35_1
          try clear hfz39_0
          try clear hfz39_1
          try clear hfz43_0
          try clear hfz43_1
          try clear hfz48_0
          try clear hfz48_1
          try clear hx608_0
          try clear hx612_0
          try clear hx616_0
          try clear hx620_0
          try clear p2
          try clear p6
          try clear p608
          try clear p612
          try clear p616
          try clear p620
          try clear q6
          try clear q608
          try clear q612
          try clear q616
          try clear q620
          obtain ⟨x5_4, x8_4, rfl, HA, HK4, HO_5, BK599, BK600, HB⟩ := hrel
          cases gk with
          | zero => exact absurd HA.out (by simp [cenotaphref02_Add.l1])
          | succ k4 =>
           have H := HA.out
           clear HA
           simp only [cenotaphref02_Add.l1] at H
           by_cases c49 : (x5_4.length : Int) > 0
           ·rw [if_pos c49] at H
            have c49b0 : decide (0 < (x5_4.length : Int)) = true := dT c49
            have c49b1 : decide (0 < x5_4.length) = true := dT (by omega)
            clear c49
            by_cases c50 : 0 < (x5_4.length : Int)
            ·rw [if_pos c50] at H
             have c50b0 : decide (0 < (x5_4.length : Int)) = true := dT c50
             have c50b1 : decide (0 < x5_4.length) = true := dT (by omega)
             clear c50
             by_cases c51 : (rd x5_4 0) = (wrap64 (x8_4 + 1))
             ·rw [if_pos c51] at H
              have c51b0 : ((rd x5_4 0) == (wrap64 (x8_4 + 1))) = true := beq_iff_eq.mpr c51
              have c51b1 : ((rd x5_4 0) != (wrap64 (x8_4 + 1))) = false := bne_eq_false_iff_eq.mpr c51
              clear c51
              by_cases c52 : 1 ≤ (x5_4.length : Int)
              ·rw [if_pos c52] at H
               have c52b0 := eT c52
               have c52b1 : decide (1 ≤ (x5_4.length : Int)) = true := dT c52
               clear c52
               obtain ⟨y628, hy628⟩ : ∃ y_ : List Int, y_ = (x5_4.drop (1 : Int).toNat) := ⟨_, rfl⟩
               replace H : (cenotaphref02_Add.l1 k4 y628 (wrap64 (x8_4 + 1))) = some (r1, r2) := by first | (rw [hy628]; with_reducible exact H) | (have H2_ := (Option.bind_some _ _).symm.trans H; rw [hy628]; with_reducible exact H2_) | (have H2_ := (Option.bind_some _ _).symm.trans H; with_reducible exact H2_) | with_reducible exact H | (rw [hy628]; exact H) | exact H
               have Ny628 := aK hy628
               clear hy628
               have H' := aK H
               clear H
               obtain ⟨Ao53, co53, eo53, _⟩ := Kd.Q_slice HO_5.out
               subst eo53
               have p627 : 0 ≤ (0 : Int) := (by omega)
               have q627 : 0 < (x5_4.length : Int) := oD zq70_6
               obtain ⟨ad627, e627, hx627_0⟩ := Kd.at_int (Kd.Q_reads' HO_5.out).2.2 0 p627 q627
               cases e627
               have qi627 : (0 < x5_4.length) = True := eT (by omega)
               (try rw [show ((0 : Int)).toNat = 0 from rfl] at hx627_0)
               (try rw [Addr.add_zero'] at hx627_0)
               replace p627 := eT p627
               replace q627 := eT q627
               have q54 : (1 : Int) ≤ ((x5_4.length : Int) : Int) := oD zq70_6
               obtain ⟨i054, hi054, _, hsz54, _⟩ := info_parts info3
               have hcut54 := cut_from (P := Try.prog) 57 3 .i64 Try.underlying57 hi054 1 hsz54 (some ad627) x5_4.length co53 1 (by omega) q54
               have hr54 := Kd.Q_drop (k := (1 : Int).toNat) HO_5.out (by omega)
               obtain ⟨A54, hA54⟩ : ∃ A1, A1 = (if co53 = (1 : Int).toNat then (some ad627) else ((some ad627) : Option Addr).map (·.add ((1 : Int).toNat * 1))) := ⟨_, rfl⟩
               obtain ⟨c54, hc54⟩ : ∃ c1, c1 = co53 - (1 : Int).toNat := ⟨_, rfl⟩
               have hy54 : y628.length = x5_4.length - (1 : Int).toNat := (by rw [Ny628.out, List.length_drop])
               rw [← Ny628.out] at hr54
               rw [← hy54, ← hA54, ← hc54] at hcut54
               replace hr54 : Kd.Q (Kd.int .i64) 3 wr w.heap.size (fun _ => True) (.slice A54 y628.length c54) y628 := (by rw [hA54, hc54, hy54]; exact hr54)
               have HE54 : Aside0 ((Value.slice A54 y628.length c54).ownBlock = (.slice (some ad627) x5_4.length co53 : Value).ownBlock) := ⟨by rw [hA54]; split <;> (cases ((some ad627) : Option Addr) <;> rfl)⟩
               clear hy54 hi054 hsz54 HO_5 hA54 hc54
               have HO630 := aK hr54
               clear hr54
               replace q54 := eT q54
               go_wp2
               go_roundg k4
               case measure => have := HJ2.out; have := HK2.out; have := HJ40.out; have := HK4.out; omega
               case rel => exact ⟨(y628), (wrap64 (x8_4 + 1)), zq70_7, H', ⟨by have := HJ2.out; have := HK2.out; have := HJ40.out; have := HK4.out; omega⟩, ⟨by (with_reducible repeat (first | apply Kd.Q_alloc | apply Kd.Q_drewN | apply Kd.Q_drew)); exact HO630.out⟩, ⟨by (with_reducible repeat (first | refine blk_drewN ?_ _ | refine blk_drew ?_ | refine blk_alloc ?_ _)); exact BK599.out⟩, ⟨by (with_reducible repeat (first | refine blk_drewN ?_ _ | refine blk_drew ?_ | refine blk_alloc ?_ _)); exact BK600.out⟩, ⟨by repeat (first | (with_reducible first | exact HB.out | apply bA | apply pB | apply bW | refine below_set ?_ GE599.out | refine below_set ?_ GE600.out) | exact HB.out)⟩⟩
              ·rw [if_neg c52] at H
               exact absurd H (by simp)
             ·rw [if_neg c51] at H
              have c51b0 : ((rd x5_4 0) == (wrap64 (x8_4 + 1))) = false := beq_eq_false_iff_ne.mpr c51
              have c51b1 : ((rd x5_4 0) != (wrap64 (x8_4 + 1))) = true := bne_iff_ne.mpr c51
              obtain ⟨y631, hy631⟩ : ∃ y_ : List Int, y_ = (([] : List Int)) := ⟨_, rfl⟩
              replace H : (if y631.length + x5_4.length < 17592186044416 then (some (x8_4, (y631 ++ x5_4))) else (none)) = some (r1, r2) := by first | (rw [hy631]; with_reducible exact H) | (have H2_ := (Option.bind_some _ _).symm.trans H; rw [hy631]; with_reducible exact H2_) | (have H2_ := (Option.bind_some _ _).symm.trans H; with_reducible exact H2_) | with_reducible exact H | (rw [hy631]; exact H) | exact H
              have Ny631 := aK hy631
              clear hy631
              by_cases c55 : y631.length + x5_4.length < 17592186044416
              ·rw [if_pos c55] at H
               have LMc55 := aK c55
               clear c55
               obtain ⟨y634, hy634⟩ : ∃ y_ : List Int, y_ = (y631 ++ x5_4) := ⟨_, rfl⟩
               replace H : (some (x8_4, y634)) = some (r1, r2) := by first | (rw [hy634]; with_reducible exact H) | (have H2_ := (Option.bind_some _ _).symm.trans H; rw [hy634]; with_reducible exact H2_) | (have H2_ := (Option.bind_some _ _).symm.trans H; with_reducible exact H2_) | with_reducible exact H | (rw [hy634]; exact H) | exact H
               have Ny634 := aK hy634
               clear hy634
               simp only [Option.some.injEq, Prod.mk.injEq] at H
               obtain ⟨rfl, rfl⟩ := H
               obtain ⟨Ao56, co56, eo56, _⟩ := Kd.Q_slice HO_5.out
               subst eo56
               have p627 : 0 ≤ (0 : Int) := (by omega)
               have q627 : 0 < (x5_4.length : Int) := oD zq70_6
               obtain ⟨ad627, e627, hx627_0⟩ := Kd.at_int (Kd.Q_reads' HO_5.out).2.2 0 p627 q627
               cases e627
               have qi627 : (0 < x5_4.length) = True := eT (by omega)
               (try rw [show ((0 : Int)).toNat = 0 from rfl] at hx627_0)
               (try rw [Addr.add_zero'] at hx627_0)
               replace p627 := eT p627
               replace q627 := eT q627
               go_wp2_with (first | ((with_reducible refine gate_dst (N := 81) rfl ?_); refine Kd.R_lit (Kd.int .i64) _ 3 ?hg (N := 81) ?hd (xs := ([] : List Int)) (inner := []) (ok := fun _ => True) (okp := fun _ => True) ?hr ?hp (fun _ hk => hk) trivial (Below.refl _ _) (Nat.le_refl _) (by simp) ?_; (case hd => rfl); (case hg => rfl); (case hr => first | (go_simp; done) | (go_simp; rfl)); (case hp => exact (Reps.none _ _)); intro v632 w57 ho58 hb hg_ hnew_; clear hg_ hnew_; (first | rw [← Ny631.out] at ho58 | (simp only [Int.reduceToNat] at ho58; rw [← Ny631.out] at ho58)); have HO633 := aK (Kd.R_lower (Kd.R_new' ho58 (Kd.Q_lt zq70_5)) (below_size zq70_0)); replace HO_5 := aK (Kd.Q_elder' zq70_5 (Kd.R_base ho58) hb); replace BK599 := aK (bB (g := gb599) (o := .cells #[.int .i64 a0_0, .slice A0_1 l0_1.length c0_1] 89 (0, 0)) zq70_3 hb); replace BK600 := aK (bB (g := gb600) (o := .cells #[.int .i64 0, .slice none 0 0] 89 (0, 0)) zq70_4 hb); replace HB := aK (bS zq70_0 hb); clear hb ho58) | ((with_reducible refine gate_builtin (b := .append) (xs := #[.tmp 81, .tmp 82]) rfl ?_); at_builtin; refine Kd.R_append_rows (Kd.int .i64) (w0 := w) w.heap.size rfl (.tmp 81) (.tmp 82) 57 3 (.int .i64 0) 8 rfl Try.underlying57 info3 rfl (by decide) (by omega) v632 y631 x5_4 _ _ _ (fun k_ => some k_ ≠ (.slice (some ad627) x5_4.length co56 : Value).ownBlock) (fun _ => False) rfl rfl ?aO ?aR (fun _ _ h => h) (fun _ h => h.elim) ?aF ?aB ?aS ?aL ?_; (case aR => repeat (first | exact (Kd.Q_reads' HO_5.out).2.2 | (with_reducible refine Kd.C_alloc ?_ _) | (with_reducible refine Kd.C_drewN ?_ _) | (with_reducible refine Kd.C_drew ?_))); (case aB => exact zq70_0); (case aF => exact (fun k_ hk => Kd.fresh' (Kd.Q_lt zq70_5) k_ hk)); (case aO => exact (by (with_reducible repeat (first | apply Kd.R_alloc | apply Kd.R_drewN | apply Kd.R_drew)); exact Kd.R_mono HO633.out (fun _ hk => hk.2))); (case aS => exact (below_size zq70_0)); (case aL => have := LMc55.out; omega); intro v635 w59 ho hb hg hat; rw [← Ny634.out] at ho; replace HO_5 := aK (Kd.Q_after (ok := (fun _ => True)) zq70_5 hg hat); replace BK599 := aK (blk_grown (g := gb599) (o := .cells #[.int .i64 a0_0, .slice A0_1 l0_1.length c0_1] 89 (0, 0)) zq70_3 hg (Kd.R_ne HO633.out BK599.out (by decide))); replace BK600 := aK (blk_grown (g := gb600) (o := .cells #[.int .i64 0, .slice none 0 0] 89 (0, 0)) zq70_4 hg (Kd.R_ne HO633.out BK600.out (by decide))); replace HB := aK (hb); have HO636 := aK (ho); clear HO633; clear ho hb hg hat; obtain ⟨Ao60, co60, eo60⟩ := Kd.R_slice HO636.out; subst eo60; have hnb61 := NB600_599.out; have hnc61 := NB599_600.out; have hcz62_0 : w59.cell? ⟨gb600, 0, none⟩ = some (.int .i64 0) := (bC BK600.out 0).trans rfl; have hcz62_1 : w59.cell? ⟨gb600, 1, none⟩ = some (.slice none 0 0) := (bC BK600.out 1).trans rfl; have hfz62_0 := bF_ BK600.out 0; have hfz62_1 := bF_ BK600.out 1))
               refine bodyPost_ret (results_cell_row rfl _ _ gb600 89 #[.int .i64 x8_4, .slice Ao60 y634.length co60] (0, 0) _ rfl (by (with_reducible repeat (first | refine blk_drewN ?_ _ | refine blk_drew ?_ | refine blk_alloc ?_ _)); refine blk_put (cs := #[.int .i64 x8_4, .slice none 0 0]) ?_ 1 _ rfl; (with_reducible repeat (first | refine blk_drewN ?_ _ | refine blk_drew ?_ | refine blk_alloc ?_ _)); refine blk_put (cs := #[.int .i64 0, .slice none 0 0]) ?_ 0 _ rfl; (with_reducible repeat (first | refine blk_drewN ?_ _ | refine blk_drew ?_ | refine blk_alloc ?_ _)); exact BK600.out) Try.underlying89 rfl (by kernel_rfl)) rfl ?_
               exact ⟨_, by first | rfl | (simp [errW_none, errW_some] <;> rfl) | (simp [*, errW_none, errW_some] <;> rfl), by (with_reducible repeat (first | apply Kd.R_alloc | apply Kd.R_drewN | apply Kd.R_drew)); exact Kd.R_mono (Kd.R_far (p := ⟨gb600, 1, none⟩) (Kd.R_far (p := ⟨gb600, 0, none⟩) (Kd.R_types HO636.out BK600.out (by decide)) (fun _ hk => hk.2) (.int .i64 x8_4)) (fun _ hk => hk.2) (.slice Ao60 y634.length co60)) (fun _ hk => trivial), by repeat (first | (with_reducible first | exact HB.out | apply bA | apply pB | apply bW | refine below_set ?_ GE599.out | refine below_set ?_ GE600.out) | exact HB.out)⟩
              ·rw [if_neg c55] at H
               exact absurd H (by simp)
            ·rw [if_neg c50] at H
             exact absurd H (by simp)
           ·rw [if_neg c49] at H
            have c49b0 : decide (0 < (x5_4.length : Int)) = false := decide_eq_false c49
            have c49b1 : decide (0 < x5_4.length) = false := decide_eq_false (by omega)
            clear c49
            obtain ⟨y637, hy637⟩ : ∃ y_ : List Int, y_ = (([] : List Int)) := ⟨_, rfl⟩
            replace H : (if y637.length + x5_4.length < 17592186044416 then (some (x8_4, (y637 ++ x5_4))) else (none)) = some (r1, r2) := by first | (rw [hy637]; with_reducible exact H) | (have H2_ := (Option.bind_some _ _).symm.trans H; rw [hy637]; with_reducible exact H2_) | (have H2_ := (Option.bind_some _ _).symm.trans H; with_reducible exact H2_) | with_reducible exact H | (rw [hy637]; exact H) | exact H
            have Ny637 := aK hy637
            clear hy637
            by_cases c63 : y637.length + x5_4.length < 17592186044416
            ·rw [if_pos c63] at H
             have LMc63 := aK c63
             clear c63
             obtain ⟨y640, hy640⟩ : ∃ y_ : List Int, y_ = (y637 ++ x5_4) := ⟨_, rfl⟩
             replace H : (some (x8_4, y640)) = some (r1, r2) := by first | (rw [hy640]; with_reducible exact H) | (have H2_ := (Option.bind_some _ _).symm.trans H; rw [hy640]; with_reducible exact H2_) | (have H2_ := (Option.bind_some _ _).symm.trans H; with_reducible exact H2_) | with_reducible exact H | (rw [hy640]; exact H) | exact H
             have Ny640 := aK hy640
             clear hy640
             simp only [Option.some.injEq, Prod.mk.injEq] at H
             obtain ⟨rfl, rfl⟩ := H
             obtain ⟨Ao64, co64, eo64, _⟩ := Kd.Q_slice HO_5.out
             subst eo64
             go_wp2_with (first | ((with_reducible refine gate_dst (N := 81) rfl ?_); refine Kd.R_lit (Kd.int .i64) _ 3 ?hg (N := 81) ?hd (xs := ([] : List Int)) (inner := []) (ok := fun _ => True) (okp := fun _ => True) ?hr ?hp (fun _ hk => hk) trivial (Below.refl _ _) (Nat.le_refl _) (by simp) ?_; (case hd => rfl); (case hg => rfl); (case hr => first | (go_simp; done) | (go_simp; rfl)); (case hp => exact (Reps.none _ _)); intro v638 w65 ho66 hb hg_ hnew_; clear hg_ hnew_; (first | rw [← Ny637.out] at ho66 | (simp only [Int.reduceToNat] at ho66; rw [← Ny637.out] at ho66)); have HO639 := aK (Kd.R_lower (Kd.R_new' ho66 (Kd.Q_lt zq70_5)) (below_size zq70_0)); replace HO_5 := aK (Kd.Q_elder' zq70_5 (Kd.R_base ho66) hb); replace BK599 := aK (bB (g := gb599) (o := .cells #[.int .i64 a0_0, .slice A0_1 l0_1.length c0_1] 89 (0, 0)) zq70_3 hb); replace BK600 := aK (bB (g := gb600) (o := .cells #[.int .i64 0, .slice none 0 0] 89 (0, 0)) zq70_4 hb); replace HB := aK (bS zq70_0 hb); clear hb ho66) | ((with_reducible refine gate_builtin (b := .append) (xs := #[.tmp 81, .tmp 82]) rfl ?_); at_builtin; refine Kd.R_append_rows (Kd.int .i64) (w0 := w) w.heap.size rfl (.tmp 81) (.tmp 82) 57 3 (.int .i64 0) 8 rfl Try.underlying57 info3 rfl (by decide) (by omega) v638 y637 x5_4 _ _ _ (fun k_ => some k_ ≠ (.slice Ao64 x5_4.length co64 : Value).ownBlock) (fun _ => False) rfl rfl ?aO ?aR (fun _ _ h => h) (fun _ h => h.elim) ?aF ?aB ?aS ?aL ?_; (case aR => repeat (first | exact (Kd.Q_reads' HO_5.out).2.2 | (with_reducible refine Kd.C_alloc ?_ _) | (with_reducible refine Kd.C_drewN ?_ _) | (with_reducible refine Kd.C_drew ?_))); (case aB => exact zq70_0); (case aF => exact (fun k_ hk => Kd.fresh' (Kd.Q_lt zq70_5) k_ hk)); (case aO => exact (by (with_reducible repeat (first | apply Kd.R_alloc | apply Kd.R_drewN | apply Kd.R_drew)); exact Kd.R_mono HO639.out (fun _ hk => hk.2))); (case aS => exact (below_size zq70_0)); (case aL => have := LMc63.out; omega); intro v641 w67 ho hb hg hat; rw [← Ny640.out] at ho; replace HO_5 := aK (Kd.Q_after (ok := (fun _ => True)) zq70_5 hg hat); replace BK599 := aK (blk_grown (g := gb599) (o := .cells #[.int .i64 a0_0, .slice A0_1 l0_1.length c0_1] 89 (0, 0)) zq70_3 hg (Kd.R_ne HO639.out BK599.out (by decide))); replace BK600 := aK (blk_grown (g := gb600) (o := .cells #[.int .i64 0, .slice none 0 0] 89 (0, 0)) zq70_4 hg (Kd.R_ne HO639.out BK600.out (by decide))); replace HB := aK (hb); have HO642 := aK (ho); clear HO639; clear ho hb hg hat; obtain ⟨Ao68, co68, eo68⟩ := Kd.R_slice HO642.out; subst eo68; have hnb69 := NB600_599.out; have hnc69 := NB599_600.out; have hcz70_0 : w67.cell? ⟨gb600, 0, none⟩ = some (.int .i64 0) := (bC BK600.out 0).trans rfl; have hcz70_1 : w67.cell? ⟨gb600, 1, none⟩ = some (.slice none 0 0) := (bC BK600.out 1).trans rfl; have hfz70_0 := bF_ BK600.out 0; have hfz70_1 := bF_ BK600.out 1))
             refine bodyPost_ret (results_cell_row rfl _ _ gb600 89 #[.int .i64 x8_4, .slice Ao68 y640.length co68] (0, 0) _ rfl (by (with_reducible repeat (first | refine blk_drewN ?_ _ | refine blk_drew ?_ | refine blk_alloc ?_ _)); refine blk_put (cs := #[.int .i64 x8_4, .slice none 0 0]) ?_ 1 _ rfl; (with_reducible repeat (first | refine blk_drewN ?_ _ | refine blk_drew ?_ | refine blk_alloc ?_ _)); refine blk_put (cs := #[.int .i64 0, .slice none 0 0]) ?_ 0 _ rfl; (with_reducible repeat (first | refine blk_drewN ?_ _ | refine blk_drew ?_ | refine blk_alloc ?_ _)); exact BK600.out) Try.underlying89 rfl (by kernel_rfl)) rfl ?_
             exact ⟨_, by first | rfl | (simp [errW_none, errW_some] <;> rfl) | (simp [*, errW_none, errW_some] <;> rfl), by (with_reducible repeat (first | apply Kd.R_alloc | apply Kd.R_drewN | apply Kd.R_drew)); exact Kd.R_mono (Kd.R_far (p := ⟨gb600, 1, none⟩) (Kd.R_far (p := ⟨gb600, 0, none⟩) (Kd.R_types HO642.out BK600.out (by decide)) (fun _ hk => hk.2) (.int .i64 x8_4)) (fun _ hk => hk.2) (.slice Ao68 y640.length co68)) (fun _ hk => trivial), by repeat (first | (with_reducible first | exact HB.out | apply bA | apply pB | apply bW | refine below_set ?_ GE599.out | refine below_set ?_ GE600.out) | exact HB.out)⟩
            ·rw [if_neg c63] at H
             exact absurd H (by simp)
end Go.Proofs.Ytgdkgobplinelaa.P
