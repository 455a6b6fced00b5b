-- Written by a program of this session (wip/pp.py over the kit's printer, with our own texts put in).
import Derived.Test.YtkfehkaiifjkmaaP0
import Derived.Test.YtkfehkaiifjkmaaP4
namespace Go.Proofs.Ytkfehkaiifjkmaa.P
open Go.RowKit Go.Proofs.YtkfehkaiifjkmaaW.PrintWords Go.Proofs.YtkfehkaiifjkmaaW.PrintLast Go.Proofs.YtkfehkaiifjkmaaW.PrintMore
attribute [local go_sem] max2_int min2_int max_two min_two max_three min_three max_four min_four   -- for this text's walks alone
set_option linter.unusedVariables false
set_option linter.unusedSimpArgs false

/-! ### cenotaphref04_Drop: function 17 -/
theorem zq17_0 {p_ : Prop} (h_ : p_ := by repeat (first | (with_reducible first | exact HB.out | apply below_alloc | apply pw_below_drewN | apply below_drew1) | exact HB.out)) : p_ := h_
theorem zq17_1 {p_ : Prop} (h_ : p_ := by first | (with_reducible assumption) | assumption) : p_ := h_
theorem zq17_2 {p_ : Prop} (h_ : p_ := by first | rfl | (simp; done) | (simp [*]; done)) : p_ := h_
def cenotaphref04_Drop.l0 : Nat → List (S27) → ByteArray → List (S27) → Int → Option ((List (S27)))
 | 0, _, _, _, _ => none
 | k + 1, x0, x1, x5, x6 => if x6 < (x0.length : Int) then (if 0 ≤ x6 then (if ((rd_T27 x0 x6).f0).toList = x1.toList then (cenotaphref04_Drop.l0 k x0 x1 x5 (wrap64 (x6 + 1))) else (if x5.length < 2932031007402 then (cenotaphref04_Drop.l0 k x0 x1 (x5 ++ [(⟨(rd_T27 x0 x6).f0, (⟨(rd_T27 x0 x6).f1.f0, (rd_T27 x0 x6).f1.f1⟩ : S25)⟩ : S27)]) (wrap64 (x6 + 1))) else (none))) else (none)) else (some x5)
def cenotaphref04_Drop.f (k : Nat) (l0 : List (S27)) (a1 : ByteArray) : Option ((List (S27))) := cenotaphref04_Drop.l0 k l0 a1 ([] : List (S27)) 0
theorem cenotaphref04_Drop.mono_l : ∀ k, (∀ y0 y1 y2 y3, LeO (cenotaphref04_Drop.l0 k y0 y1 y2 y3) (cenotaphref04_Drop.l0 (k + 1) y0 y1 y2 y3))
 | 0 => fun _ _ _ _ r h => by simp [cenotaphref04_Drop.l0] at h
 | k + 1 => by
  have ih0 := cenotaphref04_Drop.mono_l k
  ·intro y0 y1 y2 y3
   unfold cenotaphref04_Drop.l0
   repeat' first
   | (with_reducible exact ih0 _ _ _ _)
   | (with_reducible exact LeO.refl _)
   | (with_reducible exact LeO.none _)
   | (with_reducible refine LeO.ite ?_ ?_)
   | (with_reducible refine LeO.bind ?_ (fun _ => ?_))
   | exact ih0 _ _ _ _
   | exact LeO.none _
   | refine LeO.ite ?_ ?_
   | refine LeO.bind ?_ (fun _ => ?_)
theorem cenotaphref04_Drop.mono : ∀ a0 a1 k, LeO (cenotaphref04_Drop.f k a0 a1) (cenotaphref04_Drop.f (k + 1) a0 a1) := by
 intro a0 a1 k
 have ih0 := cenotaphref04_Drop.mono_l k
 unfold cenotaphref04_Drop.f
 repeat' first
   | (with_reducible exact ih0 _ _ _ _)
   | (with_reducible exact LeO.refl _)
   | (with_reducible exact LeO.none _)
   | (with_reducible refine LeO.ite ?_ ?_)
   | (with_reducible refine LeO.bind ?_ (fun _ => ?_))
   | exact ih0 _ _ _ _
   | exact LeO.none _
   | refine LeO.ite ?_ ?_
   | refine LeO.bind ?_ (fun _ => ?_)
set_option maxHeartbeats 8000000 in
set_option maxRecDepth 100000 in
theorem cenotaphref04_Drop.calls (k : Nat) (P0_ : Nat → Prop) (A0 : Option Addr) (c0 : Nat) (l0 : List (S27)) (a1 : ByteArray) (r : List (S27)) (w : World) (hs0 : Kd.V k27 27 w w.heap.size (fun k_ => P0_ k_) (.slice A0 l0.length c0) l0) (h : cenotaphref04_Drop.f k l0 a1 = some r) :
  Calls Try.prog 17 #[.slice A0 l0.length c0, .string a1] w fun e w' => ∃ v0_ : Value, e = .returned (v0_) ∧ Kd.N k27 27 w' w.heap.size (fun k_ => (P0_ k_ ∨ w.heap.size ≤ k_)) v0_ r ∧ Below w.heap.size w w' := by
 have hu27 := Try.underlying27
 have HO0 := Aside0.mk (show Kd.V k27 27 w w.heap.size (fun k_ => (P0_ k_ ∨ w.heap.size ≤ k_)) (.slice A0 l0.length c0) l0 from Kd.V_mono hs0 (fun k_ hk => .inl hk))
 have HB := Aside0.mk (Below.refl w.heap.size w)
 have H : (cenotaphref04_Drop.l0 k l0 a1 ([] : List (S27)) 0) = some r := h
 clear h
 have H' := Aside0.mk H
 clear H
 go_enter Try.func17, Try.ntmps17
 go_wp2
 go_loopg [5, 6] k (fun kq v5 v6 w' => ∃ (x5_1 : List (S27)) (x6_1 : Int), v6 = .int .i64 x6_1 ∧ Aside0 (cenotaphref04_Drop.l0 kq l0 a1 x5_1 x6_1 = some r) ∧ Aside0 (kq ≤ k) ∧ Aside0 (Kd.V k27 27 w' w.heap.size (fun k_ => (P0_ k_ ∨ w.heap.size ≤ k_) ∧ some k_ ≠ (v5 : Value).ownBlock) (.slice A0 l0.length c0) l0) ∧ Aside0 (Kd.N k27 27 w' w.heap.size (fun k_ => (P0_ k_ ∨ w.heap.size ≤ k_)) v5 x5_1) ∧ Aside0 (Below w.heap.size w w'))
 case atStart => exact ⟨(([] : List (S27))), (0), zq17_2, H', ⟨Nat.le_refl _⟩, ⟨by (with_reducible repeat (first | apply Kd.V_alloc | apply Kd.V_drewN | apply Kd.V_drew)); exact Kd.V_mono HO0.out (fun _ hk => ⟨hk, (by simp [Value.ownBlock])⟩)⟩, ⟨by first | exact Kd.S_nil _ _ _ _ _ | exact Kd.N_nil _ _ _ _ _ | exact Kd.V_nil _ _ _ _ _ | exact Kd.Q_nil _ _ _ _ _ | exact Kd.R_nil _ _ _ _ _⟩, ⟨by repeat (first | (with_reducible first | exact HB.out | apply below_alloc | apply pw_below_drewN | apply below_drew1) | exact HB.out)⟩⟩
 case round =>
  clear H'
  try clear c1
  try clear p2
  obtain ⟨x5_1, x6_1, rfl, HA, HK1, HO_0, HO_5, HB⟩ := hrel
  cases gk with
  | zero => exact absurd HA.out (by simp [cenotaphref04_Drop.l0])
  | succ k1 =>
   have H := HA.out
   clear HA
   simp only [cenotaphref04_Drop.l0] at H
   by_cases c3 : x6_1 < (l0.length : Int)
   ·rw [if_pos c3] at H
    have c3b0 : decide (x6_1 < (l0.length : Int)) = true := decide_eq_true c3
    clear c3
    by_cases c4 : 0 ≤ x6_1
    ·rw [if_pos c4] at H
     have c4b0 : decide (0 ≤ x6_1) = true := decide_eq_true c4
     clear c4
     by_cases c5 : ((rd_T27 l0 x6_1).f0).toList = a1.toList
     ·rw [if_pos c5] at H
      have c5b0 : (((rd_T27 l0 x6_1).f0).toList == a1.toList) = true := beq_iff_eq.mpr c5
      have c5b1 : (((rd_T27 l0 x6_1).f0).toList != a1.toList) = false := bne_eq_false_iff_eq.mpr c5
      clear c5
      have H' := Aside0.mk H
      clear H
      have p245 : 0 ≤ (x6_1 : Int) := of_decide_eq_true zq17_1
      have q245 : x6_1 < (l0.length : Int) := of_decide_eq_true zq17_1
      obtain ⟨ad245, A245_2, c245_2, e245, hx245_0, hx245_1, hx245_2, hl245_2, hi245_2⟩ := at_T27 (Kd.V_reads' HO_0.out).2.2 x6_1 p245 q245
      cases e245
      obtain ⟨ce245, hce245, hMe245, hcc245⟩ := Kd.V_get HO_0.out z27 x6_1 p245 (by first | exact q245 | exact of_decide_eq_true zq17_1 | (have e_ := (Kd.V_reads' HO_0.out).1; omega))
      obtain ⟨ua245_2, uc245_2, rfl, ul245_2, ge245_2⟩ := k27_openF hMe245
      have hv245_2 := hcc245 2 _ rfl
      rw [add_field _ _ 2 (by omega)] at hv245_2
      replace hv245_2 := Option.some.inj (hv245_2.symm.trans hx245_2)
      injection hv245_2 with hva_ hvn_ hvc_
      rw [hva_] at ge245_2
      rw [hvc_] at ul245_2
      have HL245_2 := Aside0.mk (show Kd.V (Kd.int .i64) 3 _ w.heap.size _ _ ((rd_T27 l0 x6_1).f1.f1) from Kd.V_mk ul245_2 ge245_2)
      clear hva_ hvn_ hvc_ ge245_2 ul245_2
      clear hcc245 hce245
      have HR245_2 := Aside0.mk hi245_2
      have HC245_2 := Aside0.mk hl245_2
      clear hi245_2 hl245_2
      replace p245 := eq_true p245
      replace q245 := eq_true q245
      go_wp2
      go_roundg k1
      case measure => have := HK1.out; omega
      case rel => exact ⟨(x5_1), (wrap64 (x6_1 + 1)), zq17_2, H', ⟨by have := HK1.out; omega⟩, ⟨by (with_reducible repeat (first | apply Kd.V_alloc | apply Kd.V_drewN | apply Kd.V_drew)); exact HO_0.out⟩, ⟨by (with_reducible repeat (first | apply Kd.N_alloc | apply Kd.N_drewN | apply Kd.N_drew)); exact HO_5.out⟩, ⟨by repeat (first | (with_reducible first | exact HB.out | apply below_alloc | apply pw_below_drewN | apply below_drew1) | exact HB.out)⟩⟩
     ·rw [if_neg c5] at H
      have c5b0 : (((rd_T27 l0 x6_1).f0).toList == a1.toList) = false := beq_eq_false_iff_ne.mpr c5
      have c5b1 : (((rd_T27 l0 x6_1).f0).toList != a1.toList) = true := bne_iff_ne.mpr c5
      by_cases c6 : x5_1.length < 2932031007402
      ·rw [if_pos c6] at H
       have LMc6 := Aside0.mk c6
       clear c6
       obtain ⟨y247, hy247⟩ : ∃ y_ : List (S27), y_ = (x5_1 ++ [(⟨(rd_T27 l0 x6_1).f0, (⟨(rd_T27 l0 x6_1).f1.f0, (rd_T27 l0 x6_1).f1.f1⟩ : S25)⟩ : S27)]) := ⟨_, rfl⟩
       replace H : (cenotaphref04_Drop.l0 k1 l0 a1 y247 (wrap64 (x6_1 + 1))) = some r := by first | (rw [hy247]; with_reducible exact H) | (have H2_ := (Option.bind_some _ _).symm.trans H; rw [hy247]; with_reducible exact H2_) | (have H2_ := (Option.bind_some _ _).symm.trans H; with_reducible exact H2_) | with_reducible exact H | (rw [hy247]; exact H) | exact H
       have Ny247 := Aside0.mk hy247
       clear hy247
       have H' := Aside0.mk H
       clear H
       have p245 : 0 ≤ (x6_1 : Int) := of_decide_eq_true zq17_1
       have q245 : x6_1 < (l0.length : Int) := of_decide_eq_true zq17_1
       obtain ⟨ad245, A245_2, c245_2, e245, hx245_0, hx245_1, hx245_2, hl245_2, hi245_2⟩ := at_T27 (Kd.V_reads' HO_0.out).2.2 x6_1 p245 q245
       cases e245
       obtain ⟨ce245, hce245, hMe245, hcc245⟩ := Kd.V_get HO_0.out z27 x6_1 p245 (by first | exact q245 | exact of_decide_eq_true zq17_1 | (have e_ := (Kd.V_reads' HO_0.out).1; omega))
       obtain ⟨ua245_2, uc245_2, rfl, ul245_2, ge245_2⟩ := k27_openF hMe245
       have hv245_2 := hcc245 2 _ rfl
       rw [add_field _ _ 2 (by omega)] at hv245_2
       replace hv245_2 := Option.some.inj (hv245_2.symm.trans hx245_2)
       injection hv245_2 with hva_ hvn_ hvc_
       rw [hva_] at ge245_2
       rw [hvc_] at ul245_2
       have HL245_2 := Aside0.mk (show Kd.V (Kd.int .i64) 3 _ w.heap.size _ _ ((rd_T27 l0 x6_1).f1.f1) from Kd.V_mk ul245_2 ge245_2)
       clear hva_ hvn_ hvc_ ge245_2 ul245_2
       clear hcc245 hce245
       have HR245_2 := Aside0.mk hi245_2
       have HC245_2 := Aside0.mk hl245_2
       clear hi245_2 hl245_2
       replace p245 := eq_true p245
       replace q245 := eq_true q245
       have p246 : 0 ≤ (x6_1 : Int) := of_decide_eq_true zq17_1
       have q246 : x6_1 < (l0.length : Int) := of_decide_eq_true zq17_1
       obtain ⟨ad246, A246_2, c246_2, e246, hx246_0, hx246_1, hx246_2, hl246_2, hi246_2⟩ := at_T27 (Kd.V_reads' HO_0.out).2.2 x6_1 p246 q246
       obtain rfl : ad245 = ad246 := (by injection e246)
       obtain ⟨ce246, hce246, hMe246, hcc246⟩ := Kd.V_get HO_0.out z27 x6_1 p246 (by first | exact q246 | exact of_decide_eq_true zq17_1 | (have e_ := (Kd.V_reads' HO_0.out).1; omega))
       obtain ⟨ua246_2, uc246_2, rfl, ul246_2, ge246_2⟩ := k27_openF hMe246
       have hv246_2 := hcc246 2 _ rfl
       rw [add_field _ _ 2 (by omega)] at hv246_2
       replace hv246_2 := Option.some.inj (hv246_2.symm.trans hx246_2)
       injection hv246_2 with hva_ hvn_ hvc_
       rw [hva_] at ge246_2
       rw [hvc_] at ul246_2
       have HL246_2 := Aside0.mk (show Kd.V (Kd.int .i64) 3 _ w.heap.size _ _ ((rd_T27 l0 x6_1).f1.f1) from Kd.V_mk ul246_2 ge246_2)
       clear hva_ hvn_ hvc_ ge246_2 ul246_2
       clear hcc246 hce246
       have HR246_2 := Aside0.mk hi246_2
       have HC246_2 := Aside0.mk hl246_2
       clear hi246_2 hl246_2
       replace p246 := eq_true p246
       replace q246 := eq_true q246
       have ea_ := Option.some.inj (hx245_2.symm.trans hx246_2)
       injection ea_ with ea_ en_ ec_
       subst ea_
       subst ec_
       clear en_
       go_wp2_with (first | ((with_reducible refine gate_builtin (b := .append) (xs := #[.tmp 20, .tmp 25]) rfl ?_); at_builtin; refine Kd.N_append k27 (w0 := w) w.heap.size rfl (.tmp 20) (.tmp 25) 22 27 (.agg #[(.string ⟨#[]⟩), (.int .i64 0), (.slice none 0 0)]) 48 rfl Try.underlying22 info27 rfl (by decide) (by omega) u5 x5_1 (⟨(rd_T27 l0 x6_1).f0, (⟨(rd_T27 l0 x6_1).f1.f0, (rd_T27 l0 x6_1).f1.f1⟩ : S25)⟩ : S27) [.string ((rd_T27 l0 x6_1).f0), .int .i64 ((rd_T27 l0 x6_1).f1.f0), .slice A245_2 ((rd_T27 l0 x6_1).f1.f1).length c245_2] (fun k_ => (P0_ k_ ∨ w.heap.size ≤ k_)) (fun k_ => ((fun k_ => (P0_ k_ ∨ w.heap.size ≤ k_))) k_ ∧ some k_ ≠ (u5 : Value).ownBlock) rfl rfl ?aP (fun _ hk => hk) ?aF ?aO ?aB ?aS ?aL ?_; (case aP => exact (k27_mkF _ _ (⟨(rd_T27 l0 x6_1).f0, (⟨(rd_T27 l0 x6_1).f1.f0, (rd_T27 l0 x6_1).f1.f1⟩ : S25)⟩ : S27) (Kd.V_reads' (Kd.V_mono (ok' := (fun k_ => ((fun k_ => (P0_ k_ ∨ w.heap.size ≤ k_))) k_ ∧ some k_ ≠ (u5 : Value).ownBlock)) (HL246_2.out) (fun k_ hk => ⟨hk.1, hk.2⟩))).2.1 (Kd.V_F (Kd.V_mono (ok' := (fun k_ => ((fun k_ => (P0_ k_ ∨ w.heap.size ≤ k_))) k_ ∧ some k_ ≠ (u5 : Value).ownBlock)) (HL246_2.out) (fun k_ hk => ⟨hk.1, hk.2⟩))))); (case aB => exact zq17_0); (case aF => exact (fun k_ hk => (.inr (Nat.le_trans (below_size zq17_0) hk)))); (case aO => exact (by (with_reducible repeat (first | apply Kd.N_alloc | apply Kd.N_drewN | apply Kd.N_drew)); exact HO_5.out)); (case aS => exact (below_size zq17_0)); (case aL => have := LMc6.out; omega); intro v248 w7 ho hb hg hat; rw [← Ny247.out] at ho; replace HO_0 := Aside0.mk (Kd.V_afterv (ok := (fun k_ => (P0_ k_ ∨ w.heap.size ≤ k_))) (by (with_reducible repeat (first | apply Kd.V_alloc | apply Kd.V_drewN | apply Kd.V_drew)); exact HO_0.out) hg hat); replace HL245_2 := Aside0.mk (Kd.V_afterv (ok := (fun k_ => (P0_ k_ ∨ w.heap.size ≤ k_))) (by (with_reducible repeat (first | apply Kd.V_alloc | apply Kd.V_drewN | apply Kd.V_drew)); exact HL245_2.out) hg hat); replace HL246_2 := Aside0.mk (Kd.V_afterv (ok := (fun k_ => (P0_ k_ ∨ w.heap.size ≤ k_))) (by (with_reducible repeat (first | apply Kd.V_alloc | apply Kd.V_drewN | apply Kd.V_drew)); exact HL246_2.out) hg hat); replace HB := Aside0.mk (hb); have HO249 := Aside0.mk (ho); clear HO_5; clear ho hb hg hat))
       go_roundg k1
       case measure => have := HK1.out; omega
       case rel => exact ⟨(y247), (wrap64 (x6_1 + 1)), zq17_2, H', ⟨by have := HK1.out; omega⟩, ⟨by (with_reducible repeat (first | apply Kd.V_alloc | apply Kd.V_drewN | apply Kd.V_drew)); exact HO_0.out⟩, ⟨by (with_reducible repeat (first | apply Kd.N_alloc | apply Kd.N_drewN | apply Kd.N_drew)); exact HO249.out⟩, ⟨by repeat (first | (with_reducible first | exact HB.out | apply below_alloc | apply pw_below_drewN | apply below_drew1) | exact HB.out)⟩⟩
      ·rw [if_neg c6] at H
       exact absurd H (by simp)
    ·rw [if_neg c4] at H
     exact absurd H (by simp)
   ·rw [if_neg c3] at H
    have c3b0 : decide (x6_1 < (l0.length : Int)) = false := decide_eq_false c3
    clear c3
    obtain rfl := Option.some.inj H
    go_wp2
    go_ret
    exact ⟨_, by first | rfl | (simp [errW_none, errW_some] <;> rfl) | (simp [*, errW_none, errW_some] <;> rfl), by (with_reducible repeat (first | apply Kd.N_alloc | apply Kd.N_drewN | apply Kd.N_drew)); exact HO_5.out, by repeat (first | (with_reducible first | exact HB.out | apply below_alloc | apply pw_below_drewN | apply below_drew1) | exact HB.out)⟩

/-! ### cenotaphref04_put: function 43 -/
theorem lead_r : LeadK k27 (Kd.int .i64) S27.f0 (fun x => x.f1.f0) (fun x => x.f1.f1) := ⟨rfl, (Kd.heap_int .i64), fun h => k27_open h, fun h1 h2 => k27_mk _ _ h1 h2⟩
/-- A row sinks to its place; p: what is before it, from its back. -/
def sinkO (k : Nat) (v : S27) : List S27 → List S27 → Option (List S27)
 | [], q => some (v :: q)
 | u :: p, q => (cenotaphref01_Compare.f k u.f0 v.f0).bind fun c => if c > 0 then sinkO k v p (u :: q) else some ((u :: p).reverse ++ v :: q)
theorem sinkO_mono (k : Nat) (v : S27) : ∀ (p q : List S27), LeO (sinkO k v p q) (sinkO (k + 1) v p q)
 | [], _ => LeO.refl _
 | u :: p, q => by unfold sinkO; exact LeO.bind (cenotaphref01_Compare.mono _ _ _) (fun _ => LeO.ite (sinkO_mono k v p _) (LeO.refl _))
def cenotaphref04_put.f (k : Nat) (l0 : List S27) (a1 : ByteArray) (u2 : Int) (e2 : List Int) : Option (List S27) := (cenotaphref04_Drop.f k l0 a1).bind fun d => (cenotaphref02_Count.f u2 e2).bind fun c => if c < 1 then some d else if d.length < 1000000000 then sinkO k ⟨a1, ⟨u2, e2⟩⟩ d.reverse [] else none
theorem cenotaphref04_put.mono : ∀ a0 a1 a2 a3 k, LeO (cenotaphref04_put.f k a0 a1 a2 a3) (cenotaphref04_put.f (k + 1) a0 a1 a2 a3) := by
 intro a0 a1 a2 a3 k
 unfold cenotaphref04_put.f
 exact LeO.bind (cenotaphref04_Drop.mono _ _ _) (fun _ => LeO.bind (LeO.refl _) (fun _ => LeO.ite (LeO.refl _) (LeO.ite (sinkO_mono _ _ _ _) (LeO.refl _))))
theorem cell_below2 {w W : World} {a : Addr} {v : Value} (h : w.cell? a = some v) (hb : Below w.heap.size w W) : W.cell? a = some v := (hb.cell (World.block_lt_of_cell? w _ h)).trans h
theorem cell_drew2 {w : World} {a : Addr} {v : Value} (h : w.cell? a = some v) : w.drew.cell? a = some v := cell_below2 h (below_drew1 (Below.refl _ _))
theorem swap_list {α : Type} (p q : List α) (u v z : α) : (((u :: p).reverse ++ v :: q).set p.length (((u :: p).reverse ++ v :: q).getD (p.length + 1) z)).set (p.length + 1) (((u :: p).reverse ++ v :: q).getD p.length z) = p.reverse ++ v :: u :: q := by
 have e : (u :: p).reverse ++ v :: q = p.reverse ++ u :: v :: q := by simp
 rw [e]
 have hl : p.reverse.length = p.length := List.length_reverse
 have g1 : (p.reverse ++ u :: v :: q).getD (p.length + 1) z = v := by
  rw [List.getD_eq_getElem?_getD, ← hl, List.getElem?_append_right (by omega)]
  simp
 have g2 : (p.reverse ++ u :: v :: q).getD p.length z = u := by
  rw [List.getD_eq_getElem?_getD, ← hl, List.getElem?_append_right (by omega)]
  simp
 rw [g1, g2, ← hl, List.set_append_right _ _ (by omega), List.set_append_right _ _ (by omega)]
 simp
set_option maxHeartbeats 8000000 in
set_option maxRecDepth 100000 in
theorem cenotaphref04_put.calls (k : Nat) (P0_ : Nat → Prop) (A0 : Option Addr) (c0 : Nat) (l0 : List S27) (a1 : ByteArray) (u2 : Int) (P2_1_ : Nat → Prop) (A2 : Option Addr) (c2 : Nat) (e2 : List Int) (r : List S27) (w : World) (hs0 : Kd.V k27 27 w w.heap.size (fun k_ => P0_ k_) (.slice A0 l0.length c0) l0) (hs2 : Kd.V (Kd.int .i64) 3 w w.heap.size (fun k_ => P2_1_ k_) (.slice A2 e2.length c2) e2) (h : cenotaphref04_put.f k l0 a1 u2 e2 = some r) :
  Calls Try.prog 43 #[.slice A0 l0.length c0, .string a1, .agg #[.int .i64 u2, .slice A2 e2.length c2]] w fun e w' => ∃ v0_ : Value, e = .returned (v0_) ∧ Kd.V k27 27 w' w.heap.size (fun k_ => ((P0_ k_ ∨ P2_1_ k_) ∨ w.heap.size ≤ k_)) v0_ r ∧ Below w.heap.size w w' := by
 unfold cenotaphref04_put.f at h
 obtain ⟨d, hd, h⟩ := Option.bind_eq_some_iff.mp h
 obtain ⟨cn, hcn, h⟩ := Option.bind_eq_some_iff.mp h
 have HV0 := Aside0.mk hs0
 have HJF := Aside0.mk (Kd.F_alloc (Kd.F_bound (Kd.V_F hs2)) (.cells #[.int .i64 u2, .slice A2 e2.length c2] 25))
 have HJL := Aside0.mk (Kd.V_reads' hs2).2.1
 have HD := Aside0.mk hd
 have HCN := Aside0.mk hcn
 have H := Aside0.mk h
 have HB := Aside0.mk (below_alloc (Below.refl w.heap.size w) (.cells #[.int .i64 u2, .slice A2 e2.length c2] 25))
 have BK := Aside0.mk (blk_new w (.cells #[.int .i64 u2, .slice A2 e2.length c2] 25))
 clear hd hcn h hs0 hs2
 have hut := Try.underlying27
 have hut2 := Try.underlying25
 go_enter Try.func43, Try.ntmps43
 go_upto_region 1 with fail
 have HSZ0 := Aside0.mk (show w.heap.size ≤ (w.alloc (.cells #[.int .i64 u2, .slice A2 e2.length c2] 25)).heap.size by simp)
 generalize w.alloc (.cells #[.int .i64 u2, .slice A2 e2.length c2] 25) = w3 at HJF HB BK HSZ0 ⊢
 go_wp2_with fail
 refine (cenotaphref04_Drop.calls k P0_ A0 c0 l0 a1 d _ (Kd.V_map (base' := w3.heap.size) (Kd.V_below HV0.out HB.out) (fun _ h => h)) HD.out).mono ?_
 rintro e w4 ⟨v4, rfl, hN, hb4⟩
 obtain ⟨rs, hR4, hI4⟩ := lead_N lead_r hN
 have hlen := F2.len hI4
 have HBS := Aside0.mk (Kd.R_base hR4)
 have HO := Aside0.mk (Kd.R_lower hR4 (below_size HB.out))
 have HI := Aside0.mk (INs.bound (INs.mono (ok' := fun k => (P0_ k ∨ w.heap.size ≤ k) ∧ some k ≠ v4.ownBlock) hI4 (fun k hk => ⟨hk.1.imp_right (fun h => Nat.le_trans (below_size HB.out) h), hk.2⟩)))
 have HSZ := Aside0.mk (Nat.le_trans HSZ0.out hb4.size)
 replace HBS := Aside0.mk (show ∀ k, v4.ownBlock = some k → w.heap.size ≤ k from fun k hk => Nat.le_trans HSZ0.out (HBS.out k hk))
 replace HJF := Aside0.mk (Kd.F_below HJF.out hb4)
 replace BK := Aside0.mk (blk_below BK.out hb4)
 replace HB := Aside0.mk (below_step HB.out hb4)
 obtain ⟨A4, c4, rfl⟩ := Kd.R_slice HO.out
 have HLEN := Aside0.mk hlen
 clear hN hR4 hI4 hb4 HD hlen HSZ0
 have hq0 : w4.cell? ⟨w.heap.size, 0, none⟩ = some (.int .i64 u2) := (blk_cell BK.out 0).trans rfl
 have hq1 : w4.cell? ⟨w.heap.size, 1, none⟩ = some (.slice A2 e2.length c2) := (blk_cell BK.out 1).trans rfl
 go_wp2_with fail
 refine (cenotaphref02_Count.calls u2 A2 c2 e2 cn w4 (Kd.F_now HJF.out) HJL.out HCN.out).mono ?_
 rintro e wb ⟨rfl, hb⟩
 replace HO := Aside0.mk (Kd.R_below HO.out hb)
 have HSB := Aside0.mk hb.size
 replace HI := Aside0.mk (INs.mono (INs.below HI.out hb) (ok' := fun k => ((P0_ k ∨ w.heap.size ≤ k) ∧ some k ≠ (Value.slice A4 rs.length c4).ownBlock) ∧ k < wb.heap.size) (fun k hk => ⟨hk.1, Nat.lt_of_lt_of_le hk.2 HSB.out⟩))
 replace HSZ := Aside0.mk (Nat.le_trans HSZ.out hb.size)
 replace HJF := Aside0.mk (Kd.F_below HJF.out hb)
 replace BK := Aside0.mk (blk_below BK.out hb)
 replace HB := Aside0.mk (below_step HB.out hb)
 clear hb hq0 hq1 HSB HCN
 have hh := H.out
 clear H
 by_cases hc1 : cn < 1
 ·rw [if_pos hc1] at hh
  obtain rfl := Option.some.inj hh
  have hz1 : decide (cn < 1) = true := decide_eq_true hc1
  have hz2 := eq_true hc1
  clear hh hc1
  go_wp2_with fail
  go_ret
  exact ⟨_, rfl, lead_view2 lead_r HO.out HI.out (fun k hk => .inr hk) (fun k hk => hk.1.1.imp_left Or.inl), HB.out⟩
 rw [if_neg hc1] at hh
 by_cases hdl : d.length < 1000000000
 rotate_left
 ·rw [if_neg hdl] at hh; cases hh
 rw [if_pos hdl] at hh
 have hz1 : decide (cn < 1) = false := decide_eq_false hc1
 have hz2 := eq_false hc1
 have HH := Aside0.mk hh
 have LM := Aside0.mk (show rs.length < 1000000000 by rw [HLEN.out]; exact hdl)
 clear hh hdl hc1
 have hq0 : wb.cell? ⟨w.heap.size, 0, none⟩ = some (.int .i64 u2) := (blk_cell BK.out 0).trans rfl
 have hq1 : wb.cell? ⟨w.heap.size, 1, none⟩ = some (.slice A2 e2.length c2) := (blk_cell BK.out 1).trans rfl
 go_upto_region 5 with (first | ((with_reducible refine gate_dst (N := 20) rfl ?_); refine Kd.R_lit kRW _ 27 ?hg (N := 20) ?hd (xs := ([⟨a1, u2, A2, e2.length, c2⟩] : List RW)) (inner := [.string a1, .int .i64 u2, .slice A2 e2.length c2]) (ok := fun _ => True) (okp := fun _ => True) ?hr ?hp (fun _ hk => hk) trivial (Below.refl _ _) (Nat.le_refl _) (by simp) ?_; (case hd => rfl); (case hg => rfl); (case hr => first | (go_simp; done) | (go_simp; rfl)); (case hp => exact (Reps.c3 (show Kd.M kRW _ _ _ (⟨a1, u2, A2, e2.length, c2⟩ : RW) [.string a1, .int .i64 u2, .slice A2 e2.length c2] from kRW_mkM _ _ _ _) (Reps.none _ _))); intro v121 w5 ho4 hb hg_ hnew_; clear hg_ hnew_; obtain ⟨AL, cL, rfl⟩ := Kd.R_slice ho4; have n0_ := Aside0.mk (Kd.R_reads' ho4); have n1_ := Aside0.mk (below_step HB.out hb); have n2_ := Aside0.mk (INs.below HI.out hb); have n3_ := Aside0.mk (Kd.F_below HJF.out hb); have n4_ := Aside0.mk (Kd.R_below HO.out hb); have n5_ := Aside0.mk (Nat.le_trans HSZ.out (below_size hb)); clear HB HI HJF HO HSZ; have HL1 := n0_; have HB := n1_; have HI := n2_; have HJF := n3_; have HO := n4_; have HSZ := n5_; clear n0_ n1_ n2_ n3_ n4_ n5_; clear hb ho4) | ((with_reducible refine gate_builtin (b := .append) (xs := #[.tmp 16, .tmp 20]) rfl ?_); at_builtin; refine Kd.R_append_rows kRW (w0 := w) w.heap.size rfl (.tmp 16) (.tmp 20) 22 27 (.agg #[(.string ⟨#[]⟩), (.int .i64 0), (.slice none 0 0)]) 48 rfl Try.underlying22 info27 rfl (by decide) (by omega) (.slice A4 rs.length c4) rs [⟨a1, u2, A2, e2.length, c2⟩] _ _ _ (fun _ => True) (fun _ => False) rfl rfl ?aO ?aR (fun _ _ h => h) (fun _ h => h.elim) ?aF ?aB ?aS ?aL ?_; (case aR => exact HL1.out.2.2); (case aB => exact HB.out); (case aF => exact (fun _ _ => trivial)); (case aO => exact HO.out); (case aS => exact (below_size HB.out)); (case aL => have := LM.out; simp only [List.length_cons, List.length_nil]; omega); intro v6 w6 ho hb hg hat; have n0_ := Aside0.mk (hb); have n1_ := Aside0.mk (ho); have n2_ := Aside0.mk hg; have n3_ := Aside0.mk hat; clear HB HO; have HB := n0_; have HO := n1_; have HG := n2_; have HAT := n3_; clear n0_ n1_ n2_ n3_; clear ho hb hg hat))
 have hIN : INs (Kd.int .i64) S27.f0 (fun x => x.f1.f0) (fun x => x.f1.f1) w6 (fun k => ((P0_ k ∨ P2_1_ k) ∨ w.heap.size ≤ k) ∧ some k ≠ v6.ownBlock) (rs ++ [⟨a1, u2, A2, e2.length, c2⟩]) (d ++ [(⟨a1, ⟨u2, e2⟩⟩ : S27)]) := by
  have hfar : ∀ k, k < w5.heap.size → some k ≠ (Value.slice A4 rs.length c4).ownBlock → some k ≠ v6.ownBlock := fun k hk hne => by
   rcases HAT.out with h | ⟨b, h, hle⟩
   ·rw [h]; exact hne
   ·rw [h]; intro e; injection e with e; omega
  refine F2.append (INs.mono (INs.step (INs.bound HI.out) (fun k hk hlt => HG.out.block k hlt hk.1.1.2)) (fun k hk => ⟨hk.1.1.1.imp_left Or.inl, hfar k hk.2 hk.1.1.2⟩)) ⟨⟨rfl, rfl, rfl, HJL.out, ?_⟩, trivial⟩
  have hne : ∀ k, k < w.heap.size → some k ≠ (Value.slice A4 rs.length c4).ownBlock := fun k hk e => by have := HBS.out k e.symm; omega
  exact Kd.F_mono (Kd.F_step (Kd.F_bound HJF.out) (fun k hk hlt => HG.out.block k hlt (hne k hk.1.2))) (fun k hk => ⟨.inl (.inr hk.1.1), hfar k hk.2 (hne k hk.1.2)⟩)
 obtain ⟨g, cp, rfl, hg0, hg1, -⟩ := Kd.R_form HO.out (by simp)
 replace HI := Aside0.mk (show INs (Kd.int .i64) S27.f0 (fun x => x.f1.f0) (fun x => x.f1.f1) w6 (fun k => ((P0_ k ∨ P2_1_ k) ∨ w.heap.size ≤ k) ∧ k ≠ g) (rs ++ [⟨a1, u2, A2, e2.length, c2⟩]) (d ++ [(⟨a1, ⟨u2, e2⟩⟩ : S27)]) from INs.mono hIN (fun k hk => ⟨hk.1, fun e => hk.2 (by rw [e]; simp [Value.ownBlock])⟩))
 have HGB := Aside0.mk hg0
 clear hIN HL1 HJF HJL HG HAT HBS HSZ HV0 BK hg0 hg1 hq0 hq1
 have hN : (rs ++ [(⟨a1, u2, A2, e2.length, c2⟩ : RW)]).length = d.length + 1 := by rw [List.length_append, HLEN.out]; rfl
 have LD := Aside0.mk (show d.length < 1000000000 by have := LM.out; have := HLEN.out; omega)
 rw [hN] at HO ⊢
 generalize (rs ++ [(⟨a1, u2, A2, e2.length, c2⟩ : RW)]) = L at HI HO
 clear hN LM HLEN
 generalize hN : d.length + 1 = N at HO ⊢
 have HN := Aside0.mk hN
 have hmax : maxLen = 9223372036854775807 := rfl
 have hs0 : (N : Int) - 1 = (d.length : Int) := by omega
 have hw0 : wrap64 (d.length : Int) = (d.length : Int) := by rw [Go.Proofs.Ytkfehkaiifjkmaa.Pure.wrap_id (by omega) (by have := LD.out; omega)]
 have hwi : IntKind.i64.wrap ((N : Int) - 1) = (d.length : Int) := by rw [hs0, IntKind.wrap_i64] <;> (have := LD.out; omega)
 clear hN
 go_wp2_with fail
 go_loopw [8] (fun vi wr => ∃ (p q : List S27) (L : List RW), vi = .int .i64 ((p.length : Nat) : Int) ∧ Aside0 (p.length + q.length + 1 = N) ∧ Aside0 (sinkO k (⟨a1, ⟨u2, e2⟩⟩ : S27) p q = some r) ∧ Aside0 (Kd.R kRW 27 wr w.heap.size (fun _ => True) (.slice (some ⟨g, 0, none⟩) N cp) L) ∧ Aside0 (INs (Kd.int .i64) S27.f0 (fun x => x.f1.f0) (fun x => x.f1.f1) wr (fun k => ((P0_ k ∨ P2_1_ k) ∨ w.heap.size ≤ k) ∧ k ≠ g) L (p.reverse ++ (⟨a1, ⟨u2, e2⟩⟩ : S27) :: q)) ∧ Aside0 (Below w.heap.size w wr)) (fun vi _ => (intOf vi).toNat)
 case atStart => exact ⟨d.reverse, [], L, by rw [List.length_reverse, hw0], ⟨by rw [List.length_reverse]; exact HN.out⟩, HH, HO, ⟨by rw [List.reverse_reverse]; exact HI.out⟩, HB⟩
 case round =>
  clear HO HI HB HH hs0 hw0 hwi
  obtain ⟨p, q, L, rfl, HPQ, HH, HO, HI, HB⟩ := hrel
  cases p with
  | nil =>
   have hr : r = (⟨a1, ⟨u2, e2⟩⟩ : S27) :: q := by have h := HH.out; unfold sinkO at h; exact (Option.some.inj h).symm
   subst hr
   simp only [List.length_nil]
   go_upto_region 6 with fail
   refine start_ (n := 17) (S := fun w' => True) (ds := []) #[false, false, false, false, false, false, false, false, false, false, false, false, false, false, false, false, false] (by kernel_rfl) rfl rfl trivial (fun hHeld => ?_)
   replace HO := Aside0.mk (Kd.R_drew HO.out)
   replace HI := Aside0.mk (INs.below HI.out (below_drew1 (Below.refl _ _)))
   replace HB := Aside0.mk (below_drew1 HB.out)
   generalize wr.drew = w7 at HO HI HB hHeld ⊢
   refine p_ 0 25 (mk_ 17 0x1) ?_
   refine p_ 1 26 (mk_ 17 0x3) ?_
   refine p_ 2 27 (mk_ 17 0x7) ?_
   refine u_ 3 28 (mk_ 17 0xf) ?_
   refine u_ 4 29 (mk_ 17 0x1f) ?_
   refine u_ 5 30 (mk_ 17 0x3f) ?_
   refine u_ 6 31 (mk_ 17 0x7f) ?_
   refine u_ 7 32 (mk_ 17 0xff) ?_
   refine u_ 8 33 (mk_ 17 0x1ff) ?_
   refine u_ 9 34 (mk_ 17 0x3ff) ?_
   refine u_ 10 35 (mk_ 17 0x7ff) ?_
   refine u_ 11 36 (mk_ 17 0xfff) ?_
   refine u_ 12 37 (mk_ 17 0x1fff) ?_
   refine u_ 13 38 (mk_ 17 0x3fff) ?_
   refine u_ 14 39 (mk_ 17 0x7fff) ?_
   refine u_ 15 40 (mk_ 17 0xffff) ?_
   refine p_ 16 41 (mk_ 17 0x1ffff) ?_
   refine done_ (by kernel_rfl) ?_
   go_wp2_with fail
   go_ret
   exact ⟨_, rfl, lead_view2 lead_r HO.out HI.out (fun k hk => .inr hk) (fun k hk => hk.1), HB.out⟩
  | cons u p =>
   obtain ⟨i, hi⟩ : ∃ i, (u :: p).length = i := ⟨_, rfl⟩
   obtain ⟨m, hm⟩ : ∃ m, p.length = m := ⟨_, rfl⟩
   have him : i = m + 1 := by rw [← hi, ← hm]; rfl
   have hiN : i < N := by have := HPQ.out; rw [hi] at this; omega
   have hmN : m < N := by omega
   have hmB : (m : Int) < 4000000000 := by have := LD.out; have := HN.out; omega
   rw [hi]
   have hs1 : (i : Int) - 1 = (m : Int) := by omega
   have hw1 : wrap64 (m : Int) = (m : Int) := by rw [Go.Proofs.Ytkfehkaiifjkmaa.Pure.wrap_id (by omega) (by omega)]
   have hwi : IntKind.i64.wrap ((i : Int) - 1) = (m : Int) := by rw [hs1, IntKind.wrap_i64] <;> omega
   have gt1 : decide ((i : Int) > 0) = true := decide_eq_true (by omega)
   have gt2 := eq_true (show (i : Int) > 0 by omega)
   have gt3 := eq_true (show 0 < i by omega)
   have gt4 : decide (0 < i) = true := decide_eq_true (by omega)
   have pm := eq_true (show (0 : Int) ≤ (m : Int) by omega)
   have qm := eq_true (show (m : Int) < (N : Int) by omega)
   have pi := eq_true (show (0 : Int) ≤ (i : Int) by omega)
   have qi := eq_true (show (i : Int) < (N : Int) by omega)
   have hlx : ((u :: p).reverse ++ (⟨a1, ⟨u2, e2⟩⟩ : S27) :: q).length = N := by have := HPQ.out; simp only [List.length_append, List.length_reverse, List.length_cons] at this ⊢; omega
   have gu : ((u :: p).reverse ++ (⟨a1, ⟨u2, e2⟩⟩ : S27) :: q).getD m z27 = u := by
    rw [List.getD_eq_getElem?_getD, List.reverse_cons, List.append_assoc, List.getElem?_append_right (by rw [List.length_reverse]; omega), List.length_reverse, hm]
    simp
   have gv : ((u :: p).reverse ++ (⟨a1, ⟨u2, e2⟩⟩ : S27) :: q).getD i z27 = (⟨a1, ⟨u2, e2⟩⟩ : S27) := by
    rw [List.getD_eq_getElem?_getD, List.getElem?_append_right (by rw [List.length_reverse]; omega), List.length_reverse, hi]
    simp
   have iu := F2.getD HI.out (j := m) (by omega) zRW z27
   have iv := F2.getD HI.out (j := i) (by omega) zRW z27
   rw [gu] at iu
   rw [gv] at iv
   obtain ⟨cu, hclu, hMu, hcu, -⟩ := Kd.R_elem HO.out zRW (m : Int) (by omega) (by omega)
   obtain ⟨cv, hclv, hMv, hcv, -⟩ := Kd.R_elem HO.out zRW (i : Int) (by omega) (by omega)
   rw [Int.toNat_natCast] at hMu hcu hMv hcv
   have hSW := F2.set (F2.set HI.out (i := m) iv) (i := i) iu
   have hsw := swap_list p q u (⟨a1, ⟨u2, e2⟩⟩ : S27) z27
   rw [hm, ← him, gu, gv] at hsw
   rw [hsw] at hSW
   generalize hru : L.getD m zRW = ru at iu hMu hSW
   generalize hrv : L.getD i zRW = rv at iv hMv hSW
   obtain ⟨su, uu, uA, un, uc⟩ := ru
   obtain ⟨sv, vu, vA, vn, vc⟩ := rv
   obtain rfl := kRW_openM hMu
   obtain rfl := kRW_openM hMv
   have e1 : su = u.f0 := iu.1
   have e2 : sv = a1 := iv.1
   subst e1
   subst e2
   have HX0 := Aside0.mk (show wr.cell? ⟨g, m * 3, none⟩ = some (.string u.f0) from hcu 0 _ rfl)
   have HX4 := Aside0.mk (show wr.cell? ⟨g, m * 3 + 1, none⟩ = some (.int .i64 uu) from hcu 1 _ rfl)
   have HX1 := Aside0.mk (show wr.cell? ⟨g, m * 3 + 2, none⟩ = some (.slice uA un uc) from hcu 2 _ rfl)
   have HX2 := Aside0.mk (show wr.cell? ⟨g, i * 3, none⟩ = some (.string sv) from hcv 0 _ rfl)
   have HX5 := Aside0.mk (show wr.cell? ⟨g, i * 3 + 1, none⟩ = some (.int .i64 vu) from hcv 1 _ rfl)
   have HX3 := Aside0.mk (show wr.cell? ⟨g, i * 3 + 2, none⟩ = some (.slice vA vn vc) from hcv 2 _ rfl)
   have HHH := HH.out
   unfold sinkO at HHH
   obtain ⟨c, hc, HHH⟩ := Option.bind_eq_some_iff.mp HHH
   have HCM := Aside0.mk (show cenotaphref01_Compare.f k u.f0 sv = some c from hc)
   have HRS := Aside0.mk (And.intro hru hrv)
   have HPM := Aside0.mk hm
   have HIM := Aside0.mk him
   have HHI := Aside0.mk hi
   have HSW := Aside0.mk hsw
   have HGU := Aside0.mk gu
   have HGV := Aside0.mk gv
   have HLX := Aside0.mk hlx
   clear hru hrv hm him hi hsw hSW hc HH iu iv hcu hcv hclu hclv hMu hMv gu gv hlx
   by_cases hc0 : c > 0
   ·rw [if_pos hc0] at HHH
    have HH := Aside0.mk HHH
    clear HHH
    have hq1 : decide (c > 0) = true := decide_eq_true hc0
    have hq2 := eq_true hc0
    have hq3 := eq_true (show 0 < c from hc0)
    clear hc0
    go_upto_region 6 with fail
    refine start_ (n := 17) (S := fun w' => w'.cell? ⟨g, m * 3, none⟩ = some (.string u.f0) ∧ w'.cell? ⟨g, m * 3 + 1, none⟩ = some (.int .i64 uu) ∧ w'.cell? ⟨g, m * 3 + 2, none⟩ = some (.slice uA un uc) ∧ w'.cell? ⟨g, i * 3, none⟩ = some (.string sv) ∧ w'.cell? ⟨g, i * 3 + 1, none⟩ = some (.int .i64 vu) ∧ w'.cell? ⟨g, i * 3 + 2, none⟩ = some (.slice vA vn vc)) (ds := []) #[false, false, false, false, false, false, false, false, false, false, false, false, false, false, false, false, false] (by kernel_rfl) rfl rfl ⟨cell_drew2 HX0.out, cell_drew2 HX4.out, cell_drew2 HX1.out, cell_drew2 HX2.out, cell_drew2 HX5.out, cell_drew2 HX3.out⟩ (fun hHeld => ?_)
    replace HO := Aside0.mk (Kd.R_drew HO.out)
    replace HI := Aside0.mk (INs.below HI.out (below_drew1 (Below.refl _ _)))
    replace HB := Aside0.mk (below_drew1 HB.out)
    replace HX0 := Aside0.mk (cell_drew2 HX0.out)
    replace HX1 := Aside0.mk (cell_drew2 HX1.out)
    replace HX2 := Aside0.mk (cell_drew2 HX2.out)
    replace HX3 := Aside0.mk (cell_drew2 HX3.out)
    replace HX4 := Aside0.mk (cell_drew2 HX4.out)
    replace HX5 := Aside0.mk (cell_drew2 HX5.out)
    generalize wr.drew = w7 at HO HI HB HX0 HX1 HX2 HX3 HX4 HX5 hHeld ⊢
    refine p_ 0 25 (mk_ 17 0x1) ?_
    refine p_ 1 26 (mk_ 17 0x3) ?_
    refine p_ 2 27 (mk_ 17 0x7) ?_
    refine p_ 3 28 (mk_ 17 0xf) ?_
    refine p_ 4 29 (mk_ 17 0x1f) ?_
    refine p_ 5 30 (mk_ 17 0x3f) ?_
    refine p_ 6 31 (mk_ 17 0x7f) ?_
    refine p_ 7 32 (mk_ 17 0xff) ?_
    refine t_ 8 33 (mk_ 17 0x1ff) hHeld ?_
    refine p_ 9 34 (mk_ 17 0x3ff) ?_
    refine p_ 10 35 (mk_ 17 0x7ff) ?_
    refine p_ 11 36 (mk_ 17 0xfff) ?_
    refine p_ 12 37 (mk_ 17 0x1fff) ?_
    refine t_ 13 38 (mk_ 17 0x3fff) hHeld ?_
    refine one_ (i := 14) (N := some 39) #[true, true, true, true, true, true, true, true, true, true, true, true, true, true, true, false, false] rfl rfl (by kernel_rfl) (by decide) (fun K hK => ?_)
    refine goes_ Try.func42 (by kernel_rfl) rfl #[.string u.f0, .string sv] (by rfl) rfl rfl (by (try simp only [List.map_toArray, List.map_cons, List.map_nil]); first | done | rfl) ?_
    refine (cenotaphref01_Compare.calls k u.f0 sv c w7 HCM.out).mono ?_
    rintro ev w8 ⟨rfl, hb⟩
    replace hb := hb.below
    refine ⟨_, rfl, ?_⟩
    replace HO := Aside0.mk (Kd.R_below HO.out hb)
    replace HI := Aside0.mk (INs.below HI.out hb)
    replace HB := Aside0.mk (below_step HB.out hb)
    replace HX0 := Aside0.mk (cell_below2 HX0.out hb)
    replace HX1 := Aside0.mk (cell_below2 HX1.out hb)
    replace HX2 := Aside0.mk (cell_below2 HX2.out hb)
    replace HX3 := Aside0.mk (cell_below2 HX3.out hb)
    replace HX4 := Aside0.mk (cell_below2 HX4.out hb)
    replace HX5 := Aside0.mk (cell_below2 HX5.out hb)
    clear hb
    refine hK.out _ _ ⟨HX0.out, HX4.out, HX1.out, HX2.out, HX5.out, HX3.out⟩ (fun hHeld => ?_)
    clear hK K
    refine norm_ (a' := ?_) ?_ ?_
    rotate_left
    ·show Act.put _ (some 39) _ = _
     simp only [Act.put, List.setIfInBounds_toArray, List.set_cons_zero, List.set_cons_succ, i64_w, i32_w]
     rfl
    refine p_ 15 40 (mk_ 17 0xffff) ?_
    refine p_ 16 41 (mk_ 17 0x1ffff) ?_
    refine done_ (by kernel_rfl) ?_
    have HIS := Aside0.mk HI.out
    go_upto_region 8 with fail
    refine start_ (n := 18) (S := fun w' => w'.cell? ⟨g, m * 3, none⟩ = some (.string u.f0) ∧ w'.cell? ⟨g, m * 3 + 1, none⟩ = some (.int .i64 uu) ∧ w'.cell? ⟨g, m * 3 + 2, none⟩ = some (.slice uA un uc) ∧ w'.cell? ⟨g, i * 3, none⟩ = some (.string sv) ∧ w'.cell? ⟨g, i * 3 + 1, none⟩ = some (.int .i64 vu) ∧ w'.cell? ⟨g, i * 3 + 2, none⟩ = some (.slice vA vn vc)) (ds := [15, 17]) #[false, false, false, false, false, false, false, false, false, false, false, false, false, false, false, false, false, false] (by kernel_rfl) rfl rfl ⟨cell_drew2 HX0.out, cell_drew2 HX4.out, cell_drew2 HX1.out, cell_drew2 HX2.out, cell_drew2 HX5.out, cell_drew2 HX3.out⟩ (fun hHeld => ?_)
    replace HO := Aside0.mk (Kd.R_drew HO.out)
    replace HI := Aside0.mk (INs.below HI.out (below_drew1 (Below.refl _ _)))
    replace HB := Aside0.mk (below_drew1 HB.out)
    clear HX0 HX1 HX2 HX3 HX4 HX5
    generalize w8.drew = w9 at HO HI HB hHeld ⊢
    refine p_ 0 44 (mk_ 18 0x1) ?_
    refine p_ 1 45 (mk_ 18 0x3) ?_
    refine p_ 2 46 (mk_ 18 0x7) ?_
    refine p_ 3 47 (mk_ 18 0xf) ?_
    refine p_ 4 48 (mk_ 18 0x1f) ?_
    refine p_ 5 49 (mk_ 18 0x3f) ?_
    refine p_ 6 50 (mk_ 18 0x7f) ?_
    refine p_ 7 51 (mk_ 18 0xff) ?_
    refine t_ 8 52 (mk_ 18 0x1ff) hHeld ?_
    refine p_ 9 53 (mk_ 18 0x3ff) ?_
    refine p_ 10 54 (mk_ 18 0x7ff) ?_
    refine p_ 11 55 (mk_ 18 0xfff) ?_
    refine p_ 12 56 (mk_ 18 0x1fff) ?_
    refine t_ 13 57 (mk_ 18 0x3fff) hHeld ?_
    refine p_ 14 58 (mk_ 18 0x7fff) ?_
    clear hHeld
    refine last_ (i := 15) (N := none) #[true, true, true, true, true, true, true, true, true, true, true, true, true, true, true, true, false, false] rfl rfl (by kernel_rfl) (by decide) (fun K hK => ?_)
    obtain ⟨cz, hclz, hMz, hcz, hfz⟩ := Kd.R_elem HO.out zRW (m : Int) (by omega) (by omega)
    obtain rfl := kRW_openM hMz
    generalize (List.getD _ (m : Int).toNat zRW) = rz at hcz
    rw [Int.toNat_natCast] at hcz hfz
    have hz0 : World.frozen? w9 ⟨g, m * 3, none⟩ = false := hfz 0
    have hz1 : World.frozen? w9 ⟨g, m * 3 + 1, none⟩ = false := hfz 1
    have hz4 : World.frozen? w9 ⟨g, m * 3 + 2, none⟩ = false := hfz 2
    have hz2 : World.cell? w9 ⟨g, m * 3, none⟩ = some (.string rz.f0) := hcz 0 _ rfl
    have hz3 : World.cell? w9 ⟨g, m * 3 + 1, none⟩ = some (.int .i64 rz.u) := hcz 1 _ rfl
    have hz5 : World.cell? w9 ⟨g, m * 3 + 2, none⟩ = some (.slice rz.A rz.n rz.c) := hcz 2 _ rfl
    clear hclz hMz hcz hfz
    refine skip_ (w1 := ?_) (by rfl) rfl ?_ ?_
    rotate_left
    ·go_simp
     rfl
    refine hK.out _ _ ?_
    clear hK K
    clear hz0 hz1 hz2 hz3 hz4 hz5
    replace HO := Aside0.mk (show Kd.R kRW 27 (((w9.setCell ⟨g, m * 3, none⟩ (.string sv)).setCell ⟨g, m * 3 + 1, none⟩ (.int .i64 vu)).setCell ⟨g, m * 3 + 2, none⟩ (.slice vA vn vc)) w.heap.size (fun _ => True) (.slice (some ⟨g, 0, none⟩) N cp) (L.set m ⟨sv, vu, vA, vn, vc⟩) from RW_put HO.out hmN ⟨sv, vu, vA, vn, vc⟩)
    replace HI := Aside0.mk (show INs (Kd.int .i64) S27.f0 (fun x => x.f1.f0) (fun x => x.f1.f1) (((w9.setCell ⟨g, m * 3, none⟩ (.string sv)).setCell ⟨g, m * 3 + 1, none⟩ (.int .i64 vu)).setCell ⟨g, m * 3 + 2, none⟩ (.slice vA vn vc)) (fun k => ((P0_ k ∨ P2_1_ k) ∨ w.heap.size ≤ k) ∧ k ≠ g) L ((u :: p).reverse ++ (⟨sv, ⟨u2, e2⟩⟩ : S27) :: q) from INs.far (o := m * 3) (seg := [.string sv, .int .i64 vu, .slice vA vn vc]) HI.out (fun k hk => hk.2))
    replace HB := Aside0.mk (show Below w.heap.size w (((w9.setCell ⟨g, m * 3, none⟩ (.string sv)).setCell ⟨g, m * 3 + 1, none⟩ (.int .i64 vu)).setCell ⟨g, m * 3 + 2, none⟩ (.slice vA vn vc)) from below_set (below_set (below_set HB.out HGB.out) HGB.out) HGB.out)
    generalize ((w9.setCell ⟨g, m * 3, none⟩ (.string sv)).setCell ⟨g, m * 3 + 1, none⟩ (.int .i64 vu)).setCell ⟨g, m * 3 + 2, none⟩ (.slice vA vn vc) = w10 at HO HI HB ⊢
    refine p_ 16 59 (mk_ 18 0x1ffff) ?_
    refine last_ (i := 17) (N := none) #[true, true, true, true, true, true, true, true, true, true, true, true, true, true, true, true, true, true] rfl rfl (by kernel_rfl) (by decide) (fun K hK => ?_)
    obtain ⟨cz, hclz, hMz, hcz, hfz⟩ := Kd.R_elem HO.out zRW (i : Int) (by omega) (by omega)
    obtain rfl := kRW_openM hMz
    generalize (List.getD _ (i : Int).toNat zRW) = rz at hcz
    rw [Int.toNat_natCast] at hcz hfz
    have hz0 : World.frozen? w10 ⟨g, i * 3, none⟩ = false := hfz 0
    have hz1 : World.frozen? w10 ⟨g, i * 3 + 1, none⟩ = false := hfz 1
    have hz4 : World.frozen? w10 ⟨g, i * 3 + 2, none⟩ = false := hfz 2
    have hz2 : World.cell? w10 ⟨g, i * 3, none⟩ = some (.string rz.f0) := hcz 0 _ rfl
    have hz3 : World.cell? w10 ⟨g, i * 3 + 1, none⟩ = some (.int .i64 rz.u) := hcz 1 _ rfl
    have hz5 : World.cell? w10 ⟨g, i * 3 + 2, none⟩ = some (.slice rz.A rz.n rz.c) := hcz 2 _ rfl
    clear hclz hMz hcz hfz
    refine skip_ (w1 := ?_) (by rfl) rfl ?_ ?_
    rotate_left
    ·go_simp
     rfl
    refine hK.out _ _ ?_
    clear hK K
    clear hz0 hz1 hz2 hz3 hz4 hz5
    replace HO := Aside0.mk (show Kd.R kRW 27 (((w10.setCell ⟨g, i * 3, none⟩ (.string u.f0)).setCell ⟨g, i * 3 + 1, none⟩ (.int .i64 uu)).setCell ⟨g, i * 3 + 2, none⟩ (.slice uA un uc)) w.heap.size (fun _ => True) (.slice (some ⟨g, 0, none⟩) N cp) ((L.set m ⟨sv, vu, vA, vn, vc⟩).set i ⟨u.f0, uu, uA, un, uc⟩) from RW_put HO.out hiN ⟨u.f0, uu, uA, un, uc⟩)
    replace HI := Aside0.mk (show INs (Kd.int .i64) S27.f0 (fun x => x.f1.f0) (fun x => x.f1.f1) (((w10.setCell ⟨g, i * 3, none⟩ (.string u.f0)).setCell ⟨g, i * 3 + 1, none⟩ (.int .i64 uu)).setCell ⟨g, i * 3 + 2, none⟩ (.slice uA un uc)) (fun k => ((P0_ k ∨ P2_1_ k) ∨ w.heap.size ≤ k) ∧ k ≠ g) L ((u :: p).reverse ++ (⟨sv, ⟨u2, e2⟩⟩ : S27) :: q) from INs.far (o := i * 3) (seg := [.string u.f0, .int .i64 uu, .slice uA un uc]) HI.out (fun k hk => hk.2))
    replace HB := Aside0.mk (show Below w.heap.size w (((w10.setCell ⟨g, i * 3, none⟩ (.string u.f0)).setCell ⟨g, i * 3 + 1, none⟩ (.int .i64 uu)).setCell ⟨g, i * 3 + 2, none⟩ (.slice uA un uc)) from below_set (below_set (below_set HB.out HGB.out) HGB.out) HGB.out)
    generalize ((w10.setCell ⟨g, i * 3, none⟩ (.string u.f0)).setCell ⟨g, i * 3 + 1, none⟩ (.int .i64 uu)).setCell ⟨g, i * 3 + 2, none⟩ (.slice uA un uc) = w11 at HO HI HB ⊢
    refine done_ (by kernel_rfl) ?_
    replace HI := Aside0.mk (show INs (Kd.int .i64) S27.f0 (fun x => x.f1.f0) (fun x => x.f1.f1) w11 (fun k => ((P0_ k ∨ P2_1_ k) ∨ w.heap.size ≤ k) ∧ k ≠ g) ((L.set m ⟨sv, vu, vA, vn, vc⟩).set i ⟨u.f0, uu, uA, un, uc⟩) (p.reverse ++ (⟨sv, ⟨u2, e2⟩⟩ : S27) :: u :: q) from by
     have iu := F2.getD HI.out (j := m) (by have := HLX.out; omega) zRW z27
     have iv := F2.getD HI.out (j := i) (by have := HLX.out; omega) zRW z27
     rw [HGU.out, HRS.out.1] at iu
     rw [HGV.out, HRS.out.2] at iv
     have h := F2.set (F2.set HI.out (i := m) iv) (i := i) iu
     rw [HSW.out] at h
     exact h)
    go_wp2_with fail
    go_roundw
    case rel => exact ⟨p, u :: q, _, by rw [HPM.out], ⟨by have := HPQ.out; simp only [List.length_cons] at this ⊢; omega⟩, HH, HO, HI, HB⟩
    case measure => simp [intOf]; have := HIM.out; omega
   ·rw [if_neg hc0] at HHH
    have HRR := Aside0.mk (Option.some.inj HHH)
    clear HHH
    have hq1 : decide (c > 0) = false := decide_eq_false hc0
    have hq2 := eq_false hc0
    have hq3 := eq_false (show ¬ 0 < c from hc0)
    clear hc0
    go_upto_region 6 with fail
    refine start_ (n := 17) (S := fun w' => w'.cell? ⟨g, m * 3, none⟩ = some (.string u.f0) ∧ w'.cell? ⟨g, m * 3 + 1, none⟩ = some (.int .i64 uu) ∧ w'.cell? ⟨g, m * 3 + 2, none⟩ = some (.slice uA un uc) ∧ w'.cell? ⟨g, i * 3, none⟩ = some (.string sv) ∧ w'.cell? ⟨g, i * 3 + 1, none⟩ = some (.int .i64 vu) ∧ w'.cell? ⟨g, i * 3 + 2, none⟩ = some (.slice vA vn vc)) (ds := []) #[false, false, false, false, false, false, false, false, false, false, false, false, false, false, false, false, false] (by kernel_rfl) rfl rfl ⟨cell_drew2 HX0.out, cell_drew2 HX4.out, cell_drew2 HX1.out, cell_drew2 HX2.out, cell_drew2 HX5.out, cell_drew2 HX3.out⟩ (fun hHeld => ?_)
    replace HO := Aside0.mk (Kd.R_drew HO.out)
    replace HI := Aside0.mk (INs.below HI.out (below_drew1 (Below.refl _ _)))
    replace HB := Aside0.mk (below_drew1 HB.out)
    replace HX0 := Aside0.mk (cell_drew2 HX0.out)
    replace HX1 := Aside0.mk (cell_drew2 HX1.out)
    replace HX2 := Aside0.mk (cell_drew2 HX2.out)
    replace HX3 := Aside0.mk (cell_drew2 HX3.out)
    replace HX4 := Aside0.mk (cell_drew2 HX4.out)
    replace HX5 := Aside0.mk (cell_drew2 HX5.out)
    generalize wr.drew = w7 at HO HI HB HX0 HX1 HX2 HX3 HX4 HX5 hHeld ⊢
    refine p_ 0 25 (mk_ 17 0x1) ?_
    refine p_ 1 26 (mk_ 17 0x3) ?_
    refine p_ 2 27 (mk_ 17 0x7) ?_
    refine p_ 3 28 (mk_ 17 0xf) ?_
    refine p_ 4 29 (mk_ 17 0x1f) ?_
    refine p_ 5 30 (mk_ 17 0x3f) ?_
    refine p_ 6 31 (mk_ 17 0x7f) ?_
    refine p_ 7 32 (mk_ 17 0xff) ?_
    refine t_ 8 33 (mk_ 17 0x1ff) hHeld ?_
    refine p_ 9 34 (mk_ 17 0x3ff) ?_
    refine p_ 10 35 (mk_ 17 0x7ff) ?_
    refine p_ 11 36 (mk_ 17 0xfff) ?_
    refine p_ 12 37 (mk_ 17 0x1fff) ?_
    refine t_ 13 38 (mk_ 17 0x3fff) hHeld ?_
    refine one_ (i := 14) (N := some 39) #[true, true, true, true, true, true, true, true, true, true, true, true, true, true, true, false, false] rfl rfl (by kernel_rfl) (by decide) (fun K hK => ?_)
    refine goes_ Try.func42 (by kernel_rfl) rfl #[.string u.f0, .string sv] (by rfl) rfl rfl (by (try simp only [List.map_toArray, List.map_cons, List.map_nil]); first | done | rfl) ?_
    refine (cenotaphref01_Compare.calls k u.f0 sv c w7 HCM.out).mono ?_
    rintro ev w8 ⟨rfl, hb⟩
    replace hb := hb.below
    refine ⟨_, rfl, ?_⟩
    replace HO := Aside0.mk (Kd.R_below HO.out hb)
    replace HI := Aside0.mk (INs.below HI.out hb)
    replace HB := Aside0.mk (below_step HB.out hb)
    replace HX0 := Aside0.mk (cell_below2 HX0.out hb)
    replace HX1 := Aside0.mk (cell_below2 HX1.out hb)
    replace HX2 := Aside0.mk (cell_below2 HX2.out hb)
    replace HX3 := Aside0.mk (cell_below2 HX3.out hb)
    replace HX4 := Aside0.mk (cell_below2 HX4.out hb)
    replace HX5 := Aside0.mk (cell_below2 HX5.out hb)
    clear hb
    refine hK.out _ _ ⟨HX0.out, HX4.out, HX1.out, HX2.out, HX5.out, HX3.out⟩ (fun hHeld => ?_)
    clear hK K
    refine norm_ (a' := ?_) ?_ ?_
    rotate_left
    ·show Act.put _ (some 39) _ = _
     simp only [Act.put, List.setIfInBounds_toArray, List.set_cons_zero, List.set_cons_succ, i64_w, i32_w]
     rfl
    refine p_ 15 40 (mk_ 17 0xffff) ?_
    refine p_ 16 41 (mk_ 17 0x1ffff) ?_
    refine done_ (by kernel_rfl) ?_
    go_wp2_with fail
    go_ret
    exact ⟨_, rfl, by rw [← HRR.out]; exact lead_view2 lead_r HO.out HI.out (fun k hk => .inr hk) (fun k hk => hk.1), HB.out⟩


/-! ### cenotaphref01_Fix: function 44 -/
def cenotaphref01_Fix.l0 : Nat → ByteArray → ByteArray → Int → Option (ByteArray)
  | 0, _, _, _ => none
  | k + 1, x0, x3, x4 => if x4 < (x0.size : Int) then (if x4 < 5 then (if 0 ≤ x4 then (if 0 ≤ (Int.tmod (bt x0 x4) 9) then (if (Int.tmod (bt x0 x4) 9) ≤ (((Int.tmod (bt x0 x4) 9) + 1) % 256) then (if (((Int.tmod (bt x0 x4) 9) + 1) % 256) ≤ 9 then (if x3.size + ((⟨#[49, 50, 51, 52, 53, 54, 55, 56, 57]⟩ : ByteArray).extract ((Int.tmod (bt x0 x4) 9) : Int).toNat ((((Int.tmod (bt x0 x4) 9) + 1) % 256) : Int).toNat).size ≤ 9223372036854775807 then (cenotaphref01_Fix.l0 k x0 (x3 ++ ((⟨#[49, 50, 51, 52, 53, 54, 55, 56, 57]⟩ : ByteArray).extract ((Int.tmod (bt x0 x4) 9) : Int).toNat ((((Int.tmod (bt x0 x4) 9) + 1) % 256) : Int).toNat)) (wrap64 (x4 + 1))) else (none)) else (none)) else (none)) else (none)) else (none)) else (some x3)) else (some x3)
def cenotaphref01_Fix.f (k : Nat) (a0 : ByteArray) : Option (ByteArray) := cenotaphref01_Fix.l0 k a0 (⟨#[48]⟩ : ByteArray) 0
theorem cenotaphref01_Fix.mono_l : ∀ k, (∀ y0 y1 y2, LeO (cenotaphref01_Fix.l0 k y0 y1 y2) (cenotaphref01_Fix.l0 (k + 1) y0 y1 y2))
  | 0 => fun _ _ _ r h => by simp [cenotaphref01_Fix.l0] at h
  | k + 1 => by
    have ih0 := cenotaphref01_Fix.mono_l k
    · intro y0 y1 y2
      unfold cenotaphref01_Fix.l0
      repeat' first
      | (with_reducible exact ih0 _ _ _)
      | (with_reducible exact LeO.refl _)
      | (with_reducible exact LeO.none _)
      | (with_reducible refine LeO.ite ?_ ?_)
      | (with_reducible refine LeO.bind ?_ (fun _ => ?_))
      | exact ih0 _ _ _
      | exact LeO.none _
      | refine LeO.ite ?_ ?_
      | refine LeO.bind ?_ (fun _ => ?_)
theorem cenotaphref01_Fix.mono : ∀ a0 k, LeO (cenotaphref01_Fix.f k a0) (cenotaphref01_Fix.f (k + 1) a0) := by
  intro a0 k
  have ih0 := cenotaphref01_Fix.mono_l k
  unfold cenotaphref01_Fix.f
  repeat' first
      | (with_reducible exact ih0 _ _ _)
      | (with_reducible exact LeO.refl _)
      | (with_reducible exact LeO.none _)
      | (with_reducible refine LeO.ite ?_ ?_)
      | (with_reducible refine LeO.bind ?_ (fun _ => ?_))
      | exact ih0 _ _ _
      | exact LeO.none _
      | refine LeO.ite ?_ ?_
      | refine LeO.bind ?_ (fun _ => ?_)
set_option maxHeartbeats 8000000 in
set_option maxRecDepth 100000 in
theorem cenotaphref01_Fix.calls (k : Nat) (a0 : ByteArray) (r : ByteArray) (w : World) (h : cenotaphref01_Fix.f k a0 = some r) :
    Calls Try.prog 44 #[.string a0] w fun e w' => e = .returned (.string r) ∧ Drawn0 w w' := by
  have H : (cenotaphref01_Fix.l0 k a0 (⟨#[48]⟩ : ByteArray) 0) = some r := h
  clear h
  have H' := Aside0.mk H
  clear H
  go_enter Try.func44, Try.ntmps44
  go_wp2
  repeat (go_quiet (fail); try go_wp2)
  go_loopg [3, 4] k (fun kq v3 v4 w' => ∃ (x3_1 : ByteArray) (x4_1 : Int), v3 = .string x3_1 ∧ v4 = .int .i64 x4_1 ∧ Aside0 (cenotaphref01_Fix.l0 kq a0 x3_1 x4_1 = some r) ∧ Aside0 (kq ≤ k) ∧ Drawn0 w w')
  case atStart => exact ⟨((⟨#[48]⟩ : ByteArray)), (0), (by first | rfl | (simp; done) | (simp [*]; done)), (by first | rfl | (simp; done) | (simp [*]; done)), H', ⟨Nat.le_refl _⟩, by repeat (first | exact Drawn0.refl _ | apply Drawn0.step)⟩
  case round =>
    clear H'
    obtain ⟨x3_1, x4_1, rfl, rfl, HA, HK1, ⟨m1, rfl⟩⟩ := hrel
    cases gk with
    | zero => exact absurd HA.out (by simp [cenotaphref01_Fix.l0])
    | succ k1 =>
      have H := HA.out
      clear HA
      simp only [cenotaphref01_Fix.l0] at H
      by_cases c2 : x4_1 < (a0.size : Int)
      · rw [if_pos c2] at H
        have c2b0 : decide (x4_1 < (a0.size : Int)) = true := decide_eq_true c2
        clear c2
        by_cases c3 : x4_1 < 5
        · rw [if_pos c3] at H
          have c3b0 : decide (x4_1 < 5) = true := decide_eq_true c3
          clear c3
          by_cases c4 : 0 ≤ x4_1
          · rw [if_pos c4] at H
            have c4b0 : decide (0 ≤ x4_1) = true := decide_eq_true c4
            clear c4
            obtain ⟨ji7, hji7⟩ : ∃ j_ : Int, (Int.tmod (bt a0 x4_1) 9) = j_ := ⟨_, rfl⟩
            replace H : (if 0 ≤ (ji7) then (if (ji7) ≤ (((ji7) + 1) % 256) then (if (((ji7) + 1) % 256) ≤ 9 then (if x3_1.size + ((⟨#[49, 50, 51, 52, 53, 54, 55, 56, 57]⟩ : ByteArray).extract ((ji7) : Int).toNat ((((ji7) + 1) % 256) : Int).toNat).size ≤ 9223372036854775807 then (cenotaphref01_Fix.l0 k1 a0 (x3_1 ++ ((⟨#[49, 50, 51, 52, 53, 54, 55, 56, 57]⟩ : ByteArray).extract ((ji7) : Int).toNat ((((ji7) + 1) % 256) : Int).toNat)) (wrap64 (x4_1 + 1))) else (none)) else (none)) else (none)) else (none)) = some r := by first | (rw [hji7] at H; exact H) | (simp only [hji7] at H ⊢; exact H)
            by_cases c8 : 0 ≤ (ji7)
            · rw [if_pos c8] at H
              have c8b0 := eq_true c8
              have c8b1 : decide (0 ≤ (ji7)) = true := decide_eq_true c8
              clear c8
              by_cases c9 : (ji7) ≤ (((ji7) + 1) % 256)
              · rw [if_pos c9] at H
                have c9b0 := eq_true c9
                have c9b1 : decide ((ji7) ≤ (((ji7) + 1) % 256)) = true := decide_eq_true c9
                by_cases c10 : (((ji7) + 1) % 256) ≤ 9
                · rw [if_pos c10] at H
                  have c10b0 := eq_true c10
                  have c10b1 : decide ((((ji7) + 1) % 256) ≤ 9) = true := decide_eq_true c10
                  by_cases c11 : x3_1.size + ((⟨#[49, 50, 51, 52, 53, 54, 55, 56, 57]⟩ : ByteArray).extract ((ji7) : Int).toNat ((((ji7) + 1) % 256) : Int).toNat).size ≤ 9223372036854775807
                  · rw [if_pos c11] at H
                    have c11b0 := eq_true c11
                    have c11b1 : decide (x3_1.size + ((⟨#[49, 50, 51, 52, 53, 54, 55, 56, 57]⟩ : ByteArray).extract ((ji7) : Int).toNat ((((ji7) + 1) % 256) : Int).toNat).size ≤ 9223372036854775807) = true := decide_eq_true c11
                    try have c11b2 : (9223372036854775807 < x3_1.size + ((⟨#[49, 50, 51, 52, 53, 54, 55, 56, 57]⟩ : ByteArray).extract ((ji7) : Int).toNat ((((ji7) + 1) % 256) : Int).toNat).size) = False := eq_false (Nat.not_lt.2 c11)
                    have H' := Aside0.mk H
                    clear H
                    have p5 : 0 ≤ (x4_1 : Int) := of_decide_eq_true (by first | (with_reducible assumption) | assumption)
                    have q5 : x4_1 < (a0.size : Int) := of_decide_eq_true (by first | (with_reducible assumption) | assumption)
                    have hx5 := bt_at a0 x4_1
                    replace p5 := eq_true p5
                    replace q5 := eq_true q5
                    have p6 : 0 ≤ (x4_1 : Int) := of_decide_eq_true (by first | (with_reducible assumption) | assumption)
                    have q6 : x4_1 < (a0.size : Int) := of_decide_eq_true (by first | (with_reducible assumption) | assumption)
                    have hx6 := bt_at a0 x4_1
                    replace p6 := eq_true p6
                    replace q6 := eq_true q6
                    go_wp2
                    repeat (go_quiet (fail); try go_wp2)
                    go_roundg k1
                    case measure => have := HK1.out; omega
                    case rel => exact ⟨(x3_1 ++ ((⟨#[49, 50, 51, 52, 53, 54, 55, 56, 57]⟩ : ByteArray).extract ((ji7) : Int).toNat ((((ji7) + 1) % 256) : Int).toNat)), (wrap64 (x4_1 + 1)), (by first | rfl | (simp; done) | (simp only [← hji7] <;> (first | rfl | simp)) | (simp [*]; done)), (by first | rfl | (simp; done) | (simp [*]; done)), H', ⟨by have := HK1.out; omega⟩, by repeat (first | exact Drawn0.refl _ | apply Drawn0.step)⟩
                  · rw [if_neg c11] at H
                    exact absurd H (by simp)
                · rw [if_neg c10] at H
                  exact absurd H (by simp)
              · rw [if_neg c9] at H
                exact absurd H (by simp)
            · rw [if_neg c8] at H
              exact absurd H (by simp)
          · rw [if_neg c4] at H
            exact absurd H (by simp)
        · rw [if_neg c3] at H
          have c3b0 : decide (x4_1 < 5) = false := decide_eq_false c3
          clear c3
          obtain rfl := Option.some.inj H
          go_wp2
          repeat (go_quiet (fail); try go_wp2)
          go_ret
          exact ⟨by first | rfl | (simp; done) | (simp [*]; done), by repeat (first | exact Drawn0.refl _ | apply Drawn0.step)⟩
      · rw [if_neg c2] at H
        have c2b0 : decide (x4_1 < (a0.size : Int)) = false := decide_eq_false c2
        clear c2
        obtain rfl := Option.some.inj H
        go_wp2
        repeat (go_quiet (fail); try go_wp2)
        go_ret
        exact ⟨by first | rfl | (simp; done) | (simp [*]; done), by repeat (first | exact Drawn0.refl _ | apply Drawn0.step)⟩

/-! ### cenotaphref02_Has: function 55 -/
mutual
def cenotaphref02_Has.j0 : Nat → Int → Bool → Int → List Int → Option (Bool)
  | 0, _, _, _, _ => none
  | k + 1, x1, x13, x251000, x251001 => if x13 = true then (some true) else (cenotaphref02_Has.l0 k x1 0 x251000 x251001)
def cenotaphref02_Has.l0 : Nat → Int → Int → Int → List Int → Option (Bool)
  | 0, _, _, _, _ => none
  | k + 1, x1, x5, x251000, x251001 => if x5 < (x251001.length : Int) then (if 0 ≤ x5 then (if (rd x251001 x5) = x1 then (some true) else (cenotaphref02_Has.l0 k x1 (wrap64 (x5 + 1)) x251000 x251001)) else (none)) else (some false)
end
def cenotaphref02_Has.f (k : Nat) (a0_0 : Int) (l0_1 : List Int) (a1 : Int) : Option (Bool) := if a1 ≥ 1 then (cenotaphref02_Has.j0 k a1 (decide (a1 ≤ a0_0)) a0_0 l0_1) else (cenotaphref02_Has.j0 k a1 false a0_0 l0_1)
theorem cenotaphref02_Has.mono_l : ∀ k, (∀ y0 y1 y2 y3, LeO (cenotaphref02_Has.j0 k y0 y1 y2 y3) (cenotaphref02_Has.j0 (k + 1) y0 y1 y2 y3)) ∧ (∀ y0 y1 y2 y3, LeO (cenotaphref02_Has.l0 k y0 y1 y2 y3) (cenotaphref02_Has.l0 (k + 1) y0 y1 y2 y3))
  | 0 => ⟨fun _ _ _ _ r h => by simp [cenotaphref02_Has.j0] at h, fun _ _ _ _ r h => by simp [cenotaphref02_Has.l0] at h⟩
  | k + 1 => by
    obtain ⟨ih0, ih1⟩ := cenotaphref02_Has.mono_l k
    refine ⟨?_, ?_⟩
    · intro y0 y1 y2 y3
      unfold cenotaphref02_Has.j0
      repeat' first
      | (with_reducible exact ih0 _ _ _ _)
      | (with_reducible exact ih1 _ _ _ _)
      | (with_reducible exact LeO.refl _)
      | (with_reducible exact LeO.none _)
      | (with_reducible refine LeO.ite ?_ ?_)
      | (with_reducible refine LeO.bind ?_ (fun _ => ?_))
      | exact ih0 _ _ _ _
      | exact ih1 _ _ _ _
      | exact LeO.none _
      | refine LeO.ite ?_ ?_
      | refine LeO.bind ?_ (fun _ => ?_)
    · intro y0 y1 y2 y3
      unfold cenotaphref02_Has.l0
      repeat' first
      | (with_reducible exact ih0 _ _ _ _)
      | (with_reducible exact ih1 _ _ _ _)
      | (with_reducible exact LeO.refl _)
      | (with_reducible exact LeO.none _)
      | (with_reducible refine LeO.ite ?_ ?_)
      | (with_reducible refine LeO.bind ?_ (fun _ => ?_))
      | exact ih0 _ _ _ _
      | exact ih1 _ _ _ _
      | exact LeO.none _
      | refine LeO.ite ?_ ?_
      | refine LeO.bind ?_ (fun _ => ?_)
theorem cenotaphref02_Has.mono : ∀ a0 a1 a2 k, LeO (cenotaphref02_Has.f k a0 a1 a2) (cenotaphref02_Has.f (k + 1) a0 a1 a2) := by
  intro a0 a1 a2 k
  obtain ⟨ih0, ih1⟩ := cenotaphref02_Has.mono_l k
  unfold cenotaphref02_Has.f
  repeat' first
      | (with_reducible exact ih0 _ _ _ _)
      | (with_reducible exact ih1 _ _ _ _)
      | (with_reducible exact LeO.refl _)
      | (with_reducible exact LeO.none _)
      | (with_reducible refine LeO.ite ?_ ?_)
      | (with_reducible refine LeO.bind ?_ (fun _ => ?_))
      | exact ih0 _ _ _ _
      | exact ih1 _ _ _ _
      | exact LeO.none _
      | refine LeO.ite ?_ ?_
      | refine LeO.bind ?_ (fun _ => ?_)
set_option maxHeartbeats 8000000 in
set_option maxRecDepth 100000 in
theorem cenotaphref02_Has.calls (k : Nat) (a0_0 : Int) (A0_1 : Option Addr) (c0_1 : Nat) (l0_1 : List Int) (a1 : Int) (r : Bool) (w : World) (hr0_1 : Kd.C (Kd.int .i64) w A0_1 l0_1.length l0_1) (hc0_1 : l0_1.length ≤ c0_1) (h : cenotaphref02_Has.f k a0_0 l0_1 a1 = some r) :
    Calls Try.prog 55 #[.agg #[.int .i64 a0_0, .slice A0_1 l0_1.length c0_1], .int .i64 a1] w fun e w' => e = .returned (.bool r) ∧ Below w.heap.size w w' := by
  have hu25 := Try.underlying25
  have HR0_1 := Aside0.mk hr0_1
  have HC0_1 := Aside0.mk hc0_1
  clear hr0_1 hc0_1
  have HB := Aside0.mk (Below.refl w.heap.size w)
  have H : (if a1 ≥ 1 then (cenotaphref02_Has.j0 k a1 (decide (a1 ≤ a0_0)) a0_0 l0_1) else (cenotaphref02_Has.j0 k a1 false a0_0 l0_1)) = some r := h
  clear h
  have HC3 := Aside0.mk H
  clear H
  go_enter Try.func55, Try.ntmps55
  go_upto_region 1 with (first | ((with_reducible refine gate_dst (N := 2) rfl ?_); refine box_event ?hg (N := 2) ?hd (cs := #[.int .i64 a0_0, .slice A0_1 l0_1.length c0_1]) (t := 25) ?hr ?_; (case hd => rfl); (case hg => rfl); (case hr => first | (go_simp; done) | (go_simp; rfl)); intro gb250 hg w4 hbox hb; have BK250 := Aside0.mk (hbox); have GW250 := Aside0.mk ((by rw [hg]; exact (below_size (by repeat (first | (with_reducible first | exact HB.out | apply below_alloc | apply pw_below_drewN | apply below_drew1) | exact HB.out))) : w.heap.size ≤ gb250)); have GE250 := Aside0.mk ((by rw [hg]; exact (below_size (by repeat (first | (with_reducible first | exact HB.out | apply below_alloc | apply pw_below_drewN | apply below_drew1) | exact HB.out))) : w.heap.size ≤ gb250)); replace HB := Aside0.mk (below_step (by repeat (first | (with_reducible first | exact HB.out | apply below_alloc | apply pw_below_drewN | apply below_drew1) | exact HB.out)) hb); clear hb hbox hg))
  (try simp only [Act.put, List.setIfInBounds_toArray, List.set_cons_zero, List.set_cons_succ])
  go_cut [13] (fun v13 wc => ∃ (kq : Nat) (x13_2 : Bool), v13 = .bool x13_2 ∧ Aside0 (cenotaphref02_Has.j0 kq a1 x13_2 a0_0 l0_1 = some r) ∧ Aside0 (kq ≤ k) ∧ Aside0 (wc.heap[gb250]? = some (.cells #[.int .i64 a0_0, (.slice A0_1 l0_1.length c0_1)] 25 (0, 0))) ∧ Aside0 (Below w.heap.size w wc))
  case first =>
    have H := HC3.out
    clear HC3
    by_cases c5 : a1 ≥ 1
    · rw [if_pos c5] at H
      have c5b0 : decide (1 ≤ a1) = true := decide_eq_true c5
      clear c5
      (first | rw [c5b0] | (simp only [i64_w, i32_w]; rw [c5b0]) | skip)
      have H' := Aside0.mk H
      clear H
      have hcz6_0 : w4.cell? ⟨gb250, 0, none⟩ = some (.int .i64 a0_0) := (blk_cell BK250.out 0).trans rfl
      have hcz6_1 : w4.cell? ⟨gb250, 1, none⟩ = some (.slice A0_1 l0_1.length c0_1) := (blk_cell BK250.out 1).trans rfl
      have hfz6_0 := blk_frozen BK250.out 0
      have hfz6_1 := blk_frozen BK250.out 1
      go_wp2
      go_meet
      case rel => exact ⟨_, (decide (a1 ≤ a0_0)), (by first | rfl | (simp; done) | (simp [*]; done)), H', ⟨by first | omega | exact Nat.le_refl _⟩, ⟨by (with_reducible repeat (first | refine blk_drewN ?_ _ | refine blk_drew ?_ | refine blk_alloc ?_ _)); exact BK250.out⟩, ⟨by repeat (first | (with_reducible first | exact HB.out | apply below_alloc | apply pw_below_drewN | apply below_drew1 | refine below_set ?_ GE250.out) | exact HB.out)⟩⟩
    · rw [if_neg c5] at H
      have c5b0 : decide (1 ≤ a1) = false := decide_eq_false c5
      clear c5
      (first | rw [c5b0] | (simp only [i64_w, i32_w]; rw [c5b0]) | skip)
      have H' := Aside0.mk H
      clear H
      go_wp2
      go_meet
      case rel => exact ⟨_, (false), (by first | rfl | (simp; done) | (simp [*]; done)), H', ⟨by first | omega | exact Nat.le_refl _⟩, ⟨by (with_reducible repeat (first | refine blk_drewN ?_ _ | refine blk_drew ?_ | refine blk_alloc ?_ _)); exact BK250.out⟩, ⟨by repeat (first | (with_reducible first | exact HB.out | apply below_alloc | apply pw_below_drewN | apply below_drew1 | refine below_set ?_ GE250.out) | exact HB.out)⟩⟩
  case rest =>
    clear HC3
    try clear p2
    try clear c5
    try clear c5b0
    try clear hcz6_0
    try clear hcz6_1
    try clear hfz6_0
    try clear hfz6_1
    obtain ⟨kq, x13_2, rfl, HA, HJ2, BK250, HB⟩ := hcut
    cases kq with
    | zero => exact absurd HA.out (by simp [cenotaphref02_Has.j0])
    | succ kj2 =>
      have H := HA.out
      clear HA
      simp only [cenotaphref02_Has.j0] at H
      by_cases c7 : x13_2 = true
      · subst c7
        have H1 : (some true) = some r := by rw [if_pos rfl] at H; exact H
        clear H
        have H := H1
        clear H1
        obtain rfl := Option.some.inj H
        go_wp2
        go_ret
        exact ⟨by first | rfl | (simp [errW_none, errW_some] <;> rfl) | (simp [*, errW_none, errW_some] <;> rfl), by repeat (first | (with_reducible first | exact HB.out | apply below_alloc | apply pw_below_drewN | apply below_drew1 | refine below_set ?_ GE250.out) | exact HB.out)⟩
      · replace c7 := Bool.eq_false_iff.mpr c7
        subst c7
        have H1 : (cenotaphref02_Has.l0 kj2 a1 0 a0_0 l0_1) = some r := by rw [if_neg (show ¬ (false = true) by decide)] at H; exact H
        clear H
        have H := H1
        clear H1
        have H' := Aside0.mk H
        clear H
        go_wp2
        go_loopg [5] kj2 (fun kq v5 w' => ∃ (x5_2 : Int), v5 = .int .i64 x5_2 ∧ Aside0 (cenotaphref02_Has.l0 kq a1 x5_2 a0_0 l0_1 = some r) ∧ Aside0 (kq ≤ kj2) ∧ Aside0 (w'.heap[gb250]? = some (.cells #[.int .i64 a0_0, (.slice A0_1 l0_1.length c0_1)] 25 (0, 0))) ∧ Aside0 (Below w.heap.size w w'))
        case atStart => exact ⟨(0), (by first | rfl | (simp; done) | (simp [*]; done)), H', ⟨Nat.le_refl _⟩, ⟨by (with_reducible repeat (first | refine blk_drewN ?_ _ | refine blk_drew ?_ | refine blk_alloc ?_ _)); exact BK250.out⟩, ⟨by repeat (first | (with_reducible first | exact HB.out | apply below_alloc | apply pw_below_drewN | apply below_drew1 | refine below_set ?_ GE250.out) | exact HB.out)⟩⟩
        case round =>
          clear H'
          try clear p2
          try clear c5
          try clear c5b0
          try clear c7
          try clear hcz6_0
          try clear hcz6_1
          try clear hfz6_0
          try clear hfz6_1
          try clear p2
          obtain ⟨x5_2, rfl, HA, HK2, BK250, HB⟩ := hrel
          cases gk with
          | zero => exact absurd HA.out (by simp [cenotaphref02_Has.l0])
          | succ k2 =>
            have H := HA.out
            clear HA
            simp only [cenotaphref02_Has.l0] at H
            by_cases c8 : x5_2 < (l0_1.length : Int)
            · rw [if_pos c8] at H
              have c8b0 : decide (x5_2 < (l0_1.length : Int)) = true := decide_eq_true c8
              clear c8
              by_cases c9 : 0 ≤ x5_2
              · rw [if_pos c9] at H
                have c9b0 : decide (0 ≤ x5_2) = true := decide_eq_true c9
                clear c9
                by_cases c10 : (rd l0_1 x5_2) = a1
                · rw [if_pos c10] at H
                  have c10b0 : ((rd l0_1 x5_2) == a1) = true := beq_iff_eq.mpr c10
                  have c10b1 : ((rd l0_1 x5_2) != a1) = false := bne_eq_false_iff_eq.mpr c10
                  clear c10
                  obtain rfl := Option.some.inj H
                  have hcz11_0 : wr.cell? ⟨gb250, 0, none⟩ = some (.int .i64 a0_0) := (blk_cell BK250.out 0).trans rfl
                  have hcz11_1 : wr.cell? ⟨gb250, 1, none⟩ = some (.slice A0_1 l0_1.length c0_1) := (blk_cell BK250.out 1).trans rfl
                  have hfz11_0 := blk_frozen BK250.out 0
                  have hfz11_1 := blk_frozen BK250.out 1
                  have p251 : 0 ≤ (x5_2 : Int) := of_decide_eq_true (by first | (with_reducible assumption) | assumption)
                  have q251 : x5_2 < (l0_1.length : Int) := of_decide_eq_true (by first | (with_reducible assumption) | assumption)
                  obtain ⟨ad251, e251, hx251_0⟩ := Kd.at_int HR0_1.out x5_2 p251 q251
                  cases e251
                  replace hx251_0 := (HB.out.cell (World.block_lt_of_cell? w _ hx251_0)).trans hx251_0
                  replace p251 := eq_true p251
                  replace q251 := eq_true q251
                  go_wp2
                  go_ret
                  exact ⟨by first | rfl | (simp [errW_none, errW_some] <;> rfl) | (simp [*, errW_none, errW_some] <;> rfl), by repeat (first | (with_reducible first | exact HB.out | apply below_alloc | apply pw_below_drewN | apply below_drew1 | refine below_set ?_ GE250.out) | exact HB.out)⟩
                · rw [if_neg c10] at H
                  have c10b0 : ((rd l0_1 x5_2) == a1) = false := beq_eq_false_iff_ne.mpr c10
                  have c10b1 : ((rd l0_1 x5_2) != a1) = true := bne_iff_ne.mpr c10
                  have H' := Aside0.mk H
                  clear H
                  have hcz12_0 : wr.cell? ⟨gb250, 0, none⟩ = some (.int .i64 a0_0) := (blk_cell BK250.out 0).trans rfl
                  have hcz12_1 : wr.cell? ⟨gb250, 1, none⟩ = some (.slice A0_1 l0_1.length c0_1) := (blk_cell BK250.out 1).trans rfl
                  have hfz12_0 := blk_frozen BK250.out 0
                  have hfz12_1 := blk_frozen BK250.out 1
                  have p251 : 0 ≤ (x5_2 : Int) := of_decide_eq_true (by first | (with_reducible assumption) | assumption)
                  have q251 : x5_2 < (l0_1.length : Int) := of_decide_eq_true (by first | (with_reducible assumption) | assumption)
                  obtain ⟨ad251, e251, hx251_0⟩ := Kd.at_int HR0_1.out x5_2 p251 q251
                  cases e251
                  replace hx251_0 := (HB.out.cell (World.block_lt_of_cell? w _ hx251_0)).trans hx251_0
                  replace p251 := eq_true p251
                  replace q251 := eq_true q251
                  go_wp2
                  go_roundg k2
                  case measure => have := HJ2.out; have := HK2.out; omega
                  case rel => exact ⟨(wrap64 (x5_2 + 1)), (by first | rfl | (simp; done) | (simp [*]; done)), H', ⟨by have := HJ2.out; have := HK2.out; omega⟩, ⟨by (with_reducible repeat (first | refine blk_drewN ?_ _ | refine blk_drew ?_ | refine blk_alloc ?_ _)); exact BK250.out⟩, ⟨by repeat (first | (with_reducible first | exact HB.out | apply below_alloc | apply pw_below_drewN | apply below_drew1 | refine below_set ?_ GE250.out) | exact HB.out)⟩⟩
              · rw [if_neg c9] at H
                exact absurd H (by simp)
            · rw [if_neg c8] at H
              have c8b0 : decide (x5_2 < (l0_1.length : Int)) = false := decide_eq_false c8
              clear c8
              obtain rfl := Option.some.inj H
              have hcz13_0 : wr.cell? ⟨gb250, 0, none⟩ = some (.int .i64 a0_0) := (blk_cell BK250.out 0).trans rfl
              have hcz13_1 : wr.cell? ⟨gb250, 1, none⟩ = some (.slice A0_1 l0_1.length c0_1) := (blk_cell BK250.out 1).trans rfl
              have hfz13_0 := blk_frozen BK250.out 0
              have hfz13_1 := blk_frozen BK250.out 1
              go_wp2
              go_ret
              exact ⟨by first | rfl | (simp [errW_none, errW_some] <;> rfl) | (simp [*, errW_none, errW_some] <;> rfl), by repeat (first | (with_reducible first | exact HB.out | apply below_alloc | apply pw_below_drewN | apply below_drew1 | refine below_set ?_ GE250.out) | exact HB.out)⟩

/-! ### cenotaphref02_Add: function 51 -/
theorem zq51_0 {p_ : Prop} (h_ : p_ := by repeat (first | (with_reducible first | exact HB.out | apply below_alloc | apply pw_below_drewN | apply below_drew1 | refine below_set ?_ GE252.out | refine below_set ?_ GE253.out) | exact HB.out)) : p_ := h_
theorem zq51_1 {p_ : Prop} (h_ : p_ := by repeat (first | (with_reducible first | exact HB.out | apply below_alloc | apply pw_below_drewN | apply below_drew1 | refine below_set ?_ GE252.out) | exact HB.out)) : p_ := h_
theorem zq51_2 {p_ : Prop} (h_ : p_ := by repeat (first | (with_reducible first | exact HB.out | apply below_alloc | apply pw_below_drewN | apply below_drew1) | exact HB.out)) : p_ := h_
theorem zq51_3 {p_ : Prop} (h_ : p_ := by (with_reducible repeat (first | refine blk_drewN ?_ _ | refine blk_drew ?_ | refine blk_alloc ?_ _)); exact BK252.out) : p_ := h_
theorem zq51_4 {p_ : Prop} (h_ : p_ := by (with_reducible repeat (first | refine blk_drewN ?_ _ | refine blk_drew ?_ | refine blk_alloc ?_ _)); exact BK253.out) : p_ := h_
theorem zq51_5 {p_ : Prop} (h_ : p_ := by (with_reducible repeat (first | apply Kd.Q_alloc | apply Kd.Q_drewN | apply Kd.Q_drew)); exact HO_5.out) : p_ := h_
theorem zq51_6 {p_ : Prop} (h_ : p_ := by first | (with_reducible assumption) | assumption) : p_ := h_
theorem zq51_7 {p_ : Prop} (h_ : p_ := by first | rfl | (simp; done) | (simp [*]; done)) : p_ := h_
mutual
def cenotaphref02_Add.j0 : Nat → Int → Bool → Int → List Int → Option (Int × List Int)
 | 0, _, _, _, _ => none
 | k + 1, x1, x19, x253000, x253001 => if x19 = true then ((some (([] : List Int) : List Int)).bind fun y255 => (if y255.length + x253001.length < 17592186044416 then (some (x253000, (y255 ++ x253001))) else (none))) else (cenotaphref02_Add.l0 k x1 ([] : List Int) false 0 x253000 x253001)
def cenotaphref02_Add.l0 : Nat → Int → List Int → Bool → Int → Int → List Int → Option (Int × List Int)
 | 0, _, _, _, _, _, _ => none
 | k + 1, x1, x5, x6, x7, x253000, x253001 => if x7 < (x253001.length : Int) then (if x6 = true then (if 0 ≤ x7 then (if x5.length < 17592186044416 then (cenotaphref02_Add.l0 k x1 (x5 ++ [rd x253001 x7]) x6 (wrap64 (x7 + 1)) x253000 x253001) else (none)) else (none)) else (if 0 ≤ x7 then (if (rd x253001 x7) > x1 then (if x5.length < 17592186044416 then ((some (x5 ++ [x1] : List Int)).bind fun y266 => (if y266.length < 17592186044416 then (cenotaphref02_Add.l0 k x1 (y266 ++ [rd x253001 x7]) true (wrap64 (x7 + 1)) x253000 x253001) else (none))) else (none)) else (if x5.length < 17592186044416 then (cenotaphref02_Add.l0 k x1 (x5 ++ [rd x253001 x7]) x6 (wrap64 (x7 + 1)) x253000 x253001) else (none))) else (none))) else (if x6 = true then (cenotaphref02_Add.j2 k x5 x253000 x253001) else (if x5.length < 17592186044416 then (cenotaphref02_Add.j2 k (x5 ++ [x1]) x253000 x253001) else (none)))
def cenotaphref02_Add.j2 : Nat → List Int → Int → List Int → Option (Int × List Int)
 | 0, _, _, _ => none
 | k + 1, x5, x253000, x253001 => cenotaphref02_Add.l1 k x5 x253000
def cenotaphref02_Add.l1 : Nat → List Int → Int → Option (Int × List Int)
 | 0, _, _ => none
 | k + 1, x5, x8 => if (x5.length : Int) > 0 then (if 0 < (x5.length : Int) then (if (rd x5 0) = (wrap64 (x8 + 1)) then (if 1 ≤ (x5.length : Int) then (cenotaphref02_Add.l1 k (x5.drop (1 : Int).toNat) (wrap64 (x8 + 1))) else (none)) else ((some (([] : List Int) : List Int)).bind fun y284 => (if y284.length + x5.length < 17592186044416 then (some (x8, (y284 ++ x5))) else (none)))) else (none)) else ((some (([] : List Int) : List Int)).bind fun y290 => (if y290.length + x5.length < 17592186044416 then (some (x8, (y290 ++ x5))) else (none)))
end
def cenotaphref02_Add.f (k : Nat) (a0_0 : Int) (l0_1 : List Int) (a1 : Int) : Option (Int × List Int) := if a1 < 1 then (cenotaphref02_Add.j0 k a1 true a0_0 l0_1) else (if a1 > 1048576 then (cenotaphref02_Add.j0 k a1 true a0_0 l0_1) else ((cenotaphref02_Has.f k a0_0 l0_1 a1).bind fun t254 => (cenotaphref02_Add.j0 k a1 t254 a0_0 l0_1)))
theorem cenotaphref02_Add.mono_l : ∀ k, (∀ y0 y1 y2 y3, LeO (cenotaphref02_Add.j0 k y0 y1 y2 y3) (cenotaphref02_Add.j0 (k + 1) y0 y1 y2 y3)) ∧ (∀ y0 y1 y2 y3 y4 y5, LeO (cenotaphref02_Add.l0 k y0 y1 y2 y3 y4 y5) (cenotaphref02_Add.l0 (k + 1) y0 y1 y2 y3 y4 y5)) ∧ (∀ y0 y1 y2, LeO (cenotaphref02_Add.j2 k y0 y1 y2) (cenotaphref02_Add.j2 (k + 1) y0 y1 y2)) ∧ (∀ y0 y1, LeO (cenotaphref02_Add.l1 k y0 y1) (cenotaphref02_Add.l1 (k + 1) y0 y1))
 | 0 => ⟨fun _ _ _ _ r h => by simp [cenotaphref02_Add.j0] at h, fun _ _ _ _ _ _ r h => by simp [cenotaphref02_Add.l0] at h, fun _ _ _ r h => by simp [cenotaphref02_Add.j2] at h, fun _ _ r h => by simp [cenotaphref02_Add.l1] at h⟩
 | k + 1 => by
  obtain ⟨ih0, ih1, ih2, ih3⟩ := cenotaphref02_Add.mono_l k
  refine ⟨?_, ?_, ?_, ?_⟩
  ·intro y0 y1 y2 y3
   unfold cenotaphref02_Add.j0
   repeat' first
   | (with_reducible exact ih0 _ _ _ _)
   | (with_reducible exact ih1 _ _ _ _ _ _)
   | (with_reducible exact ih2 _ _ _)
   | (with_reducible exact ih3 _ _)
   | (with_reducible exact cenotaphref02_Has.mono _ _ _ _)
   | (with_reducible exact LeO.refl _)
   | (with_reducible exact LeO.none _)
   | (with_reducible refine LeO.ite ?_ ?_)
   | (with_reducible refine LeO.bind ?_ (fun _ => ?_))
   | exact ih0 _ _ _ _
   | exact ih1 _ _ _ _ _ _
   | exact ih2 _ _ _
   | exact ih3 _ _
   | exact cenotaphref02_Has.mono _ _ _ _
   | exact LeO.none _
   | refine LeO.ite ?_ ?_
   | refine LeO.bind ?_ (fun _ => ?_)
  ·intro y0 y1 y2 y3 y4 y5
   unfold cenotaphref02_Add.l0
   repeat' first
   | (with_reducible exact ih0 _ _ _ _)
   | (with_reducible exact ih1 _ _ _ _ _ _)
   | (with_reducible exact ih2 _ _ _)
   | (with_reducible exact ih3 _ _)
   | (with_reducible exact cenotaphref02_Has.mono _ _ _ _)
   | (with_reducible exact LeO.refl _)
   | (with_reducible exact LeO.none _)
   | (with_reducible refine LeO.ite ?_ ?_)
   | (with_reducible refine LeO.bind ?_ (fun _ => ?_))
   | exact ih0 _ _ _ _
   | exact ih1 _ _ _ _ _ _
   | exact ih2 _ _ _
   | exact ih3 _ _
   | exact cenotaphref02_Has.mono _ _ _ _
   | exact LeO.none _
   | refine LeO.ite ?_ ?_
   | refine LeO.bind ?_ (fun _ => ?_)
  ·intro y0 y1 y2
   unfold cenotaphref02_Add.j2
   repeat' first
   | (with_reducible exact ih0 _ _ _ _)
   | (with_reducible exact ih1 _ _ _ _ _ _)
   | (with_reducible exact ih2 _ _ _)
   | (with_reducible exact ih3 _ _)
   | (with_reducible exact cenotaphref02_Has.mono _ _ _ _)
   | (with_reducible exact LeO.refl _)
   | (with_reducible exact LeO.none _)
   | (with_reducible refine LeO.ite ?_ ?_)
   | (with_reducible refine LeO.bind ?_ (fun _ => ?_))
   | exact ih0 _ _ _ _
   | exact ih1 _ _ _ _ _ _
   | exact ih2 _ _ _
   | exact ih3 _ _
   | exact cenotaphref02_Has.mono _ _ _ _
   | exact LeO.none _
   | refine LeO.ite ?_ ?_
   | refine LeO.bind ?_ (fun _ => ?_)
  ·intro y0 y1
   unfold cenotaphref02_Add.l1
   repeat' first
   | (with_reducible exact ih0 _ _ _ _)
   | (with_reducible exact ih1 _ _ _ _ _ _)
   | (with_reducible exact ih2 _ _ _)
   | (with_reducible exact ih3 _ _)
   | (with_reducible exact cenotaphref02_Has.mono _ _ _ _)
   | (with_reducible exact LeO.refl _)
   | (with_reducible exact LeO.none _)
   | (with_reducible refine LeO.ite ?_ ?_)
   | (with_reducible refine LeO.bind ?_ (fun _ => ?_))
   | exact ih0 _ _ _ _
   | exact ih1 _ _ _ _ _ _
   | exact ih2 _ _ _
   | exact ih3 _ _
   | exact cenotaphref02_Has.mono _ _ _ _
   | exact LeO.none _
   | refine LeO.ite ?_ ?_
   | refine LeO.bind ?_ (fun _ => ?_)
theorem cenotaphref02_Add.mono : ∀ a0 a1 a2 k, LeO (cenotaphref02_Add.f k a0 a1 a2) (cenotaphref02_Add.f (k + 1) a0 a1 a2) := by
 intro a0 a1 a2 k
 obtain ⟨ih0, ih1, ih2, ih3⟩ := cenotaphref02_Add.mono_l k
 unfold cenotaphref02_Add.f
 repeat' first
   | (with_reducible exact ih0 _ _ _ _)
   | (with_reducible exact ih1 _ _ _ _ _ _)
   | (with_reducible exact ih2 _ _ _)
   | (with_reducible exact ih3 _ _)
   | (with_reducible exact cenotaphref02_Has.mono _ _ _ _)
   | (with_reducible exact LeO.refl _)
   | (with_reducible exact LeO.none _)
   | (with_reducible refine LeO.ite ?_ ?_)
   | (with_reducible refine LeO.bind ?_ (fun _ => ?_))
   | exact ih0 _ _ _ _
   | exact ih1 _ _ _ _ _ _
   | exact ih2 _ _ _
   | exact ih3 _ _
   | exact cenotaphref02_Has.mono _ _ _ _
   | exact LeO.none _
   | refine LeO.ite ?_ ?_
   | refine LeO.bind ?_ (fun _ => ?_)
def cenotaphref02_Add.T2 : Bool × List (List Nat × List Nat) := (true, [([], []), ([0], [0]), ([], []), ([], []), ([3], [3]), ([2, 4], [2, 4]), ([1, 5], [1, 5]), ([6, 5, 0, 1, 2, 3, 4, 5, 6], [6])])
def cenotaphref02_Add.B2 : List Nat := [0, 1, 0, 0, 8, 28, 63, 127]
theorem cenotaphref02_Add.tab2 : rtab .any (opsOf Try.f51 2) = cenotaphref02_Add.T2 := by kernel_rfl
theorem cenotaphref02_Add.bits2 : waitsOk cenotaphref02_Add.T2.2 cenotaphref02_Add.B2 = true := by kernel_rfl
set_option maxHeartbeats 8000000 in
set_option maxRecDepth 100000 in
theorem cenotaphref02_Add.calls (k : Nat) (a0_0 : Int) (A0_1 : Option Addr) (c0_1 : Nat) (l0_1 : List Int) (a1 : Int) (r1 : Int) (r2 : List Int) (w : World) (hr0_1 : Kd.C (Kd.int .i64) w A0_1 l0_1.length l0_1) (hc0_1 : l0_1.length ≤ c0_1) (h : cenotaphref02_Add.f k a0_0 l0_1 a1 = some (r1, r2)) :
  Calls Try.prog 51 #[.agg #[.int .i64 a0_0, .slice A0_1 l0_1.length c0_1], .int .i64 a1] w fun e w' => ∃ v1_ : Value, e = .returned (.agg #[.int .i64 r1, v1_]) ∧ Kd.R (Kd.int .i64) 3 w' w.heap.size (fun _ => True) v1_ r2 ∧ Below w.heap.size w w' := by
 have hu25 := Try.underlying25
 have HR0_1 := Aside0.mk hr0_1
 have HC0_1 := Aside0.mk hc0_1
 clear hr0_1 hc0_1
 have HB := Aside0.mk (Below.refl w.heap.size w)
 have H : (if a1 < 1 then (cenotaphref02_Add.j0 k a1 true a0_0 l0_1) else (if a1 > 1048576 then (cenotaphref02_Add.j0 k a1 true a0_0 l0_1) else ((cenotaphref02_Has.f k a0_0 l0_1 a1).bind fun t254 => (cenotaphref02_Add.j0 k a1 t254 a0_0 l0_1)))) = some (r1, r2) := h
 clear h
 have HC3 := Aside0.mk H
 clear H
 go_enter Try.func51, Try.ntmps51
 go_upto_region 1 with (first | ((with_reducible refine gate_dst (N := 2) rfl ?_); refine box_event ?hg (N := 2) ?hd (cs := #[.int .i64 a0_0, .slice A0_1 l0_1.length c0_1]) (t := 25) ?hr ?_; (case hd => rfl); (case hg => rfl); (case hr => first | (go_simp; done) | (go_simp; rfl)); intro gb252 hg w4 hbox hb; have BK252 := Aside0.mk (hbox); have GW252 := Aside0.mk (((by rw [hg]; exact (below_size zq51_2)) : w.heap.size ≤ gb252)); have GE252 := Aside0.mk (((by rw [hg]; exact (below_size zq51_2)) : w.heap.size ≤ gb252)); replace HB := Aside0.mk (below_step zq51_2 hb); clear hb hbox hg) | ((with_reducible refine gate_dst (N := 4) rfl ?_); refine box_event ?hg (N := 4) ?hd (cs := #[.int .i64 0, .slice none 0 0]) (t := 25) ?hr ?_; (case hd => rfl); (case hg => rfl); (case hr => first | (go_simp; done) | (go_simp; rfl)); intro gb253 hg w5 hbox hb; have BK253 := Aside0.mk (hbox); have GW253 := Aside0.mk (((by rw [hg]; exact (below_size zq51_1)) : w.heap.size ≤ gb253)); have GE253 := Aside0.mk (((by rw [hg]; exact (below_size zq51_1)) : w.heap.size ≤ gb253)); replace HB := Aside0.mk (below_step zq51_1 hb); have NB252_253 := Aside0.mk (((by rw [hg]; exact Nat.ne_of_lt (blk_lt (g := gb252) (o := .cells #[.int .i64 a0_0, .slice A0_1 l0_1.length c0_1] 25 (0, 0)) zq51_3)) : gb252 ≠ gb253)); have NB253_252 := Aside0.mk (((by rw [hg]; exact Nat.ne_of_gt (blk_lt (g := gb252) (o := .cells #[.int .i64 a0_0, .slice A0_1 l0_1.length c0_1] 25 (0, 0)) zq51_3)) : gb253 ≠ gb252)); replace BK252 := Aside0.mk (blk_below (g := gb252) (o := .cells #[.int .i64 a0_0, .slice A0_1 l0_1.length c0_1] 25 (0, 0)) zq51_3 hb); clear hb hbox hg))
 (try simp only [Act.put, List.setIfInBounds_toArray, List.set_cons_zero, List.set_cons_succ])
 go_cut [19] (fun v19 wc => ∃ (kq : Nat) (x19_2 : Bool), v19 = .bool x19_2 ∧ Aside0 (cenotaphref02_Add.j0 kq a1 x19_2 a0_0 l0_1 = some (r1, r2)) ∧ Aside0 (kq ≤ k) ∧ Aside0 (wc.heap[gb252]? = some (.cells #[.int .i64 a0_0, (.slice A0_1 l0_1.length c0_1)] 25 (0, 0))) ∧ Aside0 (wc.heap[gb253]? = some (.cells #[.int .i64 0, (.slice none 0 0)] 25 (0, 0))) ∧ Aside0 (Below w.heap.size w wc))
 case first =>
  have H := HC3.out
  clear HC3
  by_cases c6 : a1 < 1
  ·rw [if_pos c6] at H
   have c6b0 : decide (a1 < 1) = true := decide_eq_true c6
   clear c6
   (first | rw [c6b0] | (simp only [i64_w, i32_w]; rw [c6b0]) | skip)
   have H' := Aside0.mk H
   clear H
   go_wp2
   go_meet
   case rel => exact ⟨_, (true), zq51_7, H', ⟨by first | omega | exact Nat.le_refl _⟩, ⟨by (with_reducible repeat (first | refine blk_drewN ?_ _ | refine blk_drew ?_ | refine blk_alloc ?_ _)); exact BK252.out⟩, ⟨by (with_reducible repeat (first | refine blk_drewN ?_ _ | refine blk_drew ?_ | refine blk_alloc ?_ _)); exact BK253.out⟩, ⟨by repeat (first | (with_reducible first | exact HB.out | apply below_alloc | apply pw_below_drewN | apply below_drew1 | refine below_set ?_ GE252.out | refine below_set ?_ GE253.out) | exact HB.out)⟩⟩
  ·rw [if_neg c6] at H
   have c6b0 : decide (a1 < 1) = false := decide_eq_false c6
   clear c6
   (first | rw [c6b0] | (simp only [i64_w, i32_w]; rw [c6b0]) | skip)
   by_cases c7 : a1 > 1048576
   ·rw [if_pos c7] at H
    have c7b0 : decide (1048576 < a1) = true := decide_eq_true c7
    clear c7
    have H' := Aside0.mk H
    clear H
    go_wp2
    go_meet
    case rel => exact ⟨_, (true), zq51_7, H', ⟨by first | omega | exact Nat.le_refl _⟩, ⟨by (with_reducible repeat (first | refine blk_drewN ?_ _ | refine blk_drew ?_ | refine blk_alloc ?_ _)); exact BK252.out⟩, ⟨by (with_reducible repeat (first | refine blk_drewN ?_ _ | refine blk_drew ?_ | refine blk_alloc ?_ _)); exact BK253.out⟩, ⟨by repeat (first | (with_reducible first | exact HB.out | apply below_alloc | apply pw_below_drewN | apply below_drew1 | refine below_set ?_ GE252.out | refine below_set ?_ GE253.out) | exact HB.out)⟩⟩
   ·rw [if_neg c7] at H
    have c7b0 : decide (1048576 < a1) = false := decide_eq_false c7
    clear c7
    replace H := Option.bind_eq_some_iff.mp H
    obtain ⟨t254, A80, H⟩ := H
    replace H : (cenotaphref02_Add.j0 k a1 t254 a0_0 l0_1) = some (r1, r2) := H
    have A8 := Aside0.mk A80
    clear A80
    have H' := Aside0.mk H
    clear H
    have hnb9 := NB252_253.out
    have hnc9 := NB253_252.out
    have hcz10_0 : w5.cell? ⟨gb252, 0, none⟩ = some (.int .i64 a0_0) := (blk_cell BK252.out 0).trans rfl
    have hcz10_1 : w5.cell? ⟨gb252, 1, none⟩ = some (.slice A0_1 l0_1.length c0_1) := (blk_cell BK252.out 1).trans rfl
    have hfz10_0 := blk_frozen BK252.out 0
    have hfz10_1 := blk_frozen BK252.out 1
    go_wp2_with (first | (go_at_call 55; (with_reducible refine (cenotaphref02_Has.calls k a0_0 _ _ l0_1 a1 t254 _ ?side1 ?side2 A8.out).mono ?_); (case side1 => repeat (first | exact (Kd.C_below HR0_1.out HB.out) | (with_reducible refine Kd.C_alloc ?_ _) | (with_reducible refine Kd.C_drewN ?_ _) | (with_reducible refine Kd.C_drew ?_))); (case side2 => exact HC0_1.out); rintro e w11 ⟨rfl, hb⟩; replace BK252 := Aside0.mk (blk_below (g := gb252) (o := .cells #[.int .i64 a0_0, .slice A0_1 l0_1.length c0_1] 25 (0, 0)) zq51_3 hb); replace BK253 := Aside0.mk (blk_below (g := gb253) (o := .cells #[.int .i64 0, .slice none 0 0] 25 (0, 0)) zq51_4 hb); replace HB := Aside0.mk (below_step zq51_0 hb); (try clear hb); (try clear hb2); (try clear hk); (try clear hi)))
    go_meet
    case rel => exact ⟨_, (t254), zq51_7, H', ⟨by first | omega | exact Nat.le_refl _⟩, ⟨by (with_reducible repeat (first | refine blk_drewN ?_ _ | refine blk_drew ?_ | refine blk_alloc ?_ _)); exact BK252.out⟩, ⟨by (with_reducible repeat (first | refine blk_drewN ?_ _ | refine blk_drew ?_ | refine blk_alloc ?_ _)); exact BK253.out⟩, ⟨by repeat (first | (with_reducible first | exact HB.out | apply below_alloc | apply pw_below_drewN | apply below_drew1 | refine below_set ?_ GE252.out | refine below_set ?_ GE253.out) | exact HB.out)⟩⟩
 case rest =>
  clear HC3
  try clear p2
  try clear c5
  try clear c6
  try clear c6b0
  try clear c7
  try clear c7b0
  try clear c9
  try clear hcz10_0
  try clear hcz10_1
  try clear hfz10_0
  try clear hfz10_1
  obtain ⟨kq, x19_2, rfl, HA, HJ2, BK252, BK253, HB⟩ := hcut
  cases kq with
  | zero => exact absurd HA.out (by simp [cenotaphref02_Add.j0])
  | succ kj2 =>
   have H := HA.out
   clear HA
   simp only [cenotaphref02_Add.j0] at H
   by_cases c12 : x19_2 = true
   ·subst c12
    have H1 : ((some (([] : List Int) : List Int)).bind fun y255 => (if y255.length + l0_1.length < 17592186044416 then (some (a0_0, (y255 ++ l0_1))) else (none))) = some (r1, r2) := by rw [if_pos rfl] at H; exact H
    clear H
    have H := H1
    clear H1
    obtain ⟨y255, hy255⟩ : ∃ y_ : List Int, y_ = (([] : List Int)) := ⟨_, rfl⟩
    replace H : (if y255.length + l0_1.length < 17592186044416 then (some (a0_0, (y255 ++ l0_1))) else (none)) = some (r1, r2) := by first | (rw [hy255]; with_reducible exact H) | (have H2_ := (Option.bind_some _ _).symm.trans H; rw [hy255]; with_reducible exact H2_) | (have H2_ := (Option.bind_some _ _).symm.trans H; with_reducible exact H2_) | with_reducible exact H | (rw [hy255]; exact H) | exact H
    have Ny255 := Aside0.mk hy255
    clear hy255
    by_cases c13 : y255.length + l0_1.length < 17592186044416
    ·rw [if_pos c13] at H
     have LMc13 := Aside0.mk c13
     clear c13
     obtain ⟨y258, hy258⟩ : ∃ y_ : List Int, y_ = (y255 ++ l0_1) := ⟨_, rfl⟩
     replace H : (some (a0_0, y258)) = some (r1, r2) := by first | (rw [hy258]; with_reducible exact H) | (have H2_ := (Option.bind_some _ _).symm.trans H; rw [hy258]; with_reducible exact H2_) | (have H2_ := (Option.bind_some _ _).symm.trans H; with_reducible exact H2_) | with_reducible exact H | (rw [hy258]; exact H) | exact H
     have Ny258 := Aside0.mk hy258
     clear hy258
     simp only [Option.some.injEq, Prod.mk.injEq] at H
     obtain ⟨rfl, rfl⟩ := H
     try go_wp2
     replace BK252 := Aside0.mk (blk_drew BK252.out)
     replace BK253 := Aside0.mk (blk_drew BK253.out)
     replace HB := Aside0.mk (below_drew1 HB.out)
     refine start_ (n := 8) (S := fun w' => w'.cell? ⟨gb252, 0, none⟩ = some (.int .i64 a0_0) ∧ w'.cell? ⟨gb252, 1, none⟩ = some (.slice A0_1 l0_1.length c0_1)) (ds := []) #[false, false, false, false, false, false, false, false] (by kernel_rfl) rfl rfl ⟨(blk_cell BK252.out 0).trans rfl, (blk_cell BK252.out 1).trans rfl⟩ (fun hHeld => ?_); refine with_tabW cenotaphref02_Add.tab2 cenotaphref02_Add.bits2 (fun HT_ HW_ => ?_)
     generalize wc.drew = w14 at BK252 BK253 HB hHeld ⊢
     refine p_ 0 20 (mk_ 8 0x1) ?_
     refine p_ 3 23 (mk_ 8 0x9) ?_
     refine t_ 1 21 (mk_ 8 0xb) hHeld ?_
     refine t_ 4 24 (mk_ 8 0x1b) hHeld ?_
     refine one_ (i := 2) (N := some 22) #[true, true, true, true, true, false, false, false] rfl rfl (one_of HT_.out (by kernel_rfl)) (by decide) (fun K hK => ?_)
     refine Kd.R_lit_step (Kd.int .i64) _ 3 ?hg (N := 22) ?hd (xs := ([] : List Int)) (inner := []) (ok := fun _ => True) (okp := fun _ => True) ?hr ?hp (fun _ hk => hk) trivial (Below.refl _ _) (Nat.le_refl _) (by simp) ?_; (case hd => rfl); (case hg => rfl); (case hr => first | (go_simp; done) | (go_simp; rfl)); (case hp => exact (Reps.none _ _))
     intro v256 w15 ho16 hb hg_ hnew_
     clear hg_ hnew_
     (first | rw [← Ny255.out] at ho16 | (simp only [Int.reduceToNat] at ho16; rw [← Ny255.out] at ho16))
     have HO257 := Aside0.mk (Kd.R_lower ho16 (below_size zq51_0))
     replace BK252 := Aside0.mk (blk_below (g := gb252) (o := .cells #[.int .i64 a0_0, .slice A0_1 l0_1.length c0_1] 25 (0, 0)) zq51_3 hb)
     replace BK253 := Aside0.mk (blk_below (g := gb253) (o := .cells #[.int .i64 0, .slice none 0 0] 25 (0, 0)) zq51_4 hb)
     replace HB := Aside0.mk (below_step zq51_0 hb)
     clear hb ho16
     refine hK.out _ _ ⟨(blk_cell BK252.out 0).trans rfl, (blk_cell BK252.out 1).trans rfl⟩ (fun hHeld => ?_)
     clear hK K
     refine norm_ (a' := ?_) ?_ ?_
     rotate_left
     ·show Act.put _ (some 22) _ = _
      simp only [Act.put, List.setIfInBounds_toArray, List.set_cons_zero, List.set_cons_succ, i64_w, i32_w]
      rfl
     refine one_ (i := 5) (N := some 25) #[true, true, true, true, true, true, false, false] rfl rfl (one_of HT_.out (by kernel_rfl)) (by decide) (fun K hK => ?_)
     refine Kd.R_append_rows_step (Kd.int .i64) (w0 := w) w.heap.size (by rfl) (.tmp 22) (.tmp 24) 23 3 (.int .i64 0) 8 rfl Try.underlying23 info3 rfl (by decide) (by omega) v256 y255 l0_1 _ _ _ (fun _ => True) (fun _ => False) rfl rfl ?aO ?aR (fun _ _ h => h) (fun _ h => h.elim) ?aF ?aB ?aS ?aL ?_
     (case aR => repeat (first | exact (Kd.C_below HR0_1.out HB.out) | (with_reducible refine Kd.C_alloc ?_ _) | (with_reducible refine Kd.C_drewN ?_ _) | (with_reducible refine Kd.C_drew ?_)))
     (case aB => exact zq51_0)
     (case aF => exact (fun _ _ => trivial))
     (case aO => exact (by (with_reducible repeat (first | apply Kd.R_alloc | apply Kd.R_drewN | apply Kd.R_drew)); exact HO257.out))
     (case aS => exact (below_size zq51_0))
     (case aL => have := LMc13.out; omega)
     intro v259 w17 ho hb hg hat
     rw [← Ny258.out] at ho
     replace BK252 := Aside0.mk (blk_grown (g := gb252) (o := .cells #[.int .i64 a0_0, .slice A0_1 l0_1.length c0_1] 25 (0, 0)) zq51_3 hg (Kd.R_ne HO257.out BK252.out (by decide)))
     replace BK253 := Aside0.mk (blk_grown (g := gb253) (o := .cells #[.int .i64 0, .slice none 0 0] 25 (0, 0)) zq51_4 hg (Kd.R_ne HO257.out BK253.out (by decide)))
     replace HB := Aside0.mk (hb)
     have HO260 := Aside0.mk (ho)
     clear HO257
     clear ho hb hg hat
     obtain ⟨Ao18, co18, eo18⟩ := Kd.R_slice HO260.out
     (first | subst eo18 | (injection eo18 with f1_ f2_ f3_; have f4_ := f1_.symm; have f5_ := f3_.symm; clear f1_ f2_ f3_; subst f4_; subst f5_))
     refine hK.out _ _ ⟨(blk_cell BK252.out 0).trans rfl, (blk_cell BK252.out 1).trans rfl⟩ (fun hHeld => ?_)
     clear hK K
     refine norm_ (a' := ?_) ?_ ?_
     rotate_left
     ·show Act.put _ (some 25) _ = _
      simp only [Act.put, List.setIfInBounds_toArray, List.set_cons_zero, List.set_cons_succ, i64_w, i32_w]
      rfl
     refine p_ 6 26 (mk_ 8 0x7f) ?_
     refine one_ (i := 7) (N := none) #[true, true, true, true, true, true, true, true] rfl rfl (one_of HT_.out (by kernel_rfl)) (by decide) (fun K hK => ?_)
     have hs19 : w17.cell? ⟨gb253, 0, none⟩ = some (.int .i64 0) := (blk_cell BK253.out 0).trans rfl
     have hfs19 := blk_frozen BK253.out 0
     have hns19_0 := NB252_253.out
     have hms19_0 := NB253_252.out
     have hs20 : w17.cell? ⟨gb253, 1, none⟩ = some (.slice none 0 0) := (blk_cell BK253.out 1).trans rfl
     have hfs20 := blk_frozen BK253.out 1
     have hns20_0 := NB252_253.out
     have hms20_0 := NB253_252.out
     refine skip_ (w1 := ?_) (by rfl) rfl ?_ ?_
     rotate_left
     ·go_simp
      rfl
     refine hK.out _ _ ⟨((cell_far (p := ⟨gb253, _, none⟩) NB252_253.out _).trans (((cell_far (p := ⟨gb253, _, none⟩) NB252_253.out _).trans (hHeld.1)))), ((cell_far (p := ⟨gb253, _, none⟩) NB252_253.out _).trans (((cell_far (p := ⟨gb253, _, none⟩) NB252_253.out _).trans (hHeld.2))))⟩ (fun hHeld => ?_)
     clear hK K
     refine done_ (done_of HT_.out (by kernel_rfl)) ?_
     try go_wp2
     refine bodyPost_ret (results_cell_row rfl _ _ gb253 25 #[.int .i64 a0_0, .slice Ao18 y258.length co18] (0, 0) _ rfl (by (with_reducible repeat (first | refine blk_drewN ?_ _ | refine blk_drew ?_ | refine blk_alloc ?_ _)); refine blk_put (cs := #[.int .i64 a0_0, .slice none 0 0]) ?_ 1 _ rfl; (with_reducible repeat (first | refine blk_drewN ?_ _ | refine blk_drew ?_ | refine blk_alloc ?_ _)); refine blk_put (cs := #[.int .i64 0, .slice none 0 0]) ?_ 0 _ rfl; (with_reducible repeat (first | refine blk_drewN ?_ _ | refine blk_drew ?_ | refine blk_alloc ?_ _)); exact BK253.out) Try.underlying25 rfl (by kernel_rfl)) rfl ?_
     exact ⟨_, by first | rfl | (simp [errW_none, errW_some] <;> rfl) | (simp [*, errW_none, errW_some] <;> rfl), by (with_reducible repeat (first | apply Kd.R_alloc | apply Kd.R_drewN | apply Kd.R_drew)); exact Kd.R_mono (Kd.R_far (p := ⟨gb253, 1, none⟩) (Kd.R_far (p := ⟨gb253, 0, none⟩) (Kd.R_types HO260.out BK253.out (by decide)) (fun _ hk => hk.2) (.int .i64 a0_0)) (fun _ hk => hk.2) (.slice Ao18 y258.length co18)) (fun _ hk => trivial), by repeat (first | (with_reducible first | exact HB.out | apply below_alloc | apply pw_below_drewN | apply below_drew1 | refine below_set ?_ GE252.out | refine below_set ?_ GE253.out) | exact HB.out)⟩
    ·rw [if_neg c13] at H
     exact absurd H (by simp)
   ·replace c12 := Bool.eq_false_iff.mpr c12
    subst c12
    have H1 : (cenotaphref02_Add.l0 kj2 a1 ([] : List Int) false 0 a0_0 l0_1) = some (r1, r2) := by rw [if_neg (show ¬ (false = true) by decide)] at H; exact H
    clear H
    have H := H1
    clear H1
    have H' := Aside0.mk H
    clear H
    go_wp2
    go_loopg [5, 6, 7] kj2 (fun kq v5 v6 v7 w' => ∃ (x5_2 : List Int) (x6_2 : Bool) (x7_2 : Int), v6 = .bool x6_2 ∧ v7 = .int .i64 x7_2 ∧ Aside0 (cenotaphref02_Add.l0 kq a1 x5_2 x6_2 x7_2 a0_0 l0_1 = some (r1, r2)) ∧ Aside0 (kq ≤ kj2) ∧ Aside0 (Kd.Q (Kd.int .i64) 3 w' w.heap.size (fun _ => True) v5 x5_2) ∧ Aside0 (w'.heap[gb252]? = some (.cells #[.int .i64 a0_0, (.slice A0_1 l0_1.length c0_1)] 25 (0, 0))) ∧ Aside0 (w'.heap[gb253]? = some (.cells #[.int .i64 0, (.slice none 0 0)] 25 (0, 0))) ∧ Aside0 (Below w.heap.size w w'))
    case atStart => exact ⟨(([] : List Int)), (false), (0), zq51_7, zq51_7, H', ⟨Nat.le_refl _⟩, ⟨Kd.Q_of_R (by first | exact Kd.R_nil _ _ _ _ _ | exact Kd.N_nil _ _ _ _ _ | exact Kd.V_nil _ _ _ _ _ | exact Kd.Q_nil _ _ _ _ _ | exact Kd.S_nil _ _ _ _ _)⟩, ⟨by (with_reducible repeat (first | refine blk_drewN ?_ _ | refine blk_drew ?_ | refine blk_alloc ?_ _)); exact BK252.out⟩, ⟨by (with_reducible repeat (first | refine blk_drewN ?_ _ | refine blk_drew ?_ | refine blk_alloc ?_ _)); exact BK253.out⟩, ⟨by repeat (first | (with_reducible first | exact HB.out | apply below_alloc | apply pw_below_drewN | apply below_drew1 | refine below_set ?_ GE252.out | refine below_set ?_ GE253.out) | exact HB.out)⟩⟩
    case round =>
     clear H'
     try clear c1
     try clear p2
     try clear c5
     try clear c6
     try clear c6b0
     try clear c7
     try clear c7b0
     try clear c9
     try clear c12
     try clear c13
     try clear hcz10_0
     try clear hcz10_1
     try clear hfz10_0
     try clear hfz10_1
     try clear p2
     obtain ⟨x5_2, x6_2, x7_2, rfl, rfl, HA, HK2, HO_5, BK252, BK253, HB⟩ := hrel
     cases gk with
     | zero => exact absurd HA.out (by simp [cenotaphref02_Add.l0])
     | succ k2 =>
      have H := HA.out
      clear HA
      simp only [cenotaphref02_Add.l0] at H
      by_cases c21 : x7_2 < (l0_1.length : Int)
      ·rw [if_pos c21] at H
       have c21b0 : decide (x7_2 < (l0_1.length : Int)) = true := decide_eq_true c21
       clear c21
       by_cases c22 : x6_2 = true
       ·subst c22
        have H1 : (if 0 ≤ x7_2 then (if x5_2.length < 17592186044416 then (cenotaphref02_Add.l0 k2 a1 (x5_2 ++ [rd l0_1 x7_2]) true (wrap64 (x7_2 + 1)) a0_0 l0_1) else (none)) else (none)) = some (r1, r2) := by rw [if_pos rfl] at H; exact H
        clear H
        have H := H1
        clear H1
        by_cases c23 : 0 ≤ x7_2
        ·rw [if_pos c23] at H
         have c23b0 : decide (0 ≤ x7_2) = true := decide_eq_true c23
         clear c23
         by_cases c24 : x5_2.length < 17592186044416
         ·rw [if_pos c24] at H
          have LMc24 := Aside0.mk c24
          clear c24
          obtain ⟨y262, hy262⟩ : ∃ y_ : List Int, y_ = (x5_2 ++ [rd l0_1 x7_2]) := ⟨_, rfl⟩
          replace H : (cenotaphref02_Add.l0 k2 a1 y262 true (wrap64 (x7_2 + 1)) a0_0 l0_1) = some (r1, r2) := by first | (rw [hy262]; with_reducible exact H) | (have H2_ := (Option.bind_some _ _).symm.trans H; rw [hy262]; with_reducible exact H2_) | (have H2_ := (Option.bind_some _ _).symm.trans H; with_reducible exact H2_) | with_reducible exact H | (rw [hy262]; exact H) | exact H
          have Ny262 := Aside0.mk hy262
          clear hy262
          have H' := Aside0.mk H
          clear H
          have hnb25 := NB252_253.out
          have hnc25 := NB253_252.out
          have hcz26_0 : wr.cell? ⟨gb252, 0, none⟩ = some (.int .i64 a0_0) := (blk_cell BK252.out 0).trans rfl
          have hcz26_1 : wr.cell? ⟨gb252, 1, none⟩ = some (.slice A0_1 l0_1.length c0_1) := (blk_cell BK252.out 1).trans rfl
          have hfz26_0 := blk_frozen BK252.out 0
          have hfz26_1 := blk_frozen BK252.out 1
          have p261 : 0 ≤ (x7_2 : Int) := of_decide_eq_true zq51_6
          have q261 : x7_2 < (l0_1.length : Int) := of_decide_eq_true zq51_6
          obtain ⟨ad261, e261, hx261_0⟩ := Kd.at_int HR0_1.out x7_2 p261 q261
          cases e261
          replace hx261_0 := (HB.out.cell (World.block_lt_of_cell? w _ hx261_0)).trans hx261_0
          replace p261 := eq_true p261
          replace q261 := eq_true q261
          go_wp2_with (first | ((with_reducible refine gate_builtin (b := .append) (xs := #[.tmp 49, .tmp 55]) rfl ?_); at_builtin; refine Kd.Q_append (Kd.int .i64) (w0 := w) w.heap.size rfl (.tmp 49) (.tmp 55) 23 3 (.int .i64 0) 8 rfl Try.underlying23 info3 rfl (by decide) (by omega) u5 x5_2 (rd l0_1 x7_2) [.int .i64 (rd l0_1 x7_2)] (fun _ => True) (fun _ => False) rfl rfl ?aP (fun _ hk => hk.elim) ?aF ?aO ?aB ?aS ?aL ?_; (case aP => exact rfl); (case aB => exact zq51_0); (case aF => exact (fun _ _ => trivial)); (case aO => exact zq51_5); (case aS => exact (below_size zq51_0)); (case aL => have := LMc24.out; omega); intro v263 w27 ho hb hg hat; rw [← Ny262.out] at ho; replace BK252 := Aside0.mk (blk_grown (g := gb252) (o := .cells #[.int .i64 a0_0, .slice (some ad261) l0_1.length c0_1] 25 (0, 0)) zq51_3 hg (Kd.Q_ne HO_5.out BK252.out (by decide))); replace BK253 := Aside0.mk (blk_grown (g := gb253) (o := .cells #[.int .i64 0, .slice none 0 0] 25 (0, 0)) zq51_4 hg (Kd.Q_ne HO_5.out BK253.out (by decide))); replace HB := Aside0.mk (hb); have HO264 := Aside0.mk (ho); clear HO_5; clear ho hb hg hat))
          go_roundg k2
          case measure => have := HJ2.out; have := HK2.out; omega
          case rel => exact ⟨(y262), (true), (wrap64 (x7_2 + 1)), zq51_7, zq51_7, H', ⟨by have := HJ2.out; have := HK2.out; omega⟩, ⟨by (with_reducible repeat (first | apply Kd.Q_alloc | apply Kd.Q_drewN | apply Kd.Q_drew)); exact HO264.out⟩, ⟨by (with_reducible repeat (first | refine blk_drewN ?_ _ | refine blk_drew ?_ | refine blk_alloc ?_ _)); exact BK252.out⟩, ⟨by (with_reducible repeat (first | refine blk_drewN ?_ _ | refine blk_drew ?_ | refine blk_alloc ?_ _)); exact BK253.out⟩, ⟨by repeat (first | (with_reducible first | exact HB.out | apply below_alloc | apply pw_below_drewN | apply below_drew1 | refine below_set ?_ GE252.out | refine below_set ?_ GE253.out) | exact HB.out)⟩⟩
         ·rw [if_neg c24] at H
          exact absurd H (by simp)
        ·rw [if_neg c23] at H
         exact absurd H (by simp)
       ·replace c22 := Bool.eq_false_iff.mpr c22
        subst c22
        have H1 : (if 0 ≤ x7_2 then (if (rd l0_1 x7_2) > a1 then (if x5_2.length < 17592186044416 then ((some (x5_2 ++ [a1] : List Int)).bind fun y266 => (if y266.length < 17592186044416 then (cenotaphref02_Add.l0 k2 a1 (y266 ++ [rd l0_1 x7_2]) true (wrap64 (x7_2 + 1)) a0_0 l0_1) else (none))) else (none)) else (if x5_2.length < 17592186044416 then (cenotaphref02_Add.l0 k2 a1 (x5_2 ++ [rd l0_1 x7_2]) false (wrap64 (x7_2 + 1)) a0_0 l0_1) else (none))) else (none)) = some (r1, r2) := by rw [if_neg (show ¬ (false = true) by decide)] at H; exact H
        clear H
        have H := H1
        clear H1
        by_cases c28 : 0 ≤ x7_2
        ·rw [if_pos c28] at H
         have c28b0 : decide (0 ≤ x7_2) = true := decide_eq_true c28
         clear c28
         by_cases c29 : (rd l0_1 x7_2) > a1
         ·rw [if_pos c29] at H
          have c29b0 : decide (a1 < (rd l0_1 x7_2)) = true := decide_eq_true c29
          clear c29
          by_cases c30 : x5_2.length < 17592186044416
          ·rw [if_pos c30] at H
           have LMc30 := Aside0.mk c30
           clear c30
           obtain ⟨y266, hy266⟩ : ∃ y_ : List Int, y_ = (x5_2 ++ [a1]) := ⟨_, rfl⟩
           replace H : (if y266.length < 17592186044416 then (cenotaphref02_Add.l0 k2 a1 (y266 ++ [rd l0_1 x7_2]) true (wrap64 (x7_2 + 1)) a0_0 l0_1) else (none)) = some (r1, r2) := by first | (rw [hy266]; with_reducible exact H) | (have H2_ := (Option.bind_some _ _).symm.trans H; rw [hy266]; with_reducible exact H2_) | (have H2_ := (Option.bind_some _ _).symm.trans H; with_reducible exact H2_) | with_reducible exact H | (rw [hy266]; exact H) | exact H
           have Ny266 := Aside0.mk hy266
           clear hy266
           by_cases c31 : y266.length < 17592186044416
           ·rw [if_pos c31] at H
            have LMc31 := Aside0.mk c31
            clear c31
            obtain ⟨y270, hy270⟩ : ∃ y_ : List Int, y_ = (y266 ++ [rd l0_1 x7_2]) := ⟨_, rfl⟩
            replace H : (cenotaphref02_Add.l0 k2 a1 y270 true (wrap64 (x7_2 + 1)) a0_0 l0_1) = some (r1, r2) := by first | (rw [hy270]; with_reducible exact H) | (have H2_ := (Option.bind_some _ _).symm.trans H; rw [hy270]; with_reducible exact H2_) | (have H2_ := (Option.bind_some _ _).symm.trans H; with_reducible exact H2_) | with_reducible exact H | (rw [hy270]; exact H) | exact H
            have Ny270 := Aside0.mk hy270
            clear hy270
            have H' := Aside0.mk H
            clear H
            have hnb32 := NB252_253.out
            have hnc32 := NB253_252.out
            have hcz33_0 : wr.cell? ⟨gb252, 0, none⟩ = some (.int .i64 a0_0) := (blk_cell BK252.out 0).trans rfl
            have hcz33_1 : wr.cell? ⟨gb252, 1, none⟩ = some (.slice A0_1 l0_1.length c0_1) := (blk_cell BK252.out 1).trans rfl
            have hfz33_0 := blk_frozen BK252.out 0
            have hfz33_1 := blk_frozen BK252.out 1
            have p265 : 0 ≤ (x7_2 : Int) := of_decide_eq_true zq51_6
            have q265 : x7_2 < (l0_1.length : Int) := of_decide_eq_true zq51_6
            obtain ⟨ad265, e265, hx265_0⟩ := Kd.at_int HR0_1.out x7_2 p265 q265
            cases e265
            replace hx265_0 := (HB.out.cell (World.block_lt_of_cell? w _ hx265_0)).trans hx265_0
            replace p265 := eq_true p265
            replace q265 := eq_true q265
            go_wp2_with (first | ((with_reducible refine gate_builtin (b := .append) (xs := #[.tmp 45, .tmp 47]) rfl ?_); at_builtin; refine Kd.Q_append (Kd.int .i64) (w0 := w) w.heap.size rfl (.tmp 45) (.tmp 47) 23 3 (.int .i64 0) 8 rfl Try.underlying23 info3 rfl (by decide) (by omega) u5 x5_2 a1 [.int .i64 a1] (fun _ => True) (fun _ => False) rfl rfl ?aP (fun _ hk => hk.elim) ?aF ?aO ?aB ?aS ?aL ?_; (case aP => exact rfl); (case aB => exact zq51_0); (case aF => exact (fun _ _ => trivial)); (case aO => exact zq51_5); (case aS => exact (below_size zq51_0)); (case aL => have := LMc30.out; omega); intro v267 w34 ho hb hg hat; rw [← Ny266.out] at ho; replace BK252 := Aside0.mk (blk_grown (g := gb252) (o := .cells #[.int .i64 a0_0, .slice (some ad265) l0_1.length c0_1] 25 (0, 0)) zq51_3 hg (Kd.Q_ne HO_5.out BK252.out (by decide))); replace BK253 := Aside0.mk (blk_grown (g := gb253) (o := .cells #[.int .i64 0, .slice none 0 0] 25 (0, 0)) zq51_4 hg (Kd.Q_ne HO_5.out BK253.out (by decide))); replace HB := Aside0.mk (hb); have HO268 := Aside0.mk (ho); clear HO_5; clear ho hb hg hat; have hcz35_0 : w34.cell? ⟨gb252, 0, none⟩ = some (.int .i64 a0_0) := (blk_cell BK252.out 0).trans rfl; have hcz35_1 : w34.cell? ⟨gb252, 1, none⟩ = some (.slice (some ad265) l0_1.length c0_1) := (blk_cell BK252.out 1).trans rfl; have hfz35_0 := blk_frozen BK252.out 0; have hfz35_1 := blk_frozen BK252.out 1; have p269 : 0 ≤ (x7_2 : Int) := of_decide_eq_true zq51_6; have q269 : x7_2 < (l0_1.length : Int) := of_decide_eq_true zq51_6; obtain ⟨ad269, e269, hx269_0⟩ := Kd.at_int HR0_1.out x7_2 p269 q269; obtain rfl : ad265 = ad269 := (by injection e269); replace hx269_0 := (HB.out.cell (World.block_lt_of_cell? w _ hx269_0)).trans hx269_0; replace p269 := eq_true p269; replace q269 := eq_true q269) | ((with_reducible refine gate_builtin (b := .append) (xs := #[.tmp 49, .tmp 55]) rfl ?_); at_builtin; refine Kd.Q_append (Kd.int .i64) (w0 := w) w.heap.size rfl (.tmp 49) (.tmp 55) 23 3 (.int .i64 0) 8 rfl Try.underlying23 info3 rfl (by decide) (by omega) v267 y266 (rd l0_1 x7_2) [.int .i64 (rd l0_1 x7_2)] (fun _ => True) (fun _ => False) rfl rfl ?aP (fun _ hk => hk.elim) ?aF ?aO ?aB ?aS ?aL ?_; (case aP => exact rfl); (case aB => exact zq51_0); (case aF => exact (fun _ _ => trivial)); (case aO => exact (by (with_reducible repeat (first | apply Kd.Q_alloc | apply Kd.Q_drewN | apply Kd.Q_drew)); exact HO268.out)); (case aS => exact (below_size zq51_0)); (case aL => have := LMc31.out; omega); intro v271 w36 ho hb hg hat; rw [← Ny270.out] at ho; replace BK252 := Aside0.mk (blk_grown (g := gb252) (o := .cells #[.int .i64 a0_0, .slice (some ad265) l0_1.length c0_1] 25 (0, 0)) zq51_3 hg (Kd.Q_ne HO268.out BK252.out (by decide))); replace BK253 := Aside0.mk (blk_grown (g := gb253) (o := .cells #[.int .i64 0, .slice none 0 0] 25 (0, 0)) zq51_4 hg (Kd.Q_ne HO268.out BK253.out (by decide))); replace HB := Aside0.mk (hb); have HO272 := Aside0.mk (ho); clear HO268; clear ho hb hg hat))
            go_roundg k2
            case measure => have := HJ2.out; have := HK2.out; omega
            case rel => exact ⟨(y270), (true), (wrap64 (x7_2 + 1)), zq51_7, zq51_7, H', ⟨by have := HJ2.out; have := HK2.out; omega⟩, ⟨by (with_reducible repeat (first | apply Kd.Q_alloc | apply Kd.Q_drewN | apply Kd.Q_drew)); exact HO272.out⟩, ⟨by (with_reducible repeat (first | refine blk_drewN ?_ _ | refine blk_drew ?_ | refine blk_alloc ?_ _)); exact BK252.out⟩, ⟨by (with_reducible repeat (first | refine blk_drewN ?_ _ | refine blk_drew ?_ | refine blk_alloc ?_ _)); exact BK253.out⟩, ⟨by repeat (first | (with_reducible first | exact HB.out | apply below_alloc | apply pw_below_drewN | apply below_drew1 | refine below_set ?_ GE252.out | refine below_set ?_ GE253.out) | exact HB.out)⟩⟩
           ·rw [if_neg c31] at H
            exact absurd H (by simp)
          ·rw [if_neg c30] at H
           exact absurd H (by simp)
         ·rw [if_neg c29] at H
          have c29b0 : decide (a1 < (rd l0_1 x7_2)) = false := decide_eq_false c29
          clear c29
          by_cases c37 : x5_2.length < 17592186044416
          ·rw [if_pos c37] at H
           have LMc37 := Aside0.mk c37
           clear c37
           obtain ⟨y274, hy274⟩ : ∃ y_ : List Int, y_ = (x5_2 ++ [rd l0_1 x7_2]) := ⟨_, rfl⟩
           replace H : (cenotaphref02_Add.l0 k2 a1 y274 false (wrap64 (x7_2 + 1)) a0_0 l0_1) = some (r1, r2) := by first | (rw [hy274]; with_reducible exact H) | (have H2_ := (Option.bind_some _ _).symm.trans H; rw [hy274]; with_reducible exact H2_) | (have H2_ := (Option.bind_some _ _).symm.trans H; with_reducible exact H2_) | with_reducible exact H | (rw [hy274]; exact H) | exact H
           have Ny274 := Aside0.mk hy274
           clear hy274
           have H' := Aside0.mk H
           clear H
           have hnb38 := NB252_253.out
           have hnc38 := NB253_252.out
           have hcz39_0 : wr.cell? ⟨gb252, 0, none⟩ = some (.int .i64 a0_0) := (blk_cell BK252.out 0).trans rfl
           have hcz39_1 : wr.cell? ⟨gb252, 1, none⟩ = some (.slice A0_1 l0_1.length c0_1) := (blk_cell BK252.out 1).trans rfl
           have hfz39_0 := blk_frozen BK252.out 0
           have hfz39_1 := blk_frozen BK252.out 1
           have p265 : 0 ≤ (x7_2 : Int) := of_decide_eq_true zq51_6
           have q265 : x7_2 < (l0_1.length : Int) := of_decide_eq_true zq51_6
           obtain ⟨ad265, e265, hx265_0⟩ := Kd.at_int HR0_1.out x7_2 p265 q265
           cases e265
           replace hx265_0 := (HB.out.cell (World.block_lt_of_cell? w _ hx265_0)).trans hx265_0
           replace p265 := eq_true p265
           replace q265 := eq_true q265
           have p273 : 0 ≤ (x7_2 : Int) := of_decide_eq_true zq51_6
           have q273 : x7_2 < (l0_1.length : Int) := of_decide_eq_true zq51_6
           obtain ⟨ad273, e273, hx273_0⟩ := Kd.at_int HR0_1.out x7_2 p273 q273
           obtain rfl : ad265 = ad273 := (by injection e273)
           replace hx273_0 := (HB.out.cell (World.block_lt_of_cell? w _ hx273_0)).trans hx273_0
           replace p273 := eq_true p273
           replace q273 := eq_true q273
           go_wp2_with (first | ((with_reducible refine gate_builtin (b := .append) (xs := #[.tmp 49, .tmp 55]) rfl ?_); at_builtin; refine Kd.Q_append (Kd.int .i64) (w0 := w) w.heap.size rfl (.tmp 49) (.tmp 55) 23 3 (.int .i64 0) 8 rfl Try.underlying23 info3 rfl (by decide) (by omega) u5 x5_2 (rd l0_1 x7_2) [.int .i64 (rd l0_1 x7_2)] (fun _ => True) (fun _ => False) rfl rfl ?aP (fun _ hk => hk.elim) ?aF ?aO ?aB ?aS ?aL ?_; (case aP => exact rfl); (case aB => exact zq51_0); (case aF => exact (fun _ _ => trivial)); (case aO => exact zq51_5); (case aS => exact (below_size zq51_0)); (case aL => have := LMc37.out; omega); intro v275 w40 ho hb hg hat; rw [← Ny274.out] at ho; replace BK252 := Aside0.mk (blk_grown (g := gb252) (o := .cells #[.int .i64 a0_0, .slice (some ad265) l0_1.length c0_1] 25 (0, 0)) zq51_3 hg (Kd.Q_ne HO_5.out BK252.out (by decide))); replace BK253 := Aside0.mk (blk_grown (g := gb253) (o := .cells #[.int .i64 0, .slice none 0 0] 25 (0, 0)) zq51_4 hg (Kd.Q_ne HO_5.out BK253.out (by decide))); replace HB := Aside0.mk (hb); have HO276 := Aside0.mk (ho); clear HO_5; clear ho hb hg hat))
           go_roundg k2
           case measure => have := HJ2.out; have := HK2.out; omega
           case rel => exact ⟨(y274), (false), (wrap64 (x7_2 + 1)), zq51_7, zq51_7, H', ⟨by have := HJ2.out; have := HK2.out; omega⟩, ⟨by (with_reducible repeat (first | apply Kd.Q_alloc | apply Kd.Q_drewN | apply Kd.Q_drew)); exact HO276.out⟩, ⟨by (with_reducible repeat (first | refine blk_drewN ?_ _ | refine blk_drew ?_ | refine blk_alloc ?_ _)); exact BK252.out⟩, ⟨by (with_reducible repeat (first | refine blk_drewN ?_ _ | refine blk_drew ?_ | refine blk_alloc ?_ _)); exact BK253.out⟩, ⟨by repeat (first | (with_reducible first | exact HB.out | apply below_alloc | apply pw_below_drewN | apply below_drew1 | refine below_set ?_ GE252.out | refine below_set ?_ GE253.out) | exact HB.out)⟩⟩
          ·rw [if_neg c37] at H
           exact absurd H (by simp)
        ·rw [if_neg c28] at H
         exact absurd H (by simp)
      ·rw [if_neg c21] at H
       have c21b0 : decide (x7_2 < (l0_1.length : Int)) = false := decide_eq_false c21
       clear c21
       have HC41 := Aside0.mk H
       clear H
       have hnb42 := NB252_253.out
       have hnc42 := NB253_252.out
       have hcz43_0 : wr.cell? ⟨gb252, 0, none⟩ = some (.int .i64 a0_0) := (blk_cell BK252.out 0).trans rfl
       have hcz43_1 : wr.cell? ⟨gb252, 1, none⟩ = some (.slice A0_1 l0_1.length c0_1) := (blk_cell BK252.out 1).trans rfl
       have hfz43_0 := blk_frozen BK252.out 0
       have hfz43_1 := blk_frozen BK252.out 1
       go_upto_if 58 with (fail)
       go_cut [5] (fun v5 wc => ∃ (kq : Nat) (x5_40 : List Int), Aside0 (cenotaphref02_Add.j2 kq x5_40 a0_0 l0_1 = some (r1, r2)) ∧ Aside0 (kq ≤ k2) ∧ Aside0 (Kd.Q (Kd.int .i64) 3 wc w.heap.size (fun _ => True) v5 x5_40) ∧ Aside0 (wc.heap[gb252]? = some (.cells #[.int .i64 a0_0, (.slice A0_1 l0_1.length c0_1)] 25 (0, 0))) ∧ Aside0 (wc.heap[gb253]? = some (.cells #[.int .i64 0, (.slice none 0 0)] 25 (0, 0))) ∧ Aside0 (Below w.heap.size w wc))
       case first =>
        have H := HC41.out
        clear HC41
        by_cases c44 : x6_2 = true
        ·subst c44
         have H1 : (cenotaphref02_Add.j2 k2 x5_2 a0_0 l0_1) = some (r1, r2) := by rw [if_pos rfl] at H; exact H
         clear H
         have H := H1
         clear H1
         have H' := Aside0.mk H
         clear H
         go_wp2
         go_meet
         case rel => exact ⟨_, (x5_2), H', ⟨by have := HJ2.out; have := HK2.out; first | omega | exact Nat.le_refl _⟩, ⟨by (with_reducible repeat (first | apply Kd.Q_alloc | apply Kd.Q_drewN | apply Kd.Q_drew)); exact HO_5.out⟩, ⟨by (with_reducible repeat (first | refine blk_drewN ?_ _ | refine blk_drew ?_ | refine blk_alloc ?_ _)); exact BK252.out⟩, ⟨by (with_reducible repeat (first | refine blk_drewN ?_ _ | refine blk_drew ?_ | refine blk_alloc ?_ _)); exact BK253.out⟩, ⟨by repeat (first | (with_reducible first | exact HB.out | apply below_alloc | apply pw_below_drewN | apply below_drew1 | refine below_set ?_ GE252.out | refine below_set ?_ GE253.out) | exact HB.out)⟩⟩
        ·replace c44 := Bool.eq_false_iff.mpr c44
         subst c44
         have H1 : (if x5_2.length < 17592186044416 then (cenotaphref02_Add.j2 k2 (x5_2 ++ [a1]) a0_0 l0_1) else (none)) = some (r1, r2) := by rw [if_neg (show ¬ (false = true) by decide)] at H; exact H
         clear H
         have H := H1
         clear H1
         by_cases c45 : x5_2.length < 17592186044416
         ·rw [if_pos c45] at H
          have LMc45 := Aside0.mk c45
          clear c45
          obtain ⟨y277, hy277⟩ : ∃ y_ : List Int, y_ = (x5_2 ++ [a1]) := ⟨_, rfl⟩
          replace H : (cenotaphref02_Add.j2 k2 y277 a0_0 l0_1) = some (r1, r2) := by first | (rw [hy277]; with_reducible exact H) | (have H2_ := (Option.bind_some _ _).symm.trans H; rw [hy277]; with_reducible exact H2_) | (have H2_ := (Option.bind_some _ _).symm.trans H; with_reducible exact H2_) | with_reducible exact H | (rw [hy277]; exact H) | exact H
          have Ny277 := Aside0.mk hy277
          clear hy277
          have H' := Aside0.mk H
          clear H
          go_wp2_with (first | ((with_reducible refine gate_builtin (b := .append) (xs := #[.tmp 59, .tmp 61]) rfl ?_); at_builtin; refine Kd.Q_append (Kd.int .i64) (w0 := w) w.heap.size rfl (.tmp 59) (.tmp 61) 23 3 (.int .i64 0) 8 rfl Try.underlying23 info3 rfl (by decide) (by omega) u5 x5_2 a1 [.int .i64 a1] (fun _ => True) (fun _ => False) rfl rfl ?aP (fun _ hk => hk.elim) ?aF ?aO ?aB ?aS ?aL ?_; (case aP => exact rfl); (case aB => exact zq51_0); (case aF => exact (fun _ _ => trivial)); (case aO => exact zq51_5); (case aS => exact (below_size zq51_0)); (case aL => have := LMc45.out; omega); intro v278 w46 ho hb hg hat; rw [← Ny277.out] at ho; replace BK252 := Aside0.mk (blk_grown (g := gb252) (o := .cells #[.int .i64 a0_0, .slice A0_1 l0_1.length c0_1] 25 (0, 0)) zq51_3 hg (Kd.Q_ne HO_5.out BK252.out (by decide))); replace BK253 := Aside0.mk (blk_grown (g := gb253) (o := .cells #[.int .i64 0, .slice none 0 0] 25 (0, 0)) zq51_4 hg (Kd.Q_ne HO_5.out BK253.out (by decide))); replace HB := Aside0.mk (hb); have HO279 := Aside0.mk (ho); clear HO_5; clear ho hb hg hat))
          go_meet
          case rel => exact ⟨_, (y277), H', ⟨by have := HJ2.out; have := HK2.out; first | omega | exact Nat.le_refl _⟩, ⟨by (with_reducible repeat (first | apply Kd.Q_alloc | apply Kd.Q_drewN | apply Kd.Q_drew)); exact HO279.out⟩, ⟨by (with_reducible repeat (first | refine blk_drewN ?_ _ | refine blk_drew ?_ | refine blk_alloc ?_ _)); exact BK252.out⟩, ⟨by (with_reducible repeat (first | refine blk_drewN ?_ _ | refine blk_drew ?_ | refine blk_alloc ?_ _)); exact BK253.out⟩, ⟨by repeat (first | (with_reducible first | exact HB.out | apply below_alloc | apply pw_below_drewN | apply below_drew1 | refine below_set ?_ GE252.out | refine below_set ?_ GE253.out) | exact HB.out)⟩⟩
         ·rw [if_neg c45] at H
          exact absurd H (by simp)
       case rest =>
        clear HC41
        try clear c1
        try clear c2
        try clear p2
        try clear q2
        try clear hx2
        try clear c3
        try clear c4
        try clear c5
        try clear c6
        try clear c6b0
        try clear p6
        try clear c7
        try clear c7b0
        try clear c9
        try clear c12
        try clear c13
        try clear c21
        try clear c21b0
        try clear c22
        try clear c23
        try clear c23b0
        try clear c24
        try clear c25
        try clear p26
        try clear q26
        try clear hx26
        try clear p27
        try clear q27
        try clear hx27
        try clear c28
        try clear c28b0
        try clear c29
        try clear c29b0
        try clear c30
        try clear c31
        try clear c32
        try clear c37
        try clear c38
        try clear c42
        try clear c44
        try clear c45
        try clear hcz10_0
        try clear hcz10_1
        try clear hcz26_0
        try clear hcz26_1
        try clear hcz33_0
        try clear hcz33_1
        try clear hcz35_0
        try clear hcz35_1
        try clear hcz39_0
        try clear hcz39_1
        try clear hcz43_0
        try clear hcz43_1
        try clear hfz10_0
        try clear hfz10_1
        try clear hfz26_0
        try clear hfz26_1
        try clear hfz33_0
        try clear hfz33_1
        try clear hfz35_0
        try clear hfz35_1
        try clear hfz39_0
        try clear hfz39_1
        try clear hfz43_0
        try clear hfz43_1
        try clear hx261_0
        try clear hx265_0
        try clear hx269_0
        try clear hx273_0
        try clear p2
        try clear p261
        try clear p265
        try clear p269
        try clear p273
        try clear q261
        try clear q265
        try clear q269
        try clear q273
        obtain ⟨kq, x5_40, HA, HJ40, HO_5, BK252, BK253, HB⟩ := hcut
        cases kq with
        | zero => exact absurd HA.out (by simp [cenotaphref02_Add.j2])
        | succ kj40 =>
         have H := HA.out
         clear HA
         simp only [cenotaphref02_Add.j2] at H
         have H' := Aside0.mk H
         clear H
         have hnb47 := NB252_253.out
         have hnc47 := NB253_252.out
         have hcz48_0 : wc.cell? ⟨gb252, 0, none⟩ = some (.int .i64 a0_0) := (blk_cell BK252.out 0).trans rfl
         have hcz48_1 : wc.cell? ⟨gb252, 1, none⟩ = some (.slice A0_1 l0_1.length c0_1) := (blk_cell BK252.out 1).trans rfl
         have hfz48_0 := blk_frozen BK252.out 0
         have hfz48_1 := blk_frozen BK252.out 1
         go_wp2
         go_loopg [5, 8] kj40 (fun kq v5 v8 w' => ∃ (x5_4 : List Int) (x8_4 : Int), v8 = .int .i64 x8_4 ∧ Aside0 (cenotaphref02_Add.l1 kq x5_4 x8_4 = some (r1, r2)) ∧ Aside0 (kq ≤ kj40) ∧ Aside0 (Kd.Q (Kd.int .i64) 3 w' w.heap.size (fun _ => True) v5 x5_4) ∧ Aside0 (w'.heap[gb252]? = some (.cells #[.int .i64 a0_0, (.slice A0_1 l0_1.length c0_1)] 25 (0, 0))) ∧ Aside0 (w'.heap[gb253]? = some (.cells #[.int .i64 0, (.slice none 0 0)] 25 (0, 0))) ∧ Aside0 (Below w.heap.size w w'))
         case atStart => exact ⟨(x5_40), (a0_0), zq51_7, H', ⟨Nat.le_refl _⟩, ⟨by (with_reducible repeat (first | apply Kd.Q_alloc | apply Kd.Q_drewN | apply Kd.Q_drew)); exact HO_5.out⟩, ⟨by (with_reducible repeat (first | refine blk_drewN ?_ _ | refine blk_drew ?_ | refine blk_alloc ?_ _)); exact BK252.out⟩, ⟨by (with_reducible repeat (first | refine blk_drewN ?_ _ | refine blk_drew ?_ | refine blk_alloc ?_ _)); exact BK253.out⟩, ⟨by repeat (first | (with_reducible first | exact HB.out | apply below_alloc | apply pw_below_drewN | apply below_drew1 | refine below_set ?_ GE252.out | refine below_set ?_ GE253.out) | exact HB.out)⟩⟩
         case round =>
          clear H'
          try clear c1
          try clear c2
          try clear p2
          try clear q2
          try clear hx2
          try clear c3
          try clear c4
          try clear c5
          try clear c6
          try clear c6b0
          try clear p6
          try clear c7
          try clear c7b0
          try clear c9
          try clear c12
          try clear c13
          try clear c21
          try clear c21b0
          try clear c22
          try clear c23
          try clear c23b0
          try clear c24
          try clear c25
          try clear p26
          try clear q26
          try clear hx26
          try clear p27
          try clear q27
          try clear hx27
          try clear c28
          try clear c28b0
          try clear c29
          try clear c29b0
          try clear c30
          try clear c31
          try clear c32
          try clear c37
          try clear c38
          try clear c42
          try clear c44
          try clear c45
          try clear c47
          try clear hcz10_0
          try clear hcz10_1
          try clear hcz26_0
          try clear hcz26_1
          try clear hcz33_0
          try clear hcz33_1
          try clear hcz35_0
          try clear hcz35_1
          try clear hcz39_0
          try clear hcz39_1
          try clear hcz43_0
          try clear hcz43_1
          try clear hcz48_0
          try clear hcz48_1
          try clear hfz10_0
          try clear hfz10_1
          try clear hfz26_0
          try clear hfz26_1
          try clear hfz33_0
          try clear hfz33_1
          try clear hfz35_0
          try clear hfz35_1
          try clear hfz39_0
          try clear hfz39_1
          try clear hfz43_0
          try clear hfz43_1
          try clear hfz48_0
          try clear hfz48_1
          try clear hx261_0
          try clear hx265_0
          try clear hx269_0
          try clear hx273_0
          try clear p2
          try clear p26
          try clear p261
          try clear p265
          try clear p269
          try clear p27
          try clear p273
          try clear p6
          try clear q2
          try clear q26
          try clear q261
          try clear q265
          try clear q269
          try clear q27
          try clear q273
          obtain ⟨x5_4, x8_4, rfl, HA, HK4, HO_5, BK252, BK253, HB⟩ := hrel
          cases gk with
          | zero => exact absurd HA.out (by simp [cenotaphref02_Add.l1])
          | succ k4 =>
           have H := HA.out
           clear HA
           simp only [cenotaphref02_Add.l1] at H
           by_cases c49 : (x5_4.length : Int) > 0
           ·rw [if_pos c49] at H
            have c49b0 : decide (0 < (x5_4.length : Int)) = true := decide_eq_true c49
            have c49b1 : decide (0 < x5_4.length) = true := decide_eq_true (by omega)
            clear c49
            by_cases c50 : 0 < (x5_4.length : Int)
            ·rw [if_pos c50] at H
             have c50b0 : decide (0 < (x5_4.length : Int)) = true := decide_eq_true c50
             have c50b1 : decide (0 < x5_4.length) = true := decide_eq_true (by omega)
             clear c50
             by_cases c51 : (rd x5_4 0) = (wrap64 (x8_4 + 1))
             ·rw [if_pos c51] at H
              have c51b0 : ((rd x5_4 0) == (wrap64 (x8_4 + 1))) = true := beq_iff_eq.mpr c51
              have c51b1 : ((rd x5_4 0) != (wrap64 (x8_4 + 1))) = false := bne_eq_false_iff_eq.mpr c51
              clear c51
              by_cases c52 : 1 ≤ (x5_4.length : Int)
              ·rw [if_pos c52] at H
               have c52b0 := eq_true c52
               have c52b1 : decide (1 ≤ (x5_4.length : Int)) = true := decide_eq_true c52
               clear c52
               obtain ⟨y281, hy281⟩ : ∃ y_ : List Int, y_ = (x5_4.drop (1 : Int).toNat) := ⟨_, rfl⟩
               replace H : (cenotaphref02_Add.l1 k4 y281 (wrap64 (x8_4 + 1))) = some (r1, r2) := by first | (rw [hy281]; with_reducible exact H) | (have H2_ := (Option.bind_some _ _).symm.trans H; rw [hy281]; with_reducible exact H2_) | (have H2_ := (Option.bind_some _ _).symm.trans H; with_reducible exact H2_) | with_reducible exact H | (rw [hy281]; exact H) | exact H
               have Ny281 := Aside0.mk hy281
               clear hy281
               have H' := Aside0.mk H
               clear H
               obtain ⟨Ao53, co53, eo53, _⟩ := Kd.Q_slice HO_5.out
               subst eo53
               have p280 : 0 ≤ (0 : Int) := (by omega)
               have q280 : 0 < (x5_4.length : Int) := of_decide_eq_true zq51_6
               obtain ⟨ad280, e280, hx280_0⟩ := Kd.at_int (Kd.Q_reads' HO_5.out).2.2 0 p280 q280
               cases e280
               have qi280 : (0 < x5_4.length) = True := eq_true (by omega)
               (try rw [show ((0 : Int)).toNat = 0 from rfl] at hx280_0)
               (try rw [Addr.add_zero'] at hx280_0)
               replace p280 := eq_true p280
               replace q280 := eq_true q280
               have q54 : (1 : Int) ≤ ((x5_4.length : Int) : Int) := of_decide_eq_true zq51_6
               obtain ⟨i054, hi054, _, hsz54, _⟩ := info_parts info3
               have hcut54 := cut_from (P := Try.prog) 23 3 .i64 Try.underlying23 hi054 1 hsz54 (some ad280) x5_4.length co53 1 (by omega) q54
               have hr54 := Kd.Q_drop (k := (1 : Int).toNat) HO_5.out (by omega)
               obtain ⟨A54, hA54⟩ : ∃ A1, A1 = (if co53 = (1 : Int).toNat then (some ad280) else ((some ad280) : Option Addr).map (·.add ((1 : Int).toNat * 1))) := ⟨_, rfl⟩
               obtain ⟨c54, hc54⟩ : ∃ c1, c1 = co53 - (1 : Int).toNat := ⟨_, rfl⟩
               have hy54 : y281.length = x5_4.length - (1 : Int).toNat := (by rw [Ny281.out, List.length_drop])
               rw [← Ny281.out] at hr54
               rw [← hy54, ← hA54, ← hc54] at hcut54
               replace hr54 : Kd.Q (Kd.int .i64) 3 wr w.heap.size (fun _ => True) (.slice A54 y281.length c54) y281 := (by rw [hA54, hc54, hy54]; exact hr54)
               have HE54 : Aside0 ((Value.slice A54 y281.length c54).ownBlock = (.slice (some ad280) x5_4.length co53 : Value).ownBlock) := ⟨by rw [hA54]; split <;> (cases ((some ad280) : Option Addr) <;> rfl)⟩
               clear hy54 hi054 hsz54 HO_5 hA54 hc54
               have HO283 := Aside0.mk hr54
               clear hr54
               replace q54 := eq_true q54
               go_wp2
               go_roundg k4
               case measure => have := HJ2.out; have := HK2.out; have := HJ40.out; have := HK4.out; omega
               case rel => exact ⟨(y281), (wrap64 (x8_4 + 1)), zq51_7, H', ⟨by have := HJ2.out; have := HK2.out; have := HJ40.out; have := HK4.out; omega⟩, ⟨by (with_reducible repeat (first | apply Kd.Q_alloc | apply Kd.Q_drewN | apply Kd.Q_drew)); exact HO283.out⟩, ⟨by (with_reducible repeat (first | refine blk_drewN ?_ _ | refine blk_drew ?_ | refine blk_alloc ?_ _)); exact BK252.out⟩, ⟨by (with_reducible repeat (first | refine blk_drewN ?_ _ | refine blk_drew ?_ | refine blk_alloc ?_ _)); exact BK253.out⟩, ⟨by repeat (first | (with_reducible first | exact HB.out | apply below_alloc | apply pw_below_drewN | apply below_drew1 | refine below_set ?_ GE252.out | refine below_set ?_ GE253.out) | exact HB.out)⟩⟩
              ·rw [if_neg c52] at H
               exact absurd H (by simp)
             ·rw [if_neg c51] at H
              have c51b0 : ((rd x5_4 0) == (wrap64 (x8_4 + 1))) = false := beq_eq_false_iff_ne.mpr c51
              have c51b1 : ((rd x5_4 0) != (wrap64 (x8_4 + 1))) = true := bne_iff_ne.mpr c51
              obtain ⟨y284, hy284⟩ : ∃ y_ : List Int, y_ = (([] : List Int)) := ⟨_, rfl⟩
              replace H : (if y284.length + x5_4.length < 17592186044416 then (some (x8_4, (y284 ++ x5_4))) else (none)) = some (r1, r2) := by first | (rw [hy284]; with_reducible exact H) | (have H2_ := (Option.bind_some _ _).symm.trans H; rw [hy284]; with_reducible exact H2_) | (have H2_ := (Option.bind_some _ _).symm.trans H; with_reducible exact H2_) | with_reducible exact H | (rw [hy284]; exact H) | exact H
              have Ny284 := Aside0.mk hy284
              clear hy284
              by_cases c55 : y284.length + x5_4.length < 17592186044416
              ·rw [if_pos c55] at H
               have LMc55 := Aside0.mk c55
               clear c55
               obtain ⟨y287, hy287⟩ : ∃ y_ : List Int, y_ = (y284 ++ x5_4) := ⟨_, rfl⟩
               replace H : (some (x8_4, y287)) = some (r1, r2) := by first | (rw [hy287]; with_reducible exact H) | (have H2_ := (Option.bind_some _ _).symm.trans H; rw [hy287]; with_reducible exact H2_) | (have H2_ := (Option.bind_some _ _).symm.trans H; with_reducible exact H2_) | with_reducible exact H | (rw [hy287]; exact H) | exact H
               have Ny287 := Aside0.mk hy287
               clear hy287
               simp only [Option.some.injEq, Prod.mk.injEq] at H
               obtain ⟨rfl, rfl⟩ := H
               obtain ⟨Ao56, co56, eo56, _⟩ := Kd.Q_slice HO_5.out
               subst eo56
               have p280 : 0 ≤ (0 : Int) := (by omega)
               have q280 : 0 < (x5_4.length : Int) := of_decide_eq_true zq51_6
               obtain ⟨ad280, e280, hx280_0⟩ := Kd.at_int (Kd.Q_reads' HO_5.out).2.2 0 p280 q280
               cases e280
               have qi280 : (0 < x5_4.length) = True := eq_true (by omega)
               (try rw [show ((0 : Int)).toNat = 0 from rfl] at hx280_0)
               (try rw [Addr.add_zero'] at hx280_0)
               replace p280 := eq_true p280
               replace q280 := eq_true q280
               go_wp2_with (first | ((with_reducible refine gate_dst (N := 81) rfl ?_); refine Kd.R_lit (Kd.int .i64) _ 3 ?hg (N := 81) ?hd (xs := ([] : List Int)) (inner := []) (ok := fun _ => True) (okp := fun _ => True) ?hr ?hp (fun _ hk => hk) trivial (Below.refl _ _) (Nat.le_refl _) (by simp) ?_; (case hd => rfl); (case hg => rfl); (case hr => first | (go_simp; done) | (go_simp; rfl)); (case hp => exact (Reps.none _ _)); intro v285 w57 ho58 hb hg_ hnew_; clear hg_ hnew_; (first | rw [← Ny284.out] at ho58 | (simp only [Int.reduceToNat] at ho58; rw [← Ny284.out] at ho58)); have HO286 := Aside0.mk (Kd.R_lower (Kd.R_new' ho58 (Kd.Q_lt zq51_5)) (below_size zq51_0)); replace HO_5 := Aside0.mk (Kd.Q_elder' zq51_5 (Kd.R_base ho58) hb); replace BK252 := Aside0.mk (blk_below (g := gb252) (o := .cells #[.int .i64 a0_0, .slice A0_1 l0_1.length c0_1] 25 (0, 0)) zq51_3 hb); replace BK253 := Aside0.mk (blk_below (g := gb253) (o := .cells #[.int .i64 0, .slice none 0 0] 25 (0, 0)) zq51_4 hb); replace HB := Aside0.mk (below_step zq51_0 hb); clear hb ho58) | ((with_reducible refine gate_builtin (b := .append) (xs := #[.tmp 81, .tmp 82]) rfl ?_); at_builtin; refine Kd.R_append_rows (Kd.int .i64) (w0 := w) w.heap.size rfl (.tmp 81) (.tmp 82) 23 3 (.int .i64 0) 8 rfl Try.underlying23 info3 rfl (by decide) (by omega) v285 y284 x5_4 _ _ _ (fun k_ => some k_ ≠ (.slice (some ad280) x5_4.length co56 : Value).ownBlock) (fun _ => False) rfl rfl ?aO ?aR (fun _ _ h => h) (fun _ h => h.elim) ?aF ?aB ?aS ?aL ?_; (case aR => repeat (first | exact (Kd.Q_reads' HO_5.out).2.2 | (with_reducible refine Kd.C_alloc ?_ _) | (with_reducible refine Kd.C_drewN ?_ _) | (with_reducible refine Kd.C_drew ?_))); (case aB => exact zq51_0); (case aF => exact (fun k_ hk => Kd.fresh' (Kd.Q_lt zq51_5) k_ hk)); (case aO => exact (by (with_reducible repeat (first | apply Kd.R_alloc | apply Kd.R_drewN | apply Kd.R_drew)); exact Kd.R_mono HO286.out (fun _ hk => hk.2))); (case aS => exact (below_size zq51_0)); (case aL => have := LMc55.out; omega); intro v288 w59 ho hb hg hat; rw [← Ny287.out] at ho; replace HO_5 := Aside0.mk (Kd.Q_after (ok := (fun _ => True)) zq51_5 hg hat); replace BK252 := Aside0.mk (blk_grown (g := gb252) (o := .cells #[.int .i64 a0_0, .slice A0_1 l0_1.length c0_1] 25 (0, 0)) zq51_3 hg (Kd.R_ne HO286.out BK252.out (by decide))); replace BK253 := Aside0.mk (blk_grown (g := gb253) (o := .cells #[.int .i64 0, .slice none 0 0] 25 (0, 0)) zq51_4 hg (Kd.R_ne HO286.out BK253.out (by decide))); replace HB := Aside0.mk (hb); have HO289 := Aside0.mk (ho); clear HO286; clear ho hb hg hat; obtain ⟨Ao60, co60, eo60⟩ := Kd.R_slice HO289.out; subst eo60; have hnb61 := NB253_252.out; have hnc61 := NB252_253.out; have hcz62_0 : w59.cell? ⟨gb253, 0, none⟩ = some (.int .i64 0) := (blk_cell BK253.out 0).trans rfl; have hcz62_1 : w59.cell? ⟨gb253, 1, none⟩ = some (.slice none 0 0) := (blk_cell BK253.out 1).trans rfl; have hfz62_0 := blk_frozen BK253.out 0; have hfz62_1 := blk_frozen BK253.out 1))
               refine bodyPost_ret (results_cell_row rfl _ _ gb253 25 #[.int .i64 x8_4, .slice Ao60 y287.length co60] (0, 0) _ rfl (by (with_reducible repeat (first | refine blk_drewN ?_ _ | refine blk_drew ?_ | refine blk_alloc ?_ _)); refine blk_put (cs := #[.int .i64 x8_4, .slice none 0 0]) ?_ 1 _ rfl; (with_reducible repeat (first | refine blk_drewN ?_ _ | refine blk_drew ?_ | refine blk_alloc ?_ _)); refine blk_put (cs := #[.int .i64 0, .slice none 0 0]) ?_ 0 _ rfl; (with_reducible repeat (first | refine blk_drewN ?_ _ | refine blk_drew ?_ | refine blk_alloc ?_ _)); exact BK253.out) Try.underlying25 rfl (by kernel_rfl)) rfl ?_
               exact ⟨_, by first | rfl | (simp [errW_none, errW_some] <;> rfl) | (simp [*, errW_none, errW_some] <;> rfl), by (with_reducible repeat (first | apply Kd.R_alloc | apply Kd.R_drewN | apply Kd.R_drew)); exact Kd.R_mono (Kd.R_far (p := ⟨gb253, 1, none⟩) (Kd.R_far (p := ⟨gb253, 0, none⟩) (Kd.R_types HO289.out BK253.out (by decide)) (fun _ hk => hk.2) (.int .i64 x8_4)) (fun _ hk => hk.2) (.slice Ao60 y287.length co60)) (fun _ hk => trivial), by repeat (first | (with_reducible first | exact HB.out | apply below_alloc | apply pw_below_drewN | apply below_drew1 | refine below_set ?_ GE252.out | refine below_set ?_ GE253.out) | exact HB.out)⟩
              ·rw [if_neg c55] at H
               exact absurd H (by simp)
            ·rw [if_neg c50] at H
             exact absurd H (by simp)
           ·rw [if_neg c49] at H
            have c49b0 : decide (0 < (x5_4.length : Int)) = false := decide_eq_false c49
            have c49b1 : decide (0 < x5_4.length) = false := decide_eq_false (by omega)
            clear c49
            obtain ⟨y290, hy290⟩ : ∃ y_ : List Int, y_ = (([] : List Int)) := ⟨_, rfl⟩
            replace H : (if y290.length + x5_4.length < 17592186044416 then (some (x8_4, (y290 ++ x5_4))) else (none)) = some (r1, r2) := by first | (rw [hy290]; with_reducible exact H) | (have H2_ := (Option.bind_some _ _).symm.trans H; rw [hy290]; with_reducible exact H2_) | (have H2_ := (Option.bind_some _ _).symm.trans H; with_reducible exact H2_) | with_reducible exact H | (rw [hy290]; exact H) | exact H
            have Ny290 := Aside0.mk hy290
            clear hy290
            by_cases c63 : y290.length + x5_4.length < 17592186044416
            ·rw [if_pos c63] at H
             have LMc63 := Aside0.mk c63
             clear c63
             obtain ⟨y293, hy293⟩ : ∃ y_ : List Int, y_ = (y290 ++ x5_4) := ⟨_, rfl⟩
             replace H : (some (x8_4, y293)) = some (r1, r2) := by first | (rw [hy293]; with_reducible exact H) | (have H2_ := (Option.bind_some _ _).symm.trans H; rw [hy293]; with_reducible exact H2_) | (have H2_ := (Option.bind_some _ _).symm.trans H; with_reducible exact H2_) | with_reducible exact H | (rw [hy293]; exact H) | exact H
             have Ny293 := Aside0.mk hy293
             clear hy293
             simp only [Option.some.injEq, Prod.mk.injEq] at H
             obtain ⟨rfl, rfl⟩ := H
             obtain ⟨Ao64, co64, eo64, _⟩ := Kd.Q_slice HO_5.out
             subst eo64
             go_wp2_with (first | ((with_reducible refine gate_dst (N := 81) rfl ?_); refine Kd.R_lit (Kd.int .i64) _ 3 ?hg (N := 81) ?hd (xs := ([] : List Int)) (inner := []) (ok := fun _ => True) (okp := fun _ => True) ?hr ?hp (fun _ hk => hk) trivial (Below.refl _ _) (Nat.le_refl _) (by simp) ?_; (case hd => rfl); (case hg => rfl); (case hr => first | (go_simp; done) | (go_simp; rfl)); (case hp => exact (Reps.none _ _)); intro v291 w65 ho66 hb hg_ hnew_; clear hg_ hnew_; (first | rw [← Ny290.out] at ho66 | (simp only [Int.reduceToNat] at ho66; rw [← Ny290.out] at ho66)); have HO292 := Aside0.mk (Kd.R_lower (Kd.R_new' ho66 (Kd.Q_lt zq51_5)) (below_size zq51_0)); replace HO_5 := Aside0.mk (Kd.Q_elder' zq51_5 (Kd.R_base ho66) hb); replace BK252 := Aside0.mk (blk_below (g := gb252) (o := .cells #[.int .i64 a0_0, .slice A0_1 l0_1.length c0_1] 25 (0, 0)) zq51_3 hb); replace BK253 := Aside0.mk (blk_below (g := gb253) (o := .cells #[.int .i64 0, .slice none 0 0] 25 (0, 0)) zq51_4 hb); replace HB := Aside0.mk (below_step zq51_0 hb); clear hb ho66) | ((with_reducible refine gate_builtin (b := .append) (xs := #[.tmp 81, .tmp 82]) rfl ?_); at_builtin; refine Kd.R_append_rows (Kd.int .i64) (w0 := w) w.heap.size rfl (.tmp 81) (.tmp 82) 23 3 (.int .i64 0) 8 rfl Try.underlying23 info3 rfl (by decide) (by omega) v291 y290 x5_4 _ _ _ (fun k_ => some k_ ≠ (.slice Ao64 x5_4.length co64 : Value).ownBlock) (fun _ => False) rfl rfl ?aO ?aR (fun _ _ h => h) (fun _ h => h.elim) ?aF ?aB ?aS ?aL ?_; (case aR => repeat (first | exact (Kd.Q_reads' HO_5.out).2.2 | (with_reducible refine Kd.C_alloc ?_ _) | (with_reducible refine Kd.C_drewN ?_ _) | (with_reducible refine Kd.C_drew ?_))); (case aB => exact zq51_0); (case aF => exact (fun k_ hk => Kd.fresh' (Kd.Q_lt zq51_5) k_ hk)); (case aO => exact (by (with_reducible repeat (first | apply Kd.R_alloc | apply Kd.R_drewN | apply Kd.R_drew)); exact Kd.R_mono HO292.out (fun _ hk => hk.2))); (case aS => exact (below_size zq51_0)); (case aL => have := LMc63.out; omega); intro v294 w67 ho hb hg hat; rw [← Ny293.out] at ho; replace HO_5 := Aside0.mk (Kd.Q_after (ok := (fun _ => True)) zq51_5 hg hat); replace BK252 := Aside0.mk (blk_grown (g := gb252) (o := .cells #[.int .i64 a0_0, .slice A0_1 l0_1.length c0_1] 25 (0, 0)) zq51_3 hg (Kd.R_ne HO292.out BK252.out (by decide))); replace BK253 := Aside0.mk (blk_grown (g := gb253) (o := .cells #[.int .i64 0, .slice none 0 0] 25 (0, 0)) zq51_4 hg (Kd.R_ne HO292.out BK253.out (by decide))); replace HB := Aside0.mk (hb); have HO295 := Aside0.mk (ho); clear HO292; clear ho hb hg hat; obtain ⟨Ao68, co68, eo68⟩ := Kd.R_slice HO295.out; subst eo68; have hnb69 := NB253_252.out; have hnc69 := NB252_253.out; have hcz70_0 : w67.cell? ⟨gb253, 0, none⟩ = some (.int .i64 0) := (blk_cell BK253.out 0).trans rfl; have hcz70_1 : w67.cell? ⟨gb253, 1, none⟩ = some (.slice none 0 0) := (blk_cell BK253.out 1).trans rfl; have hfz70_0 := blk_frozen BK253.out 0; have hfz70_1 := blk_frozen BK253.out 1))
             refine bodyPost_ret (results_cell_row rfl _ _ gb253 25 #[.int .i64 x8_4, .slice Ao68 y293.length co68] (0, 0) _ rfl (by (with_reducible repeat (first | refine blk_drewN ?_ _ | refine blk_drew ?_ | refine blk_alloc ?_ _)); refine blk_put (cs := #[.int .i64 x8_4, .slice none 0 0]) ?_ 1 _ rfl; (with_reducible repeat (first | refine blk_drewN ?_ _ | refine blk_drew ?_ | refine blk_alloc ?_ _)); refine blk_put (cs := #[.int .i64 0, .slice none 0 0]) ?_ 0 _ rfl; (with_reducible repeat (first | refine blk_drewN ?_ _ | refine blk_drew ?_ | refine blk_alloc ?_ _)); exact BK253.out) Try.underlying25 rfl (by kernel_rfl)) rfl ?_
             exact ⟨_, by first | rfl | (simp [errW_none, errW_some] <;> rfl) | (simp [*, errW_none, errW_some] <;> rfl), by (with_reducible repeat (first | apply Kd.R_alloc | apply Kd.R_drewN | apply Kd.R_drew)); exact Kd.R_mono (Kd.R_far (p := ⟨gb253, 1, none⟩) (Kd.R_far (p := ⟨gb253, 0, none⟩) (Kd.R_types HO295.out BK253.out (by decide)) (fun _ hk => hk.2) (.int .i64 x8_4)) (fun _ hk => hk.2) (.slice Ao68 y293.length co68)) (fun _ hk => trivial), by repeat (first | (with_reducible first | exact HB.out | apply below_alloc | apply pw_below_drewN | apply below_drew1 | refine below_set ?_ GE252.out | refine below_set ?_ GE253.out) | exact HB.out)⟩
            ·rw [if_neg c63] at H
             exact absurd H (by simp)

end Go.Proofs.Ytkfehkaiifjkmaa.P
