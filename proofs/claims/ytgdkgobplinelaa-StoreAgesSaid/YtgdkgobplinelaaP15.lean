import Derived.Test.YtgdkgobplinelaaP0
import Derived.Test.YtgdkgobplinelaaP13
namespace Go.Proofs.Ytgdkgobplinelaa.P
open Go.RowKit Go.Proofs.YtgdkgobplinelaaW.PrintWords Go.Proofs.YtgdkgobplinelaaW.PrintLast Go.Proofs.YtgdkgobplinelaaW.PrintMore
set_option maxHeartbeats 8000000
set_option maxRecDepth 100000
attribute [local go_sem] run_store_complex max2_int min2_int max_two min_two max_three min_three max_four min_four
set_option linter.unusedVariables false
set_option linter.unusedSimpArgs false
def cenotaphlaw08_From.l0 : Nat → List (S41) → List (S28) → Int → Option ((List (S28)))
 | 0, _, _, _ => none
 | k + 1, x0, x3, x4 => if x4 < (x0.length : Int) then (if 0 ≤ x4 then ((cenotaphlaw07_From.f ((rd_T41 x0 x4).f0) ((rd_T41 x0 x4).f1.f0) ((rd_T41 x0 x4).f1.f1) ((rd_T41 x0 x4).f1.f2) ((rd_T41 x0 x4).f2) ((rd_T41 x0 x4).f3) ((rd_T41 x0 x4).f4) ((rd_T41 x0 x4).f5)).bind fun bt237 => (if x3.length < 1599289640401 then (cenotaphlaw08_From.l0 k x0 (x3 ++ [(⟨bt237.1, (⟨bt237.2.1, bt237.2.2.1, bt237.2.2.2.1⟩ : S24), bt237.2.2.2.2.1, (⟨bt237.2.2.2.2.2.1, bt237.2.2.2.2.2.2.1⟩ : S26), bt237.2.2.2.2.2.2.2.1, bt237.2.2.2.2.2.2.2.2⟩ : S28)]) (wrap64 (x4 + 1))) else (none))) else (none)) else (some x3)
def cenotaphlaw08_From.f (k : Nat) (l0 : List (S41)) : Option ((List (S28))) := cenotaphlaw08_From.l0 k l0 ([] : List (S28)) 0
theorem cenotaphlaw08_From.mono_l : ∀ k, (∀ y0 y1 y2, LeO (cenotaphlaw08_From.l0 k y0 y1 y2) (cenotaphlaw08_From.l0 (k + 1) y0 y1 y2))
 | 0 => fun _ _ _ r h => by simp [cenotaphlaw08_From.l0] at h
 | k + 1 => by
  have ih0 := cenotaphlaw08_From.mono_l k
  ·intro y0 y1 y2
   unfold cenotaphlaw08_From.l0
   repeat' first
   | (with_reducible exact ih0 _ _ _)
   | (with_reducible exact LeO.refl _)
   | (with_reducible exact LeO.none _)
   | (with_reducible refine LeO.ite ?_ ?_)
   | (with_reducible refine LeO.bind ?_ (fun _ => ?_))
   | exact ih0 _ _ _
   | exact LeO.none _
   | refine LeO.ite ?_ ?_
   | refine LeO.bind ?_ (fun _ => ?_)
theorem cenotaphlaw08_From.mono : ∀ a0 k, LeO (cenotaphlaw08_From.f k a0) (cenotaphlaw08_From.f (k + 1) a0) := by
 intro a0 k
 have ih0 := cenotaphlaw08_From.mono_l k
 unfold cenotaphlaw08_From.f
 repeat' first
   | (with_reducible exact ih0 _ _ _)
   | (with_reducible exact LeO.refl _)
   | (with_reducible exact LeO.none _)
   | (with_reducible refine LeO.ite ?_ ?_)
   | (with_reducible refine LeO.bind ?_ (fun _ => ?_))
   | exact ih0 _ _ _
   | exact LeO.none _
   | refine LeO.ite ?_ ?_
   | refine LeO.bind ?_ (fun _ => ?_)
theorem cenotaphlaw08_From.calls (k : Nat) (A0 : Option Addr) (c0 : Nat) (l0 : List (S41)) (r : List (S28)) (w : World) (hr0 : Kd.C k41 w A0 l0.length l0) (hc0 : l0.length ≤ c0) (h : cenotaphlaw08_From.f k l0 = some r) :
  Calls Try.prog 18 #[.slice A0 l0.length c0] w fun e w' => ∃ v0_ : Value, e = .returned (v0_) ∧ Kd.R k28 28 w' w.heap.size (fun _ => True) v0_ r ∧ Below w.heap.size w w' := by
 have hu41 := Try.underlying41
 have HR0 := aK hr0
 have HC0 := aK hc0
 clear hr0 hc0
 have HB := aK (Below.refl w.heap.size w)
 have H : (cenotaphlaw08_From.l0 k l0 ([] : List (S28)) 0) = some r := h
 clear h
 have H' := aK H
 clear H
 go_enter Try.func18, Try.ntmps18
 go_wp2
 go_loopg [3, 4] k (fun kq v3 v4 w' => ∃ (x3_1 : List (S28)) (x4_1 : Int), v4 = .int .i64 x4_1 ∧ Aside0 (cenotaphlaw08_From.l0 kq l0 x3_1 x4_1 = some r) ∧ Aside0 (kq ≤ k) ∧ Aside0 (Kd.R k28 28 w' w.heap.size (fun _ => True) v3 x3_1) ∧ Aside0 (Below w.heap.size w w'))
 case atStart => exact ⟨(([] : List (S28))), (0), (by first | rfl | (simp; done) | (simp [*]; done)), H', ⟨Nat.le_refl _⟩, ⟨by first | exact Kd.R_nil _ _ _ _ _ | exact Kd.N_nil _ _ _ _ _ | exact Kd.V_nil _ _ _ _ _ | exact Kd.Q_nil _ _ _ _ _ | exact Kd.S_nil _ _ _ _ _⟩, ⟨by repeat (first | (with_reducible first | exact HB.out | apply bA | apply pB | apply bW) | exact HB.out)⟩⟩
 case round =>
  clear H'
  try clear c1
  obtain ⟨x3_1, x4_1, rfl, HA, HK1, HO_3, HB⟩ := hrel
  cases gk with
  | zero => exact absurd HA.out (by simp [cenotaphlaw08_From.l0])
  | succ k1 =>
   have H := HA.out
   clear HA
   simp only [cenotaphlaw08_From.l0] at H
   by_cases c2 : x4_1 < (l0.length : Int)
   ·rw [if_pos c2] at H
    have c2b0 : decide (x4_1 < (l0.length : Int)) = true := dT c2
    clear c2
    by_cases c3 : 0 ≤ x4_1
    ·rw [if_pos c3] at H
     have c3b0 : decide (0 ≤ x4_1) = true := dT c3
     clear c3
     replace H := bM H
     obtain ⟨⟨t237, t238, t239, t240, t241, t242, t243, t244, t245⟩, A40, H⟩ := H
     have A4 := aK A40
     clear A40
     by_cases c5 : x3_1.length < 1599289640401
     ·rw [if_pos c5] at H
      have LMc5 := aK c5
      clear c5
      obtain ⟨y246, hy246⟩ : ∃ y_ : List (S28), y_ = (x3_1 ++ [(⟨t237, (⟨t238, t239, t240⟩ : S24), t241, (⟨t242, t243⟩ : S26), t244, t245⟩ : S28)]) := ⟨_, rfl⟩
      replace H : (cenotaphlaw08_From.l0 k1 l0 y246 (wrap64 (x4_1 + 1))) = some r := by first | (rw [hy246]; with_reducible exact H) | (have H2_ := (Option.bind_some _ _).symm.trans H; rw [hy246]; with_reducible exact H2_) | (have H2_ := (Option.bind_some _ _).symm.trans H; with_reducible exact H2_) | with_reducible exact H | (rw [hy246]; exact H) | exact H
      have Ny246 := aK hy246
      clear hy246
      have H' := aK H
      clear H
      have p236 : 0 ≤ (x4_1 : Int) := oD (by first | (with_reducible assumption) | assumption)
      have q236 : x4_1 < (l0.length : Int) := oD (by first | (with_reducible assumption) | assumption)
      obtain ⟨ad236, e236, hx236_0, hx236_1, hx236_2, hx236_3, hx236_4, hx236_5, hx236_6, hx236_7⟩ := at_T41 HR0.out x4_1 p236 q236
      cases e236
      replace hx236_0 := pc_ HB hx236_0
      replace hx236_1 := pc_ HB hx236_1
      replace hx236_2 := pc_ HB hx236_2
      replace hx236_3 := pc_ HB hx236_3
      replace hx236_4 := pc_ HB hx236_4
      replace hx236_5 := pc_ HB hx236_5
      replace hx236_6 := pc_ HB hx236_6
      replace hx236_7 := pc_ HB hx236_7
      replace p236 := eT p236
      replace q236 := eT q236
      go_wp2_with (first | ((with_reducible refine gate_callee (f := 20) rfl ?_); refine goesL_ (some 16) rfl rfl Try.func20 (by kernel_rfl) rfl #[.agg #[.int .i64 ((rd_T41 l0 x4_1).f0), .string ((rd_T41 l0 x4_1).f1.f0), .int .i64 ((rd_T41 l0 x4_1).f1.f1), .int .i64 ((rd_T41 l0 x4_1).f1.f2), .bool ((rd_T41 l0 x4_1).f2), .complex .f64 ((rd_T41 l0 x4_1).f3).re ((rd_T41 l0 x4_1).f3).im, .string ((rd_T41 l0 x4_1).f4), .bool ((rd_T41 l0 x4_1).f5)]] rfl (by (try simp only [List.map_toArray, List.map_cons, List.map_nil]); first | done | rfl | (simp only [List.length_drop, List.length_take]; rfl)) ?_; (with_reducible refine (cenotaphlaw07_From.calls ((rd_T41 l0 x4_1).f0) ((rd_T41 l0 x4_1).f1.f0) ((rd_T41 l0 x4_1).f1.f1) ((rd_T41 l0 x4_1).f1.f2) ((rd_T41 l0 x4_1).f2) ((rd_T41 l0 x4_1).f3) ((rd_T41 l0 x4_1).f4) ((rd_T41 l0 x4_1).f5) t237 t238 t239 t240 t241 t242 t243 t244 t245 _ A4.out).mono ?_); rintro e w6 ⟨rfl, hb⟩; refine ⟨_, rfl, ?_⟩; replace HO_3 := aK (Kd.R_below (by (with_reducible repeat (first | apply Kd.R_alloc | apply Kd.R_drewN | apply Kd.R_drew)); exact HO_3.out) hb); replace HB := aK (bS (by repeat (first | (with_reducible first | exact HB.out | apply bA | apply pB | apply bW) | exact HB.out)) hb); (try clear hb); (try clear hb2); (try clear hk); (try clear hi)) | ((with_reducible refine gate_builtin (b := .append) (xs := #[.tmp 11, .tmp 17]) rfl ?_); at_builtin; refine Kd.R_append k28 (w0 := w) w.heap.size rfl (.tmp 11) (.tmp 17) 22 28 (.agg #[(.int .i64 0), (.string ⟨#[]⟩), (.int .i64 0), (.int .i64 0), (.bool false), (.int .i64 0), (.int .i64 0), (.string ⟨#[]⟩), (.bool false)]) 88 rfl Try.underlying22 info28 rfl (by decide) (by omega) u3 x3_1 (⟨t237, (⟨t238, t239, t240⟩ : S24), t241, (⟨t242, t243⟩ : S26), t244, t245⟩ : S28) [.int .i64 t237, .string t238, .int .i64 t239, .int .i64 t240, .bool t241, .int .i64 t242, .int .i64 t243, .string t244, .bool t245] (fun _ => True) (fun _ => False) rfl rfl ?aP (fun _ hk => hk.elim) ?aF ?aO ?aB ?aS ?aL ?_; (case aP => exact k28_mkM _ _ _ (⟨t237, (⟨t238, t239, t240⟩ : S24), t241, (⟨t242, t243⟩ : S26), t244, t245⟩ : S28)); (case aB => exact (by repeat (first | (with_reducible first | exact HB.out | apply bA | apply pB | apply bW) | exact HB.out))); (case aF => exact (fun _ _ => trivial)); (case aO => exact (by (with_reducible repeat (first | apply Kd.R_alloc | apply Kd.R_drewN | apply Kd.R_drew)); exact HO_3.out)); (case aS => exact (below_size (by repeat (first | (with_reducible first | exact HB.out | apply bA | apply pB | apply bW) | exact HB.out)))); (case aL => have := LMc5.out; omega); intro v247 w7 ho hb hg hat; rw [← Ny246.out] at ho; replace HB := aK (hb); have HO248 := aK (ho); clear HO_3; clear ho hb hg hat))
      go_roundg k1
      case measure => have := HK1.out; omega
      case rel => exact ⟨(y246), (wrap64 (x4_1 + 1)), (by first | rfl | (simp; done) | (simp [*]; done)), H', ⟨by have := HK1.out; omega⟩, ⟨by (with_reducible repeat (first | apply Kd.R_alloc | apply Kd.R_drewN | apply Kd.R_drew)); exact HO248.out⟩, ⟨by repeat (first | (with_reducible first | exact HB.out | apply bA | apply pB | apply bW) | exact HB.out)⟩⟩
     ·rw [if_neg c5] at H
      exact absurd H (by simp)
    ·rw [if_neg c3] at H
     exact absurd H (by simp)
   ·rw [if_neg c2] at H
    have c2b0 : decide (x4_1 < (l0.length : Int)) = false := decide_eq_false c2
    clear c2
    obtain rfl := sI H
    go_wp2
    go_ret
    exact ⟨_, by first | rfl | (simp [errW_none, errW_some] <;> rfl) | (simp [*, errW_none, errW_some] <;> rfl), by (with_reducible repeat (first | apply Kd.R_alloc | apply Kd.R_drewN | apply Kd.R_drew)); exact HO_3.out, by repeat (first | (with_reducible first | exact HB.out | apply bA | apply pB | apply bW) | exact HB.out)⟩
end Go.Proofs.Ytgdkgobplinelaa.P
