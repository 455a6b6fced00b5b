-- Written by a program of this session (wip/pp.py over the kit's printer, with our own texts put in).
import Derived.Test.YtgkcdmhndplejaaP0
import Derived.Test.YtgkcdmhndplejaaP1
import Derived.Test.YtgkcdmhndplejaaP2
namespace Go.Proofs.Ytgkcdmhndplejaa.P
open Go.RowKit Go.Proofs.YtgkcdmhndplejaaW.PrintWords Go.Proofs.YtgkcdmhndplejaaW.PrintLast Go.Proofs.YtgkcdmhndplejaaW.PrintMore
attribute [local go_sem] max2_int min2_int max_two min_two max_three min_three max_four min_four   -- for this text's walks alone
set_option linter.unusedVariables false
set_option linter.unusedSimpArgs false

/-! ### cenotaphref06_Put: function 20 -/
theorem zq20_0 {p_ : Prop} (h_ : p_ := by repeat (first | (with_reducible first | exact HB.out | apply below_alloc | apply pw_below_drewN | apply below_drew1) | exact HB.out)) : p_ := h_
theorem zq20_1 {p_ : Prop} (h_ : p_ := by first | rfl | (simp; done) | (simp [*]; done)) : p_ := h_
mutual
def cenotaphref06_Put.j0 : Nat → List Int → Int → Option (List Int)
 | 0, _, _ => none
 | k + 1, x0, x1 => (some (([] : List Int) : List Int)).bind fun y131 => (if y131.length + x0.length < 140737488355328 then (cenotaphref06_Put.l0 k x1 (y131 ++ x0)) else (none))
def cenotaphref06_Put.l0 : Nat → Int → List Int → Option (List Int)
 | 0, _, _ => none
 | k + 1, x1, x5 => if x1 ≥ 128 then (if x5.length < 140737488355328 then (cenotaphref06_Put.l0 k (wrap64 (Int.tdiv x1 128)) (x5 ++ [(wrap64 ((Int.tmod x1 128) + 128)) % 256])) else (none)) else (if x5.length < 140737488355328 then (some (x5 ++ [(x1) % 256])) else (none))
end
def cenotaphref06_Put.f (k : Nat) (l0 : List Int) (a1 : Int) : Option (List Int) := if a1 < 0 then (cenotaphref06_Put.j0 k l0 0) else (cenotaphref06_Put.j0 k l0 a1)
theorem cenotaphref06_Put.mono_l : ∀ k, (∀ y0 y1, LeO (cenotaphref06_Put.j0 k y0 y1) (cenotaphref06_Put.j0 (k + 1) y0 y1)) ∧ (∀ y0 y1, LeO (cenotaphref06_Put.l0 k y0 y1) (cenotaphref06_Put.l0 (k + 1) y0 y1))
 | 0 => ⟨fun _ _ r h => by simp [cenotaphref06_Put.j0] at h, fun _ _ r h => by simp [cenotaphref06_Put.l0] at h⟩
 | k + 1 => by
  obtain ⟨ih0, ih1⟩ := cenotaphref06_Put.mono_l k
  refine ⟨?_, ?_⟩
  ·intro y0 y1
   unfold cenotaphref06_Put.j0
   repeat' first
   | (with_reducible exact ih0 _ _)
   | (with_reducible exact ih1 _ _)
   | (with_reducible exact LeO.refl _)
   | (with_reducible exact LeO.none _)
   | (with_reducible refine LeO.ite ?_ ?_)
   | (with_reducible refine LeO.bind ?_ (fun _ => ?_))
   | exact ih0 _ _
   | exact ih1 _ _
   | exact LeO.none _
   | refine LeO.ite ?_ ?_
   | refine LeO.bind ?_ (fun _ => ?_)
  ·intro y0 y1
   unfold cenotaphref06_Put.l0
   repeat' first
   | (with_reducible exact ih0 _ _)
   | (with_reducible exact ih1 _ _)
   | (with_reducible exact LeO.refl _)
   | (with_reducible exact LeO.none _)
   | (with_reducible refine LeO.ite ?_ ?_)
   | (with_reducible refine LeO.bind ?_ (fun _ => ?_))
   | exact ih0 _ _
   | exact ih1 _ _
   | exact LeO.none _
   | refine LeO.ite ?_ ?_
   | refine LeO.bind ?_ (fun _ => ?_)
theorem cenotaphref06_Put.mono : ∀ a0 a1 k, LeO (cenotaphref06_Put.f k a0 a1) (cenotaphref06_Put.f (k + 1) a0 a1) := by
 intro a0 a1 k
 obtain ⟨ih0, ih1⟩ := cenotaphref06_Put.mono_l k
 unfold cenotaphref06_Put.f
 repeat' first
   | (with_reducible exact ih0 _ _)
   | (with_reducible exact ih1 _ _)
   | (with_reducible exact LeO.refl _)
   | (with_reducible exact LeO.none _)
   | (with_reducible refine LeO.ite ?_ ?_)
   | (with_reducible refine LeO.bind ?_ (fun _ => ?_))
   | exact ih0 _ _
   | exact ih1 _ _
   | exact LeO.none _
   | refine LeO.ite ?_ ?_
   | refine LeO.bind ?_ (fun _ => ?_)
set_option maxHeartbeats 8000000 in
set_option maxRecDepth 100000 in
theorem cenotaphref06_Put.calls (k : Nat) (A0 : Option Addr) (c0 : Nat) (l0 : List Int) (a1 : Int) (r : List Int) (w : World) (hr0 : Kd.C (Kd.int .u8) w A0 l0.length l0) (hc0 : l0.length ≤ c0) (h : cenotaphref06_Put.f k l0 a1 = some r) :
  Calls Try.prog 20 #[.slice A0 l0.length c0, .int .i64 a1] w fun e w' => ∃ v0_ : Value, e = .returned (v0_) ∧ Kd.R (Kd.int .u8) 5 w' w.heap.size (fun _ => True) v0_ r ∧ Below w.heap.size w w' := by
 have HR0 := Aside0.mk hr0
 have HC0 := Aside0.mk hc0
 clear hr0 hc0
 have HB := Aside0.mk (Below.refl w.heap.size w)
 have H : (if a1 < 0 then (cenotaphref06_Put.j0 k l0 0) else (cenotaphref06_Put.j0 k l0 a1)) = some r := h
 clear h
 have HC3 := Aside0.mk H
 clear H
 go_enter Try.func20, Try.ntmps20
 go_upto_if 7 with (fail)
 go_cut [1] (fun v1 wc => ∃ (kq : Nat) (x1_2 : Int), v1 = .int .i64 x1_2 ∧ Aside0 (cenotaphref06_Put.j0 kq l0 x1_2 = some r) ∧ Aside0 (kq ≤ k) ∧ Aside0 (Below w.heap.size w wc))
 case first =>
  have H := HC3.out
  clear HC3
  by_cases c4 : a1 < 0
  ·rw [if_pos c4] at H
   have c4b0 : decide (a1 < 0) = true := decide_eq_true c4
   clear c4
   (first | rw [c4b0] | (simp only [i64_w, i32_w]; rw [c4b0]) | skip)
   have H' := Aside0.mk H
   clear H
   go_wp2
   go_meet
   case rel => exact ⟨_, (0), zq20_1, H', ⟨by first | omega | exact Nat.le_refl _⟩, ⟨by repeat (first | (with_reducible first | exact HB.out | apply below_alloc | apply pw_below_drewN | apply below_drew1) | exact HB.out)⟩⟩
  ·rw [if_neg c4] at H
   have c4b0 : decide (a1 < 0) = false := decide_eq_false c4
   clear c4
   (first | rw [c4b0] | (simp only [i64_w, i32_w]; rw [c4b0]) | skip)
   have H' := Aside0.mk H
   clear H
   go_wp2
   go_meet
   case rel => exact ⟨_, (a1), zq20_1, H', ⟨by first | omega | exact Nat.le_refl _⟩, ⟨by repeat (first | (with_reducible first | exact HB.out | apply below_alloc | apply pw_below_drewN | apply below_drew1) | exact HB.out)⟩⟩
 case rest =>
  clear HC3
  try clear c2
  try clear p2
  try clear c4
  try clear c4b0
  obtain ⟨kq, x1_2, rfl, HA, HJ2, HB⟩ := hcut
  cases kq with
  | zero => exact absurd HA.out (by simp [cenotaphref06_Put.j0])
  | succ kj2 =>
   have H := HA.out
   clear HA
   simp only [cenotaphref06_Put.j0] at H
   obtain ⟨y131, hy131⟩ : ∃ y_ : List Int, y_ = (([] : List Int)) := ⟨_, rfl⟩
   replace H : (if y131.length + l0.length < 140737488355328 then (cenotaphref06_Put.l0 kj2 x1_2 (y131 ++ l0)) else (none)) = some r := by first | (rw [hy131]; with_reducible exact H) | (have H2_ := (Option.bind_some _ _).symm.trans H; rw [hy131]; with_reducible exact H2_) | (have H2_ := (Option.bind_some _ _).symm.trans H; with_reducible exact H2_) | with_reducible exact H | (rw [hy131]; exact H) | exact H
   have Ny131 := Aside0.mk hy131
   clear hy131
   by_cases c5 : y131.length + l0.length < 140737488355328
   ·rw [if_pos c5] at H
    have LMc5 := Aside0.mk c5
    clear c5
    obtain ⟨y134, hy134⟩ : ∃ y_ : List Int, y_ = (y131 ++ l0) := ⟨_, rfl⟩
    replace H : (cenotaphref06_Put.l0 kj2 x1_2 y134) = some r := by first | (rw [hy134]; with_reducible exact H) | (have H2_ := (Option.bind_some _ _).symm.trans H; rw [hy134]; with_reducible exact H2_) | (have H2_ := (Option.bind_some _ _).symm.trans H; with_reducible exact H2_) | with_reducible exact H | (rw [hy134]; exact H) | exact H
    have Ny134 := Aside0.mk hy134
    clear hy134
    have H' := Aside0.mk H
    clear H
    go_wp2_with (first | ((with_reducible refine gate_dst (N := 8) rfl ?_); refine Kd.R_lit (Kd.int .u8) _ 5 ?hg (N := 8) ?hd (xs := ([] : List Int)) (inner := []) (ok := fun _ => True) (okp := fun _ => True) ?hr ?hp (fun _ hk => hk) trivial (Below.refl _ _) (Nat.le_refl _) (by simp) ?_; (case hd => rfl); (case hg => rfl); (case hr => first | (go_simp; done) | (go_simp; rfl)); (case hp => exact (Reps.none _ _)); intro v132 w6 ho7 hb hg_ hnew_; clear hg_ hnew_; (first | rw [← Ny131.out] at ho7 | (simp only [Int.reduceToNat] at ho7; rw [← Ny131.out] at ho7)); have n0_ := Aside0.mk (Kd.R_lower ho7 (below_size zq20_0)); have n1_ := Aside0.mk (below_step zq20_0 hb); clear HB; have HO133 := n0_; have HB := n1_; clear n0_ n1_; clear hb ho7) | ((with_reducible refine gate_builtin (b := .append) (xs := #[.tmp 8, .tmp 9]) rfl ?_); at_builtin; refine Kd.R_append_rows (Kd.int .u8) (w0 := w) w.heap.size rfl (.tmp 8) (.tmp 9) 22 5 (.int .u8 0) 1 rfl Try.underlying22 info5 rfl (by decide) (by omega) v132 y131 l0 _ _ _ (fun _ => True) (fun _ => False) rfl rfl ?aO ?aR (fun _ _ h => h) (fun _ h => h.elim) ?aF ?aB ?aS ?aL ?_; (case aR => repeat (first | exact (Kd.C_below HR0.out HB.out) | (with_reducible refine Kd.C_alloc ?_ _) | (with_reducible refine Kd.C_drewN ?_ _) | (with_reducible refine Kd.C_drew ?_))); (case aB => exact zq20_0); (case aF => exact (fun _ _ => trivial)); (case aO => exact (by (with_reducible repeat (first | apply Kd.R_alloc | apply Kd.R_drewN | apply Kd.R_drew)); exact HO133.out)); (case aS => exact (below_size zq20_0)); (case aL => have := LMc5.out; omega); intro v135 w8 ho hb hg hat; rw [← Ny134.out] at ho; have n0_ := Aside0.mk (hb); have n1_ := Aside0.mk (ho); clear HB; clear HO133; have HB := n0_; have HO136 := n1_; clear n0_ n1_; clear ho hb hg hat))
    go_loopg [1, 5] kj2 (fun kq v1 v5 w' => ∃ (x1_2 : Int) (x5_2 : List Int), v1 = .int .i64 x1_2 ∧ Aside0 (cenotaphref06_Put.l0 kq x1_2 x5_2 = some r) ∧ Aside0 (kq ≤ kj2) ∧ Aside0 (Kd.R (Kd.int .u8) 5 w' w.heap.size (fun _ => True) v5 x5_2) ∧ Aside0 (Below w.heap.size w w'))
    case atStart => exact ⟨(x1_2), (y134), zq20_1, H', ⟨Nat.le_refl _⟩, ⟨by (with_reducible repeat (first | apply Kd.R_alloc | apply Kd.R_drewN | apply Kd.R_drew)); exact HO136.out⟩, ⟨by repeat (first | (with_reducible first | exact HB.out | apply below_alloc | apply pw_below_drewN | apply below_drew1) | exact HB.out)⟩⟩
    case round =>
     clear H'
     try clear c2
     try clear p2
     try clear c4
     try clear c4b0
     try clear c5
     try clear p2
     obtain ⟨x1_2, x5_2, rfl, HA, HK2, HO_5, HB⟩ := hrel
     cases gk with
     | zero => exact absurd HA.out (by simp [cenotaphref06_Put.l0])
     | succ k2 =>
      have H := HA.out
      clear HA
      simp only [cenotaphref06_Put.l0] at H
      by_cases c9 : x1_2 ≥ 128
      ·rw [if_pos c9] at H
       have c9b0 : decide (128 ≤ x1_2) = true := decide_eq_true c9
       clear c9
       by_cases c10 : x5_2.length < 140737488355328
       ·rw [if_pos c10] at H
        have LMc10 := Aside0.mk c10
        clear c10
        obtain ⟨y137, hy137⟩ : ∃ y_ : List Int, y_ = (x5_2 ++ [(wrap64 ((Int.tmod x1_2 128) + 128)) % 256]) := ⟨_, rfl⟩
        replace H : (cenotaphref06_Put.l0 k2 (wrap64 (Int.tdiv x1_2 128)) y137) = some r := by first | (rw [hy137]; with_reducible exact H) | (have H2_ := (Option.bind_some _ _).symm.trans H; rw [hy137]; with_reducible exact H2_) | (have H2_ := (Option.bind_some _ _).symm.trans H; with_reducible exact H2_) | with_reducible exact H | (rw [hy137]; exact H) | exact H
        have Ny137 := Aside0.mk hy137
        clear hy137
        have H' := Aside0.mk H
        clear H
        go_wp2_with (first | ((with_reducible refine gate_builtin (b := .append) (xs := #[.tmp 13, .tmp 18]) rfl ?_); at_builtin; refine Kd.R_append (Kd.int .u8) (w0 := w) w.heap.size rfl (.tmp 13) (.tmp 18) 22 5 (.int .u8 0) 1 rfl Try.underlying22 info5 rfl (by decide) (by omega) u5 x5_2 ((wrap64 ((Int.tmod x1_2 128) + 128)) % 256) [.int .u8 ((wrap64 ((Int.tmod x1_2 128) + 128)) % 256)] (fun _ => True) (fun _ => False) rfl rfl ?aP (fun _ hk => hk.elim) ?aF ?aO ?aB ?aS ?aL ?_; (case aP => exact rfl); (case aB => exact zq20_0); (case aF => exact (fun _ _ => trivial)); (case aO => exact (by (with_reducible repeat (first | apply Kd.R_alloc | apply Kd.R_drewN | apply Kd.R_drew)); exact HO_5.out)); (case aS => exact (below_size zq20_0)); (case aL => have := LMc10.out; omega); intro v138 w11 ho hb hg hat; rw [← Ny137.out] at ho; have n0_ := Aside0.mk (hb); have n1_ := Aside0.mk (ho); clear HB; clear HO_5; have HB := n0_; have HO139 := n1_; clear n0_ n1_; clear ho hb hg hat))
        go_roundg k2
        case measure => have := HJ2.out; have := HK2.out; omega
        case rel => exact ⟨(wrap64 (Int.tdiv x1_2 128)), (y137), zq20_1, H', ⟨by have := HJ2.out; have := HK2.out; omega⟩, ⟨by (with_reducible repeat (first | apply Kd.R_alloc | apply Kd.R_drewN | apply Kd.R_drew)); exact HO139.out⟩, ⟨by repeat (first | (with_reducible first | exact HB.out | apply below_alloc | apply pw_below_drewN | apply below_drew1) | exact HB.out)⟩⟩
       ·rw [if_neg c10] at H
        exact absurd H (by simp)
      ·rw [if_neg c9] at H
       have c9b0 : decide (128 ≤ x1_2) = false := decide_eq_false c9
       clear c9
       by_cases c12 : x5_2.length < 140737488355328
       ·rw [if_pos c12] at H
        have LMc12 := Aside0.mk c12
        clear c12
        obtain ⟨y140, hy140⟩ : ∃ y_ : List Int, y_ = (x5_2 ++ [(x1_2) % 256]) := ⟨_, rfl⟩
        replace H : (some y140) = some r := by first | (rw [hy140]; with_reducible exact H) | (have H2_ := (Option.bind_some _ _).symm.trans H; rw [hy140]; with_reducible exact H2_) | (have H2_ := (Option.bind_some _ _).symm.trans H; with_reducible exact H2_) | with_reducible exact H | (rw [hy140]; exact H) | exact H
        have Ny140 := Aside0.mk hy140
        clear hy140
        obtain rfl := Option.some.inj H
        go_wp2_with (first | ((with_reducible refine gate_builtin (b := .append) (xs := #[.tmp 22, .tmp 25]) rfl ?_); at_builtin; refine Kd.R_append (Kd.int .u8) (w0 := w) w.heap.size rfl (.tmp 22) (.tmp 25) 22 5 (.int .u8 0) 1 rfl Try.underlying22 info5 rfl (by decide) (by omega) u5 x5_2 ((x1_2) % 256) [.int .u8 ((x1_2) % 256)] (fun _ => True) (fun _ => False) rfl rfl ?aP (fun _ hk => hk.elim) ?aF ?aO ?aB ?aS ?aL ?_; (case aP => exact rfl); (case aB => exact zq20_0); (case aF => exact (fun _ _ => trivial)); (case aO => exact (by (with_reducible repeat (first | apply Kd.R_alloc | apply Kd.R_drewN | apply Kd.R_drew)); exact HO_5.out)); (case aS => exact (below_size zq20_0)); (case aL => have := LMc12.out; omega); intro v141 w13 ho hb hg hat; rw [← Ny140.out] at ho; have n0_ := Aside0.mk (hb); have n1_ := Aside0.mk (ho); clear HB; clear HO_5; have HB := n0_; have HO142 := n1_; clear n0_ n1_; clear ho hb hg hat))
        go_ret
        exact ⟨_, by first | rfl | (simp [errW_none, errW_some] <;> rfl) | (simp [*, errW_none, errW_some] <;> rfl), by (with_reducible repeat (first | apply Kd.R_alloc | apply Kd.R_drewN | apply Kd.R_drew)); exact HO142.out, by repeat (first | (with_reducible first | exact HB.out | apply below_alloc | apply pw_below_drewN | apply below_drew1) | exact HB.out)⟩
       ·rw [if_neg c12] at H
        exact absurd H (by simp)
   ·rw [if_neg c5] at H
    exact absurd H (by simp)

/-! ### cenotaphref06_PutText: function 22 -/
def cenotaphref06_PutText.f (k : Nat) (l0 : List Int) (a1 : ByteArray) : Option (List Int) := (cenotaphref06_Put.f k l0 (a1.size : Int)).bind fun t143 => (if t143.length + a1.size < 140737488355328 then (some (t143 ++ bytesOf a1)) else (none))
theorem cenotaphref06_PutText.mono : ∀ a0 a1 k, LeO (cenotaphref06_PutText.f k a0 a1) (cenotaphref06_PutText.f (k + 1) a0 a1) := by
  intro a0 a1 k
  unfold cenotaphref06_PutText.f
  repeat' first
      | (with_reducible exact cenotaphref06_Put.mono _ _ _)
      | (with_reducible exact LeO.refl _)
      | (with_reducible exact LeO.none _)
      | (with_reducible refine LeO.ite ?_ ?_)
      | (with_reducible refine LeO.bind ?_ (fun _ => ?_))
      | exact cenotaphref06_Put.mono _ _ _
      | exact LeO.none _
      | refine LeO.ite ?_ ?_
      | refine LeO.bind ?_ (fun _ => ?_)
set_option maxHeartbeats 8000000 in
set_option maxRecDepth 100000 in
theorem cenotaphref06_PutText.calls (k : Nat) (A0 : Option Addr) (c0 : Nat) (l0 : List Int) (a1 : ByteArray) (r : List Int) (w : World) (hr0 : Kd.C (Kd.int .u8) w A0 l0.length l0) (hc0 : l0.length ≤ c0) (h : cenotaphref06_PutText.f k l0 a1 = some r) :
    Calls Try.prog 22 #[.slice A0 l0.length c0, .string a1] w fun e w' => ∃ v0_ : Value, e = .returned (v0_) ∧ Kd.R (Kd.int .u8) 5 w' w.heap.size (fun _ => True) v0_ r ∧ Below w.heap.size w w' := by
  have HR0 := Aside0.mk hr0
  have HC0 := Aside0.mk hc0
  clear hr0 hc0
  have HB := Aside0.mk (Below.refl w.heap.size w)
  have H : ((cenotaphref06_Put.f k l0 (a1.size : Int)).bind fun t143 => (if t143.length + a1.size < 140737488355328 then (some (t143 ++ bytesOf a1)) else (none))) = some r := h
  clear h
  replace H := Option.bind_eq_some_iff.mp H
  obtain ⟨t143, A30, H⟩ := H
  replace H : (if t143.length + a1.size < 140737488355328 then (some (t143 ++ bytesOf a1)) else (none)) = some r := H
  have A3 := Aside0.mk A30
  clear A30
  by_cases c4 : t143.length + a1.size < 140737488355328
  · rw [if_pos c4] at H
    have LMc4 := Aside0.mk c4
    clear c4
    obtain ⟨y146, hy146⟩ : ∃ y_ : List Int, y_ = (t143 ++ bytesOf a1) := ⟨_, rfl⟩
    replace H : (some y146) = some r := by first | (rw [hy146]; with_reducible exact H) | (have H2_ := (Option.bind_some _ _).symm.trans H; rw [hy146]; with_reducible exact H2_) | (have H2_ := (Option.bind_some _ _).symm.trans H; with_reducible exact H2_) | with_reducible exact H | (rw [hy146]; exact H) | exact H
    have Ny146 := Aside0.mk hy146
    clear hy146
    obtain rfl := Option.some.inj H
    go_enter Try.func22, Try.ntmps22
    go_wp2_with (first | ((with_reducible refine gate_callee (f := 20) rfl ?_); refine goesL_ (some 8) rfl rfl Try.func20 (by kernel_rfl) rfl #[.slice A0 l0.length c0, .int .i64 (a1.size : Int)] rfl (by (try simp only [List.map_toArray, List.map_cons, List.map_nil]); first | done | rfl | (simp only [List.length_drop, List.length_take]; rfl)) ?_; (with_reducible refine (cenotaphref06_Put.calls k _ _ l0 (a1.size : Int) t143 _ ?side1 ?side2 A3.out).mono ?_); (case side1 => repeat (first | exact HR0.out | (with_reducible refine Kd.C_alloc ?_ _) | (with_reducible refine Kd.C_drewN ?_ _) | (with_reducible refine Kd.C_drew ?_))); (case side2 => exact HC0.out); rintro e w5 ⟨v144, rfl, ho0, hb⟩; refine ⟨_, rfl, ?_⟩; have n0_ := Aside0.mk (Kd.R_lower ho0 (below_size (by repeat (first | (with_reducible first | exact HB.out | apply below_alloc | apply pw_below_drewN | apply below_drew1) | exact HB.out)))); have n1_ := Aside0.mk (below_step (by repeat (first | (with_reducible first | exact HB.out | apply below_alloc | apply pw_below_drewN | apply below_drew1) | exact HB.out)) hb); clear HB; have HO145 := n0_; have HB := n1_; clear n0_ n1_; (try clear hb); (try clear hb2); (try clear hk); (try clear hi); (try clear ho0)) | (at_builtin; refine print_append_str (w0 := w) w.heap.size rfl (.tmp 8) _ 22 9 5 rfl Try.underlying22 Try.underlying9 info5 v144 t143 a1 rfl rfl ?aO ?aB ?aS ?aL ?_; (case aB => exact (by repeat (first | (with_reducible first | exact HB.out | apply below_alloc | apply pw_below_drewN | apply below_drew1) | exact HB.out))); (case aO => exact (Kd.own_of_R (by (with_reducible repeat (first | apply Kd.R_alloc | apply Kd.R_drewN | apply Kd.R_drew)); exact HO145.out))); (case aS => exact (below_size (by repeat (first | (with_reducible first | exact HB.out | apply below_alloc | apply pw_below_drewN | apply below_drew1) | exact HB.out)))); (case aL => have := LMc4.out; omega); intro v147 w6 ho0 hb hg; have ho := Kd.R_of_own (h1 := fun _ => rfl) (ok := fun _ => True) ho0 (fun _ _ => trivial); clear ho0; have hat := True.intro; rw [← Ny146.out] at ho; change Kd.R (Kd.int .u8) 5 w6 w.heap.size (fun _ => True) v147 y146 at ho; have n0_ := Aside0.mk (hb); have n1_ := Aside0.mk (ho); clear HB; clear HO145; have HB := n0_; have HO148 := n1_; clear n0_ n1_; clear ho hb hg hat))
    go_ret
    exact ⟨_, by first | rfl | (simp [errW_none, errW_some] <;> rfl) | (simp [*, errW_none, errW_some] <;> rfl), by (with_reducible repeat (first | apply Kd.R_alloc | apply Kd.R_drewN | apply Kd.R_drew)); exact HO148.out, by repeat (first | (with_reducible first | exact HB.out | apply below_alloc | apply pw_below_drewN | apply below_drew1) | exact HB.out)⟩
  · rw [if_neg c4] at H
    exact absurd H (by simp)

/-! ### cenotaphlaw06_WirePuts: function 4 -/
def cenotaphlaw06_WirePuts.l3 (k : Nat) (s : List ByteArray) (b : List Int) : Nat → Nat → Int → Int → Option Bool
  | 0, _, _, _ => none
  | m + 1, i, a, e => if i < s.length ∧ i < 20 then (wire_Reader_Text.f k b a e 300).bind fun t => if t.1.toList = (rdOf ByteArray.empty s (i : Int)).toList then cenotaphlaw06_WirePuts.l3 k s b m (i + 1) t.2.1 t.2.2 else some false
    else some ((if e = 0 ∧ a < (b.length : Int) then (3 : Int) else e) == 0)
def cenotaphlaw06_WirePuts.l2 (k : Nat) (n : List Int) (s : List ByteArray) (b : List Int) : Nat → Nat → Int → Int → Option Bool
  | 0, _, _, _ => none
  | m + 1, i, a, e => if i < n.length ∧ i < 40 then (wire_Reader_Num.f k b a e 9223372036854775807).bind fun p => if p.1 = mx (rd n (i : Int)) 0 then cenotaphlaw06_WirePuts.l2 k n s b m (i + 1) p.2.1 p.2.2 else some false
    else cenotaphlaw06_WirePuts.l3 k s b 21 0 a e
def cenotaphlaw06_WirePuts.l1 (k : Nat) (n : List Int) (s : List ByteArray) : Nat → Nat → List Int → List Int → Option Bool
  | 0, _, _, _ => none
  | m + 1, i, b, v => if i < s.length ∧ i < 20 then (if 300 < ((rdOf ByteArray.empty s (i : Int)).size : Int) then some true else
      (wire_PutText.f k b (rdOf ByteArray.empty s (i : Int))).bind fun b' => (cenotaphref06_PutText.f k v (rdOf ByteArray.empty s (i : Int))).bind fun v' => cenotaphlaw06_WirePuts.l1 k n s m (i + 1) b' v')
    else if (strOfNums b).toList = (strOfNums v).toList then (if b.length < 8796093022208 then cenotaphlaw06_WirePuts.l2 k n s b 41 0 0 0 else none) else some false
def cenotaphlaw06_WirePuts.l0 (k : Nat) (n : List Int) (s : List ByteArray) : Nat → Nat → List Int → List Int → Option Bool
  | 0, _, _, _ => none
  | m + 1, i, b, v => if i < n.length ∧ i < 40 then (wire_Put.f k b (rd n (i : Int))).bind fun b' => (cenotaphref06_Put.f k v (rd n (i : Int))).bind fun v' => cenotaphlaw06_WirePuts.l0 k n s m (i + 1) b' v'
    else cenotaphlaw06_WirePuts.l1 k n s 21 0 b v
def cenotaphlaw06_WirePuts.f (k : Nat) (l0 : List Int) (l1 : List ByteArray) : Option Bool := cenotaphlaw06_WirePuts.l0 k l0 l1 41 0 [] []
theorem puts_ite {α : Type} {c : Prop} [Decidable c] {a a' b b' : Option α} (h : LeO a a') (h2 : LeO b b') : LeO (if c then a else b) (if c then a' else b') := by
  by_cases hc : c
  · rw [if_pos hc, if_pos hc]; exact h
  · rw [if_neg hc, if_neg hc]; exact h2
theorem cenotaphlaw06_WirePuts.mono3 (s : List ByteArray) (b : List Int) (k : Nat) : ∀ m i a e, LeO (cenotaphlaw06_WirePuts.l3 k s b m i a e) (cenotaphlaw06_WirePuts.l3 (k + 1) s b m i a e)
  | 0, _, _, _ => LeO.refl _
  | m + 1, i, a, e => by
    unfold cenotaphlaw06_WirePuts.l3
    exact puts_ite (LeO.bind (wire_Reader_Text.mono _ _ _ _ k) fun t => puts_ite (cenotaphlaw06_WirePuts.mono3 s b k m _ _ _) (LeO.refl _)) (LeO.refl _)
theorem cenotaphlaw06_WirePuts.mono2 (n : List Int) (s : List ByteArray) (b : List Int) (k : Nat) : ∀ m i a e, LeO (cenotaphlaw06_WirePuts.l2 k n s b m i a e) (cenotaphlaw06_WirePuts.l2 (k + 1) n s b m i a e)
  | 0, _, _, _ => LeO.refl _
  | m + 1, i, a, e => by
    unfold cenotaphlaw06_WirePuts.l2
    exact puts_ite (LeO.bind (wire_Reader_Num.mono _ _ _ _ k) fun t => puts_ite (cenotaphlaw06_WirePuts.mono2 n s b k m _ _ _) (LeO.refl _)) (cenotaphlaw06_WirePuts.mono3 s b k _ _ _ _)
theorem cenotaphlaw06_WirePuts.mono1 (n : List Int) (s : List ByteArray) (k : Nat) : ∀ m i b v, LeO (cenotaphlaw06_WirePuts.l1 k n s m i b v) (cenotaphlaw06_WirePuts.l1 (k + 1) n s m i b v)
  | 0, _, _, _ => LeO.refl _
  | m + 1, i, b, v => by
    unfold cenotaphlaw06_WirePuts.l1
    exact puts_ite (puts_ite (LeO.refl _) (LeO.bind (wire_PutText.mono _ _ k) fun t => LeO.bind (cenotaphref06_PutText.mono _ _ k) fun u => cenotaphlaw06_WirePuts.mono1 n s k m _ _ _)) (puts_ite (puts_ite (cenotaphlaw06_WirePuts.mono2 n s b k _ _ _ _) (LeO.refl _)) (LeO.refl _))
theorem cenotaphlaw06_WirePuts.mono0 (n : List Int) (s : List ByteArray) (k : Nat) : ∀ m i b v, LeO (cenotaphlaw06_WirePuts.l0 k n s m i b v) (cenotaphlaw06_WirePuts.l0 (k + 1) n s m i b v)
  | 0, _, _, _ => LeO.refl _
  | m + 1, i, b, v => by
    unfold cenotaphlaw06_WirePuts.l0
    exact puts_ite (LeO.bind (wire_Put.mono _ _ k) fun t => LeO.bind (cenotaphref06_Put.mono _ _ k) fun u => cenotaphlaw06_WirePuts.mono0 n s k m _ _ _) (cenotaphlaw06_WirePuts.mono1 n s k _ _ _ _)
theorem cenotaphlaw06_WirePuts.mono (l0 : List Int) (l1 : List ByteArray) : ∀ k, LeO (cenotaphlaw06_WirePuts.f k l0 l1) (cenotaphlaw06_WirePuts.f (k + 1) l0 l1) := fun k => cenotaphlaw06_WirePuts.mono0 l0 l1 k _ _ _ _
set_option maxHeartbeats 8000000 in
set_option maxRecDepth 100000 in
theorem cenotaphlaw06_WirePuts.calls (k : Nat) (A0 : Option Addr) (c0 : Nat) (l0 : List Int) (A1 : Option Addr) (c1 : Nat) (l1 : List ByteArray) (r : Bool) (w : World) (hr0 : Kd.C (Kd.int .i64) w A0 l0.length l0) (hc0 : l0.length ≤ c0) (hr1 : Kd.C Kd.string w A1 l1.length l1) (hc1 : l1.length ≤ c1) (h : cenotaphlaw06_WirePuts.f k l0 l1 = some r) :
    Calls Try.prog 4 #[.slice A0 l0.length c0, .slice A1 l1.length c1] w fun e w' => e = .returned (.bool r) ∧ Below w.heap.size w w' := by
  have HR0 := Aside0.mk hr0
  have HR1 := Aside0.mk hr1
  have HN0 := Aside0.mk hr0.2.1
  have HN1 := Aside0.mk hr1.2.1
  clear hr0 hr1
  have HB := Aside0.mk (Below.refl w.heap.size w)
  have H := Aside0.mk (show cenotaphlaw06_WirePuts.l0 k l0 l1 41 0 [] [] = some r from h)
  clear h
  go_enter Try.func4, Try.ntmps4
  go_upto_block 0 with fail
  go_cut [5, 6] (fun v5 v6 wc => ∃ (A5 A6 : Option Addr) (c5 c6 : Nat) (b v : List Int), v5 = .slice A5 b.length c5 ∧ v6 = .slice A6 v.length c6 ∧ Aside0 (b.length ≤ c5 ∧ Kd.C (Kd.int .u8) wc A5 b.length b) ∧ Aside0 (v.length ≤ c6 ∧ Kd.C (Kd.int .u8) wc A6 v.length v) ∧ Aside0 (cenotaphlaw06_WirePuts.l1 k l0 l1 21 0 b v = some r) ∧ Aside0 (Below w.heap.size w wc))
  case first =>
    go_wp2_with fail
    go_loopg [5, 6, 7] 41 (fun m v5 v6 v7 w' => ∃ (A5 A6 : Option Addr) (c5 c6 : Nat) (b v : List Int) (i : Nat), v5 = .slice A5 b.length c5 ∧ v6 = .slice A6 v.length c6 ∧ v7 = .int .i64 (i : Int) ∧ Aside0 (b.length ≤ c5 ∧ Kd.C (Kd.int .u8) w' A5 b.length b) ∧ Aside0 (v.length ≤ c6 ∧ Kd.C (Kd.int .u8) w' A6 v.length v) ∧ Aside0 (cenotaphlaw06_WirePuts.l0 k l0 l1 m i b v = some r) ∧ Aside0 (Below w.heap.size w w'))
    case atStart => exact ⟨none, none, 0, 0, [], [], 0, rfl, rfl, rfl, ⟨Nat.le_refl _, Kd.C_nil _ _⟩, ⟨Nat.le_refl _, Kd.C_nil _ _⟩, H, HB⟩
    case round =>
      clear H HB
      obtain ⟨A5, A6, c5, c6, b, v, i, rfl, rfl, rfl, HV, HU, HA, HB⟩ := hrel
      cases gk with
      | zero => exact absurd HA.out (by simp [cenotaphlaw06_WirePuts.l0])
      | succ m1 =>
        have H := HA.out
        clear HA
        rw [cenotaphlaw06_WirePuts.l0] at H
        by_cases hc : i < l0.length ∧ i < 40
        · obtain ⟨h1, h2⟩ := hc
          rw [if_pos ⟨h1, h2⟩] at H
          obtain ⟨b', hb', h3⟩ := Option.bind_eq_some_iff.mp H
          obtain ⟨v', hv', h4⟩ := Option.bind_eq_some_iff.mp h3
          have HP := Aside0.mk hb'
          have HQ := Aside0.mk hv'
          have HL := Aside0.mk h4
          clear H hb' h3 hv' h4
          have e1 : decide ((i : Int) < (l0.length : Int)) = true := decide_eq_true (by omega)
          have e2 : decide ((i : Int) < 40) = true := decide_eq_true (by omega)
          obtain ⟨ad, ea, hx⟩ := Kd.at_int HR0.out (i : Int) (by omega) (by omega)
          cases ea
          rw [Int.toNat_natCast] at hx
          replace hx := (HB.out.cell (World.block_lt_of_cell? w _ hx)).trans hx
          have p1 := eq_true (show (0 : Int) ≤ (i : Int) by omega)
          have p2 := eq_true (show (i : Int) < (l0.length : Int) by omega)
          go_upto_region 5 with fail
          refine start_ (n := 14) (S := fun w' => w'.cell? (ad.add i) = some (.int .i64 (rd l0 (i : Int))) ∧ True) (ds := []) #[false, false, false, false, false, false, false, false, false, false, false, false, false, false] (by kernel_rfl) rfl rfl ⟨hx, trivial⟩ (fun hHeld => ?_)
          refine pure_ (i := 0) (N := some 22) (v := ?_) (a' := ?_) #[true, false, false, false, false, false, false, false, false, false, false, false, false, false] rfl rfl (by kernel_rfl) (fun _ _ _ h => h) (Or.inl ⟨by rfl, ?_⟩) ?_ ?_
          rotate_left
          · intro w'
            go_simp
            with_reducible rfl
          rotate_left
          · simp only [Act.put, List.setIfInBounds_toArray, List.set_cons_zero, List.set_cons_succ, i64_w, i32_w]
            rfl
          refine pure_ (i := 1) (N := some 23) (v := ?_) (a' := ?_) #[true, true, false, false, false, false, false, false, false, false, false, false, false, false] rfl rfl (by kernel_rfl) (fun _ _ _ h => h) (Or.inl ⟨by rfl, ?_⟩) ?_ ?_
          rotate_left
          · intro w'
            go_simp
            with_reducible rfl
          rotate_left
          · simp only [Act.put, List.setIfInBounds_toArray, List.set_cons_zero, List.set_cons_succ, i64_w, i32_w]
            rfl
          refine pure_ (i := 2) (N := some 24) (v := ?_) (a' := ?_) #[true, true, true, false, false, false, false, false, false, false, false, false, false, false] rfl rfl (by kernel_rfl) (fun _ _ _ h => h) (Or.inl ⟨by rfl, ?_⟩) ?_ ?_
          rotate_left
          · intro w'
            go_simp
            with_reducible rfl
          rotate_left
          · simp only [Act.put, List.setIfInBounds_toArray, List.set_cons_zero, List.set_cons_succ, i64_w, i32_w]
            rfl
          refine pure_ (i := 3) (N := some 25) (v := ?_) (a' := ?_) #[true, true, true, true, false, false, false, false, false, false, false, false, false, false] rfl rfl (by kernel_rfl) (fun _ _ _ h => h) (Or.inl ⟨by rfl, ?_⟩) ?_ ?_
          rotate_left
          · intro w'
            go_simp
            with_reducible rfl
          rotate_left
          · simp only [Act.put, List.setIfInBounds_toArray, List.set_cons_zero, List.set_cons_succ, i64_w, i32_w]
            rfl
          refine take_ (i := 4) (N := some 26) (v := ?_) (a' := ?_) #[true, true, true, true, true, false, false, false, false, false, false, false, false, false] rfl rfl (by kernel_rfl) (fun _ _ _ h => h) (Or.inl ⟨by rfl, ?_⟩) hHeld ?_ ?_
          rotate_left
          · rintro w' ⟨s0, s1⟩
            go_simp
            with_reducible rfl
          rotate_left
          · simp only [Act.put, List.setIfInBounds_toArray, List.set_cons_zero, List.set_cons_succ, i64_w, i32_w]
            rfl
          refine pure_ (i := 6) (N := some 28) (v := ?_) (a' := ?_) #[true, true, true, true, true, false, true, false, false, false, false, false, false, false] rfl rfl (by kernel_rfl) (fun _ _ _ h => h) (Or.inl ⟨by rfl, ?_⟩) ?_ ?_
          rotate_left
          · intro w'
            go_simp
            with_reducible rfl
          rotate_left
          · simp only [Act.put, List.setIfInBounds_toArray, List.set_cons_zero, List.set_cons_succ, i64_w, i32_w]
            rfl
          refine pure_ (i := 7) (N := some 29) (v := ?_) (a' := ?_) #[true, true, true, true, true, false, true, true, false, false, false, false, false, false] rfl rfl (by kernel_rfl) (fun _ _ _ h => h) (Or.inl ⟨by rfl, ?_⟩) ?_ ?_
          rotate_left
          · intro w'
            go_simp
            with_reducible rfl
          rotate_left
          · simp only [Act.put, List.setIfInBounds_toArray, List.set_cons_zero, List.set_cons_succ, i64_w, i32_w]
            rfl
          refine pure_ (i := 8) (N := some 30) (v := ?_) (a' := ?_) #[true, true, true, true, true, false, true, true, true, false, false, false, false, false] rfl rfl (by kernel_rfl) (fun _ _ _ h => h) (Or.inl ⟨by rfl, ?_⟩) ?_ ?_
          rotate_left
          · intro w'
            go_simp
            with_reducible rfl
          rotate_left
          · simp only [Act.put, List.setIfInBounds_toArray, List.set_cons_zero, List.set_cons_succ, i64_w, i32_w]
            rfl
          refine pure_ (i := 9) (N := some 31) (v := ?_) (a' := ?_) #[true, true, true, true, true, false, true, true, true, true, false, false, false, false] rfl rfl (by kernel_rfl) (fun _ _ _ h => h) (Or.inl ⟨by rfl, ?_⟩) ?_ ?_
          rotate_left
          · intro w'
            go_simp
            with_reducible rfl
          rotate_left
          · simp only [Act.put, List.setIfInBounds_toArray, List.set_cons_zero, List.set_cons_succ, i64_w, i32_w]
            rfl
          refine take_ (i := 10) (N := some 32) (v := ?_) (a' := ?_) #[true, true, true, true, true, false, true, true, true, true, true, false, false, false] rfl rfl (by kernel_rfl) (fun _ _ _ h => h) (Or.inl ⟨by rfl, ?_⟩) hHeld ?_ ?_
          rotate_left
          · rintro w' ⟨s0, s1⟩
            go_simp
            with_reducible rfl
          rotate_left
          · simp only [Act.put, List.setIfInBounds_toArray, List.set_cons_zero, List.set_cons_succ, i64_w, i32_w]
            rfl
          refine one_ (i := 5) (N := some 27) #[true, true, true, true, true, true, true, true, true, true, true, false, false, false] rfl rfl (by kernel_rfl) (by decide) (fun K hK => ?_)
          refine goes_ Try.func19 (by kernel_rfl) rfl #[.slice A5 b.length c5, .int .i64 (rd l0 (i : Int))] (by rfl) rfl rfl (by (try simp only [List.map_toArray, List.map_cons, List.map_nil]); first | done | rfl) ?_
          refine (wire_Put.calls k A5 c5 b (rd l0 (i : Int)) b' wr.drew (Kd.C_drew HV.out.2) HV.out.1 HP.out).mono ?_
          rintro e w1 ⟨u, rfl, ho, hb⟩
          obtain ⟨Ab, cb, rfl, hlb, hCb⟩ := Kd.R_reads ho
          refine ⟨_, rfl, ?_⟩
          have hx1 := (hb.cell (World.block_lt_of_cell? wr.drew _ hx)).trans hx
          replace HU := Aside0.mk (And.intro HU.out.1 (Kd.C_below (Kd.C_drew HU.out.2) hb))
          replace HV := Aside0.mk (And.intro hlb hCb)
          replace HB := Aside0.mk (below_step (below_drew1 HB.out) hb)
          clear ho hlb hCb hb hx
          refine hK.out _ _ ⟨hx1, trivial⟩ (fun hHeld => ?_)
          clear hK K
          refine norm_ (a' := ?_) ?_ ?_
          rotate_left
          · show Act.put _ (some 27) _ = _
            simp only [Act.put, List.setIfInBounds_toArray, List.set_cons_zero, List.set_cons_succ, i64_w, i32_w]
            rfl
          refine one_ (i := 11) (N := some 33) #[true, true, true, true, true, true, true, true, true, true, true, true, false, false] rfl rfl (by kernel_rfl) (by decide) (fun K hK => ?_)
          refine goes_ Try.func20 (by kernel_rfl) rfl #[.slice A6 v.length c6, .int .i64 (rd l0 (i : Int))] (by rfl) rfl rfl (by (try simp only [List.map_toArray, List.map_cons, List.map_nil]); first | done | rfl) ?_
          refine (cenotaphref06_Put.calls k A6 c6 v (rd l0 (i : Int)) v' w1 HU.out.2 HU.out.1 HQ.out).mono ?_
          rintro e w2 ⟨u, rfl, ho, hb⟩
          obtain ⟨Av, cv, rfl, hlv, hCv⟩ := Kd.R_reads ho
          refine ⟨_, rfl, ?_⟩
          have hx2 := (hb.cell (World.block_lt_of_cell? w1 _ hx1)).trans hx1
          replace HV := Aside0.mk (And.intro HV.out.1 (Kd.C_below HV.out.2 hb))
          replace HU := Aside0.mk (And.intro hlv hCv)
          replace HB := Aside0.mk (below_step HB.out hb)
          clear ho hlv hCv hb hx1
          refine hK.out _ _ ⟨hx2, trivial⟩ (fun hHeld => ?_)
          clear hK K
          refine norm_ (a' := ?_) ?_ ?_
          rotate_left
          · show Act.put _ (some 33) _ = _
            simp only [Act.put, List.setIfInBounds_toArray, List.set_cons_zero, List.set_cons_succ, i64_w, i32_w]
            rfl
          refine pure_ (i := 12) (N := some 5) (v := ?_) (a' := ?_) #[true, true, true, true, true, true, true, true, true, true, true, true, true, false] rfl rfl (by kernel_rfl) (fun _ _ _ h => h) (Or.inl ⟨by rfl, ?_⟩) ?_ ?_
          rotate_left
          · intro w'
            go_simp
            with_reducible rfl
          rotate_left
          · simp only [Act.put, List.setIfInBounds_toArray, List.set_cons_zero, List.set_cons_succ, i64_w, i32_w]
            rfl
          refine pure_ (i := 13) (N := some 6) (v := ?_) (a' := ?_) #[true, true, true, true, true, true, true, true, true, true, true, true, true, true] rfl rfl (by kernel_rfl) (fun _ _ _ h => h) (Or.inl ⟨by rfl, ?_⟩) ?_ ?_
          rotate_left
          · intro w'
            go_simp
            with_reducible rfl
          rotate_left
          · simp only [Act.put, List.setIfInBounds_toArray, List.set_cons_zero, List.set_cons_succ, i64_w, i32_w]
            rfl
          refine done_ (by kernel_rfl) ?_
          have hw : wrap64 ((i : Int) + 1) = ((i + 1 : Nat) : Int) := by rw [Go.Proofs.Ytgkcdmhndplejaa.Pure.wrap_id (by omega) (by omega)]; omega
          go_wp2_with fail
          go_roundg m1
          case measure => omega
          case rel => exact ⟨_, _, _, _, b', v', i + 1, rfl, rfl, by simp, HV, HU, HL, HB⟩
        · rw [if_neg hc] at H
          have HL := Aside0.mk H
          clear H
          by_cases h1 : i < l0.length
          · have e1 : decide ((i : Int) < (l0.length : Int)) = true := decide_eq_true (by omega)
            have e2 : decide ((i : Int) < 40) = false := decide_eq_false (by omega)
            go_wp2_with fail
            go_meet
            case rel => exact ⟨_, _, _, _, b, v, rfl, rfl, HV, HU, HL, HB⟩
          · have e1 : decide ((i : Int) < (l0.length : Int)) = false := decide_eq_false (by omega)
            go_wp2_with fail
            go_meet
            case rel => exact ⟨_, _, _, _, b, v, rfl, rfl, HV, HU, HL, HB⟩
  case rest =>
    clear H HB
    obtain ⟨A5, A6, c5, c6, b, v, rfl, rfl, HV, HU, H, HB⟩ := hcut
    go_upto_block 2 with fail
    go_cut [5, 6] (fun v5 v6 wc => ∃ (A5 A6 : Option Addr) (c5 c6 : Nat) (b v : List Int), v5 = .slice A5 b.length c5 ∧ v6 = .slice A6 v.length c6 ∧ Aside0 (b.length ≤ c5 ∧ Kd.C (Kd.int .u8) wc A5 b.length b) ∧ Aside0 (v.length ≤ c6 ∧ Kd.C (Kd.int .u8) wc A6 v.length v) ∧ Aside0 ((if (strOfNums b).toList = (strOfNums v).toList then (if b.length < 8796093022208 then cenotaphlaw06_WirePuts.l2 k l0 l1 b 41 0 0 0 else none) else some false) = some r) ∧ Aside0 (Below w.heap.size w wc))
    case first =>
      go_wp2_with fail
      go_loopg [5, 6, 8] 21 (fun m v5 v6 v8 w' => ∃ (A5 A6 : Option Addr) (c5 c6 : Nat) (b v : List Int) (i : Nat), v5 = .slice A5 b.length c5 ∧ v6 = .slice A6 v.length c6 ∧ v8 = .int .i64 (i : Int) ∧ Aside0 (b.length ≤ c5 ∧ Kd.C (Kd.int .u8) w' A5 b.length b) ∧ Aside0 (v.length ≤ c6 ∧ Kd.C (Kd.int .u8) w' A6 v.length v) ∧ Aside0 (cenotaphlaw06_WirePuts.l1 k l0 l1 m i b v = some r) ∧ Aside0 (Below w.heap.size w w'))
      case atStart => exact ⟨A5, A6, c5, c6, b, v, 0, rfl, rfl, rfl, HV, HU, H, HB⟩
      case round =>
        clear H HB HV HU
        clear b v A5 A6 c5 c6
        obtain ⟨A5, A6, c5, c6, b, v, i, rfl, rfl, rfl, HV, HU, HA, HB⟩ := hrel
        cases gk with
        | zero => exact absurd HA.out (by simp [cenotaphlaw06_WirePuts.l1])
        | succ m1 =>
          have H := HA.out
          clear HA
          rw [cenotaphlaw06_WirePuts.l1] at H
          by_cases hc : i < l1.length ∧ i < 20
          · obtain ⟨h1, h2⟩ := hc
            rw [if_pos ⟨h1, h2⟩] at H
            have e1 : decide ((i : Int) < (l1.length : Int)) = true := decide_eq_true (by omega)
            have e2 : decide ((i : Int) < 20) = true := decide_eq_true (by omega)
            obtain ⟨ad, ea, hx⟩ := Kd.at_string HR1.out (i : Int) (by omega) (by omega)
            cases ea
            rw [Int.toNat_natCast] at hx
            replace hx := (HB.out.cell (World.block_lt_of_cell? w _ hx)).trans hx
            have p1 := eq_true (show (0 : Int) ≤ (i : Int) by omega)
            have p2 := eq_true (show (i : Int) < (l1.length : Int) by omega)
            generalize rdOf ByteArray.empty l1 (i : Int) = x at H hx
            by_cases hs : 300 < (x.size : Int)
            · rw [if_pos hs] at H
              obtain rfl := Option.some.inj H
              clear H
              have e3 : decide (300 < (x.size : Int)) = true := decide_eq_true hs
              have e4 := eq_true hs
              go_wp2_with fail
              refine (cenotaphlaw06_told.calls true wr rfl).mono ?_
              rintro e w1 ⟨rfl, hb⟩
              replace HB := Aside0.mk (below_step HB.out hb)
              clear hb
              go_wp2_with fail
              go_ret
              exact ⟨rfl, HB.out⟩
            rw [if_neg hs] at H
            have e3 : decide (300 < (x.size : Int)) = false := decide_eq_false hs
            have e4 := eq_false hs
            obtain ⟨b', hb', h3⟩ := Option.bind_eq_some_iff.mp H
            obtain ⟨v', hv', h4⟩ := Option.bind_eq_some_iff.mp h3
            have HP := Aside0.mk hb'
            have HQ := Aside0.mk hv'
            have HL := Aside0.mk h4
            clear H hb' h3 hv' h4
            go_upto_region 11 with fail
            refine start_ (n := 14) (S := fun w' => w'.cell? (ad.add i) = some (.string x) ∧ True) (ds := []) #[false, false, false, false, false, false, false, false, false, false, false, false, false, false] (by kernel_rfl) rfl rfl ⟨hx, trivial⟩ (fun hHeld => ?_)
            refine pure_ (i := 0) (N := some 51) (v := ?_) (a' := ?_) #[true, false, false, false, false, false, false, false, false, false, false, false, false, false] rfl rfl (by kernel_rfl) (fun _ _ _ h => h) (Or.inl ⟨by rfl, ?_⟩) ?_ ?_
            rotate_left
            · intro w'
              go_simp
              with_reducible rfl
            rotate_left
            · simp only [Act.put, List.setIfInBounds_toArray, List.set_cons_zero, List.set_cons_succ, i64_w, i32_w]
              rfl
            refine pure_ (i := 1) (N := some 52) (v := ?_) (a' := ?_) #[true, true, false, false, false, false, false, false, false, false, false, false, false, false] rfl rfl (by kernel_rfl) (fun _ _ _ h => h) (Or.inl ⟨by rfl, ?_⟩) ?_ ?_
            rotate_left
            · intro w'
              go_simp
              with_reducible rfl
            rotate_left
            · simp only [Act.put, List.setIfInBounds_toArray, List.set_cons_zero, List.set_cons_succ, i64_w, i32_w]
              rfl
            refine pure_ (i := 2) (N := some 53) (v := ?_) (a' := ?_) #[true, true, true, false, false, false, false, false, false, false, false, false, false, false] rfl rfl (by kernel_rfl) (fun _ _ _ h => h) (Or.inl ⟨by rfl, ?_⟩) ?_ ?_
            rotate_left
            · intro w'
              go_simp
              with_reducible rfl
            rotate_left
            · simp only [Act.put, List.setIfInBounds_toArray, List.set_cons_zero, List.set_cons_succ, i64_w, i32_w]
              rfl
            refine pure_ (i := 3) (N := some 54) (v := ?_) (a' := ?_) #[true, true, true, true, false, false, false, false, false, false, false, false, false, false] rfl rfl (by kernel_rfl) (fun _ _ _ h => h) (Or.inl ⟨by rfl, ?_⟩) ?_ ?_
            rotate_left
            · intro w'
              go_simp
              with_reducible rfl
            rotate_left
            · simp only [Act.put, List.setIfInBounds_toArray, List.set_cons_zero, List.set_cons_succ, i64_w, i32_w]
              rfl
            refine take_ (i := 4) (N := some 55) (v := ?_) (a' := ?_) #[true, true, true, true, true, false, false, false, false, false, false, false, false, false] rfl rfl (by kernel_rfl) (fun _ _ _ h => h) (Or.inl ⟨by rfl, ?_⟩) hHeld ?_ ?_
            rotate_left
            · rintro w' ⟨s0, s1⟩
              go_simp
              with_reducible rfl
            rotate_left
            · simp only [Act.put, List.setIfInBounds_toArray, List.set_cons_zero, List.set_cons_succ, i64_w, i32_w]
              rfl
            refine pure_ (i := 6) (N := some 57) (v := ?_) (a' := ?_) #[true, true, true, true, true, false, true, false, false, false, false, false, false, false] rfl rfl (by kernel_rfl) (fun _ _ _ h => h) (Or.inl ⟨by rfl, ?_⟩) ?_ ?_
            rotate_left
            · intro w'
              go_simp
              with_reducible rfl
            rotate_left
            · simp only [Act.put, List.setIfInBounds_toArray, List.set_cons_zero, List.set_cons_succ, i64_w, i32_w]
              rfl
            refine pure_ (i := 7) (N := some 58) (v := ?_) (a' := ?_) #[true, true, true, true, true, false, true, true, false, false, false, false, false, false] rfl rfl (by kernel_rfl) (fun _ _ _ h => h) (Or.inl ⟨by rfl, ?_⟩) ?_ ?_
            rotate_left
            · intro w'
              go_simp
              with_reducible rfl
            rotate_left
            · simp only [Act.put, List.setIfInBounds_toArray, List.set_cons_zero, List.set_cons_succ, i64_w, i32_w]
              rfl
            refine pure_ (i := 8) (N := some 59) (v := ?_) (a' := ?_) #[true, true, true, true, true, false, true, true, true, false, false, false, false, false] rfl rfl (by kernel_rfl) (fun _ _ _ h => h) (Or.inl ⟨by rfl, ?_⟩) ?_ ?_
            rotate_left
            · intro w'
              go_simp
              with_reducible rfl
            rotate_left
            · simp only [Act.put, List.setIfInBounds_toArray, List.set_cons_zero, List.set_cons_succ, i64_w, i32_w]
              rfl
            refine pure_ (i := 9) (N := some 60) (v := ?_) (a' := ?_) #[true, true, true, true, true, false, true, true, true, true, false, false, false, false] rfl rfl (by kernel_rfl) (fun _ _ _ h => h) (Or.inl ⟨by rfl, ?_⟩) ?_ ?_
            rotate_left
            · intro w'
              go_simp
              with_reducible rfl
            rotate_left
            · simp only [Act.put, List.setIfInBounds_toArray, List.set_cons_zero, List.set_cons_succ, i64_w, i32_w]
              rfl
            refine take_ (i := 10) (N := some 61) (v := ?_) (a' := ?_) #[true, true, true, true, true, false, true, true, true, true, true, false, false, false] rfl rfl (by kernel_rfl) (fun _ _ _ h => h) (Or.inl ⟨by rfl, ?_⟩) hHeld ?_ ?_
            rotate_left
            · rintro w' ⟨s0, s1⟩
              go_simp
              with_reducible rfl
            rotate_left
            · simp only [Act.put, List.setIfInBounds_toArray, List.set_cons_zero, List.set_cons_succ, i64_w, i32_w]
              rfl
            refine one_ (i := 5) (N := some 56) #[true, true, true, true, true, true, true, true, true, true, true, false, false, false] rfl rfl (by kernel_rfl) (by decide) (fun K hK => ?_)
            refine goes_ Try.func21 (by kernel_rfl) rfl #[.slice A5 b.length c5, .string x] (by rfl) rfl rfl (by (try simp only [List.map_toArray, List.map_cons, List.map_nil]); first | done | rfl) ?_
            refine (wire_PutText.calls k A5 c5 b x b' wr.drew (Kd.C_drew HV.out.2) HV.out.1 HP.out).mono ?_
            rintro e w1 ⟨u, rfl, ho, hb⟩
            obtain ⟨Ab, cb, rfl, hlb, hCb⟩ := Kd.R_reads ho
            refine ⟨_, rfl, ?_⟩
            have hx1 := (hb.cell (World.block_lt_of_cell? wr.drew _ hx)).trans hx
            replace HU := Aside0.mk (And.intro HU.out.1 (Kd.C_below (Kd.C_drew HU.out.2) hb))
            replace HV := Aside0.mk (And.intro hlb hCb)
            replace HB := Aside0.mk (below_step (below_drew1 HB.out) hb)
            clear ho hlb hCb hb hx
            refine hK.out _ _ ⟨hx1, trivial⟩ (fun hHeld => ?_)
            clear hK K
            refine norm_ (a' := ?_) ?_ ?_
            rotate_left
            · show Act.put _ (some 56) _ = _
              simp only [Act.put, List.setIfInBounds_toArray, List.set_cons_zero, List.set_cons_succ, i64_w, i32_w]
              rfl
            refine one_ (i := 11) (N := some 62) #[true, true, true, true, true, true, true, true, true, true, true, true, false, false] rfl rfl (by kernel_rfl) (by decide) (fun K hK => ?_)
            refine goes_ Try.func22 (by kernel_rfl) rfl #[.slice A6 v.length c6, .string x] (by rfl) rfl rfl (by (try simp only [List.map_toArray, List.map_cons, List.map_nil]); first | done | rfl) ?_
            refine (cenotaphref06_PutText.calls k A6 c6 v x v' w1 HU.out.2 HU.out.1 HQ.out).mono ?_
            rintro e w2 ⟨u, rfl, ho, hb⟩
            obtain ⟨Av, cv, rfl, hlv, hCv⟩ := Kd.R_reads ho
            refine ⟨_, rfl, ?_⟩
            have hx2 := (hb.cell (World.block_lt_of_cell? w1 _ hx1)).trans hx1
            replace HV := Aside0.mk (And.intro HV.out.1 (Kd.C_below HV.out.2 hb))
            replace HU := Aside0.mk (And.intro hlv hCv)
            replace HB := Aside0.mk (below_step HB.out hb)
            clear ho hlv hCv hb hx1
            refine hK.out _ _ ⟨hx2, trivial⟩ (fun hHeld => ?_)
            clear hK K
            refine norm_ (a' := ?_) ?_ ?_
            rotate_left
            · show Act.put _ (some 62) _ = _
              simp only [Act.put, List.setIfInBounds_toArray, List.set_cons_zero, List.set_cons_succ, i64_w, i32_w]
              rfl
            refine pure_ (i := 12) (N := some 5) (v := ?_) (a' := ?_) #[true, true, true, true, true, true, true, true, true, true, true, true, true, false] rfl rfl (by kernel_rfl) (fun _ _ _ h => h) (Or.inl ⟨by rfl, ?_⟩) ?_ ?_
            rotate_left
            · intro w'
              go_simp
              with_reducible rfl
            rotate_left
            · simp only [Act.put, List.setIfInBounds_toArray, List.set_cons_zero, List.set_cons_succ, i64_w, i32_w]
              rfl
            refine pure_ (i := 13) (N := some 6) (v := ?_) (a' := ?_) #[true, true, true, true, true, true, true, true, true, true, true, true, true, true] rfl rfl (by kernel_rfl) (fun _ _ _ h => h) (Or.inl ⟨by rfl, ?_⟩) ?_ ?_
            rotate_left
            · intro w'
              go_simp
              with_reducible rfl
            rotate_left
            · simp only [Act.put, List.setIfInBounds_toArray, List.set_cons_zero, List.set_cons_succ, i64_w, i32_w]
              rfl
            refine done_ (by kernel_rfl) ?_
            have hw : wrap64 ((i : Int) + 1) = ((i + 1 : Nat) : Int) := by rw [Go.Proofs.Ytgkcdmhndplejaa.Pure.wrap_id (by omega) (by omega)]; omega
            go_wp2_with fail
            go_roundg m1
            case measure => omega
            case rel => exact ⟨_, _, _, _, b', v', i + 1, rfl, rfl, by simp, HV, HU, HL, HB⟩
          · rw [if_neg hc] at H
            have HL := Aside0.mk H
            clear H
            by_cases h1 : i < l1.length
            · have e1 : decide ((i : Int) < (l1.length : Int)) = true := decide_eq_true (by omega)
              have e2 : decide ((i : Int) < 20) = false := decide_eq_false (by omega)
              go_wp2_with fail
              go_meet
              case rel => exact ⟨_, _, _, _, b, v, rfl, rfl, HV, HU, HL, HB⟩
            · have e1 : decide ((i : Int) < (l1.length : Int)) = false := decide_eq_false (by omega)
              go_wp2_with fail
              go_meet
              case rel => exact ⟨_, _, _, _, b, v, rfl, rfl, HV, HU, HL, HB⟩
    case rest =>
      clear H HB HV HU
      clear b v A5 A6 c5 c6
      obtain ⟨A5, A6, c5, c6, b, v, rfl, rfl, HV, HU, H, HB⟩ := hcut
      go_wp2_with fail
      refine (cenotaphlaw06_told.calls true wc rfl).mono ?_
      rintro e w1 ⟨rfl, hb⟩
      replace HB := Aside0.mk (below_step HB.out hb)
      replace HV := Aside0.mk (And.intro HV.out.1 (Kd.C_below HV.out.2 hb))
      replace HU := Aside0.mk (And.intro HU.out.1 (Kd.C_below HU.out.2 hb))
      clear hb
      go_wp2_with fail
      refine (cenotaphref06_Same.calls A5 c5 b A6 c6 v _ w1 HV.out.2 HV.out.1 HU.out.2 HU.out.1 rfl).mono ?_
      rintro e w2 ⟨rfl, hb⟩
      replace HB := Aside0.mk (below_step HB.out hb.below)
      replace HV := Aside0.mk (And.intro HV.out.1 (Kd.C_below HV.out.2 hb.below))
      clear hb HU
      by_cases hs : (strOfNums b).toList = (strOfNums v).toList
      rotate_left
      · have hs1 : ((strOfNums b).toList == (strOfNums v).toList) = false := beq_eq_false_iff_ne.mpr hs
        replace H := Aside0.mk ((if_neg hs).symm.trans H.out)
        obtain rfl := Option.some.inj H.out
        clear H
        go_wp2_with fail
        go_ret
        exact ⟨rfl, HB.out⟩
      have hs1 : ((strOfNums b).toList == (strOfNums v).toList) = true := beq_iff_eq.mpr hs
      replace H := Aside0.mk ((if_pos hs).symm.trans H.out)
      clear hs
      by_cases hbl : b.length < 8796093022208
      rotate_left
      · exfalso
        have h4 := (if_neg hbl).symm.trans H.out
        cases h4
      replace H := Aside0.mk ((if_pos hbl).symm.trans H.out)
      go_wp2_with fail
      refine (rd_read A5 c5 b w2 HV.out.2 HV.out.1 hbl).mono ?_
      clear hs1 HV
      rintro e w3 ⟨g, rfl, hi, hge, hb⟩
      have HI := Aside0.mk hi
      have HGE := Aside0.mk (Nat.le_trans HB.out.size hge)
      replace HB := Aside0.mk (below_step HB.out hb)
      clear hi hge hb
      go_upto_block 4 with fail
      go_cut [10] (fun v10 wc => ∃ (a e : Int), RD 51 wc g b a e ∧ Aside0 (cenotaphlaw06_WirePuts.l3 k l1 b 21 0 a e = some r) ∧ Aside0 (Below w.heap.size w wc))
      case first =>
        go_wp2_with fail
        go_loopg [10] 41 (fun m v10 w' => ∃ (a e : Int) (i : Nat), v10 = .int .i64 (i : Int) ∧ RD 51 w' g b a e ∧ Aside0 (cenotaphlaw06_WirePuts.l2 k l0 l1 b m i a e = some r) ∧ Aside0 (Below w.heap.size w w'))
        case atStart => exact ⟨0, 0, 0, rfl, HI.out, H, HB⟩
        case round =>
          clear H HB HI
          obtain ⟨a, e, i, rfl, HI, HA, HB⟩ := hrel
          replace HI := Aside0.mk HI
          cases gk with
          | zero => exact absurd HA.out (by simp [cenotaphlaw06_WirePuts.l2])
          | succ m1 =>
            have H := HA.out
            clear HA
            rw [cenotaphlaw06_WirePuts.l2] at H
            by_cases hc : i < l0.length ∧ i < 40
            · obtain ⟨h1, h2⟩ := hc
              rw [if_pos ⟨h1, h2⟩] at H
              have e1 : decide ((i : Int) < (l0.length : Int)) = true := decide_eq_true (by omega)
              have e2 : decide ((i : Int) < 40) = true := decide_eq_true (by omega)
              obtain ⟨ad, ea, hx⟩ := Kd.at_int HR0.out (i : Int) (by omega) (by omega)
              cases ea
              rw [Int.toNat_natCast] at hx
              have p1 := eq_true (show (0 : Int) ≤ (i : Int) by omega)
              have p2 := eq_true (show (i : Int) < (l0.length : Int) by omega)
              generalize rd l0 (i : Int) = x at H hx
              obtain ⟨mxx, hmx⟩ : ∃ y, (if x < 0 then 0 else x) = y := ⟨_, rfl⟩
              rw [mx, hmx] at H
              obtain ⟨⟨n1, a1, e1'⟩, hnum, h3⟩ := Option.bind_eq_some_iff.mp H
              dsimp only at h3
              have HP := Aside0.mk hnum
              have HL := Aside0.mk h3
              clear H hnum h3
              have HX := Aside0.mk hx
              clear hx
              have hx1 := (HB.out.cell (World.block_lt_of_cell? w _ HX.out)).trans HX.out
              go_upto_region 18 with fail
              refine start_ (n := 8) (S := fun w' => w'.cell? (ad.add i) = some (.int .i64 x) ∧ True) (ds := []) #[false, false, false, false, false, false, false, false] (by kernel_rfl) rfl rfl ⟨hx1, trivial⟩ (fun hHeld => ?_)
              refine pure_ (i := 0) (N := some 83) (v := ?_) (a' := ?_) #[true, false, false, false, false, false, false, false] rfl rfl (by kernel_rfl) (fun _ _ _ h => h) (Or.inl ⟨by rfl, ?_⟩) ?_ ?_
              rotate_left
              · intro w'
                go_simp
                with_reducible rfl
              rotate_left
              · simp only [Act.put, List.setIfInBounds_toArray, List.set_cons_zero, List.set_cons_succ, i64_w, i32_w]
                rfl
              refine pure_ (i := 2) (N := some 85) (v := ?_) (a' := ?_) #[true, false, true, false, false, false, false, false] rfl rfl (by kernel_rfl) (fun _ _ _ h => h) (Or.inl ⟨by rfl, ?_⟩) ?_ ?_
              rotate_left
              · intro w'
                go_simp
                with_reducible rfl
              rotate_left
              · simp only [Act.put, List.setIfInBounds_toArray, List.set_cons_zero, List.set_cons_succ, i64_w, i32_w]
                rfl
              refine pure_ (i := 3) (N := some 86) (v := ?_) (a' := ?_) #[true, false, true, true, false, false, false, false] rfl rfl (by kernel_rfl) (fun _ _ _ h => h) (Or.inl ⟨by rfl, ?_⟩) ?_ ?_
              rotate_left
              · intro w'
                go_simp
                with_reducible rfl
              rotate_left
              · simp only [Act.put, List.setIfInBounds_toArray, List.set_cons_zero, List.set_cons_succ, i64_w, i32_w]
                rfl
              refine pure_ (i := 4) (N := some 87) (v := ?_) (a' := ?_) #[true, false, true, true, true, false, false, false] rfl rfl (by kernel_rfl) (fun _ _ _ h => h) (Or.inl ⟨by rfl, ?_⟩) ?_ ?_
              rotate_left
              · intro w'
                go_simp
                with_reducible rfl
              rotate_left
              · simp only [Act.put, List.setIfInBounds_toArray, List.set_cons_zero, List.set_cons_succ, i64_w, i32_w]
                rfl
              refine take_ (i := 5) (N := some 88) (v := ?_) (a' := ?_) #[true, false, true, true, true, true, false, false] rfl rfl (by kernel_rfl) (fun _ _ _ h => h) (Or.inl ⟨by rfl, ?_⟩) hHeld ?_ ?_
              rotate_left
              · rintro w' ⟨s0, s1⟩
                go_simp
                with_reducible rfl
              rotate_left
              · simp only [Act.put, List.setIfInBounds_toArray, List.set_cons_zero, List.set_cons_succ, i64_w, i32_w]
                rfl
              refine pure_ (i := 6) (N := some 89) (v := ?_) (a' := ?_) #[true, false, true, true, true, true, true, false] rfl rfl (by kernel_rfl) (fun _ _ _ h => h) (Or.inl ⟨by rfl, ?_⟩) ?_ ?_
              rotate_left
              · intro w'
                go_simp
                with_reducible rfl
              rotate_left
              · simp only [Act.put, List.setIfInBounds_toArray, List.set_cons_zero, List.set_cons_succ, i64_w, i32_w]
                rfl
              refine one_ (i := 1) (N := some 84) #[true, true, true, true, true, true, true, false] rfl rfl (by kernel_rfl) (by decide) (fun K hK => ?_)
              refine goes_ Try.func13 (by kernel_rfl) rfl #[.pointer (some ⟨g, 0, none⟩), .int .i64 9223372036854775807] (by rfl) rfl rfl (by (try simp only [List.map_toArray, List.map_cons, List.map_nil]); first | done | rfl) ?_
              refine (rd_num k g b a e _ n1 a1 e1' wr.drew (HI.out.below (below_drew1 (Below.refl _ _))) HP.out).mono ?_
              rintro e' w4 ⟨rfl, hi, hb, hk⟩
              refine ⟨_, rfl, ?_⟩
              replace HB := Aside0.mk (hb w HGE.out (below_drew1 HB.out))
              replace HI := Aside0.mk hi
              clear hi hb hk hx1 HP
              have hx2 := (HB.out.cell (World.block_lt_of_cell? w _ HX.out)).trans HX.out
              refine hK.out _ _ ⟨hx2, trivial⟩ (fun hHeld => ?_)
              clear hK K
              refine norm_ (a' := ?_) ?_ ?_
              rotate_left
              · show Act.put _ (some 84) _ = _
                simp only [Act.put, List.setIfInBounds_toArray, List.set_cons_zero, List.set_cons_succ, i64_w, i32_w]
                rfl
              refine pure_ (i := 7) (N := some 90) (v := ?_) (a' := ?_) #[true, true, true, true, true, true, true, true] rfl rfl (by kernel_rfl) (fun _ _ _ h => h) (Or.inl ⟨by rfl, ?_⟩) ?_ ?_
              rotate_left
              · intro w'
                go_simp
                with_reducible rfl
              rotate_left
              · simp only [Act.put, List.setIfInBounds_toArray, List.set_cons_zero, List.set_cons_succ, i64_w, i32_w]
                rfl
              refine done_ (by kernel_rfl) ?_
              have hw : wrap64 ((i : Int) + 1) = ((i + 1 : Nat) : Int) := by rw [Go.Proofs.Ytgkcdmhndplejaa.Pure.wrap_id (by omega) (by omega)]; omega
              clear hx2
              by_cases hn : n1 = mxx
              · have hn1 : (n1 != mxx) = false := bne_eq_false_iff_eq.mpr hn
                replace HL := Aside0.mk ((if_pos hn).symm.trans HL.out)
                clear hn
                go_wp2_with fail
                go_roundg m1
                case measure => omega
                case rel => exact ⟨a1, e1', i + 1, by simp, HI.out, HL, HB⟩
              · have hn1 : (n1 != mxx) = true := bne_iff_ne.mpr hn
                replace HL := Aside0.mk ((if_neg hn).symm.trans HL.out)
                obtain rfl := Option.some.inj HL.out
                clear HL hn
                go_wp2_with fail
                go_ret
                exact ⟨rfl, HB.out⟩
            · rw [if_neg hc] at H
              have HL := Aside0.mk H
              clear H
              by_cases h1 : i < l0.length
              · have e1 : decide ((i : Int) < (l0.length : Int)) = true := decide_eq_true (by omega)
                have e2 : decide ((i : Int) < 40) = false := decide_eq_false (by omega)
                go_wp2_with fail
                go_meet
                case rel => exact ⟨a, e, HI.out, HL, HB⟩
              · have e1 : decide ((i : Int) < (l0.length : Int)) = false := decide_eq_false (by omega)
                go_wp2_with fail
                go_meet
                case rel => exact ⟨a, e, HI.out, HL, HB⟩
      case rest =>
        clear H HB HI
        obtain ⟨a, e, HI, H, HB⟩ := hcut
        replace HI := Aside0.mk HI
        go_upto_block 6 with fail
        go_cut [11] (fun v11 wc => ∃ (a e : Int), RD 51 wc g b a e ∧ Aside0 (some ((if e = 0 ∧ a < (b.length : Int) then (3 : Int) else e) == 0) = some r) ∧ Aside0 (Below w.heap.size w wc))
        case first =>
          go_wp2_with fail
          go_loopg [11] 21 (fun m v11 w' => ∃ (a e : Int) (i : Nat), v11 = .int .i64 (i : Int) ∧ RD 51 w' g b a e ∧ Aside0 (cenotaphlaw06_WirePuts.l3 k l1 b m i a e = some r) ∧ Aside0 (Below w.heap.size w w'))
          case atStart => exact ⟨a, e, 0, rfl, HI.out, H, HB⟩
          case round =>
            clear H HB HI
            clear a e
            obtain ⟨a, e, i, rfl, HI, HA, HB⟩ := hrel
            replace HI := Aside0.mk HI
            cases gk with
            | zero => exact absurd HA.out (by simp [cenotaphlaw06_WirePuts.l3])
            | succ m1 =>
              have H := HA.out
              clear HA
              rw [cenotaphlaw06_WirePuts.l3] at H
              by_cases hc : i < l1.length ∧ i < 20
              · obtain ⟨h1, h2⟩ := hc
                rw [if_pos ⟨h1, h2⟩] at H
                have e1 : decide ((i : Int) < (l1.length : Int)) = true := decide_eq_true (by omega)
                have e2 : decide ((i : Int) < 20) = true := decide_eq_true (by omega)
                obtain ⟨ad, ea, hx⟩ := Kd.at_string HR1.out (i : Int) (by omega) (by omega)
                cases ea
                rw [Int.toNat_natCast] at hx
                have p1 := eq_true (show (0 : Int) ≤ (i : Int) by omega)
                have p2 := eq_true (show (i : Int) < (l1.length : Int) by omega)
                generalize rdOf ByteArray.empty l1 (i : Int) = x at H hx
                obtain ⟨⟨n1, a1, e1'⟩, hnum, h3⟩ := Option.bind_eq_some_iff.mp H
                dsimp only at h3
                have HP := Aside0.mk hnum
                have HL := Aside0.mk h3
                clear H hnum h3
                have HX := Aside0.mk hx
                clear hx
                have hx1 := (HB.out.cell (World.block_lt_of_cell? w _ HX.out)).trans HX.out
                go_upto_region 23 with fail
                refine start_ (n := 7) (S := fun w' => w'.cell? (ad.add i) = some (.string x) ∧ True) (ds := []) #[false, false, false, false, false, false, false] (by kernel_rfl) rfl rfl ⟨hx1, trivial⟩ (fun hHeld => ?_)
                refine pure_ (i := 0) (N := some 101) (v := ?_) (a' := ?_) #[true, false, false, false, false, false, false] rfl rfl (by kernel_rfl) (fun _ _ _ h => h) (Or.inl ⟨by rfl, ?_⟩) ?_ ?_
                rotate_left
                · intro w'
                  go_simp
                  with_reducible rfl
                rotate_left
                · simp only [Act.put, List.setIfInBounds_toArray, List.set_cons_zero, List.set_cons_succ, i64_w, i32_w]
                  rfl
                refine pure_ (i := 2) (N := some 103) (v := ?_) (a' := ?_) #[true, false, true, false, false, false, false] rfl rfl (by kernel_rfl) (fun _ _ _ h => h) (Or.inl ⟨by rfl, ?_⟩) ?_ ?_
                rotate_left
                · intro w'
                  go_simp
                  with_reducible rfl
                rotate_left
                · simp only [Act.put, List.setIfInBounds_toArray, List.set_cons_zero, List.set_cons_succ, i64_w, i32_w]
                  rfl
                refine pure_ (i := 3) (N := some 104) (v := ?_) (a' := ?_) #[true, false, true, true, false, false, false] rfl rfl (by kernel_rfl) (fun _ _ _ h => h) (Or.inl ⟨by rfl, ?_⟩) ?_ ?_
                rotate_left
                · intro w'
                  go_simp
                  with_reducible rfl
                rotate_left
                · simp only [Act.put, List.setIfInBounds_toArray, List.set_cons_zero, List.set_cons_succ, i64_w, i32_w]
                  rfl
                refine pure_ (i := 4) (N := some 105) (v := ?_) (a' := ?_) #[true, false, true, true, true, false, false] rfl rfl (by kernel_rfl) (fun _ _ _ h => h) (Or.inl ⟨by rfl, ?_⟩) ?_ ?_
                rotate_left
                · intro w'
                  go_simp
                  with_reducible rfl
                rotate_left
                · simp only [Act.put, List.setIfInBounds_toArray, List.set_cons_zero, List.set_cons_succ, i64_w, i32_w]
                  rfl
                refine take_ (i := 5) (N := some 106) (v := ?_) (a' := ?_) #[true, false, true, true, true, true, false] rfl rfl (by kernel_rfl) (fun _ _ _ h => h) (Or.inl ⟨by rfl, ?_⟩) hHeld ?_ ?_
                rotate_left
                · rintro w' ⟨s0, s1⟩
                  go_simp
                  with_reducible rfl
                rotate_left
                · simp only [Act.put, List.setIfInBounds_toArray, List.set_cons_zero, List.set_cons_succ, i64_w, i32_w]
                  rfl
                refine one_ (i := 1) (N := some 102) #[true, true, true, true, true, true, false] rfl rfl (by kernel_rfl) (by decide) (fun K hK => ?_)
                refine goes_ Try.func11 (by kernel_rfl) rfl #[.pointer (some ⟨g, 0, none⟩), .int .i64 300] (by rfl) rfl rfl (by (try simp only [List.map_toArray, List.map_cons, List.map_nil]); first | done | rfl) ?_
                refine (rd_text k g b a e _ n1 a1 e1' wr.drew (HI.out.below (below_drew1 (Below.refl _ _))) HP.out).mono ?_
                rintro e' w4 ⟨rfl, hi, hb, hk⟩
                refine ⟨_, rfl, ?_⟩
                replace HB := Aside0.mk (hb w HGE.out (below_drew1 HB.out))
                replace HI := Aside0.mk hi
                clear hi hb hk hx1 HP
                have hx2 := (HB.out.cell (World.block_lt_of_cell? w _ HX.out)).trans HX.out
                refine hK.out _ _ ⟨hx2, trivial⟩ (fun hHeld => ?_)
                clear hK K
                refine norm_ (a' := ?_) ?_ ?_
                rotate_left
                · show Act.put _ (some 102) _ = _
                  simp only [Act.put, List.setIfInBounds_toArray, List.set_cons_zero, List.set_cons_succ, i64_w, i32_w]
                  rfl
                refine pure_ (i := 6) (N := some 107) (v := ?_) (a' := ?_) #[true, true, true, true, true, true, true] rfl rfl (by kernel_rfl) (fun _ _ _ h => h) (Or.inl ⟨by rfl, ?_⟩) ?_ ?_
                rotate_left
                · intro w'
                  go_simp
                  with_reducible rfl
                rotate_left
                · simp only [Act.put, List.setIfInBounds_toArray, List.set_cons_zero, List.set_cons_succ, i64_w, i32_w]
                  rfl
                refine done_ (by kernel_rfl) ?_
                have hw : wrap64 ((i : Int) + 1) = ((i + 1 : Nat) : Int) := by rw [Go.Proofs.Ytgkcdmhndplejaa.Pure.wrap_id (by omega) (by omega)]; omega
                clear hx2
                by_cases hn : n1.toList = x.toList
                · have hn1 : (n1.toList == x.toList) = true := beq_iff_eq.mpr hn
                  replace HL := Aside0.mk ((if_pos hn).symm.trans HL.out)
                  clear hn
                  rw [hn1, show (!true) = false from rfl]
                  go_wp2_with fail
                  go_roundg m1
                  case measure => omega
                  case rel => exact ⟨a1, e1', i + 1, by simp, HI.out, HL, HB⟩
                · have hn1 : (n1.toList == x.toList) = false := beq_eq_false_iff_ne.mpr hn
                  replace HL := Aside0.mk ((if_neg hn).symm.trans HL.out)
                  obtain rfl := Option.some.inj HL.out
                  clear HL hn
                  rw [hn1, show (!false) = true from rfl]
                  go_wp2_with fail
                  go_ret
                  exact ⟨rfl, HB.out⟩
              · rw [if_neg hc] at H
                have HL := Aside0.mk H
                clear H
                by_cases h1 : i < l1.length
                · have e1 : decide ((i : Int) < (l1.length : Int)) = true := decide_eq_true (by omega)
                  have e2 : decide ((i : Int) < 20) = false := decide_eq_false (by omega)
                  go_wp2_with fail
                  go_meet
                  case rel => exact ⟨a, e, HI.out, HL, HB⟩
                · have e1 : decide ((i : Int) < (l1.length : Int)) = false := decide_eq_false (by omega)
                  go_wp2_with fail
                  go_meet
                  case rel => exact ⟨a, e, HI.out, HL, HB⟩
        case rest =>
          clear H HB HI
          clear a e
          obtain ⟨a, e, HI, H, HB⟩ := hcut
          replace HI := Aside0.mk HI
          have hre := rd_end g b a e wc HI.out
          generalize (if e = 0 ∧ a < (b.length : Int) then (3 : Int) else e) = en at H hre
          obtain rfl := Option.some.inj H.out
          clear H
          go_wp2_with fail
          refine hre.mono ?_
          clear hre
          rintro e' w4 ⟨rfl, hi, hb, hk⟩
          replace HB := Aside0.mk (hb w HGE.out HB.out)
          clear hi hb hk HI
          go_wp2_with fail
          go_ret
          exact ⟨rfl, HB.out⟩

end Go.Proofs.Ytgkcdmhndplejaa.P
