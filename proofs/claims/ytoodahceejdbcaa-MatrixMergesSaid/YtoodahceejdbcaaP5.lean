-- Written by a program of this session (wip/pp.py over the kit's printer, with our own texts put in).
import Derived.Test.YtoodahceejdbcaaP0
import Derived.Test.YtoodahceejdbcaaP3
import Derived.Test.YtoodahceejdbcaaP4
namespace Go.Proofs.Ytoodahceejdbcaa.P
open Go.RowKit Go.Proofs.YtoodahceejdbcaaW.PrintWords Go.Proofs.YtoodahceejdbcaaW.PrintLast Go.Proofs.YtoodahceejdbcaaW.PrintMore
attribute [local go_sem] max2_int min2_int max_two min_two max_three min_three max_four min_four   -- for this text's walks alone
set_option linter.unusedVariables false
set_option linter.unusedSimpArgs false

/-! ### vec_Join: function 24 -/
def vec_Join.l0 : Nat → List (S67) → List (S67) → Int → Int → Option ((List (S67)))
  | 0, _, _, _, _ => none
  | k + 1, x5, x10, x11, x12 => if x12 < x11 then (if 0 ≤ x12 then (if x12 < (x10.length : Int) then ((vec_Set.f x5 ((rd_T67 x10 x12).f0) ((rd_T67 x10 x12).f1)).bind fun t134 => (vec_Join.l0 k t134 x10 x11 (wrap64 (x12 + 1)))) else (none)) else (none)) else (some x5)
def vec_Join.f (k : Nat) (l0 : List (S67)) (l1 : List (S67)) : Option ((List (S67))) := (vec_At_50.f l0).bind fun t129 => (vec_Join.l0 k t129 l1 (l1.length : Int) 0)
theorem vec_Join.mono_l : ∀ k, (∀ y0 y1 y2 y3, LeO (vec_Join.l0 k y0 y1 y2 y3) (vec_Join.l0 (k + 1) y0 y1 y2 y3))
  | 0 => fun _ _ _ _ r h => by simp [vec_Join.l0] at h
  | k + 1 => by
    have ih0 := vec_Join.mono_l k
    · intro y0 y1 y2 y3
      unfold vec_Join.l0
      repeat' first
      | (with_reducible exact ih0 _ _ _ _)
      | (with_reducible exact LeO.refl _)
      | (with_reducible exact LeO.none _)
      | (with_reducible refine LeO.ite ?_ ?_)
      | (with_reducible refine LeO.bind ?_ (fun _ => ?_))
      | exact ih0 _ _ _ _
      | exact LeO.none _
      | refine LeO.ite ?_ ?_
      | refine LeO.bind ?_ (fun _ => ?_)
theorem vec_Join.mono : ∀ a0 a1 k, LeO (vec_Join.f k a0 a1) (vec_Join.f (k + 1) a0 a1) := by
  intro a0 a1 k
  have ih0 := vec_Join.mono_l k
  unfold vec_Join.f
  repeat' first
      | (with_reducible exact ih0 _ _ _ _)
      | (with_reducible exact LeO.refl _)
      | (with_reducible exact LeO.none _)
      | (with_reducible refine LeO.ite ?_ ?_)
      | (with_reducible refine LeO.bind ?_ (fun _ => ?_))
      | exact ih0 _ _ _ _
      | exact LeO.none _
      | refine LeO.ite ?_ ?_
      | refine LeO.bind ?_ (fun _ => ?_)
set_option maxHeartbeats 8000000 in
set_option maxRecDepth 100000 in
theorem vec_Join.calls (k : Nat) (A0 : Option Addr) (c0 : Nat) (l0 : List (S67)) (A1 : Option Addr) (c1 : Nat) (l1 : List (S67)) (r : List (S67)) (w : World) (hr0 : Kd.C k67 w A0 l0.length l0) (hc0 : l0.length ≤ c0) (hr1 : Kd.C k67 w A1 l1.length l1) (hc1 : l1.length ≤ c1) (h : vec_Join.f k l0 l1 = some r) :
    Calls Try.prog 24 #[.slice A0 l0.length c0, .slice A1 l1.length c1] w fun e w' => ∃ v0_ : Value, e = .returned (v0_) ∧ Kd.R k67 67 w' w.heap.size (fun _ => True) v0_ r ∧ Below w.heap.size w w' := by
  have hu67 := Try.underlying67
  have HR0 := Aside0.mk hr0
  have HC0 := Aside0.mk hc0
  clear hr0 hc0
  have HR1 := Aside0.mk hr1
  have HC1 := Aside0.mk hc1
  clear hr1 hc1
  have HB := Aside0.mk (Below.refl w.heap.size w)
  have H : ((vec_At_50.f l0).bind fun t129 => (vec_Join.l0 k t129 l1 (l1.length : Int) 0)) = some r := h
  clear h
  replace H := Option.bind_eq_some_iff.mp H
  obtain ⟨t129, A30, H⟩ := H
  have A3 := Aside0.mk A30
  clear A30
  have H' := Aside0.mk H
  clear H
  go_enter Try.func24, Try.ntmps24
  go_wp2_with (first | ((with_reducible refine gate_callee (f := 50) rfl ?_); refine goesL_ (some 9) rfl rfl Try.func50 (by kernel_rfl) rfl #[.slice A0 l0.length c0] rfl (by (try simp only [List.map_toArray, List.map_cons, List.map_nil]); first | done | rfl | (simp only [List.length_drop, List.length_take]; rfl)) ?_; (with_reducible refine (vec_At_50.calls _ _ l0 t129 _ ?side1 ?side2 A3.out).mono ?_); (case side1 => repeat (first | exact HR0.out | (with_reducible refine Kd.C_alloc ?_ _) | (with_reducible refine Kd.C_drewN ?_ _) | (with_reducible refine Kd.C_drew ?_))); (case side2 => exact HC0.out); rintro e w4 ⟨v130, rfl, ho0, hb⟩; refine ⟨_, rfl, ?_⟩; have HO131 := Aside0.mk (Kd.R_lower ho0 (below_size (by repeat (first | (with_reducible first | exact HB.out | apply below_alloc | apply pw_below_drewN | apply below_drew1) | exact HB.out)))); replace HB := Aside0.mk (below_step (by repeat (first | (with_reducible first | exact HB.out | apply below_alloc | apply pw_below_drewN | apply below_drew1) | exact HB.out)) hb); (try clear hb); (try clear hb2); (try clear hk); (try clear hi); (try clear ho0)))
  go_loopg [5, 12] k (fun kq v5 v12 w' => ∃ (x5_1 : List (S67)) (x12_1 : Int), v12 = .int .i64 x12_1 ∧ Aside0 (vec_Join.l0 kq x5_1 l1 (l1.length : Int) x12_1 = some r) ∧ Aside0 (kq ≤ k) ∧ Aside0 (Kd.R k67 67 w' w.heap.size (fun _ => True) v5 x5_1) ∧ Aside0 (Below w.heap.size w w'))
  case atStart => exact ⟨(t129), (0), (by first | rfl | (simp; done) | (simp [*]; done)), H', ⟨Nat.le_refl _⟩, ⟨by (with_reducible repeat (first | apply Kd.R_alloc | apply Kd.R_drewN | apply Kd.R_drew)); exact HO131.out⟩, ⟨by repeat (first | (with_reducible first | exact HB.out | apply below_alloc | apply pw_below_drewN | apply below_drew1) | exact HB.out)⟩⟩
  case round =>
    clear H'
    try clear c1
    try clear c2
    try clear p2
    obtain ⟨x5_1, x12_1, rfl, HA, HK1, HO_5, HB⟩ := hrel
    cases gk with
    | zero => exact absurd HA.out (by simp [vec_Join.l0])
    | succ k1 =>
      have H := HA.out
      clear HA
      simp only [vec_Join.l0] at H
      by_cases c5 : x12_1 < (l1.length : Int)
      · rw [if_pos c5] at H
        have c5b0 : decide (x12_1 < (l1.length : Int)) = true := decide_eq_true c5
        clear c5
        by_cases c6 : 0 ≤ x12_1
        · rw [if_pos c6] at H
          have c6b0 : decide (0 ≤ x12_1) = true := decide_eq_true c6
          clear c6
          by_cases c7 : x12_1 < (l1.length : Int)
          · rw [if_pos c7] at H
            have c7b0 : decide (x12_1 < (l1.length : Int)) = true := decide_eq_true c7
            clear c7
            replace H := Option.bind_eq_some_iff.mp H
            obtain ⟨t134, A80, H⟩ := H
            have A8 := Aside0.mk A80
            clear A80
            have H' := Aside0.mk H
            clear H
            have p132 : 0 ≤ (x12_1 : Int) := of_decide_eq_true (by first | (with_reducible assumption) | assumption)
            have q132 : x12_1 < (l1.length : Int) := of_decide_eq_true (by first | (with_reducible assumption) | assumption)
            obtain ⟨ad132, e132, hx132_0, hx132_1⟩ := at_T67 HR1.out x12_1 p132 q132
            cases e132
            replace hx132_0 := (HB.out.cell (World.block_lt_of_cell? w _ hx132_0)).trans hx132_0
            replace hx132_1 := (HB.out.cell (World.block_lt_of_cell? w _ hx132_1)).trans hx132_1
            replace p132 := eq_true p132
            replace q132 := eq_true q132
            go_wp2_with (first | ((with_reducible refine gate_dst (N := 7) rfl ?_); refine box_event ?hg (N := 7) ?hd (cs := #[.string (⟨#[]⟩ : ByteArray), .int .i64 0]) (t := 67) ?hr ?_; (case hd => rfl); (case hg => rfl); (case hr => first | (go_simp; done) | (go_simp; rfl)); intro gb133 hg w9 hbox hb; replace HO_5 := Aside0.mk (Kd.R_below (Kd.R_elderB (by (with_reducible repeat (first | apply Kd.R_alloc | apply Kd.R_drewN | apply Kd.R_drew)); exact HO_5.out) gb133 (Nat.le_of_eq hg.symm)) hb); have BK133 := Aside0.mk (hbox); have GW133 := Aside0.mk ((by rw [hg]; exact (below_size (by repeat (first | (with_reducible first | exact HB.out | apply below_alloc | apply pw_below_drewN | apply below_drew1) | exact HB.out))) : w.heap.size ≤ gb133)); have GE133 := Aside0.mk ((by rw [hg]; exact (below_size (by repeat (first | (with_reducible first | exact HB.out | apply below_alloc | apply pw_below_drewN | apply below_drew1) | exact HB.out))) : w.heap.size ≤ gb133)); replace HB := Aside0.mk (below_step (by repeat (first | (with_reducible first | exact HB.out | apply below_alloc | apply pw_below_drewN | apply below_drew1) | exact HB.out)) hb); clear hb hbox hg; have hcz10_0 : w9.cell? ⟨gb133, 0, none⟩ = some (.string (⟨#[]⟩ : ByteArray)) := (blk_cell BK133.out 0).trans rfl; have hcz10_1 : w9.cell? ⟨gb133, 1, none⟩ = some (.int .i64 0) := (blk_cell BK133.out 1).trans rfl; have hfz10_0 := blk_frozen BK133.out 0; have hfz10_1 := blk_frozen BK133.out 1; obtain ⟨Ao11, co11, eo11⟩ := Kd.R_slice HO_5.out; subst eo11) | ((with_reducible refine gate_callee (f := 53) rfl ?_); refine goesL_ (some 21) rfl rfl Try.func53 (by kernel_rfl) rfl #[.slice Ao11 x5_1.length co11, .string ((rd_T67 l1 x12_1).f0), .int .i64 ((rd_T67 l1 x12_1).f1)] rfl (by (try simp only [List.map_toArray, List.map_cons, List.map_nil]); first | done | rfl | (simp only [List.length_drop, List.length_take]; rfl)) ?_; (with_reducible refine (vec_Set.calls _ _ x5_1 ((rd_T67 l1 x12_1).f0) ((rd_T67 l1 x12_1).f1) t134 _ ?side1 ?side2 A8.out).mono ?_); (case side1 => refine (Kd.R_reads' (e := 67) (base := w.heap.size) (ok := fun k_ => (True ∧ k_ ≠ gb133)) (n := x5_1.length) (c := co11) ?_).2.2; exact (by (with_reducible repeat (first | apply Kd.R_alloc | apply Kd.R_drewN | apply Kd.R_drew)); exact (Kd.R_mono (Kd.R_far (p := ⟨gb133, 1, none⟩) (Kd.R_far (p := ⟨gb133, 0, none⟩) (Kd.R_mono HO_5.out (fun k_ hk => (⟨hk, hk.2⟩ : _ ∧ k_ ≠ gb133))) (fun _ hk => hk.2) (.string ((rd_T67 l1 x12_1).f0))) (fun _ hk => hk.2) (.int .i64 ((rd_T67 l1 x12_1).f1))) (fun _ h_ => h_.1)))); (case side2 => exact (Kd.R_reads' HO_5.out).2.1); rintro e w12 ⟨v135, rfl, ho0, hb⟩; refine ⟨_, rfl, ?_⟩; have HO136 := Aside0.mk (Kd.R_lower (Kd.R_newB (Kd.R_new' ho0 (Kd.R_lt (by (with_reducible repeat (first | apply Kd.R_alloc | apply Kd.R_drewN | apply Kd.R_drew)); exact (Kd.R_mono (Kd.R_far (p := ⟨gb133, 1, none⟩) (Kd.R_far (p := ⟨gb133, 0, none⟩) (Kd.R_mono HO_5.out (fun k_ hk => (⟨hk, hk.2⟩ : _ ∧ k_ ≠ gb133))) (fun _ hk => hk.2) (.string ((rd_T67 l1 x12_1).f0))) (fun _ hk => hk.2) (.int .i64 ((rd_T67 l1 x12_1).f1))) (fun _ h_ => h_.1))))) (g := gb133) (o := .cells #[.string ((rd_T67 l1 x12_1).f0), .int .i64 ((rd_T67 l1 x12_1).f1)] 67 (0, 0)) (by (with_reducible repeat (first | refine blk_drewN ?_ _ | refine blk_drew ?_ | refine blk_alloc ?_ _)); refine blk_put (cs := #[.string ((rd_T67 l1 x12_1).f0), .int .i64 0]) ?_ 1 _ rfl; (with_reducible repeat (first | refine blk_drewN ?_ _ | refine blk_drew ?_ | refine blk_alloc ?_ _)); refine blk_put (cs := #[.string (⟨#[]⟩ : ByteArray), .int .i64 0]) ?_ 0 _ rfl; (with_reducible repeat (first | refine blk_drewN ?_ _ | refine blk_drew ?_ | refine blk_alloc ?_ _)); exact BK133.out)) (below_size (by repeat (first | (with_reducible first | exact HB.out | apply below_alloc | apply pw_below_drewN | apply below_drew1 | refine below_set ?_ GE133.out) | exact HB.out)))); replace HO_5 := Aside0.mk (Kd.R_elder' (by (with_reducible repeat (first | apply Kd.R_alloc | apply Kd.R_drewN | apply Kd.R_drew)); exact (Kd.R_mono (Kd.R_far (p := ⟨gb133, 1, none⟩) (Kd.R_far (p := ⟨gb133, 0, none⟩) (Kd.R_mono HO_5.out (fun k_ hk => (⟨hk, hk.2⟩ : _ ∧ k_ ≠ gb133))) (fun _ hk => hk.2) (.string ((rd_T67 l1 x12_1).f0))) (fun _ hk => hk.2) (.int .i64 ((rd_T67 l1 x12_1).f1))) (fun _ h_ => h_.1))) (Kd.R_base ho0) hb); replace BK133 := Aside0.mk (blk_below (g := gb133) (o := .cells #[.string ((rd_T67 l1 x12_1).f0), .int .i64 ((rd_T67 l1 x12_1).f1)] 67 (0, 0)) (by (with_reducible repeat (first | refine blk_drewN ?_ _ | refine blk_drew ?_ | refine blk_alloc ?_ _)); refine blk_put (cs := #[.string ((rd_T67 l1 x12_1).f0), .int .i64 0]) ?_ 1 _ rfl; (with_reducible repeat (first | refine blk_drewN ?_ _ | refine blk_drew ?_ | refine blk_alloc ?_ _)); refine blk_put (cs := #[.string (⟨#[]⟩ : ByteArray), .int .i64 0]) ?_ 0 _ rfl; (with_reducible repeat (first | refine blk_drewN ?_ _ | refine blk_drew ?_ | refine blk_alloc ?_ _)); exact BK133.out) hb); replace HB := Aside0.mk (below_step (by repeat (first | (with_reducible first | exact HB.out | apply below_alloc | apply pw_below_drewN | apply below_drew1 | refine below_set ?_ GE133.out) | exact HB.out)) hb); (try clear hb); (try clear hb2); (try clear hk); (try clear hi); (try clear ho0)))
            go_roundg k1
            case measure => have := HK1.out; omega
            case rel => exact ⟨(t134), (wrap64 (x12_1 + 1)), (by first | rfl | (simp; done) | (simp [*]; done)), H', ⟨by have := HK1.out; omega⟩, ⟨by (with_reducible repeat (first | apply Kd.R_alloc | apply Kd.R_drewN | apply Kd.R_drew)); exact Kd.R_mono HO136.out (fun _ hk => trivial)⟩, ⟨by repeat (first | (with_reducible first | exact HB.out | apply below_alloc | apply pw_below_drewN | apply below_drew1 | refine below_set ?_ GE133.out) | exact HB.out)⟩⟩
          · rw [if_neg c7] at H
            exact absurd H (by simp)
        · rw [if_neg c6] at H
          exact absurd H (by simp)
      · rw [if_neg c5] at H
        have c5b0 : decide (x12_1 < (l1.length : Int)) = false := decide_eq_false c5
        clear c5
        obtain rfl := Option.some.inj H
        go_wp2
        go_ret
        exact ⟨_, by first | rfl | (simp [errW_none, errW_some] <;> rfl) | (simp [*, errW_none, errW_some] <;> rfl), by (with_reducible repeat (first | apply Kd.R_alloc | apply Kd.R_drewN | apply Kd.R_drew)); exact HO_5.out, by repeat (first | (with_reducible first | exact HB.out | apply below_alloc | apply pw_below_drewN | apply below_drew1) | exact HB.out)⟩

/-! ### matrix_Put: function 27 -/
theorem mats_hov (w : World) (vb b off lb cb m vc : Nat) (tA tB : TypeId) (kA kB : Nat) (hvb : vb ≠ b) (hsa : w.shape? vb = some (tA, kA)) (hsb : w.shape? b = some (tB, kB)) (hkB : kB ≠ 0) (hfa : w.frozen? ⟨vb, 0, none⟩ = false) (hfe : w.frozen? ⟨vb, kA, none⟩ = false) :
  (callFunc 70 #[.slice (some ⟨vb, 0, none⟩) m vc, .slice (some ⟨b, off, none⟩) lb cb]).run Try.prog w = .ok (.value (.bool false)) w := by
 rw [run_callFunc_extern Try.func70 (by kernel_rfl) (by kernel_rfl) (by kernel_rfl) (e := Extern.SlicesOverlaps.overlaps #[28, 28] #[4]) (by kernel_rfl),
  Lib.run_overlaps_apart w 28 4 50 Try.underlying28 2 (fun w => by obtain ⟨i0, hi, h0, h1, h2⟩ := info_parts info50; simp [sizeOf, typeInfo, hi, h1]) ⟨vb, 0, none⟩ ⟨b, off, none⟩ m vc lb cb hvb tA tB kA kB hsa hsb hkB hfa hfe]
 rfl
set_option maxHeartbeats 4000000 in
set_option maxRecDepth 100000 in
theorem mats_insert_room (w : World) (base : Nat) (ok okp : Nat → Prop) (g cap : Nat) (cur : Array Value) (l : List RW) (i : Nat) (x : RW) (cs : List Value) (vb : Nat) (tv : TypeId)
  (hg : base ≤ g) (hk : ok g) (hh : w.heap[g]? = some (.cells cur 50 (0, 0))) (hc : l.length + 1 ≤ cap) (h3 : cap ≤ maxLen) (h4 : cur.size = cap * 2) (hp : Reps (Kd.M kRW w base (fun k => ok k ∧ k ≠ g)) 2 l (cur.toList.take (l.length * 2)))
  (hi : i < l.length) (hx : Kd.M kRW w base okp x cs) (hokp : ∀ k, okp k → ok k ∧ k ≠ g) (hv : w.heap[vb]? = some (.cells cs.toArray tv (0, 0))) (hvb : vb ≠ g) :
  Calls Try.prog 57 #[.slice (some ⟨g, 0, none⟩) l.length cap, .int .i64 i, .slice (some ⟨vb, 0, none⟩) 1 1] w fun e w' => ∃ v' : Value, e = .returned v' ∧ Kd.R kRW 50 w' base ok v' (l.take i ++ x :: l.drop i) ∧ w.grownBy w' (some g) := by
 obtain ⟨i0, hi0, hz0, hsz0, hby0⟩ := info_parts info50
 have hR : Kd.R kRW 50 ((w.drew.setCells g ((i + 1) * 2) ((cur.toList.take (l.length * 2)).drop (i * 2))).setCells g (i * 2) cs) base ok (.slice (some ⟨g, 0, none⟩) (l.length + 1) cap) (l.take i ++ x :: l.drop i) ∧ w.grownBy ((w.drew.setCells g ((i + 1) * 2) ((cur.toList.take (l.length * 2)).drop (i * 2))).setCells g (i * 2) cs) (some g) := R_insert_room (d := kRW) (e := 50) hg hk hh hc h3 h4 hp (Nat.le_of_lt hi) hx hokp 1
 have hcl : cs.length = 2 := (Kd.K_len kRW (Kd.K_of_M kRW hx))
 have h1v : ∀ u ∈ cs, u.oneCell' = true := Kd.K_one kRW (Kd.K_of_M kRW hx)
 have h1c := cells_one (d := kRW) hp ((by decide) : 0 < 2)
 have hil : (cur.toList.take (l.length * 2)).length = l.length * 2 := hp.1
 generalize hinner : cur.toList.take (l.length * 2) = inner at hR h1c hil
 have hM : maxLen = 9223372036854775807 := rfl
 have hm0 : cap ≤ 9223372036854775807 := by rw [← hM]; exact h3
 have hcell : ∀ j u, inner[j]? = some u → w.cell? ⟨g, j, none⟩ = some u := fun j u hj => by
  rw [blk_cell hh j, ← Array.getElem?_toList]
  rw [← hinner, List.getElem?_take] at hj
  split at hj
  ·exact hj
  ·cases hj
 have hsp : ∀ j, j < cap * 2 → (w.cell? ⟨g, j, none⟩).isSome = true := fun j hj => by
  rw [blk_cell hh j, Array.getElem?_eq_getElem (by omega)]; rfl
 have hfz : ∀ j, w.frozen? ⟨g, j, none⟩ = false := fun j => blk_frozen hh j
 have hvs : ∀ j u, cs[j]? = some u → w.cell? ⟨vb, j, none⟩ = some u := fun j u hj => by
  rw [blk_cell hv j]; simpa using hj
 have hsa : w.shape? vb = some (tv, cs.length) := by simp [World.shape?, hv]
 have hsb : w.shape? g = some (50, cap * 2) := by simp [World.shape?, hh, h4]
 have hov : ∀ W lb cb, (∀ k, W.heap[k]? = w.heap[k]?) → (callFunc 70 #[.slice (some ⟨vb, 0, none⟩) 1 1, .slice (some ⟨g, (i + 1) * 2, none⟩) lb cb]).run Try.prog W = .ok (.value (.bool false)) W := fun W lb cb hW =>
  mats_hov W vb g ((i + 1) * 2) lb cb 1 1 tv 50 cs.length (cap * 2) hvb (by unfold World.shape? at hsa ⊢; rw [hW]; exact hsa) (by unfold World.shape? at hsb ⊢; rw [hW]; exact hsb) (by omega) (by unfold World.frozen?; simp [hW, hv]) (by unfold World.frozen?; simp [hW, hv])
 have hdl : (inner.drop (i * 2)).length = (l.length - i) * 2 := by rw [List.length_drop, hil, Nat.sub_mul]
 have hsz : (Try.prog.info? 50).map (·.size) = some 2 := by rw [hi0]; simp [hsz0]
 have hcp1 : ∀ (W : World), (∀ a, W.cell? a = w.cell? a) → (∀ a, W.frozen? a = w.frozen? a) → ∀ ty dc sc, (Builtin.copy_ #[29, 29] ty #[.slice (some ⟨g, (i + 1) * 2, none⟩) (l.length - i) dc, .slice (some ⟨g, i * 2, none⟩) (l.length + 1 - i) sc]).run Try.prog W = .ok (goInt (l.length - i : Nat)) (W.setCells g ((i + 1) * 2) (inner.drop (i * 2))) := fun W hW hF ty dc sc => by
  have := run_copy_k (P := Try.prog) W 29 29 ty 50 2 g ((i + 1) * 2) (l.length - i) dc ⟨g, i * 2, none⟩ (l.length + 1 - i) sc (inner.drop (i * 2)) Try.underlying29 hsz (by rw [hdl]; congr 1; simp only [Nat.min_def]; split <;> omega)
   (fun j u hj => by rw [Addr.add_lit, hW]; exact hcell _ u (by rwa [List.getElem?_drop] at hj))
   (fun j hj => by rw [hW]; exact hsp _ (by omega)) (fun j hj => by rw [hF]; exact hfz _) (fun u hu => h1c u (List.mem_of_mem_drop hu))
  rw [this]
  congr 2
  simp only [Nat.min_def]; split <;> omega
 have hcp2 : ∀ (W : World), (∀ a, W.cell? a = (w.setCells g ((i + 1) * 2) (inner.drop (i * 2))).cell? a) → (∀ a, W.frozen? a = w.frozen? a) → ∀ ty dc sc, (Builtin.copy_ #[29, 28] ty #[.slice (some ⟨g, i * 2, none⟩) (l.length + 1 - i) dc, .slice (some ⟨vb, 0, none⟩) 1 sc]).run Try.prog W = .ok (goInt (1 : Nat)) (W.setCells g (i * 2) cs) := fun W hW hF ty dc sc => by
  have := run_copy_k (P := Try.prog) W 29 28 ty 50 2 g (i * 2) (l.length + 1 - i) dc ⟨vb, 0, none⟩ 1 sc cs Try.underlying29 hsz (by rw [hcl]; simp only [Nat.min_def]; split <;> omega)
   (fun j u hj => by rw [Addr.add_lit, Nat.zero_add, hW, World.cell?_setCells_out _ _ _ _ _ (fun h _ => absurd h hvb)]; exact hvs _ u hj)
   (fun j hj => by
    rw [hW]
    by_cases hin : (i + 1) * 2 ≤ i * 2 + j
    ·omega
    ·rw [World.cell?_setCells_out _ _ _ _ _ (fun _ _ => Or.inl (by show i * 2 + j < (i + 1) * 2; omega))]
     exact hsp _ (by omega))
   (fun j hj => by rw [hF]; exact hfz _) h1v
  rw [this]
  congr 2
  simp only [Nat.min_def]; split <;> omega
 have e1 : ((i : Int) + 1) = ((i + 1 : Nat) : Int) := by omega
 have hw1 : IntKind.i64.wrap ((i : Int) + 1) = (i : Int) + 1 := by rw [IntKind.wrap_i64]; omega
 have hw2 : IntKind.i64.wrap ((l.length : Int) + 1) = (l.length : Int) + 1 := by rw [IntKind.wrap_i64]; omega
 have c1 := cut_from (P := Try.prog) 29 50 .i64 Try.underlying29 hi0 2 hsz0 (some ⟨g, 0, none⟩) l.length cap (i : Int) (by omega) (by omega)
 have c2 : ∀ W : World, (Instr.slice 29 (.slice (some ⟨g, 0, none⟩) l.length cap) none (some (.int .i64 ((l.length : Int) + 1))) none).run Try.prog W = .ok (.slice (some ⟨g, 0, none⟩) (l.length + 1) cap) W := by
  intro W
  have hel : (Try.prog).elem 29 = 50 := by simp [Program.elem, Try.underlying29]
  rw [run_slice_h W 29 (some ⟨g, 0, none⟩) l.length cap (by rw [hel]; exact Try.underlying29) .i64 ((l.length : Int) + 1) (by omega) (by omega), hel]
  simp [sizeOf, typeInfo, hi0, sliced, Result.andThen, Addr.add]
 have c3 : ∀ W : World, (Instr.slice 29 (.slice (some ⟨g, 0, none⟩) (l.length + 1) cap) (some (.int .i64 ((i : Int) + 1))) none none).run Try.prog W = .ok (.slice (some ⟨g, (i + 1) * 2, none⟩) (l.length - i) (cap - (i + 1))) W := by
  intro W
  rw [e1, cut_from (P := Try.prog) 29 50 .i64 Try.underlying29 hi0 2 hsz0 (some ⟨g, 0, none⟩) (l.length + 1) cap ((i + 1 : Nat) : Int) (by omega) (by omega) W, Int.toNat_natCast, if_neg (by omega), Option.map_some, Addr.add_lit, Nat.zero_add, show l.length + 1 - (i + 1) = l.length - i by omega]
 have c4 : ∀ W : World, (Instr.slice 29 (.slice (some ⟨g, 0, none⟩) (l.length + 1) cap) (some (.int .i64 (i : Int))) none none).run Try.prog W = .ok (.slice (some ⟨g, i * 2, none⟩) (l.length + 1 - i) (cap - i)) W := by
  intro W
  rw [cut_from (P := Try.prog) 29 50 .i64 Try.underlying29 hi0 2 hsz0 (some ⟨g, 0, none⟩) (l.length + 1) cap (i : Int) (by omega) (by omega) W, Int.toNat_natCast, if_neg (by omega), Option.map_some, Addr.add_lit, Nat.zero_add]
 have hb1 : decide ((1 : Int) = 0) = false := rfl
 have hb2 : decide ((i : Int) = (l.length : Int)) = false := by simp; omega
 have hb3 : decide ((cap : Int) < (l.length : Int) + 1) = false := by simp; omega
 have hovw := fun lb cb => hov w lb cb (fun _ => rfl)
 have HR := Aside0.mk hR
 clear hR hov e1
 go_enter Try.func57, Try.ntmps57
 go_wp2_with (simp only [hovw])
 have hc1 := hcp1 w.drew (fun _ => rfl) (fun _ => rfl) 3 (cap - (i + 1)) (cap - i)
 have hc2 := hcp2 (w.drew.setCells g ((i + 1) * 2) (inner.drop (i * 2))) (fun _ => by rw [← drew_setCells]; rfl) (fun _ => World.frozen?_setCells _ _ _ _ _) 3 (cap - i) 1
 have mixed : (Try.prog).follows .mixedOrders = true := rfl
 go_region_law_o (refine step_copy_runI rfl _ _ 29 29 rfl (.slice (some ⟨g, (i + 1) * 2, none⟩) (l.length - i) (cap - (i + 1))) (.slice (some ⟨g, i * 2, none⟩) (l.length + 1 - i) (cap - i)) (by simp [Act.eval, Act.put]) (by simp [Act.eval, Act.put]) hc1 ?_)
 clear hc1
 go_wp2_with (at_builtin; refine wpList_copy_runI _ rfl _ _ 29 28 rfl _ _ rfl rfl hc2 ?_)
 go_ret
 exact ⟨_, rfl, HR.out.1, HR.out.2⟩
set_option maxHeartbeats 4000000 in
set_option maxRecDepth 100000 in
theorem mats_insert_grow (w : World) (base : Nat) (ok okp : Nat → Prop) (g cap : Nat) (cur : Array Value) (l : List RW) (i : Nat) (x : RW) (cs : List Value) (vb : Nat) (tv : TypeId)
  (hbase : base ≤ w.heap.size) (hfresh : ∀ k, w.heap.size ≤ k → ok k) (hh : w.heap[g]? = some (.cells cur 50 (0, 0))) (hnc : l.length ≤ cap) (hc : cap < l.length + 1) (h4 : cur.size = cap * 2) (hp : Reps (Kd.M kRW w base (fun k => ok k ∧ k ≠ g)) 2 l (cur.toList.take (l.length * 2)))
  (hi : i < l.length) (hx : Kd.M kRW w base okp x cs) (hokp : ∀ k, okp k → ok k ∧ k ≠ g) (hv : w.heap[vb]? = some (.cells cs.toArray tv (0, 0))) (hvb : vb ≠ g) (hbig : (l.length + 1) * 40 ≤ 140737488355328) :
  Calls Try.prog 57 #[.slice (some ⟨g, 0, none⟩) l.length cap, .int .i64 i, .slice (some ⟨vb, 0, none⟩) 1 1] w fun e w' => ∃ v' : Value, e = .returned v' ∧ Kd.R kRW 50 w' base ok v' (l.take i ++ x :: l.drop i) ∧ w.grownBy w' none := by
 obtain ⟨i0, hi0, hz0, hsz0, hby0⟩ := info_parts info50
 have hcl : cs.length = 2 := (Kd.K_len kRW (Kd.K_of_M kRW hx))
 have h1v : ∀ u ∈ cs, u.oneCell' = true := Kd.K_one kRW (Kd.K_of_M kRW hx)
 have h1c := cells_one (d := kRW) hp ((by decide) : 0 < 2)
 have hil : (cur.toList.take (l.length * 2)).length = l.length * 2 := hp.1
 generalize hinner : cur.toList.take (l.length * 2) = inner at hp h1c hil
 have hcell : ∀ j u, inner[j]? = some u → w.cell? ⟨g, j, none⟩ = some u := fun j u hj => by
  rw [blk_cell hh j, ← Array.getElem?_toList]
  rw [← hinner, List.getElem?_take] at hj
  split at hj
  ·exact hj
  ·cases hj
 have hvs : ∀ j u, cs[j]? = some u → w.cell? ⟨vb, j, none⟩ = some u := fun j u hj => by
  rw [blk_cell hv j]; simpa using hj
 have hgw : g < w.heap.size := blk_lt hh
 have hvw : vb < w.heap.size := blk_lt hv
 have hsz : (Try.prog.info? 50).map (·.size) = some 2 := by rw [hi0]; simp [hsz0]
 have hdl : (inner.drop (i * 2)).length = (l.length - i) * 2 := by rw [List.length_drop, hil, Nat.sub_mul]
 have hik : i + (l.length + 1 - i) = l.length + 1 := by omega
 have hkk : (l.length : Int) + 1 - (i : Int) = ((l.length + 1 - i : Nat) : Int) := by omega
 have hold : (Builtin.firstCells i0.size i (.slice (some ⟨g, 0, none⟩) i cap)).run Try.prog w.drew = .ok (inner.take (i * 2)).toArray w.drew := by
  rw [hsz0]
  exact run_firstCells_some w.drew 2 i ⟨g, 0, none⟩ i cap (inner.take (i * 2)) (by rw [List.length_take, hil]; omega) (fun j v hj => by
   rw [Addr.add_lit, Nat.zero_add]
   rw [List.getElem?_take] at hj
   split at hj
   ·exact hcell j v hj
   ·cases hj)
 have hrz := Lib.run_append_grow_zeros (P := Try.prog) w 29 3 29 50 i0 _ .i64 .i64 Try.underlying29 Try.underlying3 hi0 hz0 (some ⟨g, 0, none⟩) i cap (inner.take (i * 2)) hold (l.length + 1 - i) (by omega) (by omega) (by omega) (by omega) (by rw [hby0]; omega) (by rw [hby0, hik]; exact growslice_fits hc hbig)
 rw [hik, ← hkk] at hrz
 have hGn : l.length + 1 ≤ grownCap w (l.length + 1) cap 50 := grownCap_ge w _ _ _
 have hG63 : grownCap w (l.length + 1) cap 50 ≤ maxLen := grownCap_le_maxLen w (l.length + 1) cap 50 (by unfold maxLen; omega)
 generalize grownCap w (l.length + 1) cap 50 = G at hrz hGn hG63
 generalize hROW : (inner.take (i * 2)).toArray ++ Builtin.zeroCells _ (l.length + 1 - i) ++ Builtin.zeroCells _ (G - (l.length + 1)) = ROW at hrz
 have hRl : ROW.size = G * 2 := by
  rw [← hROW]
  simp [Builtin.zeroCells, Value.cells, hil]
  omega
 have hrow : ROW.toList.take (i * 2) = inner.take (i * 2) := by
  rw [← hROW]
  simp only [Array.toList_append, List.append_assoc]
  rw [List.take_append_of_le_length (by rw [List.length_take, hil]; omega), List.take_take, Nat.min_self]
 have hR : Kd.R kRW 50 (((w.alloc (.cells ROW 50)).drew.setCells w.heap.size (i * 2) cs).drew.setCells w.heap.size ((i + 1) * 2) (inner.drop (i * 2))) base ok (.slice (some ⟨w.heap.size, 0, none⟩) (l.length + 1) G) (l.take i ++ x :: l.drop i) ∧ w.grownBy (((w.alloc (.cells ROW 50)).drew.setCells w.heap.size (i * 2) cs).drew.setCells w.heap.size ((i + 1) * 2) (inner.drop (i * 2))) none :=
  R_insert_grow (d := kRW) (e := 50) hbase hfresh hGn hG63 hRl (hp.imp_ fun _ _ hq => Kd.M_mono kRW (fun k hk => hk.1) hq) hrow (Nat.le_of_lt hi) (Kd.M_mono kRW (fun k hk => (hokp k hk).1) hx) 1 1
 have HR := Aside0.mk hR
 clear hR hROW hrow hp hx hokp hold
 obtain ⟨W1, hW1⟩ : ∃ W1, W1 = (w.alloc (.cells ROW 50)).drew := ⟨_, rfl⟩
 have hN : ∀ j, j < (l.length + 1) * 2 → (W1.cell? ⟨w.heap.size, j, none⟩).isSome = true := fun j hj => by
  rw [hW1]
  show ((w.alloc (.cells ROW 50)).cell? ⟨w.heap.size, j, none⟩).isSome = true
  rw [blk_cell (blk_new w (.cells ROW 50)) j, Array.getElem?_eq_getElem (by omega)]; rfl
 have hNf : ∀ j, W1.frozen? ⟨w.heap.size, j, none⟩ = false := fun j => by rw [hW1]; exact blk_frozen (blk_new w (.cells ROW 50)) j
 have hOb : ∀ j u, w.cell? ⟨g, j, none⟩ = some u → W1.cell? ⟨g, j, none⟩ = some u := fun j u h => by
  rw [hW1]; exact (((Below.refl w.heap.size w).alloc (Nat.le_refl _) (.cells ROW 50)).cell (p := ⟨g, j, none⟩) hgw).trans h
 have hOv : ∀ j u, w.cell? ⟨vb, j, none⟩ = some u → W1.cell? ⟨vb, j, none⟩ = some u := fun j u h => by
  rw [hW1]; exact (((Below.refl w.heap.size w).alloc (Nat.le_refl _) (.cells ROW 50)).cell (p := ⟨vb, j, none⟩) hvw).trans h
 have hcpA : ∀ (W : World), (∀ a, W.cell? a = W1.cell? a) → (∀ a, W.frozen? a = W1.frozen? a) → ∀ ty dc sc, (Builtin.copy_ #[29, 28] ty #[.slice (some ⟨w.heap.size, i * 2, none⟩) (l.length + 1 - i) dc, .slice (some ⟨vb, 0, none⟩) 1 sc]).run Try.prog W = .ok (goInt (1 : Nat)) (W.setCells w.heap.size (i * 2) cs) := fun W hW hF ty dc sc => by
  have := run_copy_k (P := Try.prog) W 29 28 ty 50 2 w.heap.size (i * 2) (l.length + 1 - i) dc ⟨vb, 0, none⟩ 1 sc cs Try.underlying29 hsz (by rw [hcl]; simp only [Nat.min_def]; split <;> omega)
   (fun j u hj => by rw [Addr.add_lit, Nat.zero_add, hW]; exact hOv _ u (hvs _ u hj))
   (fun j hj => by rw [hW]; exact hN _ (by omega)) (fun j hj => by rw [hF]; exact hNf _) h1v
  rw [this]
  congr 2
  simp only [Nat.min_def]; split <;> omega
 have hgN : g ≠ w.heap.size := by omega
 have hcpB : ∀ (W : World), (∀ a, W.cell? a = (W1.setCells w.heap.size (i * 2) cs).cell? a) → (∀ a, W.frozen? a = W1.frozen? a) → ∀ ty dc sc, (Builtin.copy_ #[29, 29] ty #[.slice (some ⟨w.heap.size, (i + 1) * 2, none⟩) (l.length - i) dc, .slice (some ⟨g, i * 2, none⟩) (l.length - i) sc]).run Try.prog W = .ok (goInt (l.length - i : Nat)) (W.setCells w.heap.size ((i + 1) * 2) (inner.drop (i * 2))) := fun W hW hF ty dc sc => by
  have := run_copy_k (P := Try.prog) W 29 29 ty 50 2 w.heap.size ((i + 1) * 2) (l.length - i) dc ⟨g, i * 2, none⟩ (l.length - i) sc (inner.drop (i * 2)) Try.underlying29 hsz (by rw [hdl]; simp)
   (fun j u hj => by
    rw [Addr.add_lit, hW, World.cell?_setCells_out _ _ _ _ _ (fun h _ => absurd h hgN)]
    exact hOb _ u (hcell _ u (by rwa [List.getElem?_drop] at hj)))
   (fun j hj => by rw [hW]; exact isSome_setCells _ _ _ _ (fun t ht => hN _ (by omega)) _ (hN _ (by omega)))
   (fun j hj => by rw [hF]; exact hNf _) (fun u hu => h1c u (List.mem_of_mem_drop hu))
  rw [this]
  congr 2
  simp
 have hw1 : IntKind.i64.wrap ((i : Int) + 1) = (i : Int) + 1 := by rw [IntKind.wrap_i64]; omega
 have hw2 : IntKind.i64.wrap ((l.length : Int) + 1) = (l.length : Int) + 1 := by rw [IntKind.wrap_i64]; omega
 have hw3 : IntKind.i64.wrap ((l.length : Int) + 1 - (i : Int)) = (l.length : Int) + 1 - (i : Int) := by rw [IntKind.wrap_i64]; omega
 have c1 : ∀ W : World, (Instr.slice 29 (.slice (some ⟨g, 0, none⟩) l.length cap) (some (.int .i64 (i : Int))) none none).run Try.prog W = .ok (.slice (some ⟨g, i * 2, none⟩) (l.length - i) (cap - i)) W := by
  intro W
  rw [cut_from (P := Try.prog) 29 50 .i64 Try.underlying29 hi0 2 hsz0 (some ⟨g, 0, none⟩) l.length cap (i : Int) (by omega) (by omega) W, Int.toNat_natCast, if_neg (by omega), Option.map_some, Addr.add_lit, Nat.zero_add]
 have c2 := cut_to (P := Try.prog) 29 50 .i64 Try.underlying29 hi0 (some ⟨g, 0, none⟩) l.length cap (i : Int) (by omega) (by omega) (by omega)
 rw [Int.toNat_natCast] at c2
 have c3 : ∀ W : World, (Instr.slice 29 (.slice (some ⟨w.heap.size, 0, none⟩) (l.length + 1) G) (some (.int .i64 (i : Int))) none none).run Try.prog W = .ok (.slice (some ⟨w.heap.size, i * 2, none⟩) (l.length + 1 - i) (G - i)) W := by
  intro W
  rw [cut_from (P := Try.prog) 29 50 .i64 Try.underlying29 hi0 2 hsz0 (some ⟨w.heap.size, 0, none⟩) (l.length + 1) G (i : Int) (by omega) (by omega) W, Int.toNat_natCast, if_neg (by omega), Option.map_some, Addr.add_lit, Nat.zero_add]
 have c4 : ∀ W : World, (Instr.slice 29 (.slice (some ⟨w.heap.size, 0, none⟩) (l.length + 1) G) (some (.int .i64 ((i : Int) + 1))) none none).run Try.prog W = .ok (.slice (some ⟨w.heap.size, (i + 1) * 2, none⟩) (l.length - i) (G - (i + 1))) W := by
  intro W
  rw [show ((i : Int) + 1) = ((i + 1 : Nat) : Int) by omega, cut_from (P := Try.prog) 29 50 .i64 Try.underlying29 hi0 2 hsz0 (some ⟨w.heap.size, 0, none⟩) (l.length + 1) G ((i + 1 : Nat) : Int) (by omega) (by omega) W, Int.toNat_natCast, if_neg (by omega), Option.map_some, Addr.add_lit, Nat.zero_add, show l.length + 1 - (i + 1) = l.length - i by omega]
 have hb1 : decide ((1 : Int) = 0) = false := rfl
 have hb2 : decide ((i : Int) = (l.length : Int)) = false := by simp; omega
 have hb3 : decide ((cap : Int) < (l.length : Int) + 1) = true := by simp; omega
 have ha := hcpA W1 (fun _ => rfl) (fun _ => rfl) 3 (G - i) 1
 have hb := hcpB ((W1.setCells w.heap.size (i * 2) cs).drew) (fun _ => rfl) (fun _ => World.frozen?_setCells _ _ _ _ _) 3 (G - (i + 1)) (cap - i)
 subst hW1
 have mixed : (Try.prog).follows .mixedOrders = true := rfl
 clear hcpA hcpB hOb hOv hN hNf hcell hvs h1c h1v hkk hik hdl hil hcl
 go_enter Try.func57, Try.ntmps57
 go_wp2_with (first
  | (at_builtin; refine Lib.wpList_append_run _ rfl _ _ _ _ rfl _ _ rfl rfl _ _ hrz ?_)
  | (at_builtin; refine wpList_copy_runI _ rfl _ _ 29 28 rfl _ _ rfl rfl ha ?_))
 go_region_law_o (refine step_copy_runI rfl _ _ 29 29 rfl (.slice (some ⟨w.heap.size, (i + 1) * 2, none⟩) (l.length - i) (G - (i + 1))) (.slice (some ⟨g, i * 2, none⟩) (l.length - i) (cap - i)) (by simp [Act.eval, Act.put]) (by simp [Act.eval, Act.put]) hb ?_)
 go_wp2
 go_ret
 exact ⟨_, rfl, HR.out.1, HR.out.2⟩
set_option maxHeartbeats 4000000 in
set_option maxRecDepth 100000 in
theorem mats_insert_end (w : World) (base : Nat) (ok okp : Nat → Prop) (A : Option Addr) (cap : Nat) (l : List RW) (x : RW) (cs : List Value) (vb : Nat) (tv : TypeId)
  (hbase : base ≤ w.heap.size) (hfresh : ∀ k, w.heap.size ≤ k → ok k) (ho : Kd.R kRW 50 w base ok (.slice A l.length cap) l)
  (hx : Kd.M kRW w base okp x cs) (hokp : ∀ k, okp k → ok k ∧ some k ≠ (Value.slice A l.length cap).ownBlock) (hv : w.heap[vb]? = some (.cells cs.toArray tv (0, 0))) (hbig : (l.length + 1) * 40 ≤ 140737488355328) :
  Calls Try.prog 57 #[.slice A l.length cap, .int .i64 (l.length : Int), .slice (some ⟨vb, 0, none⟩) 1 1] w fun e w' => ∃ v' : Value, e = .returned v' ∧ Kd.R kRW 50 w' base ok v' (l ++ [x]) ∧ Below base w w' ∧ w.grownBy w' (Value.slice A l.length cap).ownBlock := by
 obtain ⟨i0, hi0, hz0, hsz0, hby0⟩ := info_parts info50
 have hcl : cs.length = 2 := (Kd.K_len kRW (Kd.K_of_M kRW hx))
 obtain ⟨v1, w1, hrun, hR1, hg1⟩ := R_append_one_run (P := Try.prog) kRW 29 28 29 50 50 i0 _ 40 Try.underlying29 Try.underlying28 hi0 hz0 hsz0 hby0 rfl (by decide) (by decide) ho hx hokp hfresh (a := ⟨vb, 0, none⟩) (fun j u hj => by rw [Addr.add_lit, Nat.zero_add, blk_cell hv]; simpa using hj) 1 hbase hbig
 have hB : Below base w w1 := (Below.refl base w).grown hg1 hbase (Kd.R_base ho)
 obtain ⟨cc, hcut⟩ : ∃ cc : Option Addr, ∀ W : World, (Instr.slice 29 (.slice A l.length cap) (some (.int .i64 (l.length : Int))) none none).run Try.prog W = .ok (.slice cc (l.length - l.length) (cap - l.length)) W := by
  exact ⟨_, cut_from (P := Try.prog) 29 50 .i64 Try.underlying29 hi0 2 hsz0 A l.length cap (l.length : Int) (by omega) (by omega)⟩
 rw [Nat.sub_self] at hcut
 have hb1 : decide ((1 : Int) = 0) = false := rfl
 have HR := Aside0.mk hR1
 have HB := Aside0.mk hB
 have HG := Aside0.mk hg1
 have HN := Aside0.mk hrun
 clear ho hx hokp hv hcl hR1 hB hg1 hrun hz0 hi0
 go_enter Try.func57, Try.ntmps57
 go_wp2_with (at_builtin; refine Lib.wpList_append_run _ rfl _ _ _ _ rfl _ _ rfl rfl _ _ HN.out ?_)
 go_ret
 exact ⟨_, rfl, HR.out, HB.out, HG.out⟩
theorem mats_insertk (w : World) (base : Nat) (ok okp : Nat → Prop) (v : Value) (l : List RW) (i : Nat) (x : RW) (cs : List Value) (vb : Nat) (tv : TypeId)
  (ho : Kd.R kRW 50 w base ok v l) (hi : i ≤ l.length) (hbase : base ≤ w.heap.size) (hfresh : ∀ k, w.heap.size ≤ k → ok k) (hx : Kd.M kRW w base okp x cs) (hokp : ∀ k, okp k → ok k ∧ some k ≠ v.ownBlock) (hv : w.heap[vb]? = some (.cells cs.toArray tv (0, 0))) (hvb : some vb ≠ v.ownBlock) (hbig : (l.length + 1) * 40 ≤ 140737488355328) :
  Calls Try.prog 57 #[v, .int .i64 i, .slice (some ⟨vb, 0, none⟩) 1 1] w fun e w' => ∃ v' : Value, e = .returned v' ∧ Kd.R kRW 50 w' base ok v' (l.take i ++ x :: l.drop i) ∧ Below base w w' ∧ ∀ k, k < w.heap.size → some k ≠ v.ownBlock → w'.heap[k]? = w.heap[k]? := by
 by_cases he : i = l.length
 ·obtain ⟨A, c, rfl⟩ := Kd.R_slice ho
  subst he
  rw [List.take_of_length_le (Nat.le_refl _), List.drop_of_length_le (Nat.le_refl _)]
  refine (mats_insert_end w base ok okp A c l x cs vb tv hbase hfresh ho hx hokp hv hbig).mono ?_
  rintro e w' ⟨v', rfl, hR, hB, hG⟩
  exact ⟨v', rfl, hR, hB, fun k hk hne => hG.block k hk hne⟩
 ·have hlt : i < l.length := by omega
  obtain ⟨g, cap, cur, rfl, hg, hk, hh, h2, h3, h4, hp⟩ := R_open ho (fun e => by rw [e] at hlt; simp at hlt)
  have hokp' : ∀ k, okp k → ok k ∧ k ≠ g := fun k hk => ⟨(hokp k hk).1, fun e => (hokp k hk).2 (by rw [e]; rfl)⟩
  have hvb' : vb ≠ g := fun e => hvb (by rw [e]; rfl)
  by_cases hc : l.length + 1 ≤ cap
  ·refine (mats_insert_room w base ok okp g cap cur l i x cs vb tv hg hk hh hc h3 h4 hp hlt hx hokp' hv hvb').mono ?_
   rintro e w' ⟨v', rfl, hR, hG⟩
   exact ⟨v', rfl, hR, (Below.refl base w).grown hG hbase (fun k e => by injection e with e; omega), fun k hk hne => hG.block k hk hne⟩
  ·refine (mats_insert_grow w base ok okp g cap cur l i x cs vb tv hbase hfresh hh h2 (by omega) h4 hp hlt hx hokp' hv hvb' hbig).mono ?_
   rintro e w' ⟨v', rfl, hR, hG⟩
   exact ⟨v', rfl, hR, (Below.refl base w).grown hG hbase (fun k e => by cases e), fun k hk _ => hG.block k hk (by simp)⟩
theorem mats_insert (w : World) (base : Nat) (ok okp : Nat → Prop) (v : Value) (l : List RW) (i : Nat) (x : RW) (cs : List Value) (vb : Nat) (tv : TypeId)
  (ho : Kd.R kRW 50 w base ok v l) (hi : i ≤ l.length) (hbase : base ≤ w.heap.size) (hfresh : ∀ k, w.heap.size ≤ k → ok k) (hx : Kd.M kRW w base okp x cs) (hokp : ∀ k, okp k → ok k ∧ some k ≠ v.ownBlock) (hv : w.heap[vb]? = some (.cells cs.toArray tv (0, 0))) (hvb : some vb ≠ v.ownBlock) (hbig : (l.length + 1) * 40 ≤ 140737488355328) :
  Calls Try.prog 57 #[v, .int .i64 i, .slice (some ⟨vb, 0, none⟩) 1 1] w fun e w' => ∃ v' : Value, e = .returned v' ∧ Kd.R kRW 50 w' base ok v' (l.take i ++ x :: l.drop i) ∧ Below base w w' :=
 (mats_insertk w base ok okp v l i x cs vb tv ho hi hbase hfresh hx hokp hv hvb hbig).mono fun e w' h => by
  obtain ⟨v', h1, h2, h3, -⟩ := h
  exact ⟨v', h1, h2, h3⟩

theorem OWm.below {w w1 : World} {base : Nat} {v : Value} {rs : List RW} {xs : List S50} (h : OWm w base v rs xs) (hb : Below w.heap.size w w1) : OWm w1 base v rs xs := ⟨Kd.R_below h.1 hb, INs.below h.2 hb⟩
theorem OWm.reads {w : World} {base : Nat} {v : Value} {rs : List RW} {xs : List S50} (h : OWm w base v rs xs) : ∃ A c, v = .slice A xs.length c ∧ xs.length ≤ c ∧ Kd.C k50 w A xs.length xs := lead_own lead_m h.1 h.2
theorem OWm.store {w : World} {base g n c : Nat} {rs : List RW} {xs : List S50} (h : OWm w base (.slice (some ⟨g, 0, none⟩) n c) rs xs) {i : Nat} (hi : i < n) {s : ByteArray} (hs : (xs.getD i z50).f0 = s) {A2 : Option Addr} {c2 : Nat} {J : List S67} (hc2 : J.length ≤ c2) (hF : Kd.F k67 w (fun k => k ≠ g ∧ base ≤ k) A2 J.length J) :
  OWm (w.setCell ⟨g, i * 2 + 1, none⟩ (.slice A2 J.length c2)) base (.slice (some ⟨g, 0, none⟩) n c) (rs.set i ⟨s, A2, J.length, c2⟩) (xs.set i ⟨s, J⟩) := by
 obtain ⟨h1, h2⟩ := h
 have hl := F2.len h2
 have hn := (Kd.R_reads' h1).1
 obtain ⟨cc, hcl, hM, hcc, -⟩ := Kd.R_elem h1 zRW (i : Int) (by omega) (by omega)
 obtain rfl := kRW_openM hM
 have hres := Kd.R_seg (d := kRW) (W := w) (okp := fun _ => False) h1 (i : Int) (by omega) (by omega) (seg := [.slice A2 J.length c2]) (j := 1) hcl hcc (show 1 + 1 ≤ 2 by decide) (x' := ⟨s, A2, J.length, c2⟩) (by
  have he : (rs.getD (i : Int).toNat zRW).f0 = s := by rw [Int.toNat_natCast, ← hs]; exact INs.f0 h2 z50 rfl i
  rw [he]
  exact kRW_mkM _ _ _ _) (fun _ h => h.elim)
 rw [Int.toNat_natCast] at hres
 refine ⟨hres.1, F2.set (INs.step h2 (fun k hk _ => Below.heap_setCell _ _ _ _ (fun he => hk.1 (by rw [he]; simp [Value.ownBlock])))) ⟨rfl, rfl, hc2, ?_⟩⟩
 exact Kd.F_mono (Kd.F_far hF (p := ⟨g, i * 2 + 1, none⟩) (fun k hk => hk.1) _) (fun k hk => ⟨fun he => hk.1 (by simpa [Value.ownBlock] using he), hk.2⟩)
theorem OWm.view {w : World} {base b : Nat} {v : Value} {rs : List RW} {xs : List S50} (h : OWm w base v rs xs) : Kd.V k50 50 w b (fun k => base ≤ k) v xs := lead_view lead_m h.1 h.2 (fun k hk => hk.2)
def mputF (k : Nat) (l0 : List S50) (a1 : ByteArray) (l2 : List S67) : Option (List S50) :=
 if mB l0 a1 = true then (vec_Join.f k (l0.getD (mN l0 a1) z50).f1 l2).bind fun J => some (l0.set (mN l0 a1) ⟨(l0.getD (mN l0 a1) z50).f0, J⟩)
 else if rightB a1 = true ∧ 0 < l2.length then some (l0.take (mN l0 a1) ++ ⟨a1, l2⟩ :: l0.drop (mN l0 a1)) else some l0
set_option maxHeartbeats 3200000 in
set_option maxRecDepth 100000 in
theorem matrix_Put.at (k : Nat) (A0 : Option Addr) (c0 : Nat) (l0 : List S50) (a1 : ByteArray) (A2 : Option Addr) (c2 : Nat) (l2 : List S67) (res : List S50) (w : World) (hr0 : Kd.C k50 w A0 l0.length l0) (hc0 : l0.length ≤ c0) (hl : okM l0) (hr2 : Kd.C k67 w A2 l2.length l2) (hc2 : l2.length ≤ c2) (hl2 : l2.length < 1000000000) (h : mputF k l0 a1 l2 = some res) :
  Calls Try.prog 27 #[.slice A0 l0.length c0, .string a1, .slice A2 l2.length c2] w fun e w' => ∃ v0_ : Value, e = .returned (v0_) ∧ Kd.V k50 50 w' w.heap.size (fun k_ => w.heap.size ≤ k_) v0_ res ∧ Below w.heap.size w w' := by
 have HCP := Aside0.mk (matrix_copied.own A0 c0 l0 w hr0 hc0 hl)
 have HR2 := Aside0.mk hr2
 have HC2 := Aside0.mk hc2
 have HL := Aside0.mk hl
 have HL2 := Aside0.mk hl2
 have H := Aside0.mk h
 have hut := Try.underlying50
 have hlen := hl.1
 clear hr0 hc0 hl hr2 hc2 hl2 h
 go_enter Try.func27, Try.ntmps27
 go_wp2_with fail
 refine HCP.out.mono ?_
 rintro e w1 ⟨v, rs, rfl, hO, hb1⟩
 obtain ⟨A, c, hv, hcl, hCx⟩ := hO.reads
 subst hv
 have hrl : rs.length = l0.length := F2.len hO.2
 have HFD := Aside0.mk (mfind_raw A c rs l0 a1 w1 _ (by have := (Kd.R_reads' hO.1).2.2; rwa [hrl] at this) hO.2 hlen)
 have HO := Aside0.mk hO
 have HB := Aside0.mk hb1
 clear hO hb1 hcl hCx HCP
 go_wp2_with fail
 refine HFD.out.mono ?_
 rintro e w2 ⟨rfl, hb2⟩
 replace HO := Aside0.mk (HO.out.below hb2)
 replace HB := Aside0.mk (below_step HB.out hb2)
 clear hb2 HFD
 by_cases hB : mB l0 a1 = true
 ·have hlt := mN_lt hB
  have hh := H.out
  unfold mputF at hh
  rw [if_pos hB] at hh
  obtain ⟨J, hJ, hrr⟩ := Option.bind_eq_some_iff.mp hh
  replace hrr := Option.some.inj hrr
  rw [hB]
  have hxl := okM_get HL.out hlt
  obtain ⟨g, cap, ev, hg, hgl, cells, hcells⟩ := Kd.R_form HO.out.1 (by rw [hrl]; omega)
  rw [hrl] at ev
  injection ev with eA _ ec
  subst eA; subst ec
  obtain ⟨i0, i1, i2, i3⟩ := (F2.getD HO.out.2 (j := mN l0 a1) hlt zRW z50).now
  obtain ⟨ad, hA, hx0, hx1⟩ := at_RW (Kd.R_reads' HO.out.1).2.2 (mN l0 a1 : Int) (by omega) (by omega)
  injection hA with hA
  subst hA
  have hrd : rd_RW rs (mN l0 a1 : Int) = rs.getD (mN l0 a1) zRW := by unfold rd_RW; rw [Int.toNat_natCast]
  rw [hrd] at hx0 hx1
  simp only [Int.toNat_natCast, Addr.add_lit, Nat.zero_add] at hx0 hx1
  clear hrd hx0 hh H
  generalize hr : rs.getD (mN l0 a1) zRW = r at hx1 i0 i1 i2 i3
  generalize hx : l0.getD (mN l0 a1) z50 = x at i0 i1 i2 i3 hxl hJ hrr
  generalize hi : mN l0 a1 = i at *
  obtain ⟨s0, rA, rn, rc⟩ := r
  dsimp only at i0 i1 i2 i3 hx1
  subst i0; subst i1
  have HRR := Aside0.mk hrr
  have HK := Aside0.mk (fun W (hW : Below w2.heap.size w2 W) => vec_Join.calls k rA rc x.f1 A2 c2 l2 J W (Kd.C_below i3 hW) i2 (Kd.C_below HR2.out (below_step HB.out hW)) HC2.out hJ)
  have HGL := Aside0.mk hgl
  have HG := Aside0.mk hg
  have HX := Aside0.mk hx
  have HCE := Aside0.mk (show ∃ cells : Array Value, w2.heap[g]? = some (.cells cells 50 (0, 0)) from ⟨cells, hcells⟩)
  have pm := eq_true (show (0 : Int) ≤ (i : Int) by omega)
  have qm := eq_true (show (i : Int) < (l0.length : Int) by omega)
  have hz1 : w2.frozen? ⟨g, i * 2 + 1, none⟩ = false := blk_frozen hcells _
  clear hr hx i2 i3 hxl hcells cells hg hgl hJ hi hB hrr
  go_wp2_with fail
  refine (HK.out w2 (Below.refl _ _)).mono ?_
  rintro e w3 ⟨v3, rfl, ho3, hb3⟩
  obtain ⟨A3, c3, rfl⟩ := Kd.R_slice ho3
  obtain ⟨cells, hcells⟩ := HCE.out
  have hz1' : w3.frozen? ⟨g, i * 2 + 1, none⟩ = false := blk_frozen (blk_below hcells hb3) _
  have hx1' : w3.cell? ⟨g, i * 2 + 1, none⟩ = some (.slice rA x.f1.length rc) := (hb3.cell HGL.out).trans hx1
  clear hx1 hz1
  have hF : Kd.F k67 w3 (fun k => k ≠ g ∧ w.heap.size ≤ k) A3 J.length J := Kd.F_mono (Kd.R_F (Kd.R_bound ho3)) (fun k hk => by have := hk.2.1; have := HGL.out; have := below_size HB.out; omega)
  have HO3 := Aside0.mk ((HO.out.below hb3).store (i := i) hlt (s := x.f0) (by rw [HX.out]) (Kd.R_reads' ho3).2.1 hF)
  have HB3 := Aside0.mk (show Below w.heap.size w (w3.setCell ⟨g, i * 2 + 1, none⟩ (.slice A3 J.length c3)) from below_set (below_step HB.out hb3) HG.out)
  clear hF hcells cells HCE ho3 hb3 HK
  go_wp2_with fail
  go_ret
  have hv4 := HO3.out.view (b := w.heap.size)
  rw [HRR.out] at hv4
  have hl4 := congrArg List.length HRR.out
  rw [List.length_set] at hl4
  exact ⟨_, rfl, hv4, HB3.out⟩
 ·have hh := H.out
  unfold mputF at hh
  rw [if_neg hB] at hh
  have hB' : mB l0 a1 = false := by simpa using hB
  rw [hB']
  have HH := Aside0.mk hh
  clear hh hB hB' H
  have HLE := Aside0.mk (mN_le l0 a1)
  generalize mN l0 a1 = i at *
  go_wp2_with fail
  refine (id_Right.calls a1 (rightB a1) w2 rfl).mono ?_
  rintro e w3 ⟨rfl, hb3⟩
  replace HO := Aside0.mk (HO.out.below hb3)
  replace HB := Aside0.mk (below_then HB.out HB.out.size hb3)
  clear hb3
  by_cases hR : rightB a1 = true ∧ 0 < l2.length
  ·have hh := HH.out
   rw [if_pos hR] at hh
   obtain rfl := Option.some.inj hh
   clear hh HH
   obtain ⟨hR1, hR2⟩ := hR
   rw [hR1]
   have hpos : decide (0 < l2.length) = true := decide_eq_true hR2
   have hpos2 := eq_true hR2
   clear hR1 hR2
   go_wp2_with fail
   refine (vclone A2 c2 l2 w3 (Kd.C_below HR2.out HB.out) HC2.out HL2.out).mono ?_
   rintro e w4 ⟨v4, rfl, ho4, hb4⟩
   obtain ⟨A4, c4, rfl⟩ := Kd.R_slice ho4
   have HVL := Aside0.mk (Kd.R_lt HO.out.1)
   have HSZ := Aside0.mk (below_size HB.out)
   replace HO := Aside0.mk (HO.out.below hb4)
   replace HB := Aside0.mk (below_step HB.out hb4)
   have HLQ := Aside0.mk (Kd.R_reads' ho4).2.1
   have HF4 := Aside0.mk (Kd.F_mono (Kd.R_F (Kd.R_bound ho4)) (ok' := fun k => (some k ≠ (Value.slice A l0.length c).ownBlock ∧ w.heap.size ≤ k) ∧ k < w4.heap.size) (fun k hk => ⟨⟨fun he => by have := HVL.out k he.symm; have := hk.2.1; omega, by have := hk.2.1; have := HSZ.out; omega⟩, hk.2.2.1⟩))
   clear ho4 hb4
   go_wp2_with fail
   refine (mats_insertk _ w.heap.size (fun k => some k = (Value.slice A l0.length c).ownBlock ∨ w4.heap.size ≤ k) (fun _ => False) (.slice A l0.length c) rs i ⟨a1, A4, l2.length, c4⟩ [.string a1, .slice A4 l2.length c4] w4.heap.size _ (Kd.R_below (Kd.R_reok rfl HO.out.1 (fun k hk => Or.inl hk.symm)) (below_alloc (Below.refl _ _) _)) (by have := HLE.out; omega) ?_ (fun k hk => Or.inr (by simp at hk; omega)) (kRW_mkM _ _ _ ⟨a1, A4, l2.length, c4⟩) (fun _ h => h.elim) (blk_new w4 _) ?_ (by have := HL.out.1; omega)).mono ?_
   ·exact Nat.le_trans (below_size HB.out) (by simp)
   ·intro e; have := Kd.R_lt HO.out.1 _ e.symm; omega
   rintro e w5 ⟨v5, rfl, hR5, hB5, hK5⟩
   have hI5 : INs k67 S50.f0 S50.f1 w5 (fun k => (some k ≠ (Value.slice A l0.length c).ownBlock ∧ w.heap.size ≤ k) ∧ k < w4.heap.size) (rs.take i ++ ⟨a1, A4, l2.length, c4⟩ :: rs.drop i) (l0.take i ++ ⟨a1, l2⟩ :: l0.drop i) := by
    have h1 := INs.step (INs.below (INs.bound HO.out.2) (below_alloc (Below.refl _ _) _)) (fun k hk hlt => hK5 k hlt hk.1.1)
    refine F2.append (F2.take h1 i) ⟨⟨rfl, rfl, HLQ.out, ?_⟩, F2.drop h1 i⟩
    exact Kd.F_step (Kd.F_alloc HF4.out _) (fun k hk hlt => hK5 k hlt hk.1.1)
   have HR5 := Aside0.mk (lead_view (b := w.heap.size) lead_m hR5 hI5 (fun k hk => hk.1.2))
   have HB5 := Aside0.mk ((below_alloc HB.out _).trans hB5)
   clear hR5 hI5 hB5 hK5
   go_wp2_with fail
   go_ret
   exact ⟨_, rfl, HR5.out, HB5.out⟩
  ·have hh := HH.out
   rw [if_neg hR] at hh
   obtain rfl := Option.some.inj hh
   clear hh HH
   by_cases hR1 : rightB a1 = true
   ·have hz : l2.length = 0 := Nat.eq_zero_of_not_pos (fun h => hR ⟨hR1, h⟩)
    rw [hR1]
    have hpos : decide (0 < l2.length) = false := decide_eq_false (by omega)
    have hpos2 := eq_false (show ¬ 0 < l2.length by omega)
    clear hR1 hR hz
    go_wp2_with fail
    go_ret
    exact ⟨_, rfl, HO.out.view, HB.out⟩
   ·have hR2 : rightB a1 = false := by simpa using hR1
    rw [hR2]
    clear hR1 hR2 hR
    go_wp2_with fail
    go_ret
    exact ⟨_, rfl, HO.out.view, HB.out⟩
def matrix_Put.f (k : Nat) (l0 : List S50) (a1 : ByteArray) (l2 : List S67) : Option (List S50) := if okM l0 ∧ l2.length < 1000000000 then mputF k l0 a1 l2 else none
theorem matrix_Put.mono : ∀ a0 a1 a2 k, LeO (matrix_Put.f k a0 a1 a2) (matrix_Put.f (k + 1) a0 a1 a2) := by
 intro a0 a1 a2 k
 unfold matrix_Put.f mputF
 exact LeO.ite (LeO.ite (LeO.bind (vec_Join.mono _ _ _) (fun _ => LeO.refl _)) (LeO.refl _)) (LeO.refl _)
theorem matrix_Put.calls (k : Nat) (A0 : Option Addr) (c0 : Nat) (l0 : List S50) (a1 : ByteArray) (A2 : Option Addr) (c2 : Nat) (l2 : List S67) (r : List S50) (w : World) (hr0 : Kd.C k50 w A0 l0.length l0) (hc0 : l0.length ≤ c0) (hr2 : Kd.C k67 w A2 l2.length l2) (hc2 : l2.length ≤ c2) (h : matrix_Put.f k l0 a1 l2 = some r) :
  Calls Try.prog 27 #[.slice A0 l0.length c0, .string a1, .slice A2 l2.length c2] w fun e w' => ∃ v0_ : Value, e = .returned (v0_) ∧ Kd.V k50 50 w' w.heap.size (fun k_ => w.heap.size ≤ k_) v0_ r ∧ Below w.heap.size w w' := by
 unfold matrix_Put.f at h
 by_cases hc : okM l0 ∧ l2.length < 1000000000
 ·rw [if_pos hc] at h
  exact matrix_Put.at k A0 c0 l0 a1 A2 c2 l2 r w hr0 hc0 hc.1 hr2 hc2 hc.2 h
 ·rw [if_neg hc] at h; cases h

/-! ### cenotaphlaw10_told: function 8 -/
theorem zq8_0 {p_ : Prop} (h_ : p_ := by repeat (first | (with_reducible exact HR155_1.out) | (with_reducible refine Kd.C_alloc ?_ _) | (with_reducible refine Kd.C_drewN ?_ _) | (with_reducible refine Kd.C_drew ?_) | exact HR155_1.out)) : p_ := h_
theorem zq8_1 {p_ : Prop} (h_ : p_ := by (try simp only [List.map_toArray, List.map_cons, List.map_nil]); first | done | rfl | (simp only [List.length_drop, List.length_take]; rfl)) : p_ := h_
theorem zq8_2 {p_ : Prop} (h_ : p_ := by repeat (first | (with_reducible first | exact HB.out | apply below_alloc | apply pw_below_drewN | apply below_drew1) | exact HB.out)) : p_ := h_
theorem zq8_3 {p_ : Prop} (h_ : p_ := by (with_reducible repeat (first | apply Kd.V_alloc | apply Kd.V_drewN | apply Kd.V_drew)); exact HL155_1.out) : p_ := h_
theorem zq8_4 {p_ : Prop} (h_ : p_ := by (with_reducible repeat (first | apply Kd.R_alloc | apply Kd.R_drewN | apply Kd.R_drew)); exact HO139.out) : p_ := h_
theorem zq8_5 {p_ : Prop} (h_ : p_ := by (with_reducible repeat (first | apply Kd.R_alloc | apply Kd.R_drewN | apply Kd.R_drew)); exact HO142.out) : p_ := h_
theorem zq8_6 {p_ : Prop} (h_ : p_ := by (with_reducible repeat (first | apply Kd.V_alloc | apply Kd.V_drewN | apply Kd.V_drew)); exact HO145.out) : p_ := h_
theorem zq8_7 {p_ : Prop} (h_ : p_ := by (with_reducible repeat (first | apply Kd.V_alloc | apply Kd.V_drewN | apply Kd.V_drew)); exact HO148.out) : p_ := h_
theorem zq8_8 {p_ : Prop} (h_ : p_ := by (with_reducible repeat (first | apply Kd.R_alloc | apply Kd.R_drewN | apply Kd.R_drew)); exact HO151.out) : p_ := h_
theorem zq8_9 {p_ : Prop} (h_ : p_ := by (with_reducible repeat (first | apply Kd.V_alloc | apply Kd.V_drewN | apply Kd.V_drew)); exact HO154.out) : p_ := h_
theorem zq8_10 {p_ : Prop} (h_ : p_ := by (with_reducible repeat (first | apply Kd.R_alloc | apply Kd.R_drewN | apply Kd.R_drew)); exact HO159.out) : p_ := h_
theorem zq8_11 {p_ : Prop} (h_ : p_ := by first | (with_reducible assumption) | assumption) : p_ := h_
def cenotaphlaw10_told.f (k : Nat)  : Option (Bool) := (some (([(⟨(⟨#[48]⟩ : ByteArray), 3⟩ : S67), (⟨(⟨#[48, 49]⟩ : ByteArray), 2⟩ : S67)] : List (S67)) : List (S67))).bind fun y137 => ((matrix_Put.f k ([] : List (S50)) (⟨#[48, 49]⟩ : ByteArray) (([(⟨(⟨#[48]⟩ : ByteArray), 1⟩ : S67)] : List (S67)))).bind fun t143 => ((matrix_Put.f k t143 (⟨#[48]⟩ : ByteArray) y137).bind fun t146 => ((matrix_Stable.f k t146 (([(⟨#[48]⟩ : ByteArray), (⟨#[48, 49]⟩ : ByteArray)] : List ByteArray))).bind fun t152 => (if (t146.length : Int) = 2 then (if 0 < (t146.length : Int) then (if ((rd_T50 t146 0).f0).toList = ([48] : List UInt8) then (if (t152.length : Int) = 1 then (if 0 < (t152.length : Int) then (if ((rd_T67 t152 0).f1) = 1 then ((matrix_Stable.f k t146 (([(⟨#[48]⟩ : ByteArray), (⟨#[48, 50]⟩ : ByteArray)] : List ByteArray))).bind fun t160 => (if (t160.length : Int) = 0 then ((matrix_Right.f k t146).bind fun t163 => (if t163 = true then ((matrix_Of.f t146 (⟨#[48]⟩ : ByteArray)).bind fun t164 => ((vec_Same.f k t164 y137).bind fun t167 => (some t167))) else (none))) else (none))) else (none)) else (none)) else (none)) else (none)) else (none)) else (none)))))
theorem cenotaphlaw10_told.mono : ∀ k, LeO (cenotaphlaw10_told.f k ) (cenotaphlaw10_told.f (k + 1) ) := by
 intro  k
 unfold cenotaphlaw10_told.f
 repeat' first
   | (with_reducible exact matrix_Put.mono _ _ _ _)
   | (with_reducible exact matrix_Right.mono _ _)
   | (with_reducible exact matrix_Stable.mono _ _ _)
   | (with_reducible exact vec_Same.mono _ _ _)
   | (with_reducible exact LeO.refl _)
   | (with_reducible exact LeO.none _)
   | (with_reducible refine LeO.ite ?_ ?_)
   | (with_reducible refine LeO.bind ?_ (fun _ => ?_))
   | exact matrix_Put.mono _ _ _ _
   | exact matrix_Right.mono _ _
   | exact matrix_Stable.mono _ _ _
   | exact vec_Same.mono _ _ _
   | exact LeO.none _
   | refine LeO.ite ?_ ?_
   | refine LeO.bind ?_ (fun _ => ?_)
set_option maxHeartbeats 8000000 in
set_option maxRecDepth 100000 in
theorem cenotaphlaw10_told.calls (k : Nat)  (r : Bool) (w : World) (h : cenotaphlaw10_told.f k  = some r) :
  Calls Try.prog 8 #[] w fun e w' => e = .returned (.bool r) ∧ Below w.heap.size w w' := by
 have hu67 := Try.underlying67
 have HB := Aside0.mk (Below.refl w.heap.size w)
 have H := h
 unfold cenotaphlaw10_told.f at H
 clear h
 obtain ⟨y137, hy137⟩ : ∃ y_ : List (S67), y_ = (([(⟨(⟨#[48]⟩ : ByteArray), 3⟩ : S67), (⟨(⟨#[48, 49]⟩ : ByteArray), 2⟩ : S67)] : List (S67))) := ⟨_, rfl⟩
 replace H : ((matrix_Put.f k ([] : List (S50)) (⟨#[48, 49]⟩ : ByteArray) (([(⟨(⟨#[48]⟩ : ByteArray), 1⟩ : S67)] : List (S67)))).bind fun t143 => ((matrix_Put.f k t143 (⟨#[48]⟩ : ByteArray) y137).bind fun t146 => ((matrix_Stable.f k t146 (([(⟨#[48]⟩ : ByteArray), (⟨#[48, 49]⟩ : ByteArray)] : List ByteArray))).bind fun t152 => (if (t146.length : Int) = 2 then (if 0 < (t146.length : Int) then (if ((rd_T50 t146 0).f0).toList = ([48] : List UInt8) then (if (t152.length : Int) = 1 then (if 0 < (t152.length : Int) then (if ((rd_T67 t152 0).f1) = 1 then ((matrix_Stable.f k t146 (([(⟨#[48]⟩ : ByteArray), (⟨#[48, 50]⟩ : ByteArray)] : List ByteArray))).bind fun t160 => (if (t160.length : Int) = 0 then ((matrix_Right.f k t146).bind fun t163 => (if t163 = true then ((matrix_Of.f t146 (⟨#[48]⟩ : ByteArray)).bind fun t164 => ((vec_Same.f k t164 y137).bind fun t167 => (some t167))) else (none))) else (none))) else (none)) else (none)) else (none)) else (none)) else (none)) else (none))))) = some r := by first | (rw [hy137]; with_reducible exact H) | (have H2_ := (Option.bind_some _ _).symm.trans H; rw [hy137]; with_reducible exact H2_) | (have H2_ := (Option.bind_some _ _).symm.trans H; with_reducible exact H2_) | with_reducible exact H | (rw [hy137]; exact H) | exact H
 have Ny137 := Aside0.mk hy137
 clear hy137
 obtain ⟨y140, hy140⟩ : ∃ y_ : List (S67), y_ = (([(⟨(⟨#[48]⟩ : ByteArray), 1⟩ : S67)] : List (S67))) := ⟨_, rfl⟩
 replace H : ((matrix_Put.f k ([] : List (S50)) (⟨#[48, 49]⟩ : ByteArray) y140).bind fun t143 => ((matrix_Put.f k t143 (⟨#[48]⟩ : ByteArray) y137).bind fun t146 => ((matrix_Stable.f k t146 (([(⟨#[48]⟩ : ByteArray), (⟨#[48, 49]⟩ : ByteArray)] : List ByteArray))).bind fun t152 => (if (t146.length : Int) = 2 then (if 0 < (t146.length : Int) then (if ((rd_T50 t146 0).f0).toList = ([48] : List UInt8) then (if (t152.length : Int) = 1 then (if 0 < (t152.length : Int) then (if ((rd_T67 t152 0).f1) = 1 then ((matrix_Stable.f k t146 (([(⟨#[48]⟩ : ByteArray), (⟨#[48, 50]⟩ : ByteArray)] : List ByteArray))).bind fun t160 => (if (t160.length : Int) = 0 then ((matrix_Right.f k t146).bind fun t163 => (if t163 = true then ((matrix_Of.f t146 (⟨#[48]⟩ : ByteArray)).bind fun t164 => ((vec_Same.f k t164 y137).bind fun t167 => (some t167))) else (none))) else (none))) else (none)) else (none)) else (none)) else (none)) else (none)) else (none))))) = some r := by first | (rw [hy140]; with_reducible exact H) | (have H2_ := (Option.bind_some _ _).symm.trans H; rw [hy140]; with_reducible exact H2_) | (have H2_ := (Option.bind_some _ _).symm.trans H; with_reducible exact H2_) | with_reducible exact H | (rw [hy140]; exact H) | exact H
 have Ny140 := Aside0.mk hy140
 clear hy140
 replace H := Option.bind_eq_some_iff.mp H
 obtain ⟨t143, A10, H⟩ := H
 have A1 := Aside0.mk A10
 clear A10
 replace H := Option.bind_eq_some_iff.mp H
 obtain ⟨t146, A20, H⟩ := H
 have A2 := Aside0.mk A20
 clear A20
 obtain ⟨y149, hy149⟩ : ∃ y_ : List ByteArray, y_ = (([(⟨#[48]⟩ : ByteArray), (⟨#[48, 49]⟩ : ByteArray)] : List ByteArray)) := ⟨_, rfl⟩
 replace H : ((matrix_Stable.f k t146 y149).bind fun t152 => (if (t146.length : Int) = 2 then (if 0 < (t146.length : Int) then (if ((rd_T50 t146 0).f0).toList = ([48] : List UInt8) then (if (t152.length : Int) = 1 then (if 0 < (t152.length : Int) then (if ((rd_T67 t152 0).f1) = 1 then ((matrix_Stable.f k t146 (([(⟨#[48]⟩ : ByteArray), (⟨#[48, 50]⟩ : ByteArray)] : List ByteArray))).bind fun t160 => (if (t160.length : Int) = 0 then ((matrix_Right.f k t146).bind fun t163 => (if t163 = true then ((matrix_Of.f t146 (⟨#[48]⟩ : ByteArray)).bind fun t164 => ((vec_Same.f k t164 y137).bind fun t167 => (some t167))) else (none))) else (none))) else (none)) else (none)) else (none)) else (none)) else (none)) else (none))) = some r := by first | (rw [hy149]; with_reducible exact H) | (have H2_ := (Option.bind_some _ _).symm.trans H; rw [hy149]; with_reducible exact H2_) | (have H2_ := (Option.bind_some _ _).symm.trans H; with_reducible exact H2_) | with_reducible exact H | (rw [hy149]; exact H) | exact H
 have Ny149 := Aside0.mk hy149
 clear hy149
 replace H := Option.bind_eq_some_iff.mp H
 obtain ⟨t152, A30, H⟩ := H
 have A3 := Aside0.mk A30
 clear A30
 by_cases c4 : (t146.length : Int) = 2
 ·rw [if_pos c4] at H
  have c4b0 : ((t146.length : Int) == 2) = true := beq_iff_eq.mpr c4
  have c4b1 : ((t146.length : Int) != 2) = false := bne_eq_false_iff_eq.mpr c4
  clear c4
  by_cases c5 : 0 < (t146.length : Int)
  ·rw [if_pos c5] at H
   have c5b0 : decide (0 < (t146.length : Int)) = true := decide_eq_true c5
   have c5b1 : decide (0 < t146.length) = true := decide_eq_true (by omega)
   clear c5
   by_cases c6 : ((rd_T50 t146 0).f0).toList = ([48] : List UInt8)
   ·rw [if_pos c6] at H
    have c6b0 : (((rd_T50 t146 0).f0).toList == ([48] : List UInt8)) = true := beq_iff_eq.mpr c6
    have c6b1 : (((rd_T50 t146 0).f0).toList != ([48] : List UInt8)) = false := bne_eq_false_iff_eq.mpr c6
    clear c6
    by_cases c7 : (t152.length : Int) = 1
    ·rw [if_pos c7] at H
     have c7b0 : ((t152.length : Int) == 1) = true := beq_iff_eq.mpr c7
     have c7b1 : ((t152.length : Int) != 1) = false := bne_eq_false_iff_eq.mpr c7
     clear c7
     by_cases c8 : 0 < (t152.length : Int)
     ·rw [if_pos c8] at H
      have c8b0 : decide (0 < (t152.length : Int)) = true := decide_eq_true c8
      have c8b1 : decide (0 < t152.length) = true := decide_eq_true (by omega)
      clear c8
      by_cases c9 : ((rd_T67 t152 0).f1) = 1
      ·rw [if_pos c9] at H
       have c9b0 : (((rd_T67 t152 0).f1) == 1) = true := beq_iff_eq.mpr c9
       have c9b1 : (((rd_T67 t152 0).f1) != 1) = false := bne_eq_false_iff_eq.mpr c9
       clear c9
       obtain ⟨y157, hy157⟩ : ∃ y_ : List ByteArray, y_ = (([(⟨#[48]⟩ : ByteArray), (⟨#[48, 50]⟩ : ByteArray)] : List ByteArray)) := ⟨_, rfl⟩
       replace H : ((matrix_Stable.f k t146 y157).bind fun t160 => (if (t160.length : Int) = 0 then ((matrix_Right.f k t146).bind fun t163 => (if t163 = true then ((matrix_Of.f t146 (⟨#[48]⟩ : ByteArray)).bind fun t164 => ((vec_Same.f k t164 y137).bind fun t167 => (some t167))) else (none))) else (none))) = some r := by first | (rw [hy157]; with_reducible exact H) | (have H2_ := (Option.bind_some _ _).symm.trans H; rw [hy157]; with_reducible exact H2_) | (have H2_ := (Option.bind_some _ _).symm.trans H; with_reducible exact H2_) | with_reducible exact H | (rw [hy157]; exact H) | exact H
       have Ny157 := Aside0.mk hy157
       clear hy157
       replace H := Option.bind_eq_some_iff.mp H
       obtain ⟨t160, A100, H⟩ := H
       have A10 := Aside0.mk A100
       clear A100
       by_cases c11 : (t160.length : Int) = 0
       ·rw [if_pos c11] at H
        have c11b0 : ((t160.length : Int) == 0) = true := beq_iff_eq.mpr c11
        have c11b1 : ((t160.length : Int) != 0) = false := bne_eq_false_iff_eq.mpr c11
        clear c11
        replace H := Option.bind_eq_some_iff.mp H
        obtain ⟨t163, A120, H⟩ := H
        have A12 := Aside0.mk A120
        clear A120
        by_cases c13 : t163 = true
        ·subst c13
         have H1 : ((matrix_Of.f t146 (⟨#[48]⟩ : ByteArray)).bind fun t164 => ((vec_Same.f k t164 y137).bind fun t167 => (some t167))) = some r := by rw [if_pos rfl] at H; exact H
         clear H
         have H := H1
         clear H1
         replace H := Option.bind_eq_some_iff.mp H
         obtain ⟨t164, A140, H⟩ := H
         have A14 := Aside0.mk A140
         clear A140
         replace H := Option.bind_eq_some_iff.mp H
         obtain ⟨t167, A150, H⟩ := H
         have A15 := Aside0.mk A150
         clear A150
         obtain rfl := Option.some.inj H
         go_enter Try.func8, Try.ntmps8
         go_wp2_with (first | ((with_reducible refine gate_dst (N := 6) rfl ?_); (try (refine gate_guard (by rfl) ?_; dsimp only)); refine Kd.R_lit k67 _ 67 ?hg (N := 6) ?hd (xs := ([(⟨(⟨#[48]⟩ : ByteArray), 3⟩ : S67), (⟨(⟨#[48, 49]⟩ : ByteArray), 2⟩ : S67)] : List (S67))) (inner := [.string (⟨#[48]⟩ : ByteArray), .int .i64 3, .string (⟨#[48, 49]⟩ : ByteArray), .int .i64 2]) (ok := fun _ => True) (okp := fun _ => True) ?hr ?hp (fun _ hk => hk) trivial (Below.refl _ _) (Nat.le_refl _) (by simp) ?_; (case hd => rfl); (case hg => rfl); (case hr => first | (go_simp; done) | (go_simp; rfl)); (case hp => exact (Reps.c2 (show Kd.M k67 _ _ _ (⟨(⟨#[48]⟩ : ByteArray), 3⟩ : S67) [.string (⟨#[48]⟩ : ByteArray), .int .i64 3] from (k67_mkM _ _ _ (⟨(⟨#[48]⟩ : ByteArray), 3⟩ : S67) )) (Reps.c2 (show Kd.M k67 _ _ _ (⟨(⟨#[48, 49]⟩ : ByteArray), 2⟩ : S67) [.string (⟨#[48, 49]⟩ : ByteArray), .int .i64 2] from (k67_mkM _ _ _ (⟨(⟨#[48, 49]⟩ : ByteArray), 2⟩ : S67) )) (Reps.none _ _)))); intro v138 w16 ho17 hb hg_ hnew_; clear hg_ hnew_; (first | rw [← Ny137.out] at ho17 | (simp only [Int.reduceToNat] at ho17; rw [← Ny137.out] at ho17)); have HO139 := Aside0.mk (Kd.R_lower ho17 (below_size zq8_2)); replace HB := Aside0.mk (below_step zq8_2 hb); clear hb ho17) | ((with_reducible refine gate_dst (N := 8) rfl ?_); (try (refine gate_guard (by rfl) ?_; dsimp only)); refine Kd.R_lit k67 _ 67 ?hg (N := 8) ?hd (xs := ([(⟨(⟨#[48]⟩ : ByteArray), 1⟩ : S67)] : List (S67))) (inner := [.string (⟨#[48]⟩ : ByteArray), .int .i64 1]) (ok := fun _ => True) (okp := fun _ => True) ?hr ?hp (fun _ hk => hk) trivial (Below.refl _ _) (Nat.le_refl _) (by simp) ?_; (case hd => rfl); (case hg => rfl); (case hr => first | (go_simp; done) | (go_simp; rfl)); (case hp => exact (Reps.c2 (show Kd.M k67 _ _ _ (⟨(⟨#[48]⟩ : ByteArray), 1⟩ : S67) [.string (⟨#[48]⟩ : ByteArray), .int .i64 1] from (k67_mkM _ _ _ (⟨(⟨#[48]⟩ : ByteArray), 1⟩ : S67) )) (Reps.none _ _))); intro v141 w18 ho19 hb hg_ hnew_; clear hg_ hnew_; (first | rw [← Ny140.out] at ho19 | (simp only [Int.reduceToNat] at ho19; rw [← Ny140.out] at ho19)); have HO142 := Aside0.mk (Kd.R_lower (Kd.R_new' ho19 (Kd.R_lt zq8_4)) (below_size zq8_2)); replace HO139 := Aside0.mk (Kd.R_elder' zq8_4 (Kd.R_base ho19) hb); replace HB := Aside0.mk (below_step zq8_2 hb); clear hb ho19; obtain ⟨Ao20, co20, eo20⟩ := Kd.R_slice HO142.out; subst eo20) | ((with_reducible refine gate_callee (f := 27) rfl ?_); refine goesL_ (some 9) rfl rfl Try.func27 (by kernel_rfl) rfl #[.slice none 0 0, .string (⟨#[48, 49]⟩ : ByteArray), .slice Ao20 y140.length co20] rfl zq8_1 ?_; (refine (matrix_Put.calls k _ _ ([] : List (S50)) (⟨#[48, 49]⟩ : ByteArray) _ _ y140 t143 _ ?side1 ?side2 ?side3 ?side4 A1.out).mono ?_); (case side1 => exact Kd.C_nil _ _); (case side2 => exact Nat.le_refl _); (case side3 => repeat (first | exact (Kd.R_reads' HO142.out).2.2 | (with_reducible refine Kd.C_alloc ?_ _) | (with_reducible refine Kd.C_drewN ?_ _) | (with_reducible refine Kd.C_drew ?_))); (case side4 => exact (Kd.R_reads' HO142.out).2.1); rintro e w21 ⟨v144, rfl, ho0, hb⟩; refine ⟨_, rfl, ?_⟩; have HO145 := Aside0.mk (Kd.V_lower (Kd.V_mono (ok' := fun k_ => some k_ ≠ (v138 : Value).ownBlock ∧ some k_ ≠ (.slice Ao20 y140.length co20 : Value).ownBlock) ho0 (fun k_ hk_ => ⟨(Kd.fresh' (Kd.R_lt zq8_4) k_ hk_), (Kd.fresh' (Kd.R_lt zq8_5) k_ hk_)⟩)) (below_size zq8_2)); replace HO139 := Aside0.mk (Kd.R_below zq8_4 hb); replace HO142 := Aside0.mk (Kd.R_below zq8_5 hb); replace HB := Aside0.mk (below_step zq8_2 hb); (try clear hb); (try clear hb2); (try clear hk); (try clear hi); (try clear ho0); obtain ⟨Ao22, co22, eo22⟩ := Kd.V_slice HO145.out; subst eo22; obtain ⟨Ao23, co23, eo23⟩ := Kd.R_slice HO139.out; subst eo23) | ((with_reducible refine gate_callee (f := 27) rfl ?_); refine goesL_ (some 11) rfl rfl Try.func27 (by kernel_rfl) rfl #[.slice Ao22 t143.length co22, .string (⟨#[48]⟩ : ByteArray), .slice Ao23 y137.length co23] rfl zq8_1 ?_; (with_reducible refine (matrix_Put.calls k _ _ t143 (⟨#[48]⟩ : ByteArray) _ _ y137 t146 _ ?side1 ?side2 ?side3 ?side4 A2.out).mono ?_); (case side1 => repeat (first | exact (Kd.V_reads' HO145.out).2.2 | (with_reducible refine Kd.C_alloc ?_ _) | (with_reducible refine Kd.C_drewN ?_ _) | (with_reducible refine Kd.C_drew ?_))); (case side2 => exact (Kd.V_reads' HO145.out).2.1); (case side3 => repeat (first | exact (Kd.R_reads' HO139.out).2.2 | (with_reducible refine Kd.C_alloc ?_ _) | (with_reducible refine Kd.C_drewN ?_ _) | (with_reducible refine Kd.C_drew ?_))); (case side4 => exact (Kd.R_reads' HO139.out).2.1); rintro e w24 ⟨v147, rfl, ho0, hb⟩; refine ⟨_, rfl, ?_⟩; replace HO145 := Aside0.mk (Kd.V_below zq8_6 hb); have HO148 := Aside0.mk (Kd.V_lower (Kd.V_mono (ok' := fun k_ => some k_ ≠ (.slice Ao23 y137.length co23 : Value).ownBlock ∧ some k_ ≠ (.slice Ao20 y140.length co20 : Value).ownBlock) ho0 (fun k_ hk_ => ⟨(Kd.fresh' (Kd.R_lt zq8_4) k_ hk_), (Kd.fresh' (Kd.R_lt zq8_5) k_ hk_)⟩)) (below_size zq8_2)); replace HO139 := Aside0.mk (Kd.R_below zq8_4 hb); replace HO142 := Aside0.mk (Kd.R_below zq8_5 hb); replace HB := Aside0.mk (below_step zq8_2 hb); (try clear hb); (try clear hb2); (try clear hk); (try clear hi); (try clear ho0)) | ((with_reducible refine gate_dst (N := 13) rfl ?_); (try (refine gate_guard (by rfl) ?_; dsimp only)); refine Kd.R_lit Kd.string _ 46 ?hg (N := 13) ?hd (xs := ([(⟨#[48]⟩ : ByteArray), (⟨#[48, 49]⟩ : ByteArray)] : List ByteArray)) (inner := [.string (⟨#[48]⟩ : ByteArray), .string (⟨#[48, 49]⟩ : ByteArray)]) (ok := fun _ => True) (okp := fun _ => True) ?hr ?hp (fun _ hk => hk) trivial (Below.refl _ _) (Nat.le_refl _) (by simp) ?_; (case hd => rfl); (case hg => rfl); (case hr => first | (go_simp; done) | (go_simp; rfl)); (case hp => exact (Reps.one (show Kd.M Kd.string _ _ _ (⟨#[48]⟩ : ByteArray) [.string (⟨#[48]⟩ : ByteArray)] from rfl) (Reps.one (show Kd.M Kd.string _ _ _ (⟨#[48, 49]⟩ : ByteArray) [.string (⟨#[48, 49]⟩ : ByteArray)] from rfl) (Reps.none _ _)))); intro v150 w25 ho26 hb hg_ hnew_; clear hg_ hnew_; (first | rw [← Ny149.out] at ho26 | (simp only [Int.reduceToNat] at ho26; rw [← Ny149.out] at ho26)); replace HO139 := Aside0.mk (Kd.R_below zq8_4 hb); replace HO142 := Aside0.mk (Kd.R_below zq8_5 hb); replace HO145 := Aside0.mk (Kd.V_elder' zq8_6 (Kd.R_base ho26) hb); replace HO148 := Aside0.mk (Kd.V_elder' zq8_7 (Kd.R_base ho26) hb); have HO151 := Aside0.mk (Kd.R_lower ho26 (below_size zq8_2)); replace HB := Aside0.mk (below_step zq8_2 hb); clear hb ho26; obtain ⟨Ao27, co27, eo27⟩ := Kd.V_slice HO148.out; subst eo27; obtain ⟨Ao28, co28, eo28⟩ := Kd.R_slice HO151.out; subst eo28) | ((with_reducible refine gate_callee (f := 14) rfl ?_); refine goesL_ (some 14) rfl rfl Try.func14 (by kernel_rfl) rfl #[.slice Ao27 t146.length co27, .slice Ao28 y149.length co28] rfl zq8_1 ?_; (with_reducible refine (matrix_Stable.calls k _ _ t146 _ _ y149 t152 _ ?side1 ?side2 ?side3 ?side4 A3.out).mono ?_); (case side1 => repeat (first | exact (Kd.V_reads' HO148.out).2.2 | (with_reducible refine Kd.C_alloc ?_ _) | (with_reducible refine Kd.C_drewN ?_ _) | (with_reducible refine Kd.C_drew ?_))); (case side2 => exact (Kd.V_reads' HO148.out).2.1); (case side3 => repeat (first | exact (Kd.R_reads' HO151.out).2.2 | (with_reducible refine Kd.C_alloc ?_ _) | (with_reducible refine Kd.C_drewN ?_ _) | (with_reducible refine Kd.C_drew ?_))); (case side4 => exact (Kd.R_reads' HO151.out).2.1); rintro e w29 ⟨v153, rfl, ho0, hb⟩; refine ⟨_, rfl, ?_⟩; replace HO145 := Aside0.mk (Kd.V_below zq8_6 hb); replace HO148 := Aside0.mk (Kd.V_below zq8_7 hb); have HO154 := Aside0.mk (Kd.V_lower (Kd.V_mono (ok' := fun k_ => some k_ ≠ (.slice Ao23 y137.length co23 : Value).ownBlock ∧ some k_ ≠ (.slice Ao20 y140.length co20 : Value).ownBlock ∧ some k_ ≠ (.slice Ao28 y149.length co28 : Value).ownBlock) ho0 (fun k_ hk_ => ⟨(Kd.fresh' (Kd.R_lt zq8_4) k_ hk_), (Kd.fresh' (Kd.R_lt zq8_5) k_ hk_), (Kd.fresh' (Kd.R_lt zq8_8) k_ hk_)⟩)) (below_size zq8_2)); replace HO139 := Aside0.mk (Kd.R_below zq8_4 hb); replace HO142 := Aside0.mk (Kd.R_below zq8_5 hb); replace HO151 := Aside0.mk (Kd.R_below zq8_8 hb); replace HB := Aside0.mk (below_step zq8_2 hb); (try clear hb); (try clear hb2); (try clear hk); (try clear hi); (try clear ho0); have p155 : 0 ≤ (0 : Int) := (by omega); have q155 : 0 < (t146.length : Int) := of_decide_eq_true zq8_11; obtain ⟨ad155, A155_1, c155_1, e155, hx155_0, hx155_1, hl155_1, hi155_1⟩ := at_T50 (Kd.V_reads' HO148.out).2.2 0 p155 q155; cases e155; obtain ⟨ce155, hce155, hMe155, hcc155⟩ := Kd.V_get HO148.out z50 0 p155 (by first | exact q155 | exact of_decide_eq_true zq8_11 | (have e_ := (Kd.V_reads' HO148.out).1; omega)); obtain ⟨ua155_1, uc155_1, rfl, ul155_1, ge155_1⟩ := k50_openF hMe155; have hv155_1 := hcc155 1 _ rfl; rw [add_field _ _ 1 (by omega)] at hv155_1; replace hv155_1 := Option.some.inj (hv155_1.symm.trans hx155_1); injection hv155_1 with hva_ hvn_ hvc_; rw [hva_] at ge155_1; rw [hvc_] at ul155_1; have HL155_1 := Aside0.mk (show Kd.V k67 67 _ w.heap.size _ _ ((rd_T50 t146 0).f1) from Kd.V_mk ul155_1 ge155_1); clear hva_ hvn_ hvc_ ge155_1 ul155_1; clear hcc155 hce155; have qi155 : (0 < t146.length) = True := eq_true (by omega); (try rw [show ((0 : Int)).toNat = 0 from rfl] at hx155_0); (try rw [show 0 * 2 = 0 from rfl] at hx155_0); (try rw [Addr.add_zero'] at hx155_0); (try rw [show ((0 : Int)).toNat = 0 from rfl] at hx155_1); (try rw [show 0 * 2 = 0 from rfl] at hx155_1); (try rw [Addr.add_zero'] at hx155_1); have HR155_1 := Aside0.mk hi155_1; have HC155_1 := Aside0.mk hl155_1; clear hi155_1 hl155_1; replace p155 := eq_true p155; replace q155 := eq_true q155; obtain ⟨Ao30, co30, eo30⟩ := Kd.V_slice HO154.out; subst eo30; have p156 : 0 ≤ (0 : Int) := (by omega); have q156 : 0 < (t152.length : Int) := of_decide_eq_true zq8_11; obtain ⟨ad156, e156, hx156_0, hx156_1⟩ := at_T67 (Kd.V_reads' HO154.out).2.2 0 p156 q156; cases e156; have qi156 : (0 < t152.length) = True := eq_true (by omega); (try rw [show ((0 : Int)).toNat = 0 from rfl] at hx156_0); (try rw [show 0 * 2 = 0 from rfl] at hx156_0); (try rw [Addr.add_zero'] at hx156_0); (try rw [show ((0 : Int)).toNat = 0 from rfl] at hx156_1); (try rw [show 0 * 2 = 0 from rfl] at hx156_1); (try rw [Addr.add_zero'] at hx156_1); replace p156 := eq_true p156; replace q156 := eq_true q156) | ((with_reducible refine gate_dst (N := 39) rfl ?_); (try (refine gate_guard (by rfl) ?_; dsimp only)); refine Kd.R_lit Kd.string _ 46 ?hg (N := 39) ?hd (xs := ([(⟨#[48]⟩ : ByteArray), (⟨#[48, 50]⟩ : ByteArray)] : List ByteArray)) (inner := [.string (⟨#[48]⟩ : ByteArray), .string (⟨#[48, 50]⟩ : ByteArray)]) (ok := fun _ => True) (okp := fun _ => True) ?hr ?hp (fun _ hk => hk) trivial (Below.refl _ _) (Nat.le_refl _) (by simp) ?_; (case hd => rfl); (case hg => rfl); (case hr => first | (go_simp; done) | (go_simp; rfl)); (case hp => exact (Reps.one (show Kd.M Kd.string _ _ _ (⟨#[48]⟩ : ByteArray) [.string (⟨#[48]⟩ : ByteArray)] from rfl) (Reps.one (show Kd.M Kd.string _ _ _ (⟨#[48, 50]⟩ : ByteArray) [.string (⟨#[48, 50]⟩ : ByteArray)] from rfl) (Reps.none _ _)))); intro v158 w31 ho32 hb hg_ hnew_; clear hg_ hnew_; (first | rw [← Ny157.out] at ho32 | (simp only [Int.reduceToNat] at ho32; rw [← Ny157.out] at ho32)); replace HO139 := Aside0.mk (Kd.R_below zq8_4 hb); replace HO142 := Aside0.mk (Kd.R_below zq8_5 hb); replace HO145 := Aside0.mk (Kd.V_elder' zq8_6 (Kd.R_base ho32) hb); replace HO148 := Aside0.mk (Kd.V_elder' zq8_7 (Kd.R_base ho32) hb); replace HO154 := Aside0.mk (Kd.V_elder' zq8_9 (Kd.R_base ho32) hb); replace HL155_1 := Aside0.mk (Kd.V_elder' zq8_3 (Kd.R_base ho32) hb); have HO159 := Aside0.mk (Kd.R_lower (Kd.R_new' ho32 (Kd.R_lt zq8_8)) (below_size zq8_2)); replace HO151 := Aside0.mk (Kd.R_elder' zq8_8 (Kd.R_base ho32) hb); replace HR155_1 := Aside0.mk (Kd.C_below zq8_0 hb); replace HB := Aside0.mk (below_step zq8_2 hb); clear hb ho32; obtain ⟨Ao33, co33, eo33⟩ := Kd.R_slice HO159.out; subst eo33) | (go_at_call 14; (with_reducible refine (matrix_Stable.calls k _ _ t146 _ _ y157 t160 _ ?side1 ?side2 ?side3 ?side4 A10.out).mono ?_); (case side1 => repeat (first | exact (Kd.V_reads' HO148.out).2.2 | (with_reducible refine Kd.C_alloc ?_ _) | (with_reducible refine Kd.C_drewN ?_ _) | (with_reducible refine Kd.C_drew ?_))); (case side2 => exact (Kd.V_reads' HO148.out).2.1); (case side3 => repeat (first | exact (Kd.R_reads' HO159.out).2.2 | (with_reducible refine Kd.C_alloc ?_ _) | (with_reducible refine Kd.C_drewN ?_ _) | (with_reducible refine Kd.C_drew ?_))); (case side4 => exact (Kd.R_reads' HO159.out).2.1); rintro e w34 ⟨v161, rfl, ho0, hb⟩; replace HO145 := Aside0.mk (Kd.V_below zq8_6 hb); replace HO148 := Aside0.mk (Kd.V_below zq8_7 hb); replace HO154 := Aside0.mk (Kd.V_below zq8_9 hb); replace HL155_1 := Aside0.mk (Kd.V_below zq8_3 hb); have HO162 := Aside0.mk (Kd.V_lower (Kd.V_mono (ok' := fun k_ => some k_ ≠ (.slice Ao23 y137.length co23 : Value).ownBlock ∧ some k_ ≠ (.slice Ao20 y140.length co20 : Value).ownBlock ∧ some k_ ≠ (.slice Ao28 y149.length co28 : Value).ownBlock ∧ some k_ ≠ (.slice Ao33 y157.length co33 : Value).ownBlock) ho0 (fun k_ hk_ => ⟨(Kd.fresh' (Kd.R_lt zq8_4) k_ hk_), (Kd.fresh' (Kd.R_lt zq8_5) k_ hk_), (Kd.fresh' (Kd.R_lt zq8_8) k_ hk_), (Kd.fresh' (Kd.R_lt zq8_10) k_ hk_)⟩)) (below_size zq8_2)); replace HO139 := Aside0.mk (Kd.R_below zq8_4 hb); replace HO142 := Aside0.mk (Kd.R_below zq8_5 hb); replace HO151 := Aside0.mk (Kd.R_below zq8_8 hb); replace HO159 := Aside0.mk (Kd.R_below zq8_10 hb); replace HR155_1 := Aside0.mk (Kd.C_below zq8_0 hb); replace HB := Aside0.mk (below_step zq8_2 hb); (try clear hb); (try clear hb2); (try clear hk); (try clear hi); (try clear ho0); obtain ⟨Ao35, co35, eo35⟩ := Kd.V_slice HO162.out; subst eo35) | (go_at_call 9; (with_reducible refine (matrix_Right.calls k _ _ t146 true _ ?side1 ?side2 A12.out).mono ?_); (case side1 => repeat (first | exact (Kd.V_reads' HO148.out).2.2 | (with_reducible refine Kd.C_alloc ?_ _) | (with_reducible refine Kd.C_drewN ?_ _) | (with_reducible refine Kd.C_drew ?_))); (case side2 => exact (Kd.V_reads' HO148.out).2.1); rintro e w36 ⟨rfl, hb⟩; replace HO139 := Aside0.mk (Kd.R_below zq8_4 hb); replace HO142 := Aside0.mk (Kd.R_below zq8_5 hb); replace HO145 := Aside0.mk (Kd.V_below zq8_6 hb); replace HO148 := Aside0.mk (Kd.V_below zq8_7 hb); replace HO151 := Aside0.mk (Kd.R_below zq8_8 hb); replace HO154 := Aside0.mk (Kd.V_below zq8_9 hb); replace HL155_1 := Aside0.mk (Kd.V_below zq8_3 hb); replace HO159 := Aside0.mk (Kd.R_below zq8_10 hb); replace HO162 := Aside0.mk (Kd.V_below (by (with_reducible repeat (first | apply Kd.V_alloc | apply Kd.V_drewN | apply Kd.V_drew)); exact HO162.out) hb); replace HR155_1 := Aside0.mk (Kd.C_below zq8_0 hb); replace HB := Aside0.mk (below_step zq8_2 hb); (try clear hb); (try clear hb2); (try clear hk); (try clear hi)) | (go_at_call 21; (with_reducible refine (matrix_Of.calls _ _ t146 (⟨#[48]⟩ : ByteArray) t164 _ ?side1 ?side2 A14.out).mono ?_); (case side1 => repeat (first | exact (Kd.V_reads' HO148.out).2.2 | (with_reducible refine Kd.C_alloc ?_ _) | (with_reducible refine Kd.C_drewN ?_ _) | (with_reducible refine Kd.C_drew ?_))); (case side2 => exact (Kd.V_reads' HO148.out).2.1); rintro e w37 ⟨v165, rfl, ho0, hb⟩; replace HO145 := Aside0.mk (Kd.V_below zq8_6 hb); replace HO148 := Aside0.mk (Kd.V_below zq8_7 hb); replace HO154 := Aside0.mk (Kd.V_below zq8_9 hb); replace HL155_1 := Aside0.mk (Kd.V_below zq8_3 hb); replace HO162 := Aside0.mk (Kd.V_below (by (with_reducible repeat (first | apply Kd.V_alloc | apply Kd.V_drewN | apply Kd.V_drew)); exact HO162.out) hb); have HO166 := Aside0.mk (Kd.V_lower (Kd.V_mono (ok' := fun k_ => some k_ ≠ (.slice Ao23 y137.length co23 : Value).ownBlock ∧ some k_ ≠ (.slice Ao20 y140.length co20 : Value).ownBlock ∧ some k_ ≠ (.slice Ao28 y149.length co28 : Value).ownBlock ∧ some k_ ≠ (.slice Ao33 y157.length co33 : Value).ownBlock) ho0 (fun k_ hk_ => ⟨(Kd.fresh' (Kd.R_lt zq8_4) k_ hk_), (Kd.fresh' (Kd.R_lt zq8_5) k_ hk_), (Kd.fresh' (Kd.R_lt zq8_8) k_ hk_), (Kd.fresh' (Kd.R_lt zq8_10) k_ hk_)⟩)) (below_size zq8_2)); replace HO139 := Aside0.mk (Kd.R_below zq8_4 hb); replace HO142 := Aside0.mk (Kd.R_below zq8_5 hb); replace HO151 := Aside0.mk (Kd.R_below zq8_8 hb); replace HO159 := Aside0.mk (Kd.R_below zq8_10 hb); replace HR155_1 := Aside0.mk (Kd.C_below zq8_0 hb); replace HB := Aside0.mk (below_step zq8_2 hb); (try clear hb); (try clear hb2); (try clear hk); (try clear hi); (try clear ho0); obtain ⟨Ao38, co38, eo38⟩ := Kd.V_slice HO166.out; subst eo38) | (go_at_call 23; (with_reducible refine (vec_Same.calls k _ _ t164 _ _ y137 t167 _ ?side1 ?side2 ?side3 ?side4 A15.out).mono ?_); (case side1 => repeat (first | exact (Kd.V_reads' HO166.out).2.2 | (with_reducible refine Kd.C_alloc ?_ _) | (with_reducible refine Kd.C_drewN ?_ _) | (with_reducible refine Kd.C_drew ?_))); (case side2 => exact (Kd.V_reads' HO166.out).2.1); (case side3 => repeat (first | exact (Kd.R_reads' HO139.out).2.2 | (with_reducible refine Kd.C_alloc ?_ _) | (with_reducible refine Kd.C_drewN ?_ _) | (with_reducible refine Kd.C_drew ?_))); (case side4 => exact (Kd.R_reads' HO139.out).2.1); rintro e w' ⟨rfl, ⟨nd, rfl⟩⟩))
         go_ret
         exact ⟨by first | rfl | (simp [errW_none, errW_some] <;> rfl) | (simp [*, errW_none, errW_some] <;> rfl), by repeat (first | (with_reducible first | exact HB.out | apply below_alloc | apply pw_below_drewN | apply below_drew1) | exact HB.out)⟩
        ·replace c13 := Bool.eq_false_iff.mpr c13
         subst c13
         have H1 : (none) = some r := by rw [if_neg (show ¬ (false = true) by decide)] at H; exact H
         clear H
         have H := H1
         clear H1
         exact absurd H (by simp)
       ·rw [if_neg c11] at H
        exact absurd H (by simp)
      ·rw [if_neg c9] at H
       exact absurd H (by simp)
     ·rw [if_neg c8] at H
      exact absurd H (by simp)
    ·rw [if_neg c7] at H
     exact absurd H (by simp)
   ·rw [if_neg c6] at H
    exact absurd H (by simp)
  ·rw [if_neg c5] at H
   exact absurd H (by simp)
 ·rw [if_neg c4] at H
  exact absurd H (by simp)

/-! ### cenotaphlaw03_To: function 28 -/
def cenotaphlaw03_To.l0 : Nat → List (S76) → List (S67) → Int → Option ((List (S67)))
  | 0, _, _, _ => none
  | k + 1, x0, x3, x4 => if x4 < (x0.length : Int) then (if 0 ≤ x4 then (if x3.length < 5864062014805 then (cenotaphlaw03_To.l0 k x0 (x3 ++ [(⟨(rd_T76 x0 x4).f0, (rd_T76 x0 x4).f1⟩ : S67)]) (wrap64 (x4 + 1))) else (none)) else (none)) else (some x3)
def cenotaphlaw03_To.f (k : Nat) (l0 : List (S76)) : Option ((List (S67))) := cenotaphlaw03_To.l0 k l0 ([] : List (S67)) 0
theorem cenotaphlaw03_To.mono_l : ∀ k, (∀ y0 y1 y2, LeO (cenotaphlaw03_To.l0 k y0 y1 y2) (cenotaphlaw03_To.l0 (k + 1) y0 y1 y2))
  | 0 => fun _ _ _ r h => by simp [cenotaphlaw03_To.l0] at h
  | k + 1 => by
    have ih0 := cenotaphlaw03_To.mono_l k
    · intro y0 y1 y2
      unfold cenotaphlaw03_To.l0
      repeat' first
      | (with_reducible exact ih0 _ _ _)
      | (with_reducible exact LeO.refl _)
      | (with_reducible exact LeO.none _)
      | (with_reducible refine LeO.ite ?_ ?_)
      | (with_reducible refine LeO.bind ?_ (fun _ => ?_))
      | exact ih0 _ _ _
      | exact LeO.none _
      | refine LeO.ite ?_ ?_
      | refine LeO.bind ?_ (fun _ => ?_)
theorem cenotaphlaw03_To.mono : ∀ a0 k, LeO (cenotaphlaw03_To.f k a0) (cenotaphlaw03_To.f (k + 1) a0) := by
  intro a0 k
  have ih0 := cenotaphlaw03_To.mono_l k
  unfold cenotaphlaw03_To.f
  repeat' first
      | (with_reducible exact ih0 _ _ _)
      | (with_reducible exact LeO.refl _)
      | (with_reducible exact LeO.none _)
      | (with_reducible refine LeO.ite ?_ ?_)
      | (with_reducible refine LeO.bind ?_ (fun _ => ?_))
      | exact ih0 _ _ _
      | exact LeO.none _
      | refine LeO.ite ?_ ?_
      | refine LeO.bind ?_ (fun _ => ?_)
def cenotaphlaw03_To.T5 : Bool × List (List Nat × List Nat) := (true, [([], []), ([], []), ([], []), ([1, 2], [1, 2]), ([3], [3]), ([4], [4]), ([], []), ([], []), ([6, 7], [6, 7]), ([8], [8]), ([9], [9]), ([5, 10], [5, 10]), ([11], [11]), ([0, 12], [0, 12]), ([13, 13, 0, 1, 2, 3, 4, 5, 6, 7, 8, 9, 10, 11, 12, 13], [0, 13])])
def cenotaphlaw03_To.B5 : List Nat := [0, 0, 0, 6, 14, 30, 0, 0, 192, 448, 960, 2046, 4094, 8191, 16383]
theorem cenotaphlaw03_To.tab5 : rtab .any (opsOf Try.f28 5) = cenotaphlaw03_To.T5 := by kernel_rfl
theorem cenotaphlaw03_To.bits5 : waitsOk cenotaphlaw03_To.T5.2 cenotaphlaw03_To.B5 = true := by kernel_rfl
set_option maxHeartbeats 8000000 in
set_option maxRecDepth 100000 in
theorem cenotaphlaw03_To.calls (k : Nat) (A0 : Option Addr) (c0 : Nat) (l0 : List (S76)) (r : List (S67)) (w : World) (hr0 : Kd.C k76 w A0 l0.length l0) (hc0 : l0.length ≤ c0) (h : cenotaphlaw03_To.f k l0 = some r) :
    Calls Try.prog 28 #[.slice A0 l0.length c0] w fun e w' => ∃ v0_ : Value, e = .returned (v0_) ∧ Kd.R k67 67 w' w.heap.size (fun _ => True) v0_ r ∧ Below w.heap.size w w' := by
  have hu67 := Try.underlying67
  have HR0 := Aside0.mk hr0
  have HC0 := Aside0.mk hc0
  clear hr0 hc0
  have HB := Aside0.mk (Below.refl w.heap.size w)
  have H : (cenotaphlaw03_To.l0 k l0 ([] : List (S67)) 0) = some r := h
  clear h
  have H' := Aside0.mk H
  clear H
  go_enter Try.func28, Try.ntmps28
  go_wp2
  go_loopg [3, 4] k (fun kq v3 v4 w' => ∃ (x3_1 : List (S67)) (x4_1 : Int), v4 = .int .i64 x4_1 ∧ Aside0 (cenotaphlaw03_To.l0 kq l0 x3_1 x4_1 = some r) ∧ Aside0 (kq ≤ k) ∧ Aside0 (Kd.R k67 67 w' w.heap.size (fun _ => True) v3 x3_1) ∧ Aside0 (Below w.heap.size w w'))
  case atStart => exact ⟨(([] : List (S67))), (0), (by first | rfl | (simp; done) | (simp [*]; done)), H', ⟨Nat.le_refl _⟩, ⟨by first | exact Kd.R_nil _ _ _ _ _ | exact Kd.N_nil _ _ _ _ _ | exact Kd.V_nil _ _ _ _ _ | exact Kd.Q_nil _ _ _ _ _ | exact Kd.S_nil _ _ _ _ _⟩, ⟨by repeat (first | (with_reducible first | exact HB.out | apply below_alloc | apply pw_below_drewN | apply below_drew1) | exact HB.out)⟩⟩
  case round =>
    clear H'
    obtain ⟨x3_1, x4_1, rfl, HA, HK1, HO_3, HB⟩ := hrel
    cases gk with
    | zero => exact absurd HA.out (by simp [cenotaphlaw03_To.l0])
    | succ k1 =>
      have H := HA.out
      clear HA
      simp only [cenotaphlaw03_To.l0] at H
      by_cases c2 : x4_1 < (l0.length : Int)
      · rw [if_pos c2] at H
        have c2b0 : decide (x4_1 < (l0.length : Int)) = true := decide_eq_true c2
        clear c2
        by_cases c3 : 0 ≤ x4_1
        · rw [if_pos c3] at H
          have c3b0 : decide (0 ≤ x4_1) = true := decide_eq_true c3
          clear c3
          by_cases c4 : x3_1.length < 5864062014805
          · rw [if_pos c4] at H
            have LMc4 := Aside0.mk c4
            clear c4
            obtain ⟨y170, hy170⟩ : ∃ y_ : List (S67), y_ = (x3_1 ++ [(⟨(rd_T76 l0 x4_1).f0, (rd_T76 l0 x4_1).f1⟩ : S67)]) := ⟨_, rfl⟩
            replace H : (cenotaphlaw03_To.l0 k1 l0 y170 (wrap64 (x4_1 + 1))) = some r := by first | (rw [hy170]; with_reducible exact H) | (have H2_ := (Option.bind_some _ _).symm.trans H; rw [hy170]; with_reducible exact H2_) | (have H2_ := (Option.bind_some _ _).symm.trans H; with_reducible exact H2_) | with_reducible exact H | (rw [hy170]; exact H) | exact H
            have Ny170 := Aside0.mk hy170
            clear hy170
            have H' := Aside0.mk H
            clear H
            try go_wp2
            have n0_ := Aside0.mk (Kd.R_drew HO_3.out)
            have n1_ := Aside0.mk (below_drew1 HB.out)
            clear HO_3
            clear HB
            have HO_3 := n0_
            have HB := n1_
            clear n0_ n1_
            have p168 : 0 ≤ (x4_1 : Int) := of_decide_eq_true (by first | (with_reducible assumption) | assumption)
            have q168 : x4_1 < (l0.length : Int) := of_decide_eq_true (by first | (with_reducible assumption) | assumption)
            obtain ⟨ad168, e168, hx168_0, hx168_1⟩ := at_T76 HR0.out x4_1 p168 q168
            have hw168_1 := hx168_1
            have hw168_0 := hx168_0
            cases e168
            replace hx168_0 := (HB.out.cell (World.block_lt_of_cell? w _ hx168_0)).trans hx168_0
            replace hx168_1 := (HB.out.cell (World.block_lt_of_cell? w _ hx168_1)).trans hx168_1
            replace p168 := eq_true p168
            replace q168 := eq_true q168
            have p169 : 0 ≤ (x4_1 : Int) := of_decide_eq_true (by first | (with_reducible assumption) | assumption)
            have q169 : x4_1 < (l0.length : Int) := of_decide_eq_true (by first | (with_reducible assumption) | assumption)
            obtain ⟨ad169, e169, hx169_0, hx169_1⟩ := at_T76 HR0.out x4_1 p169 q169
            have hw169_1 := hx169_1
            have hw169_0 := hx169_0
            obtain rfl : ad168 = ad169 := (by injection e169)
            replace hx169_0 := (HB.out.cell (World.block_lt_of_cell? w _ hx169_0)).trans hx169_0
            replace hx169_1 := (HB.out.cell (World.block_lt_of_cell? w _ hx169_1)).trans hx169_1
            replace p169 := eq_true p169
            replace q169 := eq_true q169
            refine start_ (n := 15) (S := fun w' => w'.cell? (ad168.add ((x4_1).toNat * 2)) = some (.string ((rd_T76 l0 x4_1).f0)) ∧ w'.cell? ⟨(ad168.add ((x4_1).toNat * 2)).block, (ad168.add ((x4_1).toNat * 2)).off + 1, none⟩ = some (.int .i64 ((rd_T76 l0 x4_1).f1)) ∧ w'.cell? (ad168.add ((x4_1).toNat * 2)) = some (.string ((rd_T76 l0 x4_1).f0)) ∧ w'.cell? ⟨(ad168.add ((x4_1).toNat * 2)).block, (ad168.add ((x4_1).toNat * 2)).off + 1, none⟩ = some (.int .i64 ((rd_T76 l0 x4_1).f1))) (ds := []) #[false, false, false, false, false, false, false, false, false, false, false, false, false, false, false] (by kernel_rfl) rfl rfl ⟨((HB.out.cell (World.block_lt_of_cell? w _ hw168_0)).trans hw168_0), ((HB.out.cell (World.block_lt_of_cell? w _ hw168_1)).trans hw168_1), ((HB.out.cell (World.block_lt_of_cell? w _ hw169_0)).trans hw169_0), ((HB.out.cell (World.block_lt_of_cell? w _ hw169_1)).trans hw169_1)⟩ (fun hHeld => ?_); refine with_tabW cenotaphlaw03_To.tab5 cenotaphlaw03_To.bits5 (fun HT_ HW_ => ?_)
            generalize wr.drew = w5 at HO_3 HB hx168_0 hx168_1 hx169_0 hx169_1 hHeld ⊢
            refine p_ 0 11 (mk_ 15 0x1) ?_
            refine p_ 1 12 (mk_ 15 0x3) ?_
            refine p_ 2 13 (mk_ 15 0x7) ?_
            refine p_ 3 14 (mk_ 15 0xf) ?_
            refine p_ 4 15 (mk_ 15 0x1f) ?_
            refine p_ 6 17 (mk_ 15 0x5f) ?_
            refine p_ 7 18 (mk_ 15 0xdf) ?_
            refine p_ 8 19 (mk_ 15 0x1df) ?_
            refine p_ 9 20 (mk_ 15 0x3df) ?_
            refine t_ 5 16 (mk_ 15 0x3ff) hHeld ?_
            refine t_ 10 21 (mk_ 15 0x7ff) hHeld ?_
            refine p_ 11 22 (mk_ 15 0xfff) ?_
            refine one_ (i := 12) (N := some 23) #[true, true, true, true, true, true, true, true, true, true, true, true, true, false, false] rfl rfl (one_of HT_.out (by kernel_rfl)) (by decide) (fun K hK => ?_)
            refine value_ (w1 := ?_) (v := ?_) (by rfl) rfl ?_ ?_
            rotate_left 2
            · go_simp
              constructor
              · rfl
              · rfl
            refine hK.out _ _ ⟨(World.cell?_alloc_lt _ _ _ (World.block_lt_of_cell? _ _ (((HB.out.cell (World.block_lt_of_cell? w _ hw168_0)).trans hw168_0)))).trans (((HB.out.cell (World.block_lt_of_cell? w _ hw168_0)).trans hw168_0)), (World.cell?_alloc_lt _ _ _ (World.block_lt_of_cell? _ _ (((HB.out.cell (World.block_lt_of_cell? w _ hw168_1)).trans hw168_1)))).trans (((HB.out.cell (World.block_lt_of_cell? w _ hw168_1)).trans hw168_1)), (World.cell?_alloc_lt _ _ _ (World.block_lt_of_cell? _ _ (((HB.out.cell (World.block_lt_of_cell? w _ hw169_0)).trans hw169_0)))).trans (((HB.out.cell (World.block_lt_of_cell? w _ hw169_0)).trans hw169_0)), (World.cell?_alloc_lt _ _ _ (World.block_lt_of_cell? _ _ (((HB.out.cell (World.block_lt_of_cell? w _ hw169_1)).trans hw169_1)))).trans (((HB.out.cell (World.block_lt_of_cell? w _ hw169_1)).trans hw169_1))⟩ (fun hHeld => ?_)
            clear hK K
            refine norm_ (a' := ?_) ?_ ?_
            rotate_left
            · show Act.put _ (some 23) _ = _
              simp only [Act.put, List.setIfInBounds_toArray, List.set_cons_zero, List.set_cons_succ, i64_w, i32_w]
              rfl
            refine one_ (i := 13) (N := some 24) #[true, true, true, true, true, true, true, true, true, true, true, true, true, true, false] rfl rfl (one_of HT_.out (by kernel_rfl)) (by decide) (fun K hK => ?_)
            refine Kd.R_append_step k67 (w0 := w) w.heap.size (by rfl) (.tmp 11) (.tmp 23) 36 67 (.agg #[(.string ⟨#[]⟩), (.int .i64 0)]) 24 rfl Try.underlying36 info67 rfl (by decide) (by omega) u3 x3_1 (⟨(rd_T76 l0 x4_1).f0, (rd_T76 l0 x4_1).f1⟩ : S67) [.string ((rd_T76 l0 x4_1).f0), .int .i64 ((rd_T76 l0 x4_1).f1)] (fun _ => True) (fun _ => False) rfl rfl ?aP (fun _ hk => hk.elim) ?aF ?aO ?aB ?aS ?aL ?_
            (case aP => exact k67_mkM _ _ _ (⟨(rd_T76 l0 x4_1).f0, (rd_T76 l0 x4_1).f1⟩ : S67))
            (case aB => exact (by repeat (first | (with_reducible first | exact HB.out | apply below_alloc | apply pw_below_drewN | apply below_drew1) | exact HB.out)))
            (case aF => exact (fun _ _ => trivial))
            (case aO => exact (by (with_reducible repeat (first | apply Kd.R_alloc | apply Kd.R_drewN | apply Kd.R_drew)); exact HO_3.out))
            (case aS => exact (below_size (by repeat (first | (with_reducible first | exact HB.out | apply below_alloc | apply pw_below_drewN | apply below_drew1) | exact HB.out))))
            (case aL => have := LMc4.out; omega)
            intro v171 w6 ho hb hg hat
            rw [← Ny170.out] at ho
            have n0_ := Aside0.mk (hb)
            have n1_ := Aside0.mk (ho)
            clear HB
            clear HO_3
            have HB := n0_
            have HO172 := n1_
            clear n0_ n1_
            clear ho hb hg hat
            refine hK.out _ _ ⟨((HB.out.cell (World.block_lt_of_cell? w _ hw168_0)).trans hw168_0), ((HB.out.cell (World.block_lt_of_cell? w _ hw168_1)).trans hw168_1), ((HB.out.cell (World.block_lt_of_cell? w _ hw169_0)).trans hw169_0), ((HB.out.cell (World.block_lt_of_cell? w _ hw169_1)).trans hw169_1)⟩ (fun hHeld => ?_)
            clear hK K
            refine norm_ (a' := ?_) ?_ ?_
            rotate_left
            · show Act.put _ (some 24) _ = _
              simp only [Act.put, List.setIfInBounds_toArray, List.set_cons_zero, List.set_cons_succ, i64_w, i32_w]
              rfl
            refine p_ 14 3 (mk_ 15 0x7fff) ?_
            refine done_ (done_of HT_.out (by kernel_rfl)) ?_
            try go_wp2
            go_roundg k1
            case measure => have := HK1.out; omega
            case rel => exact ⟨(y170), (wrap64 (x4_1 + 1)), (by first | rfl | (simp; done) | (simp [*]; done)), H', ⟨by have := HK1.out; omega⟩, ⟨by (with_reducible repeat (first | apply Kd.R_alloc | apply Kd.R_drewN | apply Kd.R_drew)); exact HO172.out⟩, ⟨by repeat (first | (with_reducible first | exact HB.out | apply below_alloc | apply pw_below_drewN | apply below_drew1) | exact HB.out)⟩⟩
          · rw [if_neg c4] at H
            exact absurd H (by simp)
        · rw [if_neg c3] at H
          exact absurd H (by simp)
      · rw [if_neg c2] at H
        have c2b0 : decide (x4_1 < (l0.length : Int)) = false := decide_eq_false c2
        clear c2
        obtain rfl := Option.some.inj H
        go_wp2
        go_ret
        exact ⟨_, by first | rfl | (simp [errW_none, errW_some] <;> rfl) | (simp [*, errW_none, errW_some] <;> rfl), by (with_reducible repeat (first | apply Kd.R_alloc | apply Kd.R_drewN | apply Kd.R_drew)); exact HO_3.out, by repeat (first | (with_reducible first | exact HB.out | apply below_alloc | apply pw_below_drewN | apply below_drew1) | exact HB.out)⟩

/-! ### cenotaphlaw10_To: function 10 -/
theorem zq10_0 {p_ : Prop} (h_ : p_ := by repeat (first | (with_reducible first | exact HB.out | apply below_alloc | apply pw_below_drewN | apply below_drew1) | exact HB.out)) : p_ := h_
theorem zq10_1 {p_ : Prop} (h_ : p_ := by first | (with_reducible assumption) | assumption) : p_ := h_
def cenotaphlaw10_To.l0 : Nat → List (S25) → List (S50) → Int → Option ((List (S50)))
 | 0, _, _, _ => none
 | k + 1, x0, x3, x4 => if x4 < (x0.length : Int) then (if 0 ≤ x4 then ((cenotaphlaw03_To.f k ((rd_T25 x0 x4).f1)).bind fun t175 => (if x3.length < 3518437208883 then (cenotaphlaw10_To.l0 k x0 (x3 ++ [(⟨(rd_T25 x0 x4).f0, t175⟩ : S50)]) (wrap64 (x4 + 1))) else (none))) else (none)) else (some x3)
def cenotaphlaw10_To.f (k : Nat) (l0 : List (S25)) : Option ((List (S50))) := cenotaphlaw10_To.l0 k l0 ([] : List (S50)) 0
theorem cenotaphlaw10_To.mono_l : ∀ k, (∀ y0 y1 y2, LeO (cenotaphlaw10_To.l0 k y0 y1 y2) (cenotaphlaw10_To.l0 (k + 1) y0 y1 y2))
 | 0 => fun _ _ _ r h => by simp [cenotaphlaw10_To.l0] at h
 | k + 1 => by
  have ih0 := cenotaphlaw10_To.mono_l k
  ·intro y0 y1 y2
   unfold cenotaphlaw10_To.l0
   repeat' first
   | (with_reducible exact ih0 _ _ _)
   | (with_reducible exact cenotaphlaw03_To.mono _ _)
   | (with_reducible exact LeO.refl _)
   | (with_reducible exact LeO.none _)
   | (with_reducible refine LeO.ite ?_ ?_)
   | (with_reducible refine LeO.bind ?_ (fun _ => ?_))
   | exact ih0 _ _ _
   | exact cenotaphlaw03_To.mono _ _
   | exact LeO.none _
   | refine LeO.ite ?_ ?_
   | refine LeO.bind ?_ (fun _ => ?_)
theorem cenotaphlaw10_To.mono : ∀ a0 k, LeO (cenotaphlaw10_To.f k a0) (cenotaphlaw10_To.f (k + 1) a0) := by
 intro a0 k
 have ih0 := cenotaphlaw10_To.mono_l k
 unfold cenotaphlaw10_To.f
 repeat' first
   | (with_reducible exact ih0 _ _ _)
   | (with_reducible exact cenotaphlaw03_To.mono _ _)
   | (with_reducible exact LeO.refl _)
   | (with_reducible exact LeO.none _)
   | (with_reducible refine LeO.ite ?_ ?_)
   | (with_reducible refine LeO.bind ?_ (fun _ => ?_))
   | exact ih0 _ _ _
   | exact cenotaphlaw03_To.mono _ _
   | exact LeO.none _
   | refine LeO.ite ?_ ?_
   | refine LeO.bind ?_ (fun _ => ?_)
def cenotaphlaw10_To.T5 : Bool × List (List Nat × List Nat) := (true, [([], []), ([], []), ([], []), ([1, 2], [1, 2]), ([3], [3]), ([4], [4]), ([], []), ([], []), ([6, 7], [6, 7]), ([8], [8]), ([9], [9]), ([10], [10]), ([5, 11], [5, 11]), ([12], [12]), ([0, 13, 11], [0, 13]), ([14, 14, 0, 1, 2, 3, 4, 5, 6, 7, 8, 9, 10, 11, 12, 13, 14], [0, 14])])
def cenotaphlaw10_To.B5 : List Nat := [0, 0, 0, 6, 14, 30, 0, 0, 192, 448, 960, 1984, 4094, 8190, 16383, 32767]
theorem cenotaphlaw10_To.tab5 : rtab .any (opsOf Try.f10 5) = cenotaphlaw10_To.T5 := by kernel_rfl
theorem cenotaphlaw10_To.bits5 : waitsOk cenotaphlaw10_To.T5.2 cenotaphlaw10_To.B5 = true := by kernel_rfl
set_option maxHeartbeats 8000000 in
set_option maxRecDepth 100000 in
theorem cenotaphlaw10_To.calls (k : Nat) (A0 : Option Addr) (c0 : Nat) (l0 : List (S25)) (r : List (S50)) (w : World) (hr0 : Kd.C k25 w A0 l0.length l0) (hc0 : l0.length ≤ c0) (h : cenotaphlaw10_To.f k l0 = some r) :
  Calls Try.prog 10 #[.slice A0 l0.length c0] w fun e w' => ∃ v0_ : Value, e = .returned (v0_) ∧ Kd.S k50 50 w' w.heap.size (fun _ => True) v0_ r ∧ Below w.heap.size w w' := by
 have hu50 := Try.underlying50
 have HR0 := Aside0.mk hr0
 have HC0 := Aside0.mk hc0
 clear hr0 hc0
 have HB := Aside0.mk (Below.refl w.heap.size w)
 have H : (cenotaphlaw10_To.l0 k l0 ([] : List (S50)) 0) = some r := h
 clear h
 have H' := Aside0.mk H
 clear H
 go_enter Try.func10, Try.ntmps10
 go_wp2
 go_loopg [3, 4] k (fun kq v3 v4 w' => ∃ (x3_1 : List (S50)) (x4_1 : Int), v4 = .int .i64 x4_1 ∧ Aside0 (cenotaphlaw10_To.l0 kq l0 x3_1 x4_1 = some r) ∧ Aside0 (kq ≤ k) ∧ Aside0 (Kd.S k50 50 w' w.heap.size (fun _ => True) v3 x3_1) ∧ Aside0 (Below w.heap.size w w'))
 case atStart => exact ⟨(([] : List (S50))), (0), (by first | rfl | (simp; done) | (simp [*]; done)), H', ⟨Nat.le_refl _⟩, ⟨by first | exact Kd.S_nil _ _ _ _ _ | exact Kd.N_nil _ _ _ _ _ | exact Kd.V_nil _ _ _ _ _ | exact Kd.Q_nil _ _ _ _ _ | exact Kd.R_nil _ _ _ _ _⟩, ⟨by repeat (first | (with_reducible first | exact HB.out | apply below_alloc | apply pw_below_drewN | apply below_drew1) | exact HB.out)⟩⟩
 case round =>
  clear H'
  try clear c1
  obtain ⟨x3_1, x4_1, rfl, HA, HK1, HO_3, HB⟩ := hrel
  cases gk with
  | zero => exact absurd HA.out (by simp [cenotaphlaw10_To.l0])
  | succ k1 =>
   have H := HA.out
   clear HA
   simp only [cenotaphlaw10_To.l0] at H
   by_cases c2 : x4_1 < (l0.length : Int)
   ·rw [if_pos c2] at H
    have c2b0 : decide (x4_1 < (l0.length : Int)) = true := decide_eq_true c2
    clear c2
    by_cases c3 : 0 ≤ x4_1
    ·rw [if_pos c3] at H
     have c3b0 : decide (0 ≤ x4_1) = true := decide_eq_true c3
     clear c3
     replace H := Option.bind_eq_some_iff.mp H
     obtain ⟨t175, A40, H⟩ := H
     have A4 := Aside0.mk A40
     clear A40
     by_cases c5 : x3_1.length < 3518437208883
     ·rw [if_pos c5] at H
      have LMc5 := Aside0.mk c5
      clear c5
      obtain ⟨y178, hy178⟩ : ∃ y_ : List (S50), y_ = (x3_1 ++ [(⟨(rd_T25 l0 x4_1).f0, t175⟩ : S50)]) := ⟨_, rfl⟩
      replace H : (cenotaphlaw10_To.l0 k1 l0 y178 (wrap64 (x4_1 + 1))) = some r := by first | (rw [hy178]; with_reducible exact H) | (have H2_ := (Option.bind_some _ _).symm.trans H; rw [hy178]; with_reducible exact H2_) | (have H2_ := (Option.bind_some _ _).symm.trans H; with_reducible exact H2_) | with_reducible exact H | (rw [hy178]; exact H) | exact H
      have Ny178 := Aside0.mk hy178
      clear hy178
      have H' := Aside0.mk H
      clear H
      try go_wp2
      replace HO_3 := Aside0.mk (Kd.S_drew HO_3.out)
      replace HB := Aside0.mk (below_drew1 HB.out)
      have p173 : 0 ≤ (x4_1 : Int) := of_decide_eq_true zq10_1
      have q173 : x4_1 < (l0.length : Int) := of_decide_eq_true zq10_1
      obtain ⟨ad173, A173_1, c173_1, e173, hx173_0, hx173_1, hl173_1, hi173_1⟩ := at_T25 HR0.out x4_1 p173 q173
      have hw173_1 := hx173_1
      have hw173_0 := hx173_0
      cases e173
      replace hx173_0 := (HB.out.cell (World.block_lt_of_cell? w _ hx173_0)).trans hx173_0
      replace hx173_1 := (HB.out.cell (World.block_lt_of_cell? w _ hx173_1)).trans hx173_1
      have HR173_1 := Aside0.mk hi173_1
      have HC173_1 := Aside0.mk hl173_1
      clear hi173_1 hl173_1
      replace p173 := eq_true p173
      replace q173 := eq_true q173
      have p174 : 0 ≤ (x4_1 : Int) := of_decide_eq_true zq10_1
      have q174 : x4_1 < (l0.length : Int) := of_decide_eq_true zq10_1
      obtain ⟨ad174, A174_1, c174_1, e174, hx174_0, hx174_1, hl174_1, hi174_1⟩ := at_T25 HR0.out x4_1 p174 q174
      have hw174_1 := hx174_1
      have hw174_0 := hx174_0
      obtain rfl : ad173 = ad174 := (by injection e174)
      replace hx174_0 := (HB.out.cell (World.block_lt_of_cell? w _ hx174_0)).trans hx174_0
      replace hx174_1 := (HB.out.cell (World.block_lt_of_cell? w _ hx174_1)).trans hx174_1
      have HR174_1 := Aside0.mk hi174_1
      have HC174_1 := Aside0.mk hl174_1
      clear hi174_1 hl174_1
      replace p174 := eq_true p174
      replace q174 := eq_true q174
      have ea_ := Option.some.inj (hx173_1.symm.trans hx174_1)
      injection ea_ with ea_ en_ ec_
      subst ea_
      subst ec_
      clear en_
      refine start_ (n := 16) (S := fun w' => w'.cell? (ad173.add ((x4_1).toNat * 2)) = some (.string ((rd_T25 l0 x4_1).f0)) ∧ w'.cell? ⟨(ad173.add ((x4_1).toNat * 2)).block, (ad173.add ((x4_1).toNat * 2)).off + 1, none⟩ = some (.slice A173_1 ((rd_T25 l0 x4_1).f1).length c173_1) ∧ w'.cell? (ad173.add ((x4_1).toNat * 2)) = some (.string ((rd_T25 l0 x4_1).f0)) ∧ w'.cell? ⟨(ad173.add ((x4_1).toNat * 2)).block, (ad173.add ((x4_1).toNat * 2)).off + 1, none⟩ = some (.slice A173_1 ((rd_T25 l0 x4_1).f1).length c173_1)) (ds := []) #[false, false, false, false, false, false, false, false, false, false, false, false, false, false, false, false] (by kernel_rfl) rfl rfl ⟨((HB.out.cell (World.block_lt_of_cell? w _ hw173_0)).trans hw173_0), ((HB.out.cell (World.block_lt_of_cell? w _ hw173_1)).trans hw173_1), ((HB.out.cell (World.block_lt_of_cell? w _ hw174_0)).trans hw174_0), ((HB.out.cell (World.block_lt_of_cell? w _ hw174_1)).trans hw174_1)⟩ (fun hHeld => ?_); refine with_tabW cenotaphlaw10_To.tab5 cenotaphlaw10_To.bits5 (fun HT_ HW_ => ?_)
      generalize wr.drew = w6 at HO_3 HB HR173_1 HR174_1 hx173_0 hx173_1 hx174_0 hx174_1 hHeld ⊢
      refine p_ 0 11 (mk_ 16 0x1) ?_
      refine p_ 1 12 (mk_ 16 0x3) ?_
      refine p_ 2 13 (mk_ 16 0x7) ?_
      refine p_ 3 14 (mk_ 16 0xf) ?_
      refine p_ 4 15 (mk_ 16 0x1f) ?_
      refine p_ 6 17 (mk_ 16 0x5f) ?_
      refine p_ 7 18 (mk_ 16 0xdf) ?_
      refine p_ 8 19 (mk_ 16 0x1df) ?_
      refine p_ 9 20 (mk_ 16 0x3df) ?_
      refine t_ 5 16 (mk_ 16 0x3ff) hHeld ?_
      refine t_ 10 21 (mk_ 16 0x7ff) hHeld ?_
      refine one_ (i := 11) (N := some 22) #[true, true, true, true, true, true, true, true, true, true, true, true, false, false, false, false] rfl rfl (one_of HT_.out (by kernel_rfl)) (by decide) (fun K hK => ?_)
      refine goes_ Try.func28 (by kernel_rfl) rfl #[.slice A173_1 ((rd_T25 l0 x4_1).f1).length c173_1] (by rfl) rfl rfl (by (try simp only [List.map_toArray, List.map_cons, List.map_nil]); first | done | rfl | (simp only [List.length_drop, List.length_take]; rfl)) ?_
      with_reducible refine (cenotaphlaw03_To.calls k1 _ _ ((rd_T25 l0 x4_1).f1) t175 _ ?side1 ?side2 A4.out).mono ?_
      (case side1 => repeat (first | exact (Kd.C_below HR174_1.out HB.out) | (with_reducible refine Kd.C_alloc ?_ _) | (with_reducible refine Kd.C_drewN ?_ _) | (with_reducible refine Kd.C_drew ?_)))
      (case side2 => exact HC174_1.out)
      rintro e w7 ⟨v176, rfl, ho0, hb⟩
      refine ⟨_, rfl, ?_⟩
      replace HO_3 := Aside0.mk (Kd.S_elder' (by (with_reducible repeat (first | apply Kd.S_alloc | apply Kd.S_drewN | apply Kd.S_drew)); exact HO_3.out) (Kd.R_base ho0) hb)
      have HO177 := Aside0.mk (Kd.R_lower ho0 (below_size zq10_0))
      replace HB := Aside0.mk (below_step zq10_0 hb)
      (try clear hb)
      (try clear hb2)
      (try clear hk)
      (try clear hi)
      (try clear ho0)
      obtain ⟨Ao8, co8, eo8⟩ := Kd.R_slice HO177.out
      (first | subst eo8 | (injection eo8 with f1_ f2_ f3_; have f4_ := f1_.symm; have f5_ := f3_.symm; clear f1_ f2_ f3_; subst f4_; subst f5_))
      refine hK.out _ _ ⟨((HB.out.cell (World.block_lt_of_cell? w _ hw173_0)).trans hw173_0), ((HB.out.cell (World.block_lt_of_cell? w _ hw173_1)).trans hw173_1), ((HB.out.cell (World.block_lt_of_cell? w _ hw174_0)).trans hw174_0), ((HB.out.cell (World.block_lt_of_cell? w _ hw174_1)).trans hw174_1)⟩ (fun hHeld => ?_)
      clear hK K
      refine norm_ (a' := ?_) ?_ ?_
      rotate_left
      ·show Act.put _ (some 22) _ = _
       simp only [Act.put, List.setIfInBounds_toArray, List.set_cons_zero, List.set_cons_succ, i64_w, i32_w]
       rfl
      refine p_ 12 23 (mk_ 16 0x1fff) ?_
      refine one_ (i := 13) (N := some 24) #[true, true, true, true, true, true, true, true, true, true, true, true, true, true, false, false] rfl rfl (one_of HT_.out (by kernel_rfl)) (by decide) (fun K hK => ?_)
      refine value_ (w1 := ?_) (v := ?_) (by rfl) rfl ?_ ?_
      rotate_left 2
      ·go_simp
       constructor
       ·rfl
       ·rfl
      refine hK.out _ _ ⟨(World.cell?_alloc_lt _ _ _ (World.block_lt_of_cell? _ _ (((HB.out.cell (World.block_lt_of_cell? w _ hw173_0)).trans hw173_0)))).trans (((HB.out.cell (World.block_lt_of_cell? w _ hw173_0)).trans hw173_0)), (World.cell?_alloc_lt _ _ _ (World.block_lt_of_cell? _ _ (((HB.out.cell (World.block_lt_of_cell? w _ hw173_1)).trans hw173_1)))).trans (((HB.out.cell (World.block_lt_of_cell? w _ hw173_1)).trans hw173_1)), (World.cell?_alloc_lt _ _ _ (World.block_lt_of_cell? _ _ (((HB.out.cell (World.block_lt_of_cell? w _ hw174_0)).trans hw174_0)))).trans (((HB.out.cell (World.block_lt_of_cell? w _ hw174_0)).trans hw174_0)), (World.cell?_alloc_lt _ _ _ (World.block_lt_of_cell? _ _ (((HB.out.cell (World.block_lt_of_cell? w _ hw174_1)).trans hw174_1)))).trans (((HB.out.cell (World.block_lt_of_cell? w _ hw174_1)).trans hw174_1))⟩ (fun hHeld => ?_)
      clear hK K
      refine norm_ (a' := ?_) ?_ ?_
      rotate_left
      ·show Act.put _ (some 24) _ = _
       simp only [Act.put, List.setIfInBounds_toArray, List.set_cons_zero, List.set_cons_succ, i64_w, i32_w]
       rfl
      refine one_ (i := 14) (N := some 25) #[true, true, true, true, true, true, true, true, true, true, true, true, true, true, true, false] rfl rfl (one_of HT_.out (by kernel_rfl)) (by decide) (fun K hK => ?_)
      refine Kd.S_append_step k50 (w0 := w) w.heap.size (by rfl) (.tmp 11) (.tmp 24) 29 50 (.agg #[(.string ⟨#[]⟩), (.slice none 0 0)]) 40 rfl Try.underlying29 info50 rfl (by decide) (by omega) u3 x3_1 (⟨(rd_T25 l0 x4_1).f0, t175⟩ : S50) [.string ((rd_T25 l0 x4_1).f0), .slice Ao8 t175.length co8] (fun _ => True) (fun k_ => some k_ = (.slice Ao8 t175.length co8 : Value).ownBlock) rfl rfl ?aP (fun k_ hk_ => ((Kd.R_mono (ok' := fun k_ => ((fun _ => True)) k_ ∧ some k_ ≠ (u3 : Value).ownBlock) (Kd.R_apart' (HO177.out) (Kd.S_typed HO_3.out) (by decide)) (fun k_ hk => ⟨trivial, hk.2⟩))).1 k_ hk_.symm) ?aF ?aO ?aB ?aS ?aL ?_
      (case aP => exact k50_mkM _ _ _ (⟨(rd_T25 l0 x4_1).f0, t175⟩ : S50) (Kd.R_mono (Kd.R_tight rfl (Kd.R_mono (ok' := fun k_ => ((fun _ => True)) k_ ∧ some k_ ≠ (u3 : Value).ownBlock) (Kd.R_apart' (HO177.out) (Kd.S_typed HO_3.out) (by decide)) (fun k_ hk => ⟨trivial, hk.2⟩))) (fun _ h_ => h_)))
      (case aB => exact zq10_0)
      (case aF => exact (fun _ _ => trivial))
      (case aO => exact (by (with_reducible repeat (first | apply Kd.S_alloc | apply Kd.S_drewN | apply Kd.S_drew)); exact Kd.S_mono HO_3.out (fun k_ hk => ⟨trivial, fun e_ => hk.2 e_⟩)))
      (case aS => exact (below_size zq10_0))
      (case aL => have := LMc5.out; omega)
      intro v179 w9 ho hb hg hat
      rw [← Ny178.out] at ho
      replace HB := Aside0.mk (hb)
      have HO180 := Aside0.mk (ho)
      clear HO_3 HO177
      clear ho hb hg hat
      refine hK.out _ _ ⟨((HB.out.cell (World.block_lt_of_cell? w _ hw173_0)).trans hw173_0), ((HB.out.cell (World.block_lt_of_cell? w _ hw173_1)).trans hw173_1), ((HB.out.cell (World.block_lt_of_cell? w _ hw174_0)).trans hw174_0), ((HB.out.cell (World.block_lt_of_cell? w _ hw174_1)).trans hw174_1)⟩ (fun hHeld => ?_)
      clear hK K
      refine norm_ (a' := ?_) ?_ ?_
      rotate_left
      ·show Act.put _ (some 25) _ = _
       simp only [Act.put, List.setIfInBounds_toArray, List.set_cons_zero, List.set_cons_succ, i64_w, i32_w]
       rfl
      refine p_ 15 3 (mk_ 16 0xffff) ?_
      refine done_ (done_of HT_.out (by kernel_rfl)) ?_
      try go_wp2
      go_roundg k1
      case measure => have := HK1.out; omega
      case rel => exact ⟨(y178), (wrap64 (x4_1 + 1)), (by first | rfl | (simp; done) | (simp [*]; done)), H', ⟨by have := HK1.out; omega⟩, ⟨by (with_reducible repeat (first | apply Kd.S_alloc | apply Kd.S_drewN | apply Kd.S_drew)); exact HO180.out⟩, ⟨by repeat (first | (with_reducible first | exact HB.out | apply below_alloc | apply pw_below_drewN | apply below_drew1) | exact HB.out)⟩⟩
     ·rw [if_neg c5] at H
      exact absurd H (by simp)
    ·rw [if_neg c3] at H
     exact absurd H (by simp)
   ·rw [if_neg c2] at H
    have c2b0 : decide (x4_1 < (l0.length : Int)) = false := decide_eq_false c2
    clear c2
    obtain rfl := Option.some.inj H
    go_wp2
    go_ret
    exact ⟨_, by first | rfl | (simp [errW_none, errW_some] <;> rfl) | (simp [*, errW_none, errW_some] <;> rfl), by (with_reducible repeat (first | apply Kd.S_alloc | apply Kd.S_drewN | apply Kd.S_drew)); exact HO_3.out, by repeat (first | (with_reducible first | exact HB.out | apply below_alloc | apply pw_below_drewN | apply below_drew1) | exact HB.out)⟩

/-! ### cenotaphref01_Right: function 38 -/
mutual
def cenotaphref01_Right.j0 : Nat → ByteArray → Bool → Option (Bool)
  | 0, _, _ => none
  | k + 1, x0, x16 => if x16 = true then (some false) else (cenotaphref01_Right.l0 k x0 1)
def cenotaphref01_Right.l0 : Nat → ByteArray → Int → Option (Bool)
  | 0, _, _ => none
  | k + 1, x0, x3 => if x3 < (x0.size : Int) then (if 0 ≤ x3 then (if (bt x0 x3) < 49 then (some false) else (if (bt x0 x3) > 57 then (some false) else (cenotaphref01_Right.l0 k x0 (wrap64 (x3 + 1))))) else (none)) else (some true)
end
def cenotaphref01_Right.f (k : Nat) (a0 : ByteArray) : Option (Bool) := if (a0.size : Int) < 1 then (cenotaphref01_Right.j0 k a0 true) else (if (a0.size : Int) > 6 then (cenotaphref01_Right.j0 k a0 true) else (if 0 < (a0.size : Int) then (cenotaphref01_Right.j0 k a0 ((bt a0 0) != 48)) else (none)))
theorem cenotaphref01_Right.mono_l : ∀ k, (∀ y0 y1, LeO (cenotaphref01_Right.j0 k y0 y1) (cenotaphref01_Right.j0 (k + 1) y0 y1)) ∧ (∀ y0 y1, LeO (cenotaphref01_Right.l0 k y0 y1) (cenotaphref01_Right.l0 (k + 1) y0 y1))
  | 0 => ⟨fun _ _ r h => by simp [cenotaphref01_Right.j0] at h, fun _ _ r h => by simp [cenotaphref01_Right.l0] at h⟩
  | k + 1 => by
    obtain ⟨ih0, ih1⟩ := cenotaphref01_Right.mono_l k
    refine ⟨?_, ?_⟩
    · intro y0 y1
      unfold cenotaphref01_Right.j0
      repeat' first
      | (with_reducible exact ih0 _ _)
      | (with_reducible exact ih1 _ _)
      | (with_reducible exact LeO.refl _)
      | (with_reducible exact LeO.none _)
      | (with_reducible refine LeO.ite ?_ ?_)
      | (with_reducible refine LeO.bind ?_ (fun _ => ?_))
      | exact ih0 _ _
      | exact ih1 _ _
      | exact LeO.none _
      | refine LeO.ite ?_ ?_
      | refine LeO.bind ?_ (fun _ => ?_)
    · intro y0 y1
      unfold cenotaphref01_Right.l0
      repeat' first
      | (with_reducible exact ih0 _ _)
      | (with_reducible exact ih1 _ _)
      | (with_reducible exact LeO.refl _)
      | (with_reducible exact LeO.none _)
      | (with_reducible refine LeO.ite ?_ ?_)
      | (with_reducible refine LeO.bind ?_ (fun _ => ?_))
      | exact ih0 _ _
      | exact ih1 _ _
      | exact LeO.none _
      | refine LeO.ite ?_ ?_
      | refine LeO.bind ?_ (fun _ => ?_)
theorem cenotaphref01_Right.mono : ∀ a0 k, LeO (cenotaphref01_Right.f k a0) (cenotaphref01_Right.f (k + 1) a0) := by
  intro a0 k
  obtain ⟨ih0, ih1⟩ := cenotaphref01_Right.mono_l k
  unfold cenotaphref01_Right.f
  repeat' first
      | (with_reducible exact ih0 _ _)
      | (with_reducible exact ih1 _ _)
      | (with_reducible exact LeO.refl _)
      | (with_reducible exact LeO.none _)
      | (with_reducible refine LeO.ite ?_ ?_)
      | (with_reducible refine LeO.bind ?_ (fun _ => ?_))
      | exact ih0 _ _
      | exact ih1 _ _
      | exact LeO.none _
      | refine LeO.ite ?_ ?_
      | refine LeO.bind ?_ (fun _ => ?_)
set_option maxHeartbeats 8000000 in
set_option maxRecDepth 100000 in
theorem cenotaphref01_Right.calls (k : Nat) (a0 : ByteArray) (r : Bool) (w : World) (h : cenotaphref01_Right.f k a0 = some r) :
    Calls Try.prog 38 #[.string a0] w fun e w' => e = .returned (.bool r) ∧ Drawn0 w w' := by
  have H := h
  unfold cenotaphref01_Right.f at H
  clear h
  have HC2 := Aside0.mk H
  clear H
  go_enter Try.func38, Try.ntmps38
  go_upto_region 1 with (fail)
  go_cut [16] (fun v16 wc => ∃ (kq : Nat) (x16_1 : Bool), v16 = .bool x16_1 ∧ Aside0 (cenotaphref01_Right.j0 kq a0 x16_1 = some r) ∧ Aside0 (kq ≤ k) ∧ Drawn0 w wc)
  case first =>
    have H := HC2.out
    clear HC2
    by_cases c3 : (a0.size : Int) < 1
    · rw [if_pos c3] at H
      have c3b0 : decide ((a0.size : Int) < 1) = true := decide_eq_true c3
      have c3b1 : decide (a0.size < 1) = true := decide_eq_true (by omega)
      clear c3
      (first | rw [c3b0] | (simp only [i64_w, i32_w]; rw [c3b0]) | skip)
      have H' := Aside0.mk H
      clear H
      go_wp2
      go_meet
      case rel => exact ⟨_, (true), (by first | rfl | (simp; done) | (simp [*]; done)), H', ⟨by first | omega | exact Nat.le_refl _⟩, by repeat (first | exact Drawn0.refl _ | apply Drawn0.step)⟩
    · rw [if_neg c3] at H
      have c3b0 : decide ((a0.size : Int) < 1) = false := decide_eq_false c3
      have c3b1 : decide (a0.size < 1) = false := decide_eq_false (by omega)
      clear c3
      (first | rw [c3b0] | (simp only [i64_w, i32_w]; rw [c3b0]) | skip)
      by_cases c4 : (a0.size : Int) > 6
      · rw [if_pos c4] at H
        have c4b0 : decide (6 < (a0.size : Int)) = true := decide_eq_true c4
        have c4b1 : decide (6 < a0.size) = true := decide_eq_true (by omega)
        clear c4
        have H' := Aside0.mk H
        clear H
        go_wp2
        go_meet
        case rel => exact ⟨_, (true), (by first | rfl | (simp; done) | (simp [*]; done)), H', ⟨by first | omega | exact Nat.le_refl _⟩, by repeat (first | exact Drawn0.refl _ | apply Drawn0.step)⟩
      · rw [if_neg c4] at H
        have c4b0 : decide (6 < (a0.size : Int)) = false := decide_eq_false c4
        have c4b1 : decide (6 < a0.size) = false := decide_eq_false (by omega)
        clear c4
        by_cases c5 : 0 < (a0.size : Int)
        · rw [if_pos c5] at H
          have c5b0 : decide (0 < (a0.size : Int)) = true := decide_eq_true c5
          have c5b1 : decide (0 < a0.size) = true := decide_eq_true (by omega)
          clear c5
          have H' := Aside0.mk H
          clear H
          have p6 : 0 ≤ (0 : Int) := (by omega)
          have q6 : 0 < a0.size := (by have : (0 : Int) < (a0.size : Int) := of_decide_eq_true (by first | (with_reducible assumption) | assumption); omega)
          have hx6 : ∀ h : 0 < a0.size, ((a0[0]'h).toNat : Int) = bt a0 0 := bt_at a0 0
          clear p6
          have qi6 : (0 < (a0.size : Int)) = True := eq_true (of_decide_eq_true (by first | (with_reducible assumption) | assumption))
          replace q6 := eq_true q6
          go_wp2
          go_meet
          case rel => exact ⟨_, (((bt a0 0) != 48)), (by first | rfl | (simp; done) | (simp [*]; done)), H', ⟨by first | omega | exact Nat.le_refl _⟩, by repeat (first | exact Drawn0.refl _ | apply Drawn0.step)⟩
        · rw [if_neg c5] at H
          exact absurd H (by simp)
  case rest =>
    clear HC2
    try clear p2
    try clear c3
    try clear c3b0
    try clear c3b1
    try clear c4
    try clear c4b0
    try clear c4b1
    try clear c5
    try clear c5b0
    try clear c5b1
    try clear p6
    try clear q6
    try clear hx6
    try clear qi6
    try clear p6
    try clear q6
    obtain ⟨kq, x16_1, rfl, HA, HJ1, ⟨mc1, rfl⟩⟩ := hcut
    cases kq with
    | zero => exact absurd HA.out (by simp [cenotaphref01_Right.j0])
    | succ kj1 =>
      have H := HA.out
      clear HA
      simp only [cenotaphref01_Right.j0] at H
      by_cases c7 : x16_1 = true
      · subst c7
        have H1 : (some false) = some r := by rw [if_pos rfl] at H; exact H
        clear H
        have H := H1
        clear H1
        obtain rfl := Option.some.inj H
        go_wp2
        go_ret
        exact ⟨by first | rfl | (simp; done) | (simp [*]; done), by repeat (first | exact Drawn0.refl _ | apply Drawn0.step)⟩
      · replace c7 := Bool.eq_false_iff.mpr c7
        subst c7
        have H1 : (cenotaphref01_Right.l0 kj1 a0 1) = some r := by rw [if_neg (show ¬ (false = true) by decide)] at H; exact H
        clear H
        have H := H1
        clear H1
        have H' := Aside0.mk H
        clear H
        go_wp2
        go_loopg [3] kj1 (fun kq v3 w' => ∃ (x3_2 : Int), v3 = .int .i64 x3_2 ∧ Aside0 (cenotaphref01_Right.l0 kq a0 x3_2 = some r) ∧ Aside0 (kq ≤ kj1) ∧ Drawn0 w w')
        case atStart => exact ⟨(1), (by first | rfl | (simp; done) | (simp [*]; done)), H', ⟨Nat.le_refl _⟩, by repeat (first | exact Drawn0.refl _ | apply Drawn0.step)⟩
        case round =>
          clear H'
          try clear c1
          try clear p2
          try clear c3
          try clear c3b0
          try clear c3b1
          try clear c4
          try clear c4b0
          try clear c4b1
          try clear c5
          try clear c5b0
          try clear c5b1
          try clear p6
          try clear q6
          try clear hx6
          try clear qi6
          try clear c7
          try clear p2
          try clear p6
          try clear q6
          obtain ⟨x3_2, rfl, HA, HK2, ⟨m2, rfl⟩⟩ := hrel
          cases gk with
          | zero => exact absurd HA.out (by simp [cenotaphref01_Right.l0])
          | succ k2 =>
            have H := HA.out
            clear HA
            simp only [cenotaphref01_Right.l0] at H
            by_cases c8 : x3_2 < (a0.size : Int)
            · rw [if_pos c8] at H
              have c8b0 : decide (x3_2 < (a0.size : Int)) = true := decide_eq_true c8
              clear c8
              by_cases c9 : 0 ≤ x3_2
              · rw [if_pos c9] at H
                have c9b0 : decide (0 ≤ x3_2) = true := decide_eq_true c9
                clear c9
                by_cases c11 : (bt a0 x3_2) < 49
                · rw [if_pos c11] at H
                  have c11b0 : decide ((bt a0 x3_2) < 49) = true := decide_eq_true c11
                  clear c11
                  obtain rfl := Option.some.inj H
                  have p10 : 0 ≤ (x3_2 : Int) := of_decide_eq_true (by first | (with_reducible assumption) | assumption)
                  have q10 : x3_2 < (a0.size : Int) := of_decide_eq_true (by first | (with_reducible assumption) | assumption)
                  have hx10 := bt_at a0 x3_2
                  replace p10 := eq_true p10
                  replace q10 := eq_true q10
                  go_wp2
                  go_ret
                  exact ⟨by first | rfl | (simp; done) | (simp [*]; done), by repeat (first | exact Drawn0.refl _ | apply Drawn0.step)⟩
                · rw [if_neg c11] at H
                  have c11b0 : decide ((bt a0 x3_2) < 49) = false := decide_eq_false c11
                  clear c11
                  by_cases c13 : (bt a0 x3_2) > 57
                  · rw [if_pos c13] at H
                    have c13b0 : decide (57 < (bt a0 x3_2)) = true := decide_eq_true c13
                    clear c13
                    obtain rfl := Option.some.inj H
                    have p10 : 0 ≤ (x3_2 : Int) := of_decide_eq_true (by first | (with_reducible assumption) | assumption)
                    have q10 : x3_2 < (a0.size : Int) := of_decide_eq_true (by first | (with_reducible assumption) | assumption)
                    have hx10 := bt_at a0 x3_2
                    replace p10 := eq_true p10
                    replace q10 := eq_true q10
                    have p12 : 0 ≤ (x3_2 : Int) := of_decide_eq_true (by first | (with_reducible assumption) | assumption)
                    have q12 : x3_2 < (a0.size : Int) := of_decide_eq_true (by first | (with_reducible assumption) | assumption)
                    have hx12 := bt_at a0 x3_2
                    replace p12 := eq_true p12
                    replace q12 := eq_true q12
                    go_wp2
                    go_ret
                    exact ⟨by first | rfl | (simp; done) | (simp [*]; done), by repeat (first | exact Drawn0.refl _ | apply Drawn0.step)⟩
                  · rw [if_neg c13] at H
                    have c13b0 : decide (57 < (bt a0 x3_2)) = false := decide_eq_false c13
                    clear c13
                    have H' := Aside0.mk H
                    clear H
                    have p10 : 0 ≤ (x3_2 : Int) := of_decide_eq_true (by first | (with_reducible assumption) | assumption)
                    have q10 : x3_2 < (a0.size : Int) := of_decide_eq_true (by first | (with_reducible assumption) | assumption)
                    have hx10 := bt_at a0 x3_2
                    replace p10 := eq_true p10
                    replace q10 := eq_true q10
                    have p12 : 0 ≤ (x3_2 : Int) := of_decide_eq_true (by first | (with_reducible assumption) | assumption)
                    have q12 : x3_2 < (a0.size : Int) := of_decide_eq_true (by first | (with_reducible assumption) | assumption)
                    have hx12 := bt_at a0 x3_2
                    replace p12 := eq_true p12
                    replace q12 := eq_true q12
                    go_wp2
                    go_roundg k2
                    case measure => have := HJ1.out; have := HK2.out; omega
                    case rel => exact ⟨(wrap64 (x3_2 + 1)), (by first | rfl | (simp; done) | (simp [*]; done)), H', ⟨by have := HJ1.out; have := HK2.out; omega⟩, by repeat (first | exact Drawn0.refl _ | apply Drawn0.step)⟩
              · rw [if_neg c9] at H
                exact absurd H (by simp)
            · rw [if_neg c8] at H
              have c8b0 : decide (x3_2 < (a0.size : Int)) = false := decide_eq_false c8
              clear c8
              obtain rfl := Option.some.inj H
              go_wp2
              go_ret
              exact ⟨by first | rfl | (simp; done) | (simp [*]; done), by repeat (first | exact Drawn0.refl _ | apply Drawn0.step)⟩

/-! ### cenotaphref01_Compare: function 40 -/
theorem zq40_0 {p_ : Prop} (h_ : p_ := by first | (with_reducible assumption) | assumption) : p_ := h_
theorem zq40_1 {p_ : Prop} (h_ : p_ := by first | rfl | (simp; done) | (simp [*]; done)) : p_ := h_
mutual
def cenotaphref01_Compare.l0 : Nat → ByteArray → ByteArray → Int → Option (Int)
 | 0, _, _, _ => none
 | k + 1, x0, x1, x5 => if x5 < (x0.size : Int) then (cenotaphref01_Compare.j1 k x0 x1 x5 (decide (x5 < (x1.size : Int)))) else (cenotaphref01_Compare.j1 k x0 x1 x5 false)
def cenotaphref01_Compare.j1 : Nat → ByteArray → ByteArray → Int → Bool → Option (Int)
 | 0, _, _, _, _ => none
 | k + 1, x0, x1, x5, x15 => if x15 = true then (if 0 ≤ x5 then (if x5 < (x0.size : Int) then (if x5 < (x1.size : Int) then (if (bt x0 x5) < (bt x1 x5) then (some (-1)) else (if (bt x0 x5) > (bt x1 x5) then (some 1) else (cenotaphref01_Compare.l0 k x0 x1 (wrap64 (x5 + 1))))) else (none)) else (none)) else (none)) else (if (x0.size : Int) < (x1.size : Int) then (some (-1)) else (if (x0.size : Int) > (x1.size : Int) then (some 1) else (some 0)))
end
def cenotaphref01_Compare.f (k : Nat) (a0 : ByteArray) (a1 : ByteArray) : Option (Int) := cenotaphref01_Compare.l0 k a0 a1 0
theorem cenotaphref01_Compare.mono_l : ∀ k, (∀ y0 y1 y2, LeO (cenotaphref01_Compare.l0 k y0 y1 y2) (cenotaphref01_Compare.l0 (k + 1) y0 y1 y2)) ∧ (∀ y0 y1 y2 y3, LeO (cenotaphref01_Compare.j1 k y0 y1 y2 y3) (cenotaphref01_Compare.j1 (k + 1) y0 y1 y2 y3))
 | 0 => ⟨fun _ _ _ r h => by simp [cenotaphref01_Compare.l0] at h, fun _ _ _ _ r h => by simp [cenotaphref01_Compare.j1] at h⟩
 | k + 1 => by
  obtain ⟨ih0, ih1⟩ := cenotaphref01_Compare.mono_l k
  refine ⟨?_, ?_⟩
  ·intro y0 y1 y2
   unfold cenotaphref01_Compare.l0
   repeat' first
   | (with_reducible exact ih0 _ _ _)
   | (with_reducible exact ih1 _ _ _ _)
   | (with_reducible exact LeO.refl _)
   | (with_reducible exact LeO.none _)
   | (with_reducible refine LeO.ite ?_ ?_)
   | (with_reducible refine LeO.bind ?_ (fun _ => ?_))
   | exact ih0 _ _ _
   | exact ih1 _ _ _ _
   | exact LeO.none _
   | refine LeO.ite ?_ ?_
   | refine LeO.bind ?_ (fun _ => ?_)
  ·intro y0 y1 y2 y3
   unfold cenotaphref01_Compare.j1
   repeat' first
   | (with_reducible exact ih0 _ _ _)
   | (with_reducible exact ih1 _ _ _ _)
   | (with_reducible exact LeO.refl _)
   | (with_reducible exact LeO.none _)
   | (with_reducible refine LeO.ite ?_ ?_)
   | (with_reducible refine LeO.bind ?_ (fun _ => ?_))
   | exact ih0 _ _ _
   | exact ih1 _ _ _ _
   | exact LeO.none _
   | refine LeO.ite ?_ ?_
   | refine LeO.bind ?_ (fun _ => ?_)
theorem cenotaphref01_Compare.mono : ∀ a0 a1 k, LeO (cenotaphref01_Compare.f k a0 a1) (cenotaphref01_Compare.f (k + 1) a0 a1) := by
 intro a0 a1 k
 obtain ⟨ih0, ih1⟩ := cenotaphref01_Compare.mono_l k
 unfold cenotaphref01_Compare.f
 repeat' first
   | (with_reducible exact ih0 _ _ _)
   | (with_reducible exact ih1 _ _ _ _)
   | (with_reducible exact LeO.refl _)
   | (with_reducible exact LeO.none _)
   | (with_reducible refine LeO.ite ?_ ?_)
   | (with_reducible refine LeO.bind ?_ (fun _ => ?_))
   | exact ih0 _ _ _
   | exact ih1 _ _ _ _
   | exact LeO.none _
   | refine LeO.ite ?_ ?_
   | refine LeO.bind ?_ (fun _ => ?_)
set_option maxHeartbeats 8000000 in
set_option maxRecDepth 100000 in
theorem cenotaphref01_Compare.calls (k : Nat) (a0 : ByteArray) (a1 : ByteArray) (r : Int) (w : World) (h : cenotaphref01_Compare.f k a0 a1 = some r) :
  Calls Try.prog 40 #[.string a0, .string a1] w fun e w' => e = .returned (.int .i64 r) ∧ Drawn0 w w' := by
 have H : (cenotaphref01_Compare.l0 k a0 a1 0) = some r := h
 clear h
 have H' := Aside0.mk H
 clear H
 go_enter Try.func40, Try.ntmps40
 go_wp2
 repeat (go_quiet (fail); try go_wp2)
 go_loopg [5] k (fun kq v5 w' => ∃ (x5_1 : Int), v5 = .int .i64 x5_1 ∧ Aside0 (cenotaphref01_Compare.l0 kq a0 a1 x5_1 = some r) ∧ Aside0 (kq ≤ k) ∧ Drawn0 w w')
 case atStart => exact ⟨(0), zq40_1, H', ⟨Nat.le_refl _⟩, by repeat (first | exact Drawn0.refl _ | apply Drawn0.step)⟩
 case round =>
  clear H'
  try clear p2
  obtain ⟨x5_1, rfl, HA, HK1, ⟨m1, rfl⟩⟩ := hrel
  cases gk with
  | zero => exact absurd HA.out (by simp [cenotaphref01_Compare.l0])
  | succ k1 =>
   have H := HA.out
   clear HA
   simp only [cenotaphref01_Compare.l0] at H
   have HC3 := Aside0.mk H
   clear H
   go_upto_region 2 with (fail)
   repeat (go_quiet (fail); go_upto_region 2 with (fail))
   go_cut [15] (fun v15 wc => ∃ (kq : Nat) (x15_2 : Bool), v15 = .bool x15_2 ∧ Aside0 (cenotaphref01_Compare.j1 kq a0 a1 x5_1 x15_2 = some r) ∧ Aside0 (kq ≤ k1) ∧ Drawn0 w wc)
   case first =>
    have H := HC3.out
    clear HC3
    by_cases c4 : x5_1 < (a0.size : Int)
    ·rw [if_pos c4] at H
     have c4b0 : decide (x5_1 < (a0.size : Int)) = true := decide_eq_true c4
     clear c4
     (first | rw [c4b0] | (simp only [i64_w, i32_w]; rw [c4b0]) | skip)
     have H' := Aside0.mk H
     clear H
     go_wp2
     repeat (go_quiet (fail); try go_wp2)
     go_meet
     case rel => exact ⟨_, (decide (x5_1 < (a1.size : Int))), zq40_1, H', ⟨by have := HK1.out; first | omega | exact Nat.le_refl _⟩, by repeat (first | exact Drawn0.refl _ | apply Drawn0.step)⟩
    ·rw [if_neg c4] at H
     have c4b0 : decide (x5_1 < (a0.size : Int)) = false := decide_eq_false c4
     clear c4
     (first | rw [c4b0] | (simp only [i64_w, i32_w]; rw [c4b0]) | skip)
     have H' := Aside0.mk H
     clear H
     go_wp2
     repeat (go_quiet (fail); try go_wp2)
     go_meet
     case rel => exact ⟨_, (false), zq40_1, H', ⟨by have := HK1.out; first | omega | exact Nat.le_refl _⟩, by repeat (first | exact Drawn0.refl _ | apply Drawn0.step)⟩
   case rest =>
    clear HC3
    try clear p2
    try clear c4
    try clear c4b0
    try clear p2
    obtain ⟨kq, x15_2, rfl, HA, HJ2, ⟨mc2, rfl⟩⟩ := hcut
    cases kq with
    | zero => exact absurd HA.out (by simp [cenotaphref01_Compare.j1])
    | succ kj2 =>
     have H := HA.out
     clear HA
     simp only [cenotaphref01_Compare.j1] at H
     by_cases c5 : x15_2 = true
     ·subst c5
      have H1 : (if 0 ≤ x5_1 then (if x5_1 < (a0.size : Int) then (if x5_1 < (a1.size : Int) then (if (bt a0 x5_1) < (bt a1 x5_1) then (some (-1)) else (if (bt a0 x5_1) > (bt a1 x5_1) then (some 1) else (cenotaphref01_Compare.l0 kj2 a0 a1 (wrap64 (x5_1 + 1))))) else (none)) else (none)) else (none)) = some r := by rw [if_pos rfl] at H; exact H
      clear H
      have H := H1
      clear H1
      by_cases c6 : 0 ≤ x5_1
      ·rw [if_pos c6] at H
       have c6b0 : decide (0 ≤ x5_1) = true := decide_eq_true c6
       clear c6
       by_cases c7 : x5_1 < (a0.size : Int)
       ·rw [if_pos c7] at H
        have c7b0 : decide (x5_1 < (a0.size : Int)) = true := decide_eq_true c7
        clear c7
        by_cases c9 : x5_1 < (a1.size : Int)
        ·rw [if_pos c9] at H
         have c9b0 : decide (x5_1 < (a1.size : Int)) = true := decide_eq_true c9
         clear c9
         by_cases c11 : (bt a0 x5_1) < (bt a1 x5_1)
         ·rw [if_pos c11] at H
          have c11b0 : decide ((bt a0 x5_1) < (bt a1 x5_1)) = true := decide_eq_true c11
          clear c11
          obtain rfl := Option.some.inj H
          have p8 : 0 ≤ (x5_1 : Int) := of_decide_eq_true zq40_0
          have q8 : x5_1 < (a0.size : Int) := of_decide_eq_true zq40_0
          have hx8 := bt_at a0 x5_1
          replace p8 := eq_true p8
          replace q8 := eq_true q8
          have p10 : 0 ≤ (x5_1 : Int) := of_decide_eq_true zq40_0
          have q10 : x5_1 < (a1.size : Int) := of_decide_eq_true zq40_0
          have hx10 := bt_at a1 x5_1
          replace p10 := eq_true p10
          replace q10 := eq_true q10
          go_wp2
          repeat (go_quiet (fail); try go_wp2)
          go_ret
          exact ⟨by first | rfl | (simp; done) | (simp [*]; done), by repeat (first | exact Drawn0.refl _ | apply Drawn0.step)⟩
         ·rw [if_neg c11] at H
          have c11b0 : decide ((bt a0 x5_1) < (bt a1 x5_1)) = false := decide_eq_false c11
          clear c11
          by_cases c14 : (bt a0 x5_1) > (bt a1 x5_1)
          ·rw [if_pos c14] at H
           have c14b0 : decide ((bt a1 x5_1) < (bt a0 x5_1)) = true := decide_eq_true c14
           clear c14
           obtain rfl := Option.some.inj H
           have p8 : 0 ≤ (x5_1 : Int) := of_decide_eq_true zq40_0
           have q8 : x5_1 < (a0.size : Int) := of_decide_eq_true zq40_0
           have hx8 := bt_at a0 x5_1
           replace p8 := eq_true p8
           replace q8 := eq_true q8
           have p10 : 0 ≤ (x5_1 : Int) := of_decide_eq_true zq40_0
           have q10 : x5_1 < (a1.size : Int) := of_decide_eq_true zq40_0
           have hx10 := bt_at a1 x5_1
           replace p10 := eq_true p10
           replace q10 := eq_true q10
           have p12 : 0 ≤ (x5_1 : Int) := of_decide_eq_true zq40_0
           have q12 : x5_1 < (a0.size : Int) := of_decide_eq_true zq40_0
           have hx12 := bt_at a0 x5_1
           replace p12 := eq_true p12
           replace q12 := eq_true q12
           have p13 : 0 ≤ (x5_1 : Int) := of_decide_eq_true zq40_0
           have q13 : x5_1 < (a1.size : Int) := of_decide_eq_true zq40_0
           have hx13 := bt_at a1 x5_1
           replace p13 := eq_true p13
           replace q13 := eq_true q13
           go_wp2
           repeat (go_quiet (fail); try go_wp2)
           go_ret
           exact ⟨by first | rfl | (simp; done) | (simp [*]; done), by repeat (first | exact Drawn0.refl _ | apply Drawn0.step)⟩
          ·rw [if_neg c14] at H
           have c14b0 : decide ((bt a1 x5_1) < (bt a0 x5_1)) = false := decide_eq_false c14
           clear c14
           have H' := Aside0.mk H
           clear H
           have p8 : 0 ≤ (x5_1 : Int) := of_decide_eq_true zq40_0
           have q8 : x5_1 < (a0.size : Int) := of_decide_eq_true zq40_0
           have hx8 := bt_at a0 x5_1
           replace p8 := eq_true p8
           replace q8 := eq_true q8
           have p10 : 0 ≤ (x5_1 : Int) := of_decide_eq_true zq40_0
           have q10 : x5_1 < (a1.size : Int) := of_decide_eq_true zq40_0
           have hx10 := bt_at a1 x5_1
           replace p10 := eq_true p10
           replace q10 := eq_true q10
           have p12 : 0 ≤ (x5_1 : Int) := of_decide_eq_true zq40_0
           have q12 : x5_1 < (a0.size : Int) := of_decide_eq_true zq40_0
           have hx12 := bt_at a0 x5_1
           replace p12 := eq_true p12
           replace q12 := eq_true q12
           have p13 : 0 ≤ (x5_1 : Int) := of_decide_eq_true zq40_0
           have q13 : x5_1 < (a1.size : Int) := of_decide_eq_true zq40_0
           have hx13 := bt_at a1 x5_1
           replace p13 := eq_true p13
           replace q13 := eq_true q13
           go_wp2
           repeat (go_quiet (fail); try go_wp2)
           go_roundg kj2
           case measure => have := HK1.out; have := HJ2.out; omega
           case rel => exact ⟨(wrap64 (x5_1 + 1)), zq40_1, H', ⟨by have := HK1.out; have := HJ2.out; omega⟩, by repeat (first | exact Drawn0.refl _ | apply Drawn0.step)⟩
        ·rw [if_neg c9] at H
         exact absurd H (by simp)
       ·rw [if_neg c7] at H
        exact absurd H (by simp)
      ·rw [if_neg c6] at H
       exact absurd H (by simp)
     ·replace c5 := Bool.eq_false_iff.mpr c5
      subst c5
      have H1 : (if (a0.size : Int) < (a1.size : Int) then (some (-1)) else (if (a0.size : Int) > (a1.size : Int) then (some 1) else (some 0))) = some r := by rw [if_neg (show ¬ (false = true) by decide)] at H; exact H
      clear H
      have H := H1
      clear H1
      by_cases c15 : (a0.size : Int) < (a1.size : Int)
      ·rw [if_pos c15] at H
       have c15b0 : decide ((a0.size : Int) < (a1.size : Int)) = true := decide_eq_true c15
       have c15b1 : decide (a0.size < a1.size) = true := decide_eq_true (Int.ofNat_lt.mp c15)
       clear c15
       obtain rfl := Option.some.inj H
       go_wp2
       repeat (go_quiet (fail); try go_wp2)
       go_ret
       exact ⟨by first | rfl | (simp; done) | (simp [*]; done), by repeat (first | exact Drawn0.refl _ | apply Drawn0.step)⟩
      ·rw [if_neg c15] at H
       have c15b0 : decide ((a0.size : Int) < (a1.size : Int)) = false := decide_eq_false c15
       have c15b1 : decide (a0.size < a1.size) = false := decide_eq_false (fun h => c15 (Int.ofNat_lt.mpr h))
       clear c15
       by_cases c16 : (a0.size : Int) > (a1.size : Int)
       ·rw [if_pos c16] at H
        have c16b0 : decide ((a1.size : Int) < (a0.size : Int)) = true := decide_eq_true c16
        have c16b1 : decide (a1.size < a0.size) = true := decide_eq_true (Int.ofNat_lt.mp c16)
        clear c16
        obtain rfl := Option.some.inj H
        go_wp2
        repeat (go_quiet (fail); try go_wp2)
        go_ret
        exact ⟨by first | rfl | (simp; done) | (simp [*]; done), by repeat (first | exact Drawn0.refl _ | apply Drawn0.step)⟩
       ·rw [if_neg c16] at H
        have c16b0 : decide ((a1.size : Int) < (a0.size : Int)) = false := decide_eq_false c16
        have c16b1 : decide (a1.size < a0.size) = false := decide_eq_false (fun h => c16 (Int.ofNat_lt.mpr h))
        clear c16
        obtain rfl := Option.some.inj H
        go_wp2
        repeat (go_quiet (fail); try go_wp2)
        go_ret
        exact ⟨by first | rfl | (simp; done) | (simp [*]; done), by repeat (first | exact Drawn0.refl _ | apply Drawn0.step)⟩

end Go.Proofs.Ytoodahceejdbcaa.P
