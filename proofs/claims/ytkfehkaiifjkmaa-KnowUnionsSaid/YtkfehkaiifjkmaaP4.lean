-- Written by a program of this session (wip/pp.py over the kit's printer, with our own texts put in).
import Derived.Test.YtkfehkaiifjkmaaP0
import Derived.Test.YtkfehkaiifjkmaaP1
import Derived.Test.YtkfehkaiifjkmaaP2
import Derived.Test.YtkfehkaiifjkmaaP3
namespace Go.Proofs.Ytkfehkaiifjkmaa.P
open Go.RowKit Go.Proofs.YtkfehkaiifjkmaaW.PrintWords Go.Proofs.YtkfehkaiifjkmaaW.PrintLast Go.Proofs.YtkfehkaiifjkmaaW.PrintMore
attribute [local go_sem] max2_int min2_int max_two min_two max_three min_three max_four min_four   -- for this text's walks alone
set_option linter.unusedVariables false
set_option linter.unusedSimpArgs false

/-! ### know_Firsts: function 33 -/
def know_Firsts.l0 : Nat → List (S59) → List (S61) → Int → Int → Option ((List (S59)))
  | 0, _, _, _, _ => none
  | k + 1, x3, x6, x7, x8 => if x8 < x7 then (if 0 ≤ x8 then (if x8 < (x6.length : Int) then ((vec_Set.f x3 ((rd_T61 x6 x8).f0) ((rd_T61 x6 x8).f1.f0)).bind fun t196 => (know_Firsts.l0 k t196 x6 x7 (wrap64 (x8 + 1)))) else (none)) else (none)) else (some x3)
def know_Firsts.f (k : Nat) (l0 : List (S61)) : Option ((List (S59))) := know_Firsts.l0 k ([] : List (S59)) l0 (l0.length : Int) 0
theorem know_Firsts.mono_l : ∀ k, (∀ y0 y1 y2 y3, LeO (know_Firsts.l0 k y0 y1 y2 y3) (know_Firsts.l0 (k + 1) y0 y1 y2 y3))
  | 0 => fun _ _ _ _ r h => by simp [know_Firsts.l0] at h
  | k + 1 => by
    have ih0 := know_Firsts.mono_l k
    · intro y0 y1 y2 y3
      unfold know_Firsts.l0
      repeat' first
      | (with_reducible exact ih0 _ _ _ _)
      | (with_reducible exact LeO.refl _)
      | (with_reducible exact LeO.none _)
      | (with_reducible refine LeO.ite ?_ ?_)
      | (with_reducible refine LeO.bind ?_ (fun _ => ?_))
      | exact ih0 _ _ _ _
      | exact LeO.none _
      | refine LeO.ite ?_ ?_
      | refine LeO.bind ?_ (fun _ => ?_)
theorem know_Firsts.mono : ∀ a0 k, LeO (know_Firsts.f k a0) (know_Firsts.f (k + 1) a0) := by
  intro a0 k
  have ih0 := know_Firsts.mono_l k
  unfold know_Firsts.f
  repeat' first
      | (with_reducible exact ih0 _ _ _ _)
      | (with_reducible exact LeO.refl _)
      | (with_reducible exact LeO.none _)
      | (with_reducible refine LeO.ite ?_ ?_)
      | (with_reducible refine LeO.bind ?_ (fun _ => ?_))
      | exact ih0 _ _ _ _
      | exact LeO.none _
      | refine LeO.ite ?_ ?_
      | refine LeO.bind ?_ (fun _ => ?_)
set_option maxHeartbeats 8000000 in
set_option maxRecDepth 100000 in
theorem know_Firsts.calls (k : Nat) (A0 : Option Addr) (c0 : Nat) (l0 : List (S61)) (r : List (S59)) (w : World) (hr0 : Kd.C k61 w A0 l0.length l0) (hc0 : l0.length ≤ c0) (h : know_Firsts.f k l0 = some r) :
    Calls Try.prog 33 #[.slice A0 l0.length c0] w fun e w' => ∃ v0_ : Value, e = .returned (v0_) ∧ Kd.R k59 59 w' w.heap.size (fun _ => True) v0_ r ∧ Below w.heap.size w w' := by
  have hu61 := Try.underlying61
  have HR0 := Aside0.mk hr0
  have HC0 := Aside0.mk hc0
  clear hr0 hc0
  have HB := Aside0.mk (Below.refl w.heap.size w)
  have H : (know_Firsts.l0 k ([] : List (S59)) l0 (l0.length : Int) 0) = some r := h
  clear h
  have H' := Aside0.mk H
  clear H
  go_enter Try.func33, Try.ntmps33
  go_wp2
  go_loopg [3, 8] k (fun kq v3 v8 w' => ∃ (x3_1 : List (S59)) (x8_1 : Int), v8 = .int .i64 x8_1 ∧ Aside0 (know_Firsts.l0 kq x3_1 l0 (l0.length : Int) x8_1 = some r) ∧ Aside0 (kq ≤ k) ∧ Aside0 (Kd.R k59 59 w' w.heap.size (fun _ => True) v3 x3_1) ∧ Aside0 (Below w.heap.size w w'))
  case atStart => exact ⟨(([] : List (S59))), (0), (by first | rfl | (simp; done) | (simp [*]; done)), H', ⟨Nat.le_refl _⟩, ⟨by first | exact Kd.R_nil _ _ _ _ _ | exact Kd.N_nil _ _ _ _ _ | exact Kd.V_nil _ _ _ _ _ | exact Kd.Q_nil _ _ _ _ _ | exact Kd.S_nil _ _ _ _ _⟩, ⟨by repeat (first | (with_reducible first | exact HB.out | apply below_alloc | apply pw_below_drewN | apply below_drew1) | exact HB.out)⟩⟩
  case round =>
    clear H'
    obtain ⟨x3_1, x8_1, rfl, HA, HK1, HO_3, HB⟩ := hrel
    cases gk with
    | zero => exact absurd HA.out (by simp [know_Firsts.l0])
    | succ k1 =>
      have H := HA.out
      clear HA
      simp only [know_Firsts.l0] at H
      by_cases c2 : x8_1 < (l0.length : Int)
      · rw [if_pos c2] at H
        have c2b0 : decide (x8_1 < (l0.length : Int)) = true := decide_eq_true c2
        clear c2
        by_cases c3 : 0 ≤ x8_1
        · rw [if_pos c3] at H
          have c3b0 : decide (0 ≤ x8_1) = true := decide_eq_true c3
          clear c3
          by_cases c4 : x8_1 < (l0.length : Int)
          · rw [if_pos c4] at H
            have c4b0 : decide (x8_1 < (l0.length : Int)) = true := decide_eq_true c4
            clear c4
            replace H := Option.bind_eq_some_iff.mp H
            obtain ⟨t196, A50, H⟩ := H
            have A5 := Aside0.mk A50
            clear A50
            have H' := Aside0.mk H
            clear H
            have p194 : 0 ≤ (x8_1 : Int) := of_decide_eq_true (by first | (with_reducible assumption) | assumption)
            have q194 : x8_1 < (l0.length : Int) := of_decide_eq_true (by first | (with_reducible assumption) | assumption)
            obtain ⟨ad194, A194_2, c194_2, e194, hx194_0, hx194_1, hx194_2, hl194_2, hi194_2⟩ := at_T61 HR0.out x8_1 p194 q194
            cases e194
            replace hx194_0 := (HB.out.cell (World.block_lt_of_cell? w _ hx194_0)).trans hx194_0
            replace hx194_1 := (HB.out.cell (World.block_lt_of_cell? w _ hx194_1)).trans hx194_1
            replace hx194_2 := (HB.out.cell (World.block_lt_of_cell? w _ hx194_2)).trans hx194_2
            have HR194_2 := Aside0.mk hi194_2
            have HC194_2 := Aside0.mk hl194_2
            clear hi194_2 hl194_2
            replace p194 := eq_true p194
            replace q194 := eq_true q194
            go_wp2_with (first | ((with_reducible refine gate_dst (N := 5) rfl ?_); refine box_event ?hg (N := 5) ?hd (cs := #[.string (⟨#[]⟩ : ByteArray), .int .i64 0, .slice none 0 0]) (t := 61) ?hr ?_; (case hd => rfl); (case hg => rfl); (case hr => first | (go_simp; done) | (go_simp; rfl)); intro gb195 hg w6 hbox hb; replace HO_3 := Aside0.mk (Kd.R_below (by (with_reducible repeat (first | apply Kd.R_alloc | apply Kd.R_drewN | apply Kd.R_drew)); exact HO_3.out) hb); have BK195 := Aside0.mk (hbox); have GW195 := Aside0.mk ((by rw [hg]; exact (below_size (by repeat (first | (with_reducible first | exact HB.out | apply below_alloc | apply pw_below_drewN | apply below_drew1) | exact HB.out))) : w.heap.size ≤ gb195)); have GE195 := Aside0.mk ((by rw [hg]; exact (below_size (by repeat (first | (with_reducible first | exact HB.out | apply below_alloc | apply pw_below_drewN | apply below_drew1) | exact HB.out))) : w.heap.size ≤ gb195)); replace HB := Aside0.mk (below_step (by repeat (first | (with_reducible first | exact HB.out | apply below_alloc | apply pw_below_drewN | apply below_drew1) | exact HB.out)) hb); clear hb hbox hg; have hcz7_0 : w6.cell? ⟨gb195, 0, none⟩ = some (.string (⟨#[]⟩ : ByteArray)) := (blk_cell BK195.out 0).trans rfl; have hcz7_1 : w6.cell? ⟨gb195, 1, none⟩ = some (.int .i64 0) := (blk_cell BK195.out 1).trans rfl; have hcz7_2 : w6.cell? ⟨gb195, 2, none⟩ = some (.slice none 0 0) := (blk_cell BK195.out 2).trans rfl; have hfz7_0 := blk_frozen BK195.out 0; have hfz7_1 := blk_frozen BK195.out 1; have hfz7_2 := blk_frozen BK195.out 2; obtain ⟨Ao8, co8, eo8⟩ := Kd.R_slice HO_3.out; subst eo8) | ((with_reducible refine gate_callee (f := 64) rfl ?_); refine goesL_ (some 18) rfl rfl Try.func64 (by kernel_rfl) rfl #[.slice Ao8 x3_1.length co8, .string ((rd_T61 l0 x8_1).f0), .int .i64 ((rd_T61 l0 x8_1).f1.f0)] rfl (by (try simp only [List.map_toArray, List.map_cons, List.map_nil]); first | done | rfl | (simp only [List.length_drop, List.length_take]; rfl)) ?_; (with_reducible refine (vec_Set.calls _ _ x3_1 ((rd_T61 l0 x8_1).f0) ((rd_T61 l0 x8_1).f1.f0) t196 _ ?side1 ?side2 A5.out).mono ?_); (case side1 => refine (Kd.R_reads' (e := 59) (base := w.heap.size) (ok := fun k_ => True) (n := x3_1.length) (c := co8) ?_).2.2; exact (by (with_reducible repeat (first | apply Kd.R_alloc | apply Kd.R_drewN | apply Kd.R_drew)); exact (Kd.R_mono (Kd.R_far (p := ⟨gb195, 2, none⟩) (Kd.R_far (p := ⟨gb195, 1, none⟩) (Kd.R_far (p := ⟨gb195, 0, none⟩) (Kd.R_types HO_3.out BK195.out (by decide)) (fun _ hk => hk.2) (.string ((rd_T61 l0 x8_1).f0))) (fun _ hk => hk.2) (.int .i64 ((rd_T61 l0 x8_1).f1.f0))) (fun _ hk => hk.2) (.slice A194_2 ((rd_T61 l0 x8_1).f1.f1).length c194_2)) (fun _ h_ => h_.1)))); (case side2 => exact (Kd.R_reads' HO_3.out).2.1); rintro e w9 ⟨v197, rfl, ho0, hb⟩; refine ⟨_, rfl, ?_⟩; have HO198 := Aside0.mk (Kd.R_lower (Kd.R_new' ho0 (Kd.R_lt (by (with_reducible repeat (first | apply Kd.R_alloc | apply Kd.R_drewN | apply Kd.R_drew)); exact (Kd.R_mono (Kd.R_far (p := ⟨gb195, 2, none⟩) (Kd.R_far (p := ⟨gb195, 1, none⟩) (Kd.R_far (p := ⟨gb195, 0, none⟩) (Kd.R_types HO_3.out BK195.out (by decide)) (fun _ hk => hk.2) (.string ((rd_T61 l0 x8_1).f0))) (fun _ hk => hk.2) (.int .i64 ((rd_T61 l0 x8_1).f1.f0))) (fun _ hk => hk.2) (.slice A194_2 ((rd_T61 l0 x8_1).f1.f1).length c194_2)) (fun _ h_ => h_.1))))) (below_size (by repeat (first | (with_reducible first | exact HB.out | apply below_alloc | apply pw_below_drewN | apply below_drew1 | refine below_set ?_ GE195.out) | exact HB.out)))); replace HO_3 := Aside0.mk (Kd.R_elder' (by (with_reducible repeat (first | apply Kd.R_alloc | apply Kd.R_drewN | apply Kd.R_drew)); exact (Kd.R_mono (Kd.R_far (p := ⟨gb195, 2, none⟩) (Kd.R_far (p := ⟨gb195, 1, none⟩) (Kd.R_far (p := ⟨gb195, 0, none⟩) (Kd.R_types HO_3.out BK195.out (by decide)) (fun _ hk => hk.2) (.string ((rd_T61 l0 x8_1).f0))) (fun _ hk => hk.2) (.int .i64 ((rd_T61 l0 x8_1).f1.f0))) (fun _ hk => hk.2) (.slice A194_2 ((rd_T61 l0 x8_1).f1.f1).length c194_2)) (fun _ h_ => h_.1))) (Kd.R_base ho0) hb); replace BK195 := Aside0.mk (blk_below (g := gb195) (o := .cells #[.string ((rd_T61 l0 x8_1).f0), .int .i64 ((rd_T61 l0 x8_1).f1.f0), .slice A194_2 ((rd_T61 l0 x8_1).f1.f1).length c194_2] 61 (0, 0)) (by (with_reducible repeat (first | refine blk_drewN ?_ _ | refine blk_drew ?_ | refine blk_alloc ?_ _)); refine blk_put (cs := #[.string ((rd_T61 l0 x8_1).f0), .int .i64 ((rd_T61 l0 x8_1).f1.f0), .slice none 0 0]) ?_ 2 _ rfl; (with_reducible repeat (first | refine blk_drewN ?_ _ | refine blk_drew ?_ | refine blk_alloc ?_ _)); refine blk_put (cs := #[.string ((rd_T61 l0 x8_1).f0), .int .i64 0, .slice none 0 0]) ?_ 1 _ rfl; (with_reducible repeat (first | refine blk_drewN ?_ _ | refine blk_drew ?_ | refine blk_alloc ?_ _)); refine blk_put (cs := #[.string (⟨#[]⟩ : ByteArray), .int .i64 0, .slice none 0 0]) ?_ 0 _ rfl; (with_reducible repeat (first | refine blk_drewN ?_ _ | refine blk_drew ?_ | refine blk_alloc ?_ _)); exact BK195.out) hb); replace HB := Aside0.mk (below_step (by repeat (first | (with_reducible first | exact HB.out | apply below_alloc | apply pw_below_drewN | apply below_drew1 | refine below_set ?_ GE195.out) | exact HB.out)) hb); (try clear hb); (try clear hb2); (try clear hk); (try clear hi); (try clear ho0)))
            go_roundg k1
            case measure => have := HK1.out; omega
            case rel => exact ⟨(t196), (wrap64 (x8_1 + 1)), (by first | rfl | (simp; done) | (simp [*]; done)), H', ⟨by have := HK1.out; omega⟩, ⟨by (with_reducible repeat (first | apply Kd.R_alloc | apply Kd.R_drewN | apply Kd.R_drew)); exact Kd.R_mono HO198.out (fun _ hk => trivial)⟩, ⟨by repeat (first | (with_reducible first | exact HB.out | apply below_alloc | apply pw_below_drewN | apply below_drew1 | refine below_set ?_ GE195.out) | exact HB.out)⟩⟩
          · rw [if_neg c4] at H
            exact absurd H (by simp)
        · rw [if_neg c3] at H
          exact absurd H (by simp)
      · rw [if_neg c2] at H
        have c2b0 : decide (x8_1 < (l0.length : Int)) = false := decide_eq_false c2
        clear c2
        obtain rfl := Option.some.inj H
        go_wp2
        go_ret
        exact ⟨_, by first | rfl | (simp [errW_none, errW_some] <;> rfl) | (simp [*, errW_none, errW_some] <;> rfl), by (with_reducible repeat (first | apply Kd.R_alloc | apply Kd.R_drewN | apply Kd.R_drew)); exact HO_3.out, by repeat (first | (with_reducible first | exact HB.out | apply below_alloc | apply pw_below_drewN | apply below_drew1) | exact HB.out)⟩

/-! ### cenotaphlaw04_told: function 7 -/
def cenotaphlaw04_told.f (k : Nat) : Option Bool := (know_Add.f k [] ⟨#[48]⟩ 1).bind fun a => (know_Add.f k a ⟨#[48]⟩ 3).bind fun b => (know_Add.f k b ⟨#[48]⟩ 2).bind fun c => (know_Firsts.f k c).bind fun s =>
 if (know_Extras.f k b = some 1 ∧ know_Count.f k b = some 2 ∧ know_Has.f k b ⟨#[48]⟩ 3 = some true ∧ know_Has.f k b ⟨#[48]⟩ 2 = some false) ∧ (know_Extras.f k c = some 0 ∧ know_Within.f k b c = some true ∧ know_Within.f k c b = some false) ∧ (s.length = 1 ∧ (s.getD 0 z59).f1 = 3) ∧ know_Right.f k b = some true then some true else none
theorem cenotaphlaw04_told.mono : ∀ k, LeO (cenotaphlaw04_told.f k) (cenotaphlaw04_told.f (k + 1)) := by
 intro k
 unfold cenotaphlaw04_told.f
 refine LeO.bind (know_Add.mono _ _ _ _) (fun b => LeO.bind (know_Add.mono _ _ _ _) (fun b => LeO.bind (know_Add.mono _ _ _ _) (fun c => LeO.bind (know_Firsts.mono _ _) (fun s => ?_))))
 intro r h
 by_cases hc : (know_Extras.f k b = some 1 ∧ know_Count.f k b = some 2 ∧ know_Has.f k b ⟨#[48]⟩ 3 = some true ∧ know_Has.f k b ⟨#[48]⟩ 2 = some false) ∧ (know_Extras.f k c = some 0 ∧ know_Within.f k b c = some true ∧ know_Within.f k c b = some false) ∧ (s.length = 1 ∧ (s.getD 0 z59).f1 = 3) ∧ know_Right.f k b = some true
 ·rw [if_pos hc] at h
  obtain ⟨⟨a1, a2, a3, a4⟩, ⟨b1, b2, b3⟩, hs, hr⟩ := hc
  rw [if_pos ⟨⟨know_Extras.mono _ _ _ a1, know_Count.mono _ _ _ a2, know_Has.mono _ _ _ _ _ a3, know_Has.mono _ _ _ _ _ a4⟩, ⟨know_Extras.mono _ _ _ b1, know_Within.mono _ _ _ _ b2, know_Within.mono _ _ _ _ b3⟩, hs, know_Right.mono _ _ _ hr⟩]
  exact h
 ·rw [if_neg hc] at h; cases h
set_option maxHeartbeats 3200000 in
set_option maxRecDepth 100000 in
theorem cenotaphlaw04_told.calls (k : Nat) (r : Bool) (w : World) (h : cenotaphlaw04_told.f k = some r) :
  Calls Try.prog 7 #[] w fun e w' => e = .returned (.bool r) ∧ Below w.heap.size w w' := by
 unfold cenotaphlaw04_told.f at h
 obtain ⟨a, ha, h⟩ := Option.bind_eq_some_iff.mp h
 obtain ⟨b, hb, h⟩ := Option.bind_eq_some_iff.mp h
 obtain ⟨c, hc, h⟩ := Option.bind_eq_some_iff.mp h
 obtain ⟨s, hs, h⟩ := Option.bind_eq_some_iff.mp h
 split at h
 rotate_left
 ·cases h
 rename_i hc
 obtain ⟨⟨a1, a2, a3, a4⟩, ⟨b1, b2, b3⟩, ⟨hs1, hs2⟩, hr⟩ := hc
 obtain rfl := Option.some.inj h
 have Kha := Aside0.mk ha
 have Khb := Aside0.mk hb
 have Khc := Aside0.mk hc
 have Khs := Aside0.mk hs
 have Ka1 := Aside0.mk a1
 have Ka2 := Aside0.mk a2
 have Ka3 := Aside0.mk a3
 have Ka4 := Aside0.mk a4
 have Kb1 := Aside0.mk b1
 have Kb2 := Aside0.mk b2
 have Kb3 := Aside0.mk b3
 have Khr := Aside0.mk hr
 have Khs1 := Aside0.mk hs1
 have Khs2 := Aside0.mk hs2
 have hl0 := eq_true (show (0 : Int) < (s.length : Int) by omega)
 have hl2 := eq_true (show 0 < s.length by omega)
 have hv4 : ∀ h : 0 < s.length, ((s[0]'h).f1 = 3) = True := fun h => eq_true (by rw [← hs2, List.getD_eq_getElem?_getD, List.getElem?_eq_getElem h]; rfl)
 have hl1 : ((s.length : Int) == 1) = true := by rw [hs1]; rfl
 have hv3 : (((s.getD 0 z59).f1) == 3) = true := by rw [hs2]; rfl
 have hv5 : ∀ h : 0 < s.length, ((s[0]'h).f1 == 3) = true := fun h => by rw [beq_iff_eq, ← hs2, List.getD_eq_getElem?_getD, List.getElem?_eq_getElem h]; rfl
 have hu := Try.underlying59
 have HB := Aside0.mk (Below.refl w.heap.size w)
 clear h ha hb hc hs a1 a2 a3 a4 b1 b2 b3 hr hs1 hs2
 go_enter Try.func7, Try.ntmps7
 go_wp2_with fail
 refine (know_Add.calls k none 0 [] ⟨#[48]⟩ 1 a w (Kd.C_nil _ _) (Nat.le_refl _) Kha.out).mono ?_
 rintro e w1 ⟨v, rfl, hV, hq⟩
 replace HB := Aside0.mk (below_step HB.out hq)
 obtain ⟨Aa, ca, rfl⟩ := Kd.V_slice hV
 have Ha := Aside0.mk (And.intro (Kd.V_reads' hV).2.1 (Kd.V_reads' hV).2.2)
 clear hV
 clear hq
 go_wp2_with fail
 refine (know_Add.calls k Aa ca a ⟨#[48]⟩ 3 b w1 Ha.out.2 Ha.out.1 Khb.out).mono ?_
 rintro e w2 ⟨v, rfl, hV, hq⟩
 replace Ha := Aside0.mk (And.intro Ha.out.1 (Kd.C_below Ha.out.2 hq))
 replace HB := Aside0.mk (below_step HB.out hq)
 obtain ⟨Ab, cb, rfl⟩ := Kd.V_slice hV
 have Hb := Aside0.mk (And.intro (Kd.V_reads' hV).2.1 (Kd.V_reads' hV).2.2)
 clear hV
 clear hq
 go_wp2_with fail
 refine (know_Add.calls k Ab cb b ⟨#[48]⟩ 2 c w2 Hb.out.2 Hb.out.1 Khc.out).mono ?_
 rintro e w3 ⟨v, rfl, hV, hq⟩
 replace Ha := Aside0.mk (And.intro Ha.out.1 (Kd.C_below Ha.out.2 hq))
 replace Hb := Aside0.mk (And.intro Hb.out.1 (Kd.C_below Hb.out.2 hq))
 replace HB := Aside0.mk (below_step HB.out hq)
 obtain ⟨Ac, cc, rfl⟩ := Kd.V_slice hV
 have Hc := Aside0.mk (And.intro (Kd.V_reads' hV).2.1 (Kd.V_reads' hV).2.2)
 clear hV
 clear hq
 go_wp2_with fail
 refine (know_Extras.calls k Ab cb b 1 w3 Hb.out.2 Hb.out.1 Ka1.out).mono ?_
 rintro e w4 ⟨rfl, hq⟩
 replace Ha := Aside0.mk (And.intro Ha.out.1 (Kd.C_below Ha.out.2 hq))
 replace Hb := Aside0.mk (And.intro Hb.out.1 (Kd.C_below Hb.out.2 hq))
 replace Hc := Aside0.mk (And.intro Hc.out.1 (Kd.C_below Hc.out.2 hq))
 replace HB := Aside0.mk (below_step HB.out hq)
 clear hq
 go_wp2_with fail
 refine (know_Count.calls k Ab cb b 2 w4 Hb.out.2 Hb.out.1 Ka2.out).mono ?_
 rintro e w5 ⟨rfl, hq⟩
 replace Ha := Aside0.mk (And.intro Ha.out.1 (Kd.C_below Ha.out.2 hq))
 replace Hb := Aside0.mk (And.intro Hb.out.1 (Kd.C_below Hb.out.2 hq))
 replace Hc := Aside0.mk (And.intro Hc.out.1 (Kd.C_below Hc.out.2 hq))
 replace HB := Aside0.mk (below_step HB.out hq)
 clear hq
 go_wp2_with fail
 refine (know_Has.calls k Ab cb b ⟨#[48]⟩ 3 true w5 Hb.out.2 Hb.out.1 Ka3.out).mono ?_
 rintro e w6 ⟨rfl, hq⟩
 replace Ha := Aside0.mk (And.intro Ha.out.1 (Kd.C_below Ha.out.2 hq))
 replace Hb := Aside0.mk (And.intro Hb.out.1 (Kd.C_below Hb.out.2 hq))
 replace Hc := Aside0.mk (And.intro Hc.out.1 (Kd.C_below Hc.out.2 hq))
 replace HB := Aside0.mk (below_step HB.out hq)
 clear hq
 go_wp2_with fail
 refine (know_Has.calls k Ab cb b ⟨#[48]⟩ 2 false w6 Hb.out.2 Hb.out.1 Ka4.out).mono ?_
 rintro e w7 ⟨rfl, hq⟩
 replace Ha := Aside0.mk (And.intro Ha.out.1 (Kd.C_below Ha.out.2 hq))
 replace Hb := Aside0.mk (And.intro Hb.out.1 (Kd.C_below Hb.out.2 hq))
 replace Hc := Aside0.mk (And.intro Hc.out.1 (Kd.C_below Hc.out.2 hq))
 replace HB := Aside0.mk (below_step HB.out hq)
 clear hq
 go_wp2_with fail
 refine (know_Extras.calls k Ac cc c 0 w7 Hc.out.2 Hc.out.1 Kb1.out).mono ?_
 rintro e w8 ⟨rfl, hq⟩
 replace Ha := Aside0.mk (And.intro Ha.out.1 (Kd.C_below Ha.out.2 hq))
 replace Hb := Aside0.mk (And.intro Hb.out.1 (Kd.C_below Hb.out.2 hq))
 replace Hc := Aside0.mk (And.intro Hc.out.1 (Kd.C_below Hc.out.2 hq))
 replace HB := Aside0.mk (below_step HB.out hq)
 clear hq
 go_wp2_with fail
 refine (know_Within.calls k Ab cb b Ac cc c true w8 Hb.out.2 Hb.out.1 Hc.out.2 Hc.out.1 Kb2.out).mono ?_
 rintro e w9 ⟨rfl, hq⟩
 replace Ha := Aside0.mk (And.intro Ha.out.1 (Kd.C_below Ha.out.2 hq))
 replace Hb := Aside0.mk (And.intro Hb.out.1 (Kd.C_below Hb.out.2 hq))
 replace Hc := Aside0.mk (And.intro Hc.out.1 (Kd.C_below Hc.out.2 hq))
 replace HB := Aside0.mk (below_step HB.out hq)
 clear hq
 go_wp2_with fail
 refine (know_Within.calls k Ac cc c Ab cb b false w9 Hc.out.2 Hc.out.1 Hb.out.2 Hb.out.1 Kb3.out).mono ?_
 rintro e w10 ⟨rfl, hq⟩
 replace Ha := Aside0.mk (And.intro Ha.out.1 (Kd.C_below Ha.out.2 hq))
 replace Hb := Aside0.mk (And.intro Hb.out.1 (Kd.C_below Hb.out.2 hq))
 replace Hc := Aside0.mk (And.intro Hc.out.1 (Kd.C_below Hc.out.2 hq))
 replace HB := Aside0.mk (below_step HB.out hq)
 clear hq
 go_wp2_with fail
 refine (know_Firsts.calls k Ac cc c s w10 Hc.out.2 Hc.out.1 Khs.out).mono ?_
 rintro e w11 ⟨v, rfl, ho, hq⟩
 replace Ha := Aside0.mk (And.intro Ha.out.1 (Kd.C_below Ha.out.2 hq))
 replace Hb := Aside0.mk (And.intro Hb.out.1 (Kd.C_below Hb.out.2 hq))
 replace Hc := Aside0.mk (And.intro Hc.out.1 (Kd.C_below Hc.out.2 hq))
 replace HB := Aside0.mk (below_step HB.out hq)
 obtain ⟨As, cs, rfl⟩ := Kd.R_slice ho
 clear ho
 clear hq
 go_wp2_with fail
 refine (know_Firsts.calls k Ac cc c s w11 Hc.out.2 Hc.out.1 Khs.out).mono ?_
 rintro e w12 ⟨v, rfl, ho, hq⟩
 replace Ha := Aside0.mk (And.intro Ha.out.1 (Kd.C_below Ha.out.2 hq))
 replace Hb := Aside0.mk (And.intro Hb.out.1 (Kd.C_below Hb.out.2 hq))
 replace Hc := Aside0.mk (And.intro Hc.out.1 (Kd.C_below Hc.out.2 hq))
 replace HB := Aside0.mk (below_step HB.out hq)
 obtain ⟨As2, cs2, rfl⟩ := Kd.R_slice ho
 obtain ⟨ad, hA, hx0, hx1⟩ := at_T59 (Kd.R_reads' ho).2.2 0 (by omega) (by have := Khs1.out; omega)
 obtain ⟨g, cap, ev, -, -, -⟩ := Kd.R_form ho (by have := Khs1.out; omega)
 injection ev with eA _ _
 rw [hA] at eA
 injection eA with eA
 subst eA
 subst hA
 simp only [Int.toNat_zero, rd_T59, Nat.zero_mul, Addr.add_lit, Nat.zero_add] at hx0 hx1
 clear ho
 clear hq
 go_wp2_with fail
 refine (know_Right.calls k Ab cb b true w12 Hb.out.2 Hb.out.1 Khr.out).mono ?_
 rintro e w13 ⟨rfl, hq⟩
 replace Ha := Aside0.mk (And.intro Ha.out.1 (Kd.C_below Ha.out.2 hq))
 replace Hb := Aside0.mk (And.intro Hb.out.1 (Kd.C_below Hb.out.2 hq))
 replace Hc := Aside0.mk (And.intro Hc.out.1 (Kd.C_below Hc.out.2 hq))
 replace HB := Aside0.mk (below_step HB.out hq)
 clear hq
 go_wp2_with fail
 go_ret
 first | exact ⟨rfl, HB.out⟩ | exact ⟨congrArg (fun b => Ending.returned (Value.bool b)) (hv5 (by have := Khs1.out; omega)), HB.out⟩

/-! ### cenotaphlaw02_To: function 38 -/
def cenotaphlaw02_To.f (a0_0 : Int) (l0_1 : List Int) : Option (Int × List Int) := (some (([] : List Int) : List Int)).bind fun y201 => (if y201.length + l0_1.length < 17592186044416 then (some (a0_0, (y201 ++ l0_1))) else (none))
def cenotaphlaw02_To.T1 : Bool × List (List Nat × List Nat) := (true, [([], []), ([0], [0]), ([], []), ([], []), ([3], [3]), ([2, 4], [2, 4]), ([1, 5], [1, 5]), ([6, 5, 0, 1, 2, 3, 4, 5, 6], [6])])
def cenotaphlaw02_To.B1 : List Nat := [0, 1, 0, 0, 8, 28, 63, 127]
theorem cenotaphlaw02_To.tab1 : rtab .any (opsOf Try.f38 1) = cenotaphlaw02_To.T1 := by kernel_rfl
theorem cenotaphlaw02_To.bits1 : waitsOk cenotaphlaw02_To.T1.2 cenotaphlaw02_To.B1 = true := by kernel_rfl
set_option maxHeartbeats 8000000 in
set_option maxRecDepth 100000 in
theorem cenotaphlaw02_To.calls (a0_0 : Int) (A0_1 : Option Addr) (c0_1 : Nat) (l0_1 : List Int) (r1 : Int) (r2 : List Int) (w : World) (hr0_1 : Kd.C (Kd.int .i64) w A0_1 l0_1.length l0_1) (hc0_1 : l0_1.length ≤ c0_1) (h : cenotaphlaw02_To.f a0_0 l0_1 = some (r1, r2)) :
    Calls Try.prog 38 #[.agg #[.int .i64 a0_0, .slice A0_1 l0_1.length c0_1]] w fun e w' => ∃ v1_ : Value, e = .returned (.agg #[.int .i64 r1, v1_]) ∧ Kd.R (Kd.int .i64) 3 w' w.heap.size (fun _ => True) v1_ r2 ∧ Below w.heap.size w w' := by
  have hu25 := Try.underlying25
  have hu44 := Try.underlying44
  have HR0_1 := Aside0.mk hr0_1
  have HC0_1 := Aside0.mk hc0_1
  clear hr0_1 hc0_1
  have HB := Aside0.mk (Below.refl w.heap.size w)
  have H : ((some (([] : List Int) : List Int)).bind fun y201 => (if y201.length + l0_1.length < 17592186044416 then (some (a0_0, (y201 ++ l0_1))) else (none))) = some (r1, r2) := h
  clear h
  obtain ⟨y201, hy201⟩ : ∃ y_ : List Int, y_ = (([] : List Int)) := ⟨_, rfl⟩
  replace H : (if y201.length + l0_1.length < 17592186044416 then (some (a0_0, (y201 ++ l0_1))) else (none)) = some (r1, r2) := by first | (rw [hy201]; with_reducible exact H) | (have H2_ := (Option.bind_some _ _).symm.trans H; rw [hy201]; with_reducible exact H2_) | (have H2_ := (Option.bind_some _ _).symm.trans H; with_reducible exact H2_) | with_reducible exact H | (rw [hy201]; exact H) | exact H
  have Ny201 := Aside0.mk hy201
  clear hy201
  by_cases c2 : y201.length + l0_1.length < 17592186044416
  · rw [if_pos c2] at H
    have LMc2 := Aside0.mk c2
    clear c2
    obtain ⟨y204, hy204⟩ : ∃ y_ : List Int, y_ = (y201 ++ l0_1) := ⟨_, rfl⟩
    replace H : (some (a0_0, y204)) = some (r1, r2) := by first | (rw [hy204]; with_reducible exact H) | (have H2_ := (Option.bind_some _ _).symm.trans H; rw [hy204]; with_reducible exact H2_) | (have H2_ := (Option.bind_some _ _).symm.trans H; with_reducible exact H2_) | with_reducible exact H | (rw [hy204]; exact H) | exact H
    have Ny204 := Aside0.mk hy204
    clear hy204
    simp only [Option.some.injEq, Prod.mk.injEq] at H
    obtain ⟨rfl, rfl⟩ := H
    go_enter Try.func38, Try.ntmps38
    try go_wp2_with (first | ((with_reducible refine gate_dst (N := 1) rfl ?_); refine box_event ?hg (N := 1) ?hd (cs := #[.int .i64 a0_0, .slice A0_1 l0_1.length c0_1]) (t := 25) ?hr ?_; (case hd => rfl); (case hg => rfl); (case hr => first | (go_simp; done) | (go_simp; rfl)); intro gb199 hg w3 hbox hb; have BK199 := Aside0.mk (hbox); have GW199 := Aside0.mk ((by rw [hg]; exact (below_size (by repeat (first | (with_reducible first | exact HB.out | apply below_alloc | apply pw_below_drewN | apply below_drew1) | exact HB.out))) : w.heap.size ≤ gb199)); have GE199 := Aside0.mk ((by rw [hg]; exact (below_size (by repeat (first | (with_reducible first | exact HB.out | apply below_alloc | apply pw_below_drewN | apply below_drew1) | exact HB.out))) : w.heap.size ≤ gb199)); replace HB := Aside0.mk (below_step (by repeat (first | (with_reducible first | exact HB.out | apply below_alloc | apply pw_below_drewN | apply below_drew1) | exact HB.out)) hb); clear hb hbox hg) | ((with_reducible refine gate_dst (N := 2) rfl ?_); refine box_event ?hg (N := 2) ?hd (cs := #[.int .i64 0, .slice none 0 0]) (t := 44) ?hr ?_; (case hd => rfl); (case hg => rfl); (case hr => first | (go_simp; done) | (go_simp; rfl)); intro gb200 hg w4 hbox hb; have BK200 := Aside0.mk (hbox); have GW200 := Aside0.mk ((by rw [hg]; exact (below_size (by repeat (first | (with_reducible first | exact HB.out | apply below_alloc | apply pw_below_drewN | apply below_drew1 | refine below_set ?_ GE199.out) | exact HB.out))) : w.heap.size ≤ gb200)); have GE200 := Aside0.mk ((by rw [hg]; exact (below_size (by repeat (first | (with_reducible first | exact HB.out | apply below_alloc | apply pw_below_drewN | apply below_drew1 | refine below_set ?_ GE199.out) | exact HB.out))) : w.heap.size ≤ gb200)); replace HB := Aside0.mk (below_step (by repeat (first | (with_reducible first | exact HB.out | apply below_alloc | apply pw_below_drewN | apply below_drew1 | refine below_set ?_ GE199.out) | exact HB.out)) hb); have NB199_200 := Aside0.mk ((by rw [hg]; exact Nat.ne_of_lt (blk_lt (g := gb199) (o := .cells #[.int .i64 a0_0, .slice A0_1 l0_1.length c0_1] 25 (0, 0)) (by (with_reducible repeat (first | refine blk_drewN ?_ _ | refine blk_drew ?_ | refine blk_alloc ?_ _)); exact BK199.out)) : gb199 ≠ gb200)); have NB200_199 := Aside0.mk ((by rw [hg]; exact Nat.ne_of_gt (blk_lt (g := gb199) (o := .cells #[.int .i64 a0_0, .slice A0_1 l0_1.length c0_1] 25 (0, 0)) (by (with_reducible repeat (first | refine blk_drewN ?_ _ | refine blk_drew ?_ | refine blk_alloc ?_ _)); exact BK199.out)) : gb200 ≠ gb199)); replace BK199 := Aside0.mk (blk_below (g := gb199) (o := .cells #[.int .i64 a0_0, .slice A0_1 l0_1.length c0_1] 25 (0, 0)) (by (with_reducible repeat (first | refine blk_drewN ?_ _ | refine blk_drew ?_ | refine blk_alloc ?_ _)); exact BK199.out) hb); clear hb hbox hg))
    have n0_ := Aside0.mk (blk_drew BK199.out)
    have n1_ := Aside0.mk (blk_drew BK200.out)
    have n2_ := Aside0.mk (below_drew1 HB.out)
    clear BK199
    clear BK200
    clear HB
    have BK199 := n0_
    have BK200 := n1_
    have HB := n2_
    clear n0_ n1_ n2_
    refine start_ (n := 8) (S := fun w' => w'.cell? ⟨gb199, 0, none⟩ = some (.int .i64 a0_0) ∧ w'.cell? ⟨gb199, 1, none⟩ = some (.slice A0_1 l0_1.length c0_1)) (ds := []) #[false, false, false, false, false, false, false, false] (by kernel_rfl) rfl rfl ⟨(blk_cell BK199.out 0).trans rfl, (blk_cell BK199.out 1).trans rfl⟩ (fun hHeld => ?_); refine with_tabW cenotaphlaw02_To.tab1 cenotaphlaw02_To.bits1 (fun HT_ HW_ => ?_)
    generalize w4.drew = w5 at BK199 BK200 HB hHeld ⊢
    refine p_ 0 3 (mk_ 8 0x1) ?_
    refine p_ 3 6 (mk_ 8 0x9) ?_
    refine t_ 1 4 (mk_ 8 0xb) hHeld ?_
    refine t_ 4 7 (mk_ 8 0x1b) hHeld ?_
    refine one_ (i := 2) (N := some 5) #[true, true, true, true, true, false, false, false] rfl rfl (one_of HT_.out (by kernel_rfl)) (by decide) (fun K hK => ?_)
    refine Kd.R_lit_step (Kd.int .i64) _ 3 ?hg (N := 5) ?hd (xs := ([] : List Int)) (inner := []) (ok := fun _ => True) (okp := fun _ => True) ?hr ?hp (fun _ hk => hk) trivial (Below.refl _ _) (Nat.le_refl _) (by simp) ?_; (case hd => rfl); (case hg => rfl); (case hr => first | (go_simp; done) | (go_simp; rfl)); (case hp => exact (Reps.none _ _))
    intro v202 w6 ho7 hb hg_ hnew_
    clear hg_ hnew_
    (first | rw [← Ny201.out] at ho7 | (simp only [Int.reduceToNat] at ho7; rw [← Ny201.out] at ho7))
    have n0_ := Aside0.mk (Kd.R_lower ho7 (below_size (by repeat (first | (with_reducible first | exact HB.out | apply below_alloc | apply pw_below_drewN | apply below_drew1 | refine below_set ?_ GE199.out | refine below_set ?_ GE200.out) | exact HB.out))))
    have n1_ := Aside0.mk (blk_below (g := gb199) (o := .cells #[.int .i64 a0_0, .slice A0_1 l0_1.length c0_1] 25 (0, 0)) (by (with_reducible repeat (first | refine blk_drewN ?_ _ | refine blk_drew ?_ | refine blk_alloc ?_ _)); exact BK199.out) hb)
    have n2_ := Aside0.mk (blk_below (g := gb200) (o := .cells #[.int .i64 0, .slice none 0 0] 44 (0, 0)) (by (with_reducible repeat (first | refine blk_drewN ?_ _ | refine blk_drew ?_ | refine blk_alloc ?_ _)); exact BK200.out) hb)
    have n3_ := Aside0.mk (below_step (by repeat (first | (with_reducible first | exact HB.out | apply below_alloc | apply pw_below_drewN | apply below_drew1 | refine below_set ?_ GE199.out | refine below_set ?_ GE200.out) | exact HB.out)) hb)
    clear BK199
    clear BK200
    clear HB
    have HO203 := n0_
    have BK199 := n1_
    have BK200 := n2_
    have HB := n3_
    clear n0_ n1_ n2_ n3_
    clear hb ho7
    refine hK.out _ _ ⟨(blk_cell BK199.out 0).trans rfl, (blk_cell BK199.out 1).trans rfl⟩ (fun hHeld => ?_)
    clear hK K
    refine norm_ (a' := ?_) ?_ ?_
    rotate_left
    · show Act.put _ (some 5) _ = _
      simp only [Act.put, List.setIfInBounds_toArray, List.set_cons_zero, List.set_cons_succ, i64_w, i32_w]
      rfl
    refine one_ (i := 5) (N := some 8) #[true, true, true, true, true, true, false, false] rfl rfl (one_of HT_.out (by kernel_rfl)) (by decide) (fun K hK => ?_)
    refine Kd.R_append_rows_step (Kd.int .i64) (w0 := w) w.heap.size (by rfl) (.tmp 5) (.tmp 7) 23 3 (.int .i64 0) 8 rfl Try.underlying23 info3 rfl (by decide) (by omega) v202 y201 l0_1 _ _ _ (fun _ => True) (fun _ => False) rfl rfl ?aO ?aR (fun _ _ h => h) (fun _ h => h.elim) ?aF ?aB ?aS ?aL ?_
    (case aR => repeat (first | exact (Kd.C_below HR0_1.out HB.out) | (with_reducible refine Kd.C_alloc ?_ _) | (with_reducible refine Kd.C_drewN ?_ _) | (with_reducible refine Kd.C_drew ?_)))
    (case aB => exact (by repeat (first | (with_reducible first | exact HB.out | apply below_alloc | apply pw_below_drewN | apply below_drew1 | refine below_set ?_ GE199.out | refine below_set ?_ GE200.out) | exact HB.out)))
    (case aF => exact (fun _ _ => trivial))
    (case aO => exact (by (with_reducible repeat (first | apply Kd.R_alloc | apply Kd.R_drewN | apply Kd.R_drew)); exact HO203.out))
    (case aS => exact (below_size (by repeat (first | (with_reducible first | exact HB.out | apply below_alloc | apply pw_below_drewN | apply below_drew1 | refine below_set ?_ GE199.out | refine below_set ?_ GE200.out) | exact HB.out))))
    (case aL => have := LMc2.out; omega)
    intro v205 w8 ho hb hg hat
    rw [← Ny204.out] at ho
    have n0_ := Aside0.mk (blk_grown (g := gb199) (o := .cells #[.int .i64 a0_0, .slice A0_1 l0_1.length c0_1] 25 (0, 0)) (by (with_reducible repeat (first | refine blk_drewN ?_ _ | refine blk_drew ?_ | refine blk_alloc ?_ _)); exact BK199.out) hg (Kd.R_ne HO203.out BK199.out (by decide)))
    have n1_ := Aside0.mk (blk_grown (g := gb200) (o := .cells #[.int .i64 0, .slice none 0 0] 44 (0, 0)) (by (with_reducible repeat (first | refine blk_drewN ?_ _ | refine blk_drew ?_ | refine blk_alloc ?_ _)); exact BK200.out) hg (Kd.R_ne HO203.out BK200.out (by decide)))
    have n2_ := Aside0.mk (hb)
    have n3_ := Aside0.mk (ho)
    clear BK199
    clear BK200
    clear HB
    clear HO203
    have BK199 := n0_
    have BK200 := n1_
    have HB := n2_
    have HO206 := n3_
    clear n0_ n1_ n2_ n3_
    clear ho hb hg hat
    obtain ⟨Ao9, co9, eo9⟩ := Kd.R_slice HO206.out
    (first | subst eo9 | (injection eo9 with f1_ f2_ f3_; have f4_ := f1_.symm; have f5_ := f3_.symm; clear f1_ f2_ f3_; subst f4_; subst f5_))
    refine hK.out _ _ ⟨(blk_cell BK199.out 0).trans rfl, (blk_cell BK199.out 1).trans rfl⟩ (fun hHeld => ?_)
    clear hK K
    refine norm_ (a' := ?_) ?_ ?_
    rotate_left
    · show Act.put _ (some 8) _ = _
      simp only [Act.put, List.setIfInBounds_toArray, List.set_cons_zero, List.set_cons_succ, i64_w, i32_w]
      rfl
    refine p_ 6 9 (mk_ 8 0x7f) ?_
    refine one_ (i := 7) (N := none) #[true, true, true, true, true, true, true, true] rfl rfl (one_of HT_.out (by kernel_rfl)) (by decide) (fun K hK => ?_)
    have hs10 : w8.cell? ⟨gb200, 0, none⟩ = some (.int .i64 0) := (blk_cell BK200.out 0).trans rfl
    have hfs10 := blk_frozen BK200.out 0
    have hns10_0 := NB199_200.out
    have hms10_0 := NB200_199.out
    have hs11 : w8.cell? ⟨gb200, 1, none⟩ = some (.slice none 0 0) := (blk_cell BK200.out 1).trans rfl
    have hfs11 := blk_frozen BK200.out 1
    have hns11_0 := NB199_200.out
    have hms11_0 := NB200_199.out
    refine skip_ (w1 := ?_) (by rfl) rfl ?_ ?_
    rotate_left
    · go_simp
      rfl
    refine hK.out _ _ ⟨((cell_far (p := ⟨gb200, _, none⟩) NB199_200.out _).trans (((cell_far (p := ⟨gb200, _, none⟩) NB199_200.out _).trans (hHeld.1)))), ((cell_far (p := ⟨gb200, _, none⟩) NB199_200.out _).trans (((cell_far (p := ⟨gb200, _, none⟩) NB199_200.out _).trans (hHeld.2))))⟩ (fun hHeld => ?_)
    clear hK K
    refine done_ (done_of HT_.out (by kernel_rfl)) ?_
    try go_wp2
    refine bodyPost_ret (results_cell_row rfl _ _ gb200 44 #[.int .i64 a0_0, .slice Ao9 y204.length co9] (0, 0) _ rfl (by (with_reducible repeat (first | refine blk_drewN ?_ _ | refine blk_drew ?_ | refine blk_alloc ?_ _)); refine blk_put (cs := #[.int .i64 a0_0, .slice none 0 0]) ?_ 1 _ rfl; (with_reducible repeat (first | refine blk_drewN ?_ _ | refine blk_drew ?_ | refine blk_alloc ?_ _)); refine blk_put (cs := #[.int .i64 0, .slice none 0 0]) ?_ 0 _ rfl; (with_reducible repeat (first | refine blk_drewN ?_ _ | refine blk_drew ?_ | refine blk_alloc ?_ _)); exact BK200.out) Try.underlying44 rfl (by kernel_rfl)) rfl ?_
    exact ⟨_, by first | rfl | (simp [errW_none, errW_some] <;> rfl) | (simp [*, errW_none, errW_some] <;> rfl), by (with_reducible repeat (first | apply Kd.R_alloc | apply Kd.R_drewN | apply Kd.R_drew)); exact Kd.R_mono (Kd.R_far (p := ⟨gb200, 1, none⟩) (Kd.R_far (p := ⟨gb200, 0, none⟩) (Kd.R_types HO206.out BK200.out (by decide)) (fun _ hk => hk.2) (.int .i64 a0_0)) (fun _ hk => hk.2) (.slice Ao9 y204.length co9)) (fun _ hk => trivial), by repeat (first | (with_reducible first | exact HB.out | apply below_alloc | apply pw_below_drewN | apply below_drew1 | refine below_set ?_ GE199.out | refine below_set ?_ GE200.out) | exact HB.out)⟩
  · rw [if_neg c2] at H
    exact absurd H (by simp)

/-! ### cenotaphlaw04_To: function 9 -/
theorem zq9_0 {p_ : Prop} (h_ : p_ := by repeat (first | (with_reducible first | exact HB.out | apply below_alloc | apply pw_below_drewN | apply below_drew1) | exact HB.out)) : p_ := h_
theorem zq9_1 {p_ : Prop} (h_ : p_ := by first | (with_reducible assumption) | assumption) : p_ := h_
def cenotaphlaw04_To.l0 : Nat → List (S27) → List (S61) → Int → Option ((List (S61)))
 | 0, _, _, _ => none
 | k + 1, x0, x3, x4 => if x4 < (x0.length : Int) then (if 0 ≤ x4 then ((cenotaphlaw02_To.f ((rd_T27 x0 x4).f1.f0) ((rd_T27 x0 x4).f1.f1)).bind fun bt209 => (if x3.length < 2932031007402 then (cenotaphlaw04_To.l0 k x0 (x3 ++ [(⟨(rd_T27 x0 x4).f0, (⟨bt209.1, bt209.2⟩ : S44)⟩ : S61)]) (wrap64 (x4 + 1))) else (none))) else (none)) else (some x3)
def cenotaphlaw04_To.f (k : Nat) (l0 : List (S27)) : Option ((List (S61))) := cenotaphlaw04_To.l0 k l0 ([] : List (S61)) 0
theorem cenotaphlaw04_To.mono_l : ∀ k, (∀ y0 y1 y2, LeO (cenotaphlaw04_To.l0 k y0 y1 y2) (cenotaphlaw04_To.l0 (k + 1) y0 y1 y2))
 | 0 => fun _ _ _ r h => by simp [cenotaphlaw04_To.l0] at h
 | k + 1 => by
  have ih0 := cenotaphlaw04_To.mono_l k
  ·intro y0 y1 y2
   unfold cenotaphlaw04_To.l0
   repeat' first
   | (with_reducible exact ih0 _ _ _)
   | (with_reducible exact LeO.refl _)
   | (with_reducible exact LeO.none _)
   | (with_reducible refine LeO.ite ?_ ?_)
   | (with_reducible refine LeO.bind ?_ (fun _ => ?_))
   | exact ih0 _ _ _
   | exact LeO.none _
   | refine LeO.ite ?_ ?_
   | refine LeO.bind ?_ (fun _ => ?_)
theorem cenotaphlaw04_To.mono : ∀ a0 k, LeO (cenotaphlaw04_To.f k a0) (cenotaphlaw04_To.f (k + 1) a0) := by
 intro a0 k
 have ih0 := cenotaphlaw04_To.mono_l k
 unfold cenotaphlaw04_To.f
 repeat' first
   | (with_reducible exact ih0 _ _ _)
   | (with_reducible exact LeO.refl _)
   | (with_reducible exact LeO.none _)
   | (with_reducible refine LeO.ite ?_ ?_)
   | (with_reducible refine LeO.bind ?_ (fun _ => ?_))
   | exact ih0 _ _ _
   | exact LeO.none _
   | refine LeO.ite ?_ ?_
   | refine LeO.bind ?_ (fun _ => ?_)
def cenotaphlaw04_To.T5 : Bool × List (List Nat × List Nat) := (true, [([], []), ([], []), ([], []), ([1, 2], [1, 2]), ([3], [3]), ([4], [4]), ([], []), ([], []), ([6, 7], [6, 7]), ([8], [8]), ([9], [9]), ([10], [10]), ([5, 11], [5, 11]), ([12], [12]), ([0, 13, 11], [0, 13]), ([14, 14, 0, 1, 2, 3, 4, 5, 6, 7, 8, 9, 10, 11, 12, 13, 14], [0, 14])])
def cenotaphlaw04_To.B5 : List Nat := [0, 0, 0, 6, 14, 30, 0, 0, 192, 448, 960, 1984, 4094, 8190, 16383, 32767]
theorem cenotaphlaw04_To.tab5 : rtab .any (opsOf Try.f9 5) = cenotaphlaw04_To.T5 := by kernel_rfl
theorem cenotaphlaw04_To.bits5 : waitsOk cenotaphlaw04_To.T5.2 cenotaphlaw04_To.B5 = true := by kernel_rfl
set_option maxHeartbeats 8000000 in
set_option maxRecDepth 100000 in
theorem cenotaphlaw04_To.calls (k : Nat) (A0 : Option Addr) (c0 : Nat) (l0 : List (S27)) (r : List (S61)) (w : World) (hr0 : Kd.C k27 w A0 l0.length l0) (hc0 : l0.length ≤ c0) (h : cenotaphlaw04_To.f k l0 = some r) :
  Calls Try.prog 9 #[.slice A0 l0.length c0] w fun e w' => ∃ v0_ : Value, e = .returned (v0_) ∧ Kd.S k61 61 w' w.heap.size (fun _ => True) v0_ r ∧ Below w.heap.size w w' := by
 have hu25 := Try.underlying25
 have hu61 := Try.underlying61
 have HR0 := Aside0.mk hr0
 have HC0 := Aside0.mk hc0
 clear hr0 hc0
 have HB := Aside0.mk (Below.refl w.heap.size w)
 have H : (cenotaphlaw04_To.l0 k l0 ([] : List (S61)) 0) = some r := h
 clear h
 have H' := Aside0.mk H
 clear H
 go_enter Try.func9, Try.ntmps9
 go_wp2
 go_loopg [3, 4] k (fun kq v3 v4 w' => ∃ (x3_1 : List (S61)) (x4_1 : Int), v4 = .int .i64 x4_1 ∧ Aside0 (cenotaphlaw04_To.l0 kq l0 x3_1 x4_1 = some r) ∧ Aside0 (kq ≤ k) ∧ Aside0 (Kd.S k61 61 w' w.heap.size (fun _ => True) v3 x3_1) ∧ Aside0 (Below w.heap.size w w'))
 case atStart => exact ⟨(([] : List (S61))), (0), (by first | rfl | (simp; done) | (simp [*]; done)), H', ⟨Nat.le_refl _⟩, ⟨by first | exact Kd.S_nil _ _ _ _ _ | exact Kd.N_nil _ _ _ _ _ | exact Kd.V_nil _ _ _ _ _ | exact Kd.Q_nil _ _ _ _ _ | exact Kd.R_nil _ _ _ _ _⟩, ⟨by repeat (first | (with_reducible first | exact HB.out | apply below_alloc | apply pw_below_drewN | apply below_drew1) | exact HB.out)⟩⟩
 case round =>
  clear H'
  obtain ⟨x3_1, x4_1, rfl, HA, HK1, HO_3, HB⟩ := hrel
  cases gk with
  | zero => exact absurd HA.out (by simp [cenotaphlaw04_To.l0])
  | succ k1 =>
   have H := HA.out
   clear HA
   simp only [cenotaphlaw04_To.l0] at H
   by_cases c2 : x4_1 < (l0.length : Int)
   ·rw [if_pos c2] at H
    have c2b0 : decide (x4_1 < (l0.length : Int)) = true := decide_eq_true c2
    clear c2
    by_cases c3 : 0 ≤ x4_1
    ·rw [if_pos c3] at H
     have c3b0 : decide (0 ≤ x4_1) = true := decide_eq_true c3
     clear c3
     replace H := Option.bind_eq_some_iff.mp H
     obtain ⟨⟨t209, t210⟩, A40, H⟩ := H
     have A4 := Aside0.mk A40
     clear A40
     by_cases c5 : x3_1.length < 2932031007402
     ·rw [if_pos c5] at H
      have LMc5 := Aside0.mk c5
      clear c5
      obtain ⟨y213, hy213⟩ : ∃ y_ : List (S61), y_ = (x3_1 ++ [(⟨(rd_T27 l0 x4_1).f0, (⟨t209, t210⟩ : S44)⟩ : S61)]) := ⟨_, rfl⟩
      replace H : (cenotaphlaw04_To.l0 k1 l0 y213 (wrap64 (x4_1 + 1))) = some r := by first | (rw [hy213]; with_reducible exact H) | (have H2_ := (Option.bind_some _ _).symm.trans H; rw [hy213]; with_reducible exact H2_) | (have H2_ := (Option.bind_some _ _).symm.trans H; with_reducible exact H2_) | with_reducible exact H | (rw [hy213]; exact H) | exact H
      have Ny213 := Aside0.mk hy213
      clear hy213
      have H' := Aside0.mk H
      clear H
      try go_wp2
      replace HO_3 := Aside0.mk (Kd.S_drew HO_3.out)
      replace HB := Aside0.mk (below_drew1 HB.out)
      have p207 : 0 ≤ (x4_1 : Int) := of_decide_eq_true zq9_1
      have q207 : x4_1 < (l0.length : Int) := of_decide_eq_true zq9_1
      obtain ⟨ad207, A207_2, c207_2, e207, hx207_0, hx207_1, hx207_2, hl207_2, hi207_2⟩ := at_T27 HR0.out x4_1 p207 q207
      have hw207_2 := hx207_2
      have hw207_1 := hx207_1
      have hw207_0 := hx207_0
      cases e207
      replace hx207_0 := (HB.out.cell (World.block_lt_of_cell? w _ hx207_0)).trans hx207_0
      replace hx207_1 := (HB.out.cell (World.block_lt_of_cell? w _ hx207_1)).trans hx207_1
      replace hx207_2 := (HB.out.cell (World.block_lt_of_cell? w _ hx207_2)).trans hx207_2
      have HR207_2 := Aside0.mk hi207_2
      have HC207_2 := Aside0.mk hl207_2
      clear hi207_2 hl207_2
      replace p207 := eq_true p207
      replace q207 := eq_true q207
      have p208 : 0 ≤ (x4_1 : Int) := of_decide_eq_true zq9_1
      have q208 : x4_1 < (l0.length : Int) := of_decide_eq_true zq9_1
      obtain ⟨ad208, A208_2, c208_2, e208, hx208_0, hx208_1, hx208_2, hl208_2, hi208_2⟩ := at_T27 HR0.out x4_1 p208 q208
      have hw208_2 := hx208_2
      have hw208_1 := hx208_1
      have hw208_0 := hx208_0
      obtain rfl : ad207 = ad208 := (by injection e208)
      replace hx208_0 := (HB.out.cell (World.block_lt_of_cell? w _ hx208_0)).trans hx208_0
      replace hx208_1 := (HB.out.cell (World.block_lt_of_cell? w _ hx208_1)).trans hx208_1
      replace hx208_2 := (HB.out.cell (World.block_lt_of_cell? w _ hx208_2)).trans hx208_2
      have HR208_2 := Aside0.mk hi208_2
      have HC208_2 := Aside0.mk hl208_2
      clear hi208_2 hl208_2
      replace p208 := eq_true p208
      replace q208 := eq_true q208
      have ea_ := Option.some.inj (hx207_2.symm.trans hx208_2)
      injection ea_ with ea_ en_ ec_
      subst ea_
      subst ec_
      clear en_
      refine start_ (n := 16) (S := fun w' => w'.cell? (ad207.add ((x4_1).toNat * 3)) = some (.string ((rd_T27 l0 x4_1).f0)) ∧ w'.cell? ⟨(ad207.add ((x4_1).toNat * 3)).block, (ad207.add ((x4_1).toNat * 3)).off + 1, none⟩ = some (.int .i64 ((rd_T27 l0 x4_1).f1.f0)) ∧ w'.cell? ⟨(ad207.add ((x4_1).toNat * 3)).block, (ad207.add ((x4_1).toNat * 3)).off + 2, none⟩ = some (.slice A207_2 ((rd_T27 l0 x4_1).f1.f1).length c207_2) ∧ w'.cell? (ad207.add ((x4_1).toNat * 3)) = some (.string ((rd_T27 l0 x4_1).f0)) ∧ w'.cell? ⟨(ad207.add ((x4_1).toNat * 3)).block, (ad207.add ((x4_1).toNat * 3)).off + 1, none⟩ = some (.int .i64 ((rd_T27 l0 x4_1).f1.f0)) ∧ w'.cell? ⟨(ad207.add ((x4_1).toNat * 3)).block, (ad207.add ((x4_1).toNat * 3)).off + 2, none⟩ = some (.slice A207_2 ((rd_T27 l0 x4_1).f1.f1).length c207_2)) (ds := []) #[false, false, false, false, false, false, false, false, false, false, false, false, false, false, false, false] (by kernel_rfl) rfl rfl ⟨((HB.out.cell (World.block_lt_of_cell? w _ hw207_0)).trans hw207_0), ((HB.out.cell (World.block_lt_of_cell? w _ hw207_1)).trans hw207_1), ((HB.out.cell (World.block_lt_of_cell? w _ hw207_2)).trans hw207_2), ((HB.out.cell (World.block_lt_of_cell? w _ hw208_0)).trans hw208_0), ((HB.out.cell (World.block_lt_of_cell? w _ hw208_1)).trans hw208_1), ((HB.out.cell (World.block_lt_of_cell? w _ hw208_2)).trans hw208_2)⟩ (fun hHeld => ?_); refine with_tabW cenotaphlaw04_To.tab5 cenotaphlaw04_To.bits5 (fun HT_ HW_ => ?_)
      generalize wr.drew = w6 at HO_3 HB HR207_2 HR208_2 hx207_0 hx207_1 hx207_2 hx208_0 hx208_1 hx208_2 hHeld ⊢
      refine p_ 0 11 (mk_ 16 0x1) ?_
      refine p_ 1 12 (mk_ 16 0x3) ?_
      refine p_ 2 13 (mk_ 16 0x7) ?_
      refine p_ 3 14 (mk_ 16 0xf) ?_
      refine p_ 4 15 (mk_ 16 0x1f) ?_
      refine p_ 6 17 (mk_ 16 0x5f) ?_
      refine p_ 7 18 (mk_ 16 0xdf) ?_
      refine p_ 8 19 (mk_ 16 0x1df) ?_
      refine p_ 9 20 (mk_ 16 0x3df) ?_
      refine t_ 5 16 (mk_ 16 0x3ff) hHeld ?_
      refine t_ 10 21 (mk_ 16 0x7ff) hHeld ?_
      refine one_ (i := 11) (N := some 22) #[true, true, true, true, true, true, true, true, true, true, true, true, false, false, false, false] rfl rfl (one_of HT_.out (by kernel_rfl)) (by decide) (fun K hK => ?_)
      refine goes_ Try.func38 (by kernel_rfl) rfl #[.agg #[.int .i64 ((rd_T27 l0 x4_1).f1.f0), .slice A207_2 ((rd_T27 l0 x4_1).f1.f1).length c207_2]] (by rfl) rfl rfl (by (try simp only [List.map_toArray, List.map_cons, List.map_nil]); first | done | rfl | (simp only [List.length_drop, List.length_take]; rfl)) ?_
      with_reducible refine (cenotaphlaw02_To.calls ((rd_T27 l0 x4_1).f1.f0) _ _ ((rd_T27 l0 x4_1).f1.f1) t209 t210 _ ?side1 ?side2 A4.out).mono ?_
      (case side1 => repeat (first | exact (Kd.C_below HR208_2.out HB.out) | (with_reducible refine Kd.C_alloc ?_ _) | (with_reducible refine Kd.C_drewN ?_ _) | (with_reducible refine Kd.C_drew ?_)))
      (case side2 => exact HC208_2.out)
      rintro e w7 ⟨v211, rfl, ho0, hb⟩
      refine ⟨_, rfl, ?_⟩
      replace HO_3 := Aside0.mk (Kd.S_elder' (by (with_reducible repeat (first | apply Kd.S_alloc | apply Kd.S_drewN | apply Kd.S_drew)); exact HO_3.out) (Kd.R_base ho0) hb)
      have HO212 := Aside0.mk (Kd.R_lower ho0 (below_size zq9_0))
      replace HB := Aside0.mk (below_step zq9_0 hb)
      (try clear hb)
      (try clear hb2)
      (try clear hk)
      (try clear hi)
      (try clear ho0)
      obtain ⟨Ao8, co8, eo8⟩ := Kd.R_slice HO212.out
      (first | subst eo8 | (injection eo8 with f1_ f2_ f3_; have f4_ := f1_.symm; have f5_ := f3_.symm; clear f1_ f2_ f3_; subst f4_; subst f5_))
      refine hK.out _ _ ⟨((HB.out.cell (World.block_lt_of_cell? w _ hw207_0)).trans hw207_0), ((HB.out.cell (World.block_lt_of_cell? w _ hw207_1)).trans hw207_1), ((HB.out.cell (World.block_lt_of_cell? w _ hw207_2)).trans hw207_2), ((HB.out.cell (World.block_lt_of_cell? w _ hw208_0)).trans hw208_0), ((HB.out.cell (World.block_lt_of_cell? w _ hw208_1)).trans hw208_1), ((HB.out.cell (World.block_lt_of_cell? w _ hw208_2)).trans hw208_2)⟩ (fun hHeld => ?_)
      clear hK K
      refine norm_ (a' := ?_) ?_ ?_
      rotate_left
      ·show Act.put _ (some 22) _ = _
       simp only [Act.put, List.setIfInBounds_toArray, List.set_cons_zero, List.set_cons_succ, i64_w, i32_w]
       rfl
      refine p_ 12 23 (mk_ 16 0x1fff) ?_
      refine one_ (i := 13) (N := some 24) #[true, true, true, true, true, true, true, true, true, true, true, true, true, true, false, false] rfl rfl (one_of HT_.out (by kernel_rfl)) (by decide) (fun K hK => ?_)
      refine value_ (w1 := ?_) (v := ?_) (by rfl) rfl ?_ ?_
      rotate_left 2
      ·go_simp
       constructor
       ·rfl
       ·rfl
      refine hK.out _ _ ⟨(World.cell?_alloc_lt _ _ _ (World.block_lt_of_cell? _ _ (((HB.out.cell (World.block_lt_of_cell? w _ hw207_0)).trans hw207_0)))).trans (((HB.out.cell (World.block_lt_of_cell? w _ hw207_0)).trans hw207_0)), (World.cell?_alloc_lt _ _ _ (World.block_lt_of_cell? _ _ (((HB.out.cell (World.block_lt_of_cell? w _ hw207_1)).trans hw207_1)))).trans (((HB.out.cell (World.block_lt_of_cell? w _ hw207_1)).trans hw207_1)), (World.cell?_alloc_lt _ _ _ (World.block_lt_of_cell? _ _ (((HB.out.cell (World.block_lt_of_cell? w _ hw207_2)).trans hw207_2)))).trans (((HB.out.cell (World.block_lt_of_cell? w _ hw207_2)).trans hw207_2)), (World.cell?_alloc_lt _ _ _ (World.block_lt_of_cell? _ _ (((HB.out.cell (World.block_lt_of_cell? w _ hw208_0)).trans hw208_0)))).trans (((HB.out.cell (World.block_lt_of_cell? w _ hw208_0)).trans hw208_0)), (World.cell?_alloc_lt _ _ _ (World.block_lt_of_cell? _ _ (((HB.out.cell (World.block_lt_of_cell? w _ hw208_1)).trans hw208_1)))).trans (((HB.out.cell (World.block_lt_of_cell? w _ hw208_1)).trans hw208_1)), (World.cell?_alloc_lt _ _ _ (World.block_lt_of_cell? _ _ (((HB.out.cell (World.block_lt_of_cell? w _ hw208_2)).trans hw208_2)))).trans (((HB.out.cell (World.block_lt_of_cell? w _ hw208_2)).trans hw208_2))⟩ (fun hHeld => ?_)
      clear hK K
      refine norm_ (a' := ?_) ?_ ?_
      rotate_left
      ·show Act.put _ (some 24) _ = _
       simp only [Act.put, List.setIfInBounds_toArray, List.set_cons_zero, List.set_cons_succ, i64_w, i32_w]
       rfl
      refine one_ (i := 14) (N := some 25) #[true, true, true, true, true, true, true, true, true, true, true, true, true, true, true, false] rfl rfl (one_of HT_.out (by kernel_rfl)) (by decide) (fun K hK => ?_)
      refine Kd.S_append_step k61 (w0 := w) w.heap.size (by rfl) (.tmp 11) (.tmp 24) 31 61 (.agg #[(.string ⟨#[]⟩), (.int .i64 0), (.slice none 0 0)]) 48 rfl Try.underlying31 info61 rfl (by decide) (by omega) u3 x3_1 (⟨(rd_T27 l0 x4_1).f0, (⟨t209, t210⟩ : S44)⟩ : S61) [.string ((rd_T27 l0 x4_1).f0), .int .i64 t209, .slice Ao8 t210.length co8] (fun _ => True) (fun k_ => some k_ = (.slice Ao8 t210.length co8 : Value).ownBlock) rfl rfl ?aP (fun k_ hk_ => ((Kd.R_mono (ok' := fun k_ => ((fun _ => True)) k_ ∧ some k_ ≠ (u3 : Value).ownBlock) (Kd.R_apart' (HO212.out) (Kd.S_typed HO_3.out) (by decide)) (fun k_ hk => ⟨trivial, hk.2⟩))).1 k_ hk_.symm) ?aF ?aO ?aB ?aS ?aL ?_
      (case aP => exact k61_mkM _ _ _ (⟨(rd_T27 l0 x4_1).f0, (⟨t209, t210⟩ : S44)⟩ : S61) (Kd.R_mono (Kd.R_tight rfl (Kd.R_mono (ok' := fun k_ => ((fun _ => True)) k_ ∧ some k_ ≠ (u3 : Value).ownBlock) (Kd.R_apart' (HO212.out) (Kd.S_typed HO_3.out) (by decide)) (fun k_ hk => ⟨trivial, hk.2⟩))) (fun _ h_ => h_)))
      (case aB => exact zq9_0)
      (case aF => exact (fun _ _ => trivial))
      (case aO => exact (by (with_reducible repeat (first | apply Kd.S_alloc | apply Kd.S_drewN | apply Kd.S_drew)); exact Kd.S_mono HO_3.out (fun k_ hk => ⟨trivial, fun e_ => hk.2 e_⟩)))
      (case aS => exact (below_size zq9_0))
      (case aL => have := LMc5.out; omega)
      intro v214 w9 ho hb hg hat
      rw [← Ny213.out] at ho
      replace HB := Aside0.mk (hb)
      have HO215 := Aside0.mk (ho)
      clear HO_3 HO212
      clear ho hb hg hat
      refine hK.out _ _ ⟨((HB.out.cell (World.block_lt_of_cell? w _ hw207_0)).trans hw207_0), ((HB.out.cell (World.block_lt_of_cell? w _ hw207_1)).trans hw207_1), ((HB.out.cell (World.block_lt_of_cell? w _ hw207_2)).trans hw207_2), ((HB.out.cell (World.block_lt_of_cell? w _ hw208_0)).trans hw208_0), ((HB.out.cell (World.block_lt_of_cell? w _ hw208_1)).trans hw208_1), ((HB.out.cell (World.block_lt_of_cell? w _ hw208_2)).trans hw208_2)⟩ (fun hHeld => ?_)
      clear hK K
      refine norm_ (a' := ?_) ?_ ?_
      rotate_left
      ·show Act.put _ (some 25) _ = _
       simp only [Act.put, List.setIfInBounds_toArray, List.set_cons_zero, List.set_cons_succ, i64_w, i32_w]
       rfl
      refine p_ 15 3 (mk_ 16 0xffff) ?_
      refine done_ (done_of HT_.out (by kernel_rfl)) ?_
      try go_wp2
      go_roundg k1
      case measure => have := HK1.out; omega
      case rel => exact ⟨(y213), (wrap64 (x4_1 + 1)), (by first | rfl | (simp; done) | (simp [*]; done)), H', ⟨by have := HK1.out; omega⟩, ⟨by (with_reducible repeat (first | apply Kd.S_alloc | apply Kd.S_drewN | apply Kd.S_drew)); exact HO215.out⟩, ⟨by repeat (first | (with_reducible first | exact HB.out | apply below_alloc | apply pw_below_drewN | apply below_drew1) | exact HB.out)⟩⟩
     ·rw [if_neg c5] at H
      exact absurd H (by simp)
    ·rw [if_neg c3] at H
     exact absurd H (by simp)
   ·rw [if_neg c2] at H
    have c2b0 : decide (x4_1 < (l0.length : Int)) = false := decide_eq_false c2
    clear c2
    obtain rfl := Option.some.inj H
    go_wp2
    go_ret
    exact ⟨_, by first | rfl | (simp [errW_none, errW_some] <;> rfl) | (simp [*, errW_none, errW_some] <;> rfl), by (with_reducible repeat (first | apply Kd.S_alloc | apply Kd.S_drewN | apply Kd.S_drew)); exact HO_3.out, by repeat (first | (with_reducible first | exact HB.out | apply below_alloc | apply pw_below_drewN | apply below_drew1) | exact HB.out)⟩

/-! ### cenotaphref02_Count: function 41 -/
def cenotaphref02_Count.f (a0_0 : Int) (l0_1 : List Int) : Option (Int) := some (wrap64 (a0_0 + (l0_1.length : Int)))
set_option maxHeartbeats 8000000 in
set_option maxRecDepth 100000 in
theorem cenotaphref02_Count.calls (a0_0 : Int) (A0_1 : Option Addr) (c0_1 : Nat) (l0_1 : List Int) (r : Int) (w : World) (hr0_1 : Kd.C (Kd.int .i64) w A0_1 l0_1.length l0_1) (hc0_1 : l0_1.length ≤ c0_1) (h : cenotaphref02_Count.f a0_0 l0_1 = some r) :
    Calls Try.prog 41 #[.agg #[.int .i64 a0_0, .slice A0_1 l0_1.length c0_1]] w fun e w' => e = .returned (.int .i64 r) ∧ Below w.heap.size w w' := by
  have hu25 := Try.underlying25
  have HR0_1 := Aside0.mk hr0_1
  have HC0_1 := Aside0.mk hc0_1
  clear hr0_1 hc0_1
  have HB := Aside0.mk (Below.refl w.heap.size w)
  have H : (some (wrap64 (a0_0 + (l0_1.length : Int)))) = some r := h
  clear h
  obtain rfl := Option.some.inj H
  go_enter Try.func41, Try.ntmps41
  go_wp2_with (first | ((with_reducible refine gate_dst (N := 1) rfl ?_); refine box_event ?hg (N := 1) ?hd (cs := #[.int .i64 a0_0, .slice A0_1 l0_1.length c0_1]) (t := 25) ?hr ?_; (case hd => rfl); (case hg => rfl); (case hr => first | (go_simp; done) | (go_simp; rfl)); intro gb223 hg w2 hbox hb; have BK223 := Aside0.mk (hbox); have GW223 := Aside0.mk ((by rw [hg]; exact (below_size (by repeat (first | (with_reducible first | exact HB.out | apply below_alloc | apply pw_below_drewN | apply below_drew1) | exact HB.out))) : w.heap.size ≤ gb223)); have GE223 := Aside0.mk ((by rw [hg]; exact (below_size (by repeat (first | (with_reducible first | exact HB.out | apply below_alloc | apply pw_below_drewN | apply below_drew1) | exact HB.out))) : w.heap.size ≤ gb223)); replace HB := Aside0.mk (below_step (by repeat (first | (with_reducible first | exact HB.out | apply below_alloc | apply pw_below_drewN | apply below_drew1) | exact HB.out)) hb); clear hb hbox hg; have hcz3_0 : w2.cell? ⟨gb223, 0, none⟩ = some (.int .i64 a0_0) := (blk_cell BK223.out 0).trans rfl; have hcz3_1 : w2.cell? ⟨gb223, 1, none⟩ = some (.slice A0_1 l0_1.length c0_1) := (blk_cell BK223.out 1).trans rfl; have hfz3_0 := blk_frozen BK223.out 0; have hfz3_1 := blk_frozen BK223.out 1))
  go_ret
  exact ⟨by first | rfl | (simp [errW_none, errW_some] <;> rfl) | (simp [*, errW_none, errW_some] <;> rfl), by repeat (first | (with_reducible first | exact HB.out | apply below_alloc | apply pw_below_drewN | apply below_drew1 | refine below_set ?_ GE223.out) | exact HB.out)⟩

/-! ### cenotaphref01_Compare: function 42 -/
theorem zq42_0 {p_ : Prop} (h_ : p_ := by first | (with_reducible assumption) | assumption) : p_ := h_
theorem zq42_1 {p_ : Prop} (h_ : p_ := by first | rfl | (simp; done) | (simp [*]; done)) : p_ := h_
mutual
def cenotaphref01_Compare.l0 : Nat → ByteArray → ByteArray → Int → Option (Int)
 | 0, _, _, _ => none
 | k + 1, x0, x1, x5 => if x5 < (x0.size : Int) then (cenotaphref01_Compare.j1 k x0 x1 x5 (decide (x5 < (x1.size : Int)))) else (cenotaphref01_Compare.j1 k x0 x1 x5 false)
def cenotaphref01_Compare.j1 : Nat → ByteArray → ByteArray → Int → Bool → Option (Int)
 | 0, _, _, _, _ => none
 | k + 1, x0, x1, x5, x15 => if x15 = true then (if 0 ≤ x5 then (if x5 < (x0.size : Int) then (if x5 < (x1.size : Int) then (if (bt x0 x5) < (bt x1 x5) then (some (-1)) else (if (bt x0 x5) > (bt x1 x5) then (some 1) else (cenotaphref01_Compare.l0 k x0 x1 (wrap64 (x5 + 1))))) else (none)) else (none)) else (none)) else (if (x0.size : Int) < (x1.size : Int) then (some (-1)) else (if (x0.size : Int) > (x1.size : Int) then (some 1) else (some 0)))
end
def cenotaphref01_Compare.f (k : Nat) (a0 : ByteArray) (a1 : ByteArray) : Option (Int) := cenotaphref01_Compare.l0 k a0 a1 0
theorem cenotaphref01_Compare.mono_l : ∀ k, (∀ y0 y1 y2, LeO (cenotaphref01_Compare.l0 k y0 y1 y2) (cenotaphref01_Compare.l0 (k + 1) y0 y1 y2)) ∧ (∀ y0 y1 y2 y3, LeO (cenotaphref01_Compare.j1 k y0 y1 y2 y3) (cenotaphref01_Compare.j1 (k + 1) y0 y1 y2 y3))
 | 0 => ⟨fun _ _ _ r h => by simp [cenotaphref01_Compare.l0] at h, fun _ _ _ _ r h => by simp [cenotaphref01_Compare.j1] at h⟩
 | k + 1 => by
  obtain ⟨ih0, ih1⟩ := cenotaphref01_Compare.mono_l k
  refine ⟨?_, ?_⟩
  ·intro y0 y1 y2
   unfold cenotaphref01_Compare.l0
   repeat' first
   | (with_reducible exact ih0 _ _ _)
   | (with_reducible exact ih1 _ _ _ _)
   | (with_reducible exact LeO.refl _)
   | (with_reducible exact LeO.none _)
   | (with_reducible refine LeO.ite ?_ ?_)
   | (with_reducible refine LeO.bind ?_ (fun _ => ?_))
   | exact ih0 _ _ _
   | exact ih1 _ _ _ _
   | exact LeO.none _
   | refine LeO.ite ?_ ?_
   | refine LeO.bind ?_ (fun _ => ?_)
  ·intro y0 y1 y2 y3
   unfold cenotaphref01_Compare.j1
   repeat' first
   | (with_reducible exact ih0 _ _ _)
   | (with_reducible exact ih1 _ _ _ _)
   | (with_reducible exact LeO.refl _)
   | (with_reducible exact LeO.none _)
   | (with_reducible refine LeO.ite ?_ ?_)
   | (with_reducible refine LeO.bind ?_ (fun _ => ?_))
   | exact ih0 _ _ _
   | exact ih1 _ _ _ _
   | exact LeO.none _
   | refine LeO.ite ?_ ?_
   | refine LeO.bind ?_ (fun _ => ?_)
theorem cenotaphref01_Compare.mono : ∀ a0 a1 k, LeO (cenotaphref01_Compare.f k a0 a1) (cenotaphref01_Compare.f (k + 1) a0 a1) := by
 intro a0 a1 k
 obtain ⟨ih0, ih1⟩ := cenotaphref01_Compare.mono_l k
 unfold cenotaphref01_Compare.f
 repeat' first
   | (with_reducible exact ih0 _ _ _)
   | (with_reducible exact ih1 _ _ _ _)
   | (with_reducible exact LeO.refl _)
   | (with_reducible exact LeO.none _)
   | (with_reducible refine LeO.ite ?_ ?_)
   | (with_reducible refine LeO.bind ?_ (fun _ => ?_))
   | exact ih0 _ _ _
   | exact ih1 _ _ _ _
   | exact LeO.none _
   | refine LeO.ite ?_ ?_
   | refine LeO.bind ?_ (fun _ => ?_)
set_option maxHeartbeats 8000000 in
set_option maxRecDepth 100000 in
theorem cenotaphref01_Compare.calls (k : Nat) (a0 : ByteArray) (a1 : ByteArray) (r : Int) (w : World) (h : cenotaphref01_Compare.f k a0 a1 = some r) :
  Calls Try.prog 42 #[.string a0, .string a1] w fun e w' => e = .returned (.int .i64 r) ∧ Drawn0 w w' := by
 have H : (cenotaphref01_Compare.l0 k a0 a1 0) = some r := h
 clear h
 have H' := Aside0.mk H
 clear H
 go_enter Try.func42, Try.ntmps42
 go_wp2
 repeat (go_quiet (fail); try go_wp2)
 go_loopg [5] k (fun kq v5 w' => ∃ (x5_1 : Int), v5 = .int .i64 x5_1 ∧ Aside0 (cenotaphref01_Compare.l0 kq a0 a1 x5_1 = some r) ∧ Aside0 (kq ≤ k) ∧ Drawn0 w w')
 case atStart => exact ⟨(0), zq42_1, H', ⟨Nat.le_refl _⟩, by repeat (first | exact Drawn0.refl _ | apply Drawn0.step)⟩
 case round =>
  clear H'
  try clear p2
  obtain ⟨x5_1, rfl, HA, HK1, ⟨m1, rfl⟩⟩ := hrel
  cases gk with
  | zero => exact absurd HA.out (by simp [cenotaphref01_Compare.l0])
  | succ k1 =>
   have H := HA.out
   clear HA
   simp only [cenotaphref01_Compare.l0] at H
   have HC3 := Aside0.mk H
   clear H
   go_upto_region 2 with (fail)
   repeat (go_quiet (fail); go_upto_region 2 with (fail))
   go_cut [15] (fun v15 wc => ∃ (kq : Nat) (x15_2 : Bool), v15 = .bool x15_2 ∧ Aside0 (cenotaphref01_Compare.j1 kq a0 a1 x5_1 x15_2 = some r) ∧ Aside0 (kq ≤ k1) ∧ Drawn0 w wc)
   case first =>
    have H := HC3.out
    clear HC3
    by_cases c4 : x5_1 < (a0.size : Int)
    ·rw [if_pos c4] at H
     have c4b0 : decide (x5_1 < (a0.size : Int)) = true := decide_eq_true c4
     clear c4
     (first | rw [c4b0] | (simp only [i64_w, i32_w]; rw [c4b0]) | skip)
     have H' := Aside0.mk H
     clear H
     go_wp2
     repeat (go_quiet (fail); try go_wp2)
     go_meet
     case rel => exact ⟨_, (decide (x5_1 < (a1.size : Int))), zq42_1, H', ⟨by have := HK1.out; first | omega | exact Nat.le_refl _⟩, by repeat (first | exact Drawn0.refl _ | apply Drawn0.step)⟩
    ·rw [if_neg c4] at H
     have c4b0 : decide (x5_1 < (a0.size : Int)) = false := decide_eq_false c4
     clear c4
     (first | rw [c4b0] | (simp only [i64_w, i32_w]; rw [c4b0]) | skip)
     have H' := Aside0.mk H
     clear H
     go_wp2
     repeat (go_quiet (fail); try go_wp2)
     go_meet
     case rel => exact ⟨_, (false), zq42_1, H', ⟨by have := HK1.out; first | omega | exact Nat.le_refl _⟩, by repeat (first | exact Drawn0.refl _ | apply Drawn0.step)⟩
   case rest =>
    clear HC3
    try clear p2
    try clear c4
    try clear c4b0
    try clear p2
    obtain ⟨kq, x15_2, rfl, HA, HJ2, ⟨mc2, rfl⟩⟩ := hcut
    cases kq with
    | zero => exact absurd HA.out (by simp [cenotaphref01_Compare.j1])
    | succ kj2 =>
     have H := HA.out
     clear HA
     simp only [cenotaphref01_Compare.j1] at H
     by_cases c5 : x15_2 = true
     ·subst c5
      have H1 : (if 0 ≤ x5_1 then (if x5_1 < (a0.size : Int) then (if x5_1 < (a1.size : Int) then (if (bt a0 x5_1) < (bt a1 x5_1) then (some (-1)) else (if (bt a0 x5_1) > (bt a1 x5_1) then (some 1) else (cenotaphref01_Compare.l0 kj2 a0 a1 (wrap64 (x5_1 + 1))))) else (none)) else (none)) else (none)) = some r := by rw [if_pos rfl] at H; exact H
      clear H
      have H := H1
      clear H1
      by_cases c6 : 0 ≤ x5_1
      ·rw [if_pos c6] at H
       have c6b0 : decide (0 ≤ x5_1) = true := decide_eq_true c6
       clear c6
       by_cases c7 : x5_1 < (a0.size : Int)
       ·rw [if_pos c7] at H
        have c7b0 : decide (x5_1 < (a0.size : Int)) = true := decide_eq_true c7
        clear c7
        by_cases c9 : x5_1 < (a1.size : Int)
        ·rw [if_pos c9] at H
         have c9b0 : decide (x5_1 < (a1.size : Int)) = true := decide_eq_true c9
         clear c9
         by_cases c11 : (bt a0 x5_1) < (bt a1 x5_1)
         ·rw [if_pos c11] at H
          have c11b0 : decide ((bt a0 x5_1) < (bt a1 x5_1)) = true := decide_eq_true c11
          clear c11
          obtain rfl := Option.some.inj H
          have p8 : 0 ≤ (x5_1 : Int) := of_decide_eq_true zq42_0
          have q8 : x5_1 < (a0.size : Int) := of_decide_eq_true zq42_0
          have hx8 := bt_at a0 x5_1
          replace p8 := eq_true p8
          replace q8 := eq_true q8
          have p10 : 0 ≤ (x5_1 : Int) := of_decide_eq_true zq42_0
          have q10 : x5_1 < (a1.size : Int) := of_decide_eq_true zq42_0
          have hx10 := bt_at a1 x5_1
          replace p10 := eq_true p10
          replace q10 := eq_true q10
          go_wp2
          repeat (go_quiet (fail); try go_wp2)
          go_ret
          exact ⟨by first | rfl | (simp; done) | (simp [*]; done), by repeat (first | exact Drawn0.refl _ | apply Drawn0.step)⟩
         ·rw [if_neg c11] at H
          have c11b0 : decide ((bt a0 x5_1) < (bt a1 x5_1)) = false := decide_eq_false c11
          clear c11
          by_cases c14 : (bt a0 x5_1) > (bt a1 x5_1)
          ·rw [if_pos c14] at H
           have c14b0 : decide ((bt a1 x5_1) < (bt a0 x5_1)) = true := decide_eq_true c14
           clear c14
           obtain rfl := Option.some.inj H
           have p8 : 0 ≤ (x5_1 : Int) := of_decide_eq_true zq42_0
           have q8 : x5_1 < (a0.size : Int) := of_decide_eq_true zq42_0
           have hx8 := bt_at a0 x5_1
           replace p8 := eq_true p8
           replace q8 := eq_true q8
           have p10 : 0 ≤ (x5_1 : Int) := of_decide_eq_true zq42_0
           have q10 : x5_1 < (a1.size : Int) := of_decide_eq_true zq42_0
           have hx10 := bt_at a1 x5_1
           replace p10 := eq_true p10
           replace q10 := eq_true q10
           have p12 : 0 ≤ (x5_1 : Int) := of_decide_eq_true zq42_0
           have q12 : x5_1 < (a0.size : Int) := of_decide_eq_true zq42_0
           have hx12 := bt_at a0 x5_1
           replace p12 := eq_true p12
           replace q12 := eq_true q12
           have p13 : 0 ≤ (x5_1 : Int) := of_decide_eq_true zq42_0
           have q13 : x5_1 < (a1.size : Int) := of_decide_eq_true zq42_0
           have hx13 := bt_at a1 x5_1
           replace p13 := eq_true p13
           replace q13 := eq_true q13
           go_wp2
           repeat (go_quiet (fail); try go_wp2)
           go_ret
           exact ⟨by first | rfl | (simp; done) | (simp [*]; done), by repeat (first | exact Drawn0.refl _ | apply Drawn0.step)⟩
          ·rw [if_neg c14] at H
           have c14b0 : decide ((bt a1 x5_1) < (bt a0 x5_1)) = false := decide_eq_false c14
           clear c14
           have H' := Aside0.mk H
           clear H
           have p8 : 0 ≤ (x5_1 : Int) := of_decide_eq_true zq42_0
           have q8 : x5_1 < (a0.size : Int) := of_decide_eq_true zq42_0
           have hx8 := bt_at a0 x5_1
           replace p8 := eq_true p8
           replace q8 := eq_true q8
           have p10 : 0 ≤ (x5_1 : Int) := of_decide_eq_true zq42_0
           have q10 : x5_1 < (a1.size : Int) := of_decide_eq_true zq42_0
           have hx10 := bt_at a1 x5_1
           replace p10 := eq_true p10
           replace q10 := eq_true q10
           have p12 : 0 ≤ (x5_1 : Int) := of_decide_eq_true zq42_0
           have q12 : x5_1 < (a0.size : Int) := of_decide_eq_true zq42_0
           have hx12 := bt_at a0 x5_1
           replace p12 := eq_true p12
           replace q12 := eq_true q12
           have p13 : 0 ≤ (x5_1 : Int) := of_decide_eq_true zq42_0
           have q13 : x5_1 < (a1.size : Int) := of_decide_eq_true zq42_0
           have hx13 := bt_at a1 x5_1
           replace p13 := eq_true p13
           replace q13 := eq_true q13
           go_wp2
           repeat (go_quiet (fail); try go_wp2)
           go_roundg kj2
           case measure => have := HK1.out; have := HJ2.out; omega
           case rel => exact ⟨(wrap64 (x5_1 + 1)), zq42_1, H', ⟨by have := HK1.out; have := HJ2.out; omega⟩, by repeat (first | exact Drawn0.refl _ | apply Drawn0.step)⟩
        ·rw [if_neg c9] at H
         exact absurd H (by simp)
       ·rw [if_neg c7] at H
        exact absurd H (by simp)
      ·rw [if_neg c6] at H
       exact absurd H (by simp)
     ·replace c5 := Bool.eq_false_iff.mpr c5
      subst c5
      have H1 : (if (a0.size : Int) < (a1.size : Int) then (some (-1)) else (if (a0.size : Int) > (a1.size : Int) then (some 1) else (some 0))) = some r := by rw [if_neg (show ¬ (false = true) by decide)] at H; exact H
      clear H
      have H := H1
      clear H1
      by_cases c15 : (a0.size : Int) < (a1.size : Int)
      ·rw [if_pos c15] at H
       have c15b0 : decide ((a0.size : Int) < (a1.size : Int)) = true := decide_eq_true c15
       have c15b1 : decide (a0.size < a1.size) = true := decide_eq_true (Int.ofNat_lt.mp c15)
       clear c15
       obtain rfl := Option.some.inj H
       go_wp2
       repeat (go_quiet (fail); try go_wp2)
       go_ret
       exact ⟨by first | rfl | (simp; done) | (simp [*]; done), by repeat (first | exact Drawn0.refl _ | apply Drawn0.step)⟩
      ·rw [if_neg c15] at H
       have c15b0 : decide ((a0.size : Int) < (a1.size : Int)) = false := decide_eq_false c15
       have c15b1 : decide (a0.size < a1.size) = false := decide_eq_false (fun h => c15 (Int.ofNat_lt.mpr h))
       clear c15
       by_cases c16 : (a0.size : Int) > (a1.size : Int)
       ·rw [if_pos c16] at H
        have c16b0 : decide ((a1.size : Int) < (a0.size : Int)) = true := decide_eq_true c16
        have c16b1 : decide (a1.size < a0.size) = true := decide_eq_true (Int.ofNat_lt.mp c16)
        clear c16
        obtain rfl := Option.some.inj H
        go_wp2
        repeat (go_quiet (fail); try go_wp2)
        go_ret
        exact ⟨by first | rfl | (simp; done) | (simp [*]; done), by repeat (first | exact Drawn0.refl _ | apply Drawn0.step)⟩
       ·rw [if_neg c16] at H
        have c16b0 : decide ((a1.size : Int) < (a0.size : Int)) = false := decide_eq_false c16
        have c16b1 : decide (a1.size < a0.size) = false := decide_eq_false (fun h => c16 (Int.ofNat_lt.mpr h))
        clear c16
        obtain rfl := Option.some.inj H
        go_wp2
        repeat (go_quiet (fail); try go_wp2)
        go_ret
        exact ⟨by first | rfl | (simp; done) | (simp [*]; done), by repeat (first | exact Drawn0.refl _ | apply Drawn0.step)⟩

end Go.Proofs.Ytkfehkaiifjkmaa.P
