-- Written by a program of this session (wip/pp.py over the kit's printer, with our own texts put in).
import Derived.Test.YtkfehkaiifjkmaaP0
namespace Go.Proofs.Ytkfehkaiifjkmaa.P
open Go.RowKit Go.Proofs.YtkfehkaiifjkmaaW.PrintWords Go.Proofs.YtkfehkaiifjkmaaW.PrintLast Go.Proofs.YtkfehkaiifjkmaaW.PrintMore
attribute [local go_sem] max2_int min2_int max_two min_two max_three min_three max_four min_four   -- for this text's walks alone
set_option linter.unusedVariables false
set_option linter.unusedSimpArgs false

/-! ### strings_HasPrefix: function 65 -/
def strings_HasPrefix.f (a0 : ByteArray) (a1 : ByteArray) : Option Bool := some (a1.data.toList.isPrefixOf a0.data.toList)
set_option maxHeartbeats 800000 in
theorem strings_HasPrefix.calls (a0 : ByteArray) (a1 : ByteArray) (r : Bool) (w : World) (h : strings_HasPrefix.f a0 a1 = some r) :
  Calls Try.prog 65 #[.string a0, .string a1] w fun e w' => e = .returned (.bool r) ∧ Drawn0 w w' := by
 have hr : r = (decide (a1.size ≤ a0.size) && ((a0.extract 0 a1.size).toList == a1.toList)) := by
  rw [Lib.hasPrefix_raw]; exact (Option.some.inj h).symm
 have HR := Aside0.mk hr
 clear hr h
 go_enter Try.func65, Try.ntmps65
 go_wp2
 ·rename_i h
  go_ret
  refine ⟨?_, Drawn0.refl _⟩
  have h2 : decide (a1.size ≤ a0.size) = true := by simpa using h
  rw [HR.out, h2, Bool.true_and]; rfl
 ·rename_i h
  go_ret
  refine ⟨?_, Drawn0.refl _⟩
  have h2 : decide (a1.size ≤ a0.size) = false := by simpa using h
  rw [HR.out, h2, Bool.false_and]; rfl

/-! ### id_Right: function 34 -/
def id_Right.f (a0 : ByteArray) : Option Bool := some (rightB a0)
set_option maxHeartbeats 800000 in
set_option maxRecDepth 100000 in
theorem id_Right.mid (a0 : ByteArray) (r : Bool) (w : World) (hp1 : (({ data := #[48] } : ByteArray).data.toList.isPrefixOf a0.data.toList) = true) (h1 : 1 ≤ a0.size) (h6 : a0.size ≤ 6) (hr : Aside0 ((a0.extract 1 a0.size).data.toList.all okDigit = r)) :
  Calls Try.prog 34 #[.string a0] w fun e w' => e = .returned (.bool r) ∧ Below w.heap.size w w' := by
 have hc0 : decide (6 < (a0.size : Int)) = false := by simp; omega
 have hcv := fun W => Lib.run_convert_string_bytes (P := Try.prog) W 36 92 5 (a0.extract 1 a0.size) Try.underlying36 Try.underlying92 Try.underlying5
 have hes : (a0.extract 1 a0.size).size = a0.size - 1 := by simp [ByteArray.size_extract]
 have hx : (a0.extract 1 a0.size).size ≤ 5 := by omega
 have hpre : strings_HasPrefix.f a0 ⟨#[48]⟩ = some true := congrArg some hp1
 generalize hs : a0.extract 1 a0.size = s at hcv hes hx hr ⊢
 have HP := Aside0.mk hpre
 clear hpre
 go_enter Try.func34, Try.ntmps34
 go_wp2_with (first | (go_at_call 65; refine (strings_HasPrefix.calls _ _ true _ HP.out).mono ?_; rintro e w' ⟨rfl, ⟨nd, rfl⟩⟩))
 have HC := Aside0.mk (show ∀ j, j < s.size → (Lib.bytesWorld (w.drewN nd) 5 s).cell? ⟨w.heap.size, j, none⟩ = some (.int .u8 (s.data.toList.getD j 0).toNat) from fun j hj => Lib.bytesWorld_cell (w.drewN nd) 5 s j hj)
 have HB := Aside0.mk (below_bytesWorldN w nd 5 s)
 clear hcv
 generalize Lib.bytesWorld (w.drewN nd) 5 s = W at HB HC ⊢
 have HL := Aside0.mk (show s.data.toList.length = s.size by simp)
 clear hs
 go_loop [4, 17] (fun _ i => ∃ k : Nat, k ≤ s.size ∧ i = .int .i64 k ∧ Aside0 ((s.data.toList.take k).all okDigit = true)) (fun _ i => s.size - (intOf i).toNat)
 case atStart => exact ⟨0, Nat.zero_le _, rfl, ⟨by simp⟩⟩
 case round =>
  obtain ⟨k, hk, rfl, HA⟩ := hrel
  by_cases hlt : k < s.size
  ·have hc := HC.out k hlt
   have hks : s.data.toList.getD k 0 = s.data.toList[k]'(by simpa using hlt) := by simp [List.getD, hlt]
   have hsn : (s.data.toList.take (k + 1)).all okDigit = okDigit (s.data.toList.getD k 0) := by
    rw [List.take_succ_eq_append_getElem (by simpa using hlt), List.all_append, HA.out, hks]; simp
   have hno : okDigit (s.data.toList.getD k 0) = false → s.data.toList.all okDigit = false := by
    intro h; rw [hks] at h
    rw [List.all_eq_false]; exact ⟨s.data.toList[k]'(by simpa using hlt), List.getElem_mem _, by rw [h]; decide⟩
   generalize s.data.toList.getD k 0 = c at hc hsn hks hno
   by_cases hd : okDigit c = true
   ·obtain ⟨h48, h57⟩ := u8_digit hd
    rw [hd] at hsn
    have HN := Aside0.mk hsn
    clear hsn hd hks hno
    go_wp2
    go_round
    case rel => exact ⟨k + 1, by omega, by go_num, HN⟩
    case measure => simp [intOf]; omega
   ·have HN := Aside0.mk (hno (by simpa using hd))
    have hdd := u8_nodigit hd
    clear hsn hks hno hd
    have fin : r = false := by rw [← hr.out, HN.out]
    subst fin
    rcases hdd with hdd | hdd
    ·have hdd' : decide ((c.toNat : Int) ≤ 48) = true := decide_eq_true hdd
     clear hdd
     go_wp2
     go_ret
     exact ⟨rfl, HB.out⟩
    ·have hdd' : decide ((57 : Int) < c.toNat) = true := decide_eq_true hdd
     clear hdd
     go_wp2
     all_goals (go_ret; exact ⟨rfl, HB.out⟩)
  ·have e : k = s.size := by omega
   have hall : s.data.toList.all okDigit = true := by
    have := HA.out; rwa [e, ← HL.out, List.take_length] at this
   have fin : r = true := by rw [← hr.out, hall]
   clear hall e
   subst fin
   have hge : decide ((k : Int) < (s.size : Int)) = false := by simp; omega
   go_wp2
   go_ret
   exact ⟨rfl, HB.out⟩

set_option maxHeartbeats 800000 in
set_option maxRecDepth 100000 in
theorem id_Right.calls (a0 : ByteArray) (r : Bool) (w : World) (h : id_Right.f a0 = some r) :
  Calls Try.prog 34 #[.string a0] w fun e w' => e = .returned (.bool r) ∧ Below w.heap.size w w' := by
 have hr : rightB a0 = r := Option.some.inj h
 clear h
 unfold rightB at hr
 by_cases hp1 : (({ data := #[48] } : ByteArray).data.toList.isPrefixOf a0.data.toList) = true
 ·have h1 : 1 ≤ a0.size := by
   cases e : a0.data.toList with
   | nil => rw [e] at hp1; simp [List.isPrefixOf] at hp1
   | cons c t =>
    have : a0.data.toList.length = t.length + 1 := by rw [e]; rfl
    have h2 : a0.data.toList.length = a0.size := by simp
    omega
  by_cases h6 : a0.size ≤ 6
  ·exact id_Right.mid a0 r w hp1 h1 h6 ⟨by rw [← hr, hp1, decide_eq_true h6]; simp⟩
  ·have fin : r = false := by rw [← hr, decide_eq_false h6]; simp
   subst fin
   clear hr
   have HP := Aside0.mk (show strings_HasPrefix.f a0 ⟨#[48]⟩ = some true from congrArg some hp1)
   clear hp1
   have hc0 : decide (6 < (a0.size : Int)) = true := by simp; omega
   go_enter Try.func34, Try.ntmps34
   go_wp2_with (first | (go_at_call 65; refine (strings_HasPrefix.calls _ _ true _ HP.out).mono ?_; rintro e w' ⟨rfl, ⟨nd, rfl⟩⟩))
   go_ret
   exact ⟨rfl, pw_below_drewN (Below.refl _ _) _⟩
 ·have hpf : (({ data := #[48] } : ByteArray).data.toList.isPrefixOf a0.data.toList) = false := (Bool.not_eq_true _).mp hp1
  have fin : r = false := by rw [← hr, hpf]; rfl
  subst fin
  clear hr
  have HP := Aside0.mk (show strings_HasPrefix.f a0 ⟨#[48]⟩ = some false from congrArg some hpf)
  clear hp1 hpf
  go_enter Try.func34, Try.ntmps34
  go_wp2_with (first | (go_at_call 65; refine (strings_HasPrefix.calls _ _ false _ HP.out).mono ?_; rintro e w' ⟨rfl, ⟨nd, rfl⟩⟩))
  go_ret
  exact ⟨rfl, pw_below_drewN (Below.refl _ _) _⟩

/-! ### span_Right: function 35 -/
theorem zq35_0 {p_ : Prop} (h_ : p_ := by repeat (first | (with_reducible first | exact HB.out | apply below_alloc | apply pw_below_drewN | apply below_drew1) | exact HB.out)) : p_ := h_
theorem zq35_1 {p_ : Prop} (h_ : p_ := by first | (with_reducible assumption) | assumption) : p_ := h_
theorem zq35_2 {p_ : Prop} (h_ : p_ := by first | rfl | (simp; done) | (simp [*]; done)) : p_ := h_
mutual
def span_Right.j0 : Nat → Bool → Int → List Int → Option (Bool)
 | 0, _, _, _ => none
 | k + 1, x19, x102000, x102001 => if x19 = true then (some false) else (span_Right.l0 k (wrap64 (x102000 + 1)) x102001 (x102001.length : Int) 0)
def span_Right.l0 : Nat → Int → List Int → Int → Int → Option (Bool)
 | 0, _, _, _, _ => none
 | k + 1, x3, x24, x25, x26 => if x26 < x25 then (if 0 ≤ x26 then (if x26 < (x24.length : Int) then (if (rd x24 x26) ≤ x3 then (some false) else (if (rd x24 x26) > 1048576 then (some false) else (span_Right.l0 k (rd x24 x26) x24 x25 (wrap64 (x26 + 1))))) else (none)) else (none)) else (some true)
end
def span_Right.f (k : Nat) (a0_0 : Int) (l0_1 : List Int) : Option (Bool) := if a0_0 < 0 then (span_Right.j0 k true a0_0 l0_1) else (if a0_0 > 1048576 then (span_Right.j0 k true a0_0 l0_1) else (span_Right.j0 k (decide ((l0_1.length : Int) > 4096)) a0_0 l0_1))
theorem span_Right.mono_l : ∀ k, (∀ y0 y1 y2, LeO (span_Right.j0 k y0 y1 y2) (span_Right.j0 (k + 1) y0 y1 y2)) ∧ (∀ y0 y1 y2 y3, LeO (span_Right.l0 k y0 y1 y2 y3) (span_Right.l0 (k + 1) y0 y1 y2 y3))
 | 0 => ⟨fun _ _ _ r h => by simp [span_Right.j0] at h, fun _ _ _ _ r h => by simp [span_Right.l0] at h⟩
 | k + 1 => by
  obtain ⟨ih0, ih1⟩ := span_Right.mono_l k
  refine ⟨?_, ?_⟩
  ·intro y0 y1 y2
   unfold span_Right.j0
   repeat' first
   | (with_reducible exact ih0 _ _ _)
   | (with_reducible exact ih1 _ _ _ _)
   | (with_reducible exact LeO.refl _)
   | (with_reducible exact LeO.none _)
   | (with_reducible refine LeO.ite ?_ ?_)
   | (with_reducible refine LeO.bind ?_ (fun _ => ?_))
   | exact ih0 _ _ _
   | exact ih1 _ _ _ _
   | exact LeO.none _
   | refine LeO.ite ?_ ?_
   | refine LeO.bind ?_ (fun _ => ?_)
  ·intro y0 y1 y2 y3
   unfold span_Right.l0
   repeat' first
   | (with_reducible exact ih0 _ _ _)
   | (with_reducible exact ih1 _ _ _ _)
   | (with_reducible exact LeO.refl _)
   | (with_reducible exact LeO.none _)
   | (with_reducible refine LeO.ite ?_ ?_)
   | (with_reducible refine LeO.bind ?_ (fun _ => ?_))
   | exact ih0 _ _ _
   | exact ih1 _ _ _ _
   | exact LeO.none _
   | refine LeO.ite ?_ ?_
   | refine LeO.bind ?_ (fun _ => ?_)
theorem span_Right.mono : ∀ a0 a1 k, LeO (span_Right.f k a0 a1) (span_Right.f (k + 1) a0 a1) := by
 intro a0 a1 k
 obtain ⟨ih0, ih1⟩ := span_Right.mono_l k
 unfold span_Right.f
 repeat' first
   | (with_reducible exact ih0 _ _ _)
   | (with_reducible exact ih1 _ _ _ _)
   | (with_reducible exact LeO.refl _)
   | (with_reducible exact LeO.none _)
   | (with_reducible refine LeO.ite ?_ ?_)
   | (with_reducible refine LeO.bind ?_ (fun _ => ?_))
   | exact ih0 _ _ _
   | exact ih1 _ _ _ _
   | exact LeO.none _
   | refine LeO.ite ?_ ?_
   | refine LeO.bind ?_ (fun _ => ?_)
set_option maxHeartbeats 8000000 in
set_option maxRecDepth 100000 in
theorem span_Right.calls (k : Nat) (a0_0 : Int) (A0_1 : Option Addr) (c0_1 : Nat) (l0_1 : List Int) (r : Bool) (w : World) (hr0_1 : Kd.C (Kd.int .i64) w A0_1 l0_1.length l0_1) (hc0_1 : l0_1.length ≤ c0_1) (h : span_Right.f k a0_0 l0_1 = some r) :
  Calls Try.prog 35 #[.agg #[.int .i64 a0_0, .slice A0_1 l0_1.length c0_1]] w fun e w' => e = .returned (.bool r) ∧ Below w.heap.size w w' := by
 have hu44 := Try.underlying44
 have HR0_1 := Aside0.mk hr0_1
 have HC0_1 := Aside0.mk hc0_1
 clear hr0_1 hc0_1
 have HB := Aside0.mk (Below.refl w.heap.size w)
 have H := h
 unfold span_Right.f at H
 clear h
 have HC2 := Aside0.mk H
 clear H
 go_enter Try.func35, Try.ntmps35
 go_upto_region 1 with (first | ((with_reducible refine gate_dst (N := 1) rfl ?_); (try (refine gate_guard (by rfl) ?_; dsimp only)); refine box_event ?hg (N := 1) ?hd (cs := #[.int .i64 a0_0, .slice A0_1 l0_1.length c0_1]) (t := 44) ?hr ?_; (case hd => rfl); (case hg => rfl); (case hr => first | (go_simp; done) | (go_simp; rfl)); intro gb101 hg w3 hbox hb; have BK101 := Aside0.mk (hbox); have GW101 := Aside0.mk (((by rw [hg]; exact (below_size zq35_0)) : w.heap.size ≤ gb101)); have GE101 := Aside0.mk (((by rw [hg]; exact (below_size zq35_0)) : w.heap.size ≤ gb101)); replace HB := Aside0.mk (below_step zq35_0 hb); clear hb hbox hg))
 (try simp only [Act.put, List.setIfInBounds_toArray, List.set_cons_zero, List.set_cons_succ])
 go_cut [19] (fun v19 wc => ∃ (kq : Nat) (x19_1 : Bool), v19 = .bool x19_1 ∧ Aside0 (span_Right.j0 kq x19_1 a0_0 l0_1 = some r) ∧ Aside0 (kq ≤ k) ∧ Aside0 (wc.heap[gb101]? = some (.cells #[.int .i64 a0_0, (.slice A0_1 l0_1.length c0_1)] 44 (0, 0))) ∧ Aside0 (Below w.heap.size w wc))
 case first =>
  have H := HC2.out
  clear HC2
  by_cases c4 : a0_0 < 0
  ·rw [if_pos c4] at H
   have c4b0 : decide (a0_0 < 0) = true := decide_eq_true c4
   clear c4
   (first | rw [c4b0] | (simp only [i64_w, i32_w]; rw [c4b0]) | skip)
   have H' := Aside0.mk H
   clear H
   have hcz5_0 : w3.cell? ⟨gb101, 0, none⟩ = some (.int .i64 a0_0) := (blk_cell BK101.out 0).trans rfl
   have hcz5_1 : w3.cell? ⟨gb101, 1, none⟩ = some (.slice A0_1 l0_1.length c0_1) := (blk_cell BK101.out 1).trans rfl
   have hfz5_0 := blk_frozen BK101.out 0
   have hfz5_1 := blk_frozen BK101.out 1
   go_wp2
   go_meet
   case rel => exact ⟨_, (true), zq35_2, H', ⟨by first | omega | exact Nat.le_refl _⟩, ⟨by (with_reducible repeat (first | refine blk_drewN ?_ _ | refine blk_drew ?_ | refine blk_alloc ?_ _)); exact BK101.out⟩, ⟨by repeat (first | (with_reducible first | exact HB.out | apply below_alloc | apply pw_below_drewN | apply below_drew1 | refine below_set ?_ GE101.out) | exact HB.out)⟩⟩
  ·rw [if_neg c4] at H
   have c4b0 : decide (a0_0 < 0) = false := decide_eq_false c4
   clear c4
   (first | rw [c4b0] | (simp only [i64_w, i32_w]; rw [c4b0]) | skip)
   by_cases c6 : a0_0 > 1048576
   ·rw [if_pos c6] at H
    have c6b0 : decide (1048576 < a0_0) = true := decide_eq_true c6
    clear c6
    have H' := Aside0.mk H
    clear H
    have hcz7_0 : w3.cell? ⟨gb101, 0, none⟩ = some (.int .i64 a0_0) := (blk_cell BK101.out 0).trans rfl
    have hcz7_1 : w3.cell? ⟨gb101, 1, none⟩ = some (.slice A0_1 l0_1.length c0_1) := (blk_cell BK101.out 1).trans rfl
    have hfz7_0 := blk_frozen BK101.out 0
    have hfz7_1 := blk_frozen BK101.out 1
    go_wp2
    go_meet
    case rel => exact ⟨_, (true), zq35_2, H', ⟨by first | omega | exact Nat.le_refl _⟩, ⟨by (with_reducible repeat (first | refine blk_drewN ?_ _ | refine blk_drew ?_ | refine blk_alloc ?_ _)); exact BK101.out⟩, ⟨by repeat (first | (with_reducible first | exact HB.out | apply below_alloc | apply pw_below_drewN | apply below_drew1 | refine below_set ?_ GE101.out) | exact HB.out)⟩⟩
   ·rw [if_neg c6] at H
    have c6b0 : decide (1048576 < a0_0) = false := decide_eq_false c6
    clear c6
    have H' := Aside0.mk H
    clear H
    have hcz8_0 : w3.cell? ⟨gb101, 0, none⟩ = some (.int .i64 a0_0) := (blk_cell BK101.out 0).trans rfl
    have hcz8_1 : w3.cell? ⟨gb101, 1, none⟩ = some (.slice A0_1 l0_1.length c0_1) := (blk_cell BK101.out 1).trans rfl
    have hfz8_0 := blk_frozen BK101.out 0
    have hfz8_1 := blk_frozen BK101.out 1
    go_wp2
    go_meet
    case rel => exact ⟨_, (decide ((l0_1.length : Int) > 4096)), zq35_2, H', ⟨by first | omega | exact Nat.le_refl _⟩, ⟨by (with_reducible repeat (first | refine blk_drewN ?_ _ | refine blk_drew ?_ | refine blk_alloc ?_ _)); exact BK101.out⟩, ⟨by repeat (first | (with_reducible first | exact HB.out | apply below_alloc | apply pw_below_drewN | apply below_drew1 | refine below_set ?_ GE101.out) | exact HB.out)⟩⟩
 case rest =>
  clear HC2
  try clear p2
  try clear c3
  try clear c4
  try clear c4b0
  try clear c6
  try clear c6b0
  try clear hcz5_0
  try clear hcz5_1
  try clear hcz7_0
  try clear hcz7_1
  try clear hcz8_0
  try clear hcz8_1
  try clear hfz5_0
  try clear hfz5_1
  try clear hfz7_0
  try clear hfz7_1
  try clear hfz8_0
  try clear hfz8_1
  obtain ⟨kq, x19_1, rfl, HA, HJ1, BK101, HB⟩ := hcut
  cases kq with
  | zero => exact absurd HA.out (by simp [span_Right.j0])
  | succ kj1 =>
   have H := HA.out
   clear HA
   simp only [span_Right.j0] at H
   by_cases c9 : x19_1 = true
   ·subst c9
    have H1 : (some false) = some r := by rw [if_pos rfl] at H; exact H
    clear H
    have H := H1
    clear H1
    obtain rfl := Option.some.inj H
    go_wp2
    go_ret
    exact ⟨by first | rfl | (simp [errW_none, errW_some] <;> rfl) | (simp [*, errW_none, errW_some] <;> rfl), by repeat (first | (with_reducible first | exact HB.out | apply below_alloc | apply pw_below_drewN | apply below_drew1 | refine below_set ?_ GE101.out) | exact HB.out)⟩
   ·replace c9 := Bool.eq_false_iff.mpr c9
    subst c9
    have H1 : (span_Right.l0 kj1 (wrap64 (a0_0 + 1)) l0_1 (l0_1.length : Int) 0) = some r := by rw [if_neg (show ¬ (false = true) by decide)] at H; exact H
    clear H
    have H := H1
    clear H1
    have H' := Aside0.mk H
    clear H
    have hcz10_0 : wc.cell? ⟨gb101, 0, none⟩ = some (.int .i64 a0_0) := (blk_cell BK101.out 0).trans rfl
    have hcz10_1 : wc.cell? ⟨gb101, 1, none⟩ = some (.slice A0_1 l0_1.length c0_1) := (blk_cell BK101.out 1).trans rfl
    have hfz10_0 := blk_frozen BK101.out 0
    have hfz10_1 := blk_frozen BK101.out 1
    go_wp2
    go_loopg [3, 26] kj1 (fun kq v3 v26 w' => ∃ (x3_2 : Int) (x26_2 : Int), v3 = .int .i64 x3_2 ∧ v26 = .int .i64 x26_2 ∧ Aside0 (span_Right.l0 kq x3_2 l0_1 (l0_1.length : Int) x26_2 = some r) ∧ Aside0 (kq ≤ kj1) ∧ Aside0 (w'.heap[gb101]? = some (.cells #[.int .i64 a0_0, (.slice A0_1 l0_1.length c0_1)] 44 (0, 0))) ∧ Aside0 (Below w.heap.size w w'))
    case atStart => exact ⟨(wrap64 (a0_0 + 1)), (0), zq35_2, zq35_2, H', ⟨Nat.le_refl _⟩, ⟨by (with_reducible repeat (first | refine blk_drewN ?_ _ | refine blk_drew ?_ | refine blk_alloc ?_ _)); exact BK101.out⟩, ⟨by repeat (first | (with_reducible first | exact HB.out | apply below_alloc | apply pw_below_drewN | apply below_drew1 | refine below_set ?_ GE101.out) | exact HB.out)⟩⟩
    case round =>
     clear H'
     try clear p2
     try clear c3
     try clear c4
     try clear c4b0
     try clear c6
     try clear c6b0
     try clear p6
     try clear c9
     try clear hcz10_0
     try clear hcz10_1
     try clear hcz5_0
     try clear hcz5_1
     try clear hcz7_0
     try clear hcz7_1
     try clear hcz8_0
     try clear hcz8_1
     try clear hfz10_0
     try clear hfz10_1
     try clear hfz5_0
     try clear hfz5_1
     try clear hfz7_0
     try clear hfz7_1
     try clear hfz8_0
     try clear hfz8_1
     try clear p2
     obtain ⟨x3_2, x26_2, rfl, rfl, HA, HK2, BK101, HB⟩ := hrel
     cases gk with
     | zero => exact absurd HA.out (by simp [span_Right.l0])
     | succ k2 =>
      have H := HA.out
      clear HA
      simp only [span_Right.l0] at H
      by_cases c11 : x26_2 < (l0_1.length : Int)
      ·rw [if_pos c11] at H
       have c11b0 : decide (x26_2 < (l0_1.length : Int)) = true := decide_eq_true c11
       clear c11
       by_cases c12 : 0 ≤ x26_2
       ·rw [if_pos c12] at H
        have c12b0 : decide (0 ≤ x26_2) = true := decide_eq_true c12
        clear c12
        by_cases c13 : x26_2 < (l0_1.length : Int)
        ·rw [if_pos c13] at H
         have c13b0 : decide (x26_2 < (l0_1.length : Int)) = true := decide_eq_true c13
         clear c13
         by_cases c14 : (rd l0_1 x26_2) ≤ x3_2
         ·rw [if_pos c14] at H
          have c14b0 : decide ((rd l0_1 x26_2) ≤ x3_2) = true := decide_eq_true c14
          clear c14
          obtain rfl := Option.some.inj H
          have p102 : 0 ≤ (x26_2 : Int) := of_decide_eq_true zq35_1
          have q102 : x26_2 < (l0_1.length : Int) := of_decide_eq_true zq35_1
          obtain ⟨ad102, e102, hx102_0⟩ := Kd.at_int HR0_1.out x26_2 p102 q102
          cases e102
          replace hx102_0 := (HB.out.cell (World.block_lt_of_cell? w _ hx102_0)).trans hx102_0
          replace p102 := eq_true p102
          replace q102 := eq_true q102
          go_wp2
          go_ret
          exact ⟨by first | rfl | (simp [errW_none, errW_some] <;> rfl) | (simp [*, errW_none, errW_some] <;> rfl), by repeat (first | (with_reducible first | exact HB.out | apply below_alloc | apply pw_below_drewN | apply below_drew1 | refine below_set ?_ GE101.out) | exact HB.out)⟩
         ·rw [if_neg c14] at H
          have c14b0 : decide ((rd l0_1 x26_2) ≤ x3_2) = false := decide_eq_false c14
          clear c14
          by_cases c15 : (rd l0_1 x26_2) > 1048576
          ·rw [if_pos c15] at H
           have c15b0 : decide (1048576 < (rd l0_1 x26_2)) = true := decide_eq_true c15
           clear c15
           obtain rfl := Option.some.inj H
           have p102 : 0 ≤ (x26_2 : Int) := of_decide_eq_true zq35_1
           have q102 : x26_2 < (l0_1.length : Int) := of_decide_eq_true zq35_1
           obtain ⟨ad102, e102, hx102_0⟩ := Kd.at_int HR0_1.out x26_2 p102 q102
           cases e102
           replace hx102_0 := (HB.out.cell (World.block_lt_of_cell? w _ hx102_0)).trans hx102_0
           replace p102 := eq_true p102
           replace q102 := eq_true q102
           go_wp2
           go_ret
           exact ⟨by first | rfl | (simp [errW_none, errW_some] <;> rfl) | (simp [*, errW_none, errW_some] <;> rfl), by repeat (first | (with_reducible first | exact HB.out | apply below_alloc | apply pw_below_drewN | apply below_drew1 | refine below_set ?_ GE101.out) | exact HB.out)⟩
          ·rw [if_neg c15] at H
           have c15b0 : decide (1048576 < (rd l0_1 x26_2)) = false := decide_eq_false c15
           clear c15
           have H' := Aside0.mk H
           clear H
           have p102 : 0 ≤ (x26_2 : Int) := of_decide_eq_true zq35_1
           have q102 : x26_2 < (l0_1.length : Int) := of_decide_eq_true zq35_1
           obtain ⟨ad102, e102, hx102_0⟩ := Kd.at_int HR0_1.out x26_2 p102 q102
           cases e102
           replace hx102_0 := (HB.out.cell (World.block_lt_of_cell? w _ hx102_0)).trans hx102_0
           replace p102 := eq_true p102
           replace q102 := eq_true q102
           go_wp2
           go_roundg k2
           case measure => have := HJ1.out; have := HK2.out; omega
           case rel => exact ⟨(rd l0_1 x26_2), (wrap64 (x26_2 + 1)), zq35_2, zq35_2, H', ⟨by have := HJ1.out; have := HK2.out; omega⟩, ⟨by (with_reducible repeat (first | refine blk_drewN ?_ _ | refine blk_drew ?_ | refine blk_alloc ?_ _)); exact BK101.out⟩, ⟨by repeat (first | (with_reducible first | exact HB.out | apply below_alloc | apply pw_below_drewN | apply below_drew1 | refine below_set ?_ GE101.out) | exact HB.out)⟩⟩
        ·rw [if_neg c13] at H
         exact absurd H (by simp)
       ·rw [if_neg c12] at H
        exact absurd H (by simp)
      ·rw [if_neg c11] at H
       have c11b0 : decide (x26_2 < (l0_1.length : Int)) = false := decide_eq_false c11
       clear c11
       obtain rfl := Option.some.inj H
       go_wp2
       go_ret
       exact ⟨by first | rfl | (simp [errW_none, errW_some] <;> rfl) | (simp [*, errW_none, errW_some] <;> rfl), by repeat (first | (with_reducible first | exact HB.out | apply below_alloc | apply pw_below_drewN | apply below_drew1 | refine below_set ?_ GE101.out) | exact HB.out)⟩

/-! ### span_Count: function 36 -/
def span_Count.f (a0_0 : Int) (l0_1 : List Int) : Option (Int) := some (wrap64 (a0_0 + (l0_1.length : Int)))
set_option maxHeartbeats 8000000 in
set_option maxRecDepth 100000 in
theorem span_Count.calls (a0_0 : Int) (A0_1 : Option Addr) (c0_1 : Nat) (l0_1 : List Int) (r : Int) (w : World) (hr0_1 : Kd.C (Kd.int .i64) w A0_1 l0_1.length l0_1) (hc0_1 : l0_1.length ≤ c0_1) (h : span_Count.f a0_0 l0_1 = some r) :
    Calls Try.prog 36 #[.agg #[.int .i64 a0_0, .slice A0_1 l0_1.length c0_1]] w fun e w' => e = .returned (.int .i64 r) ∧ Below w.heap.size w w' := by
  have hu44 := Try.underlying44
  have HR0_1 := Aside0.mk hr0_1
  have HC0_1 := Aside0.mk hc0_1
  clear hr0_1 hc0_1
  have HB := Aside0.mk (Below.refl w.heap.size w)
  have H : (some (wrap64 (a0_0 + (l0_1.length : Int)))) = some r := h
  clear h
  obtain rfl := Option.some.inj H
  go_enter Try.func36, Try.ntmps36
  go_wp2_with (first | ((with_reducible refine gate_dst (N := 1) rfl ?_); refine box_event ?hg (N := 1) ?hd (cs := #[.int .i64 a0_0, .slice A0_1 l0_1.length c0_1]) (t := 44) ?hr ?_; (case hd => rfl); (case hg => rfl); (case hr => first | (go_simp; done) | (go_simp; rfl)); intro gb103 hg w2 hbox hb; have BK103 := Aside0.mk (hbox); have GW103 := Aside0.mk ((by rw [hg]; exact (below_size (by repeat (first | (with_reducible first | exact HB.out | apply below_alloc | apply pw_below_drewN | apply below_drew1) | exact HB.out))) : w.heap.size ≤ gb103)); have GE103 := Aside0.mk ((by rw [hg]; exact (below_size (by repeat (first | (with_reducible first | exact HB.out | apply below_alloc | apply pw_below_drewN | apply below_drew1) | exact HB.out))) : w.heap.size ≤ gb103)); replace HB := Aside0.mk (below_step (by repeat (first | (with_reducible first | exact HB.out | apply below_alloc | apply pw_below_drewN | apply below_drew1) | exact HB.out)) hb); clear hb hbox hg; have hcz3_0 : w2.cell? ⟨gb103, 0, none⟩ = some (.int .i64 a0_0) := (blk_cell BK103.out 0).trans rfl; have hcz3_1 : w2.cell? ⟨gb103, 1, none⟩ = some (.slice A0_1 l0_1.length c0_1) := (blk_cell BK103.out 1).trans rfl; have hfz3_0 := blk_frozen BK103.out 0; have hfz3_1 := blk_frozen BK103.out 1))
  go_ret
  exact ⟨by first | rfl | (simp [errW_none, errW_some] <;> rfl) | (simp [*, errW_none, errW_some] <;> rfl), by repeat (first | (with_reducible first | exact HB.out | apply below_alloc | apply pw_below_drewN | apply below_drew1 | refine below_set ?_ GE103.out) | exact HB.out)⟩

/-! ### bytealg_CompareString: function 91 -/
def bytealg_CompareString.f (a0 : ByteArray) (a1 : ByteArray) : Option Int := some (Lib.compareBytes a0.data.toList a1.data.toList)
set_option maxHeartbeats 800000 in
set_option maxRecDepth 100000 in
theorem bytealg_CompareString.calls (a0 : ByteArray) (a1 : ByteArray) (r : Int) (w : World) (h : bytealg_CompareString.f a0 a1 = some r) :
  Calls Try.prog 91 #[.string a0, .string a1] w fun e w' => e = .returned (.int .i64 r) ∧ Drawn0 w w' := by
 have HR := Aside0.mk (show Lib.compareBytes a0.data.toList a1.data.toList = r from Option.some.inj h)
 clear h
 go_enter Try.func91, Try.ntmps91
 go_wp2
 rw [run_callFunc_extern Try.func98 (by kernel_rfl) (by kernel_rfl) (by kernel_rfl) (e := Extern.BytealgCompare.compare) (by kernel_rfl), Lib.run_compareString, HR.out]
 simp only [Result.andThen]
 rw [Oper.upon_value]
 go_wp2
 go_ret
 exact ⟨rfl, Drawn0.refl _⟩

/-! ### strings_Compare: function 78 -/
def strings_Compare.f (a0 : ByteArray) (a1 : ByteArray) : Option (Int) := (bytealg_CompareString.f a0 a1).bind fun t104 => (some t104)
set_option maxHeartbeats 8000000 in
set_option maxRecDepth 100000 in
theorem strings_Compare.calls (a0 : ByteArray) (a1 : ByteArray) (r : Int) (w : World) (h : strings_Compare.f a0 a1 = some r) :
    Calls Try.prog 78 #[.string a0, .string a1] w fun e w' => e = .returned (.int .i64 r) ∧ Drawn0 w w' := by
  have H : ((bytealg_CompareString.f a0 a1).bind fun t104 => (some t104)) = some r := h
  clear h
  replace H := Option.bind_eq_some_iff.mp H
  obtain ⟨t104, A30, H⟩ := H
  have A3 := Aside0.mk A30
  clear A30
  obtain rfl := Option.some.inj H
  go_enter Try.func78, Try.ntmps78
  go_wp2_with (first | ((with_reducible refine gate_callee (f := 91) rfl ?_); refine goesL_ (some 7) rfl rfl Try.func91 (by kernel_rfl) rfl #[.string a0, .string a1] rfl (by (try simp only [List.map_toArray, List.map_cons, List.map_nil]); first | done | rfl | (simp only [List.length_drop, List.length_take]; rfl)) ?_; (with_reducible refine (bytealg_CompareString.calls a0 a1 t104 _ A3.out).mono ?_); rintro e w' ⟨rfl, ⟨nd, rfl⟩⟩; refine ⟨_, rfl, ?_⟩))
  go_ret
  exact ⟨by first | rfl | (simp; done) | (simp [*]; done), by repeat (first | exact Drawn0.refl _ | apply Drawn0.step)⟩

/-! ### id_Compare: function 66 -/
def id_Compare.f (a0 : ByteArray) (a1 : ByteArray) : Option (Int) := (strings_Compare.f a0 a1).bind fun t105 => (some t105)
set_option maxHeartbeats 8000000 in
set_option maxRecDepth 100000 in
theorem id_Compare.calls (a0 : ByteArray) (a1 : ByteArray) (r : Int) (w : World) (h : id_Compare.f a0 a1 = some r) :
    Calls Try.prog 66 #[.string a0, .string a1] w fun e w' => e = .returned (.int .i64 r) ∧ Drawn0 w w' := by
  have H : ((strings_Compare.f a0 a1).bind fun t105 => (some t105)) = some r := h
  clear h
  replace H := Option.bind_eq_some_iff.mp H
  obtain ⟨t105, A30, H⟩ := H
  have A3 := Aside0.mk A30
  clear A30
  obtain rfl := Option.some.inj H
  go_enter Try.func66, Try.ntmps66
  go_wp2_with (first | ((with_reducible refine gate_callee (f := 78) rfl ?_); refine goesL_ (some 7) rfl rfl Try.func78 (by kernel_rfl) rfl #[.string a0, .string a1] rfl (by (try simp only [List.map_toArray, List.map_cons, List.map_nil]); first | done | rfl | (simp only [List.length_drop, List.length_take]; rfl)) ?_; (with_reducible refine (strings_Compare.calls a0 a1 t105 _ A3.out).mono ?_); rintro e w' ⟨rfl, ⟨nd, rfl⟩⟩; refine ⟨_, rfl, ?_⟩))
  go_ret
  exact ⟨by first | rfl | (simp; done) | (simp [*]; done), by repeat (first | exact Drawn0.refl _ | apply Drawn0.step)⟩

/-! ### know_order: function 37 -/
def know_order.f (a0_0 : ByteArray) (a0_1 : Int) (l0_2 : List Int) (a1_0 : ByteArray) (a1_1 : Int) (l1_2 : List Int) : Option (Int) := (id_Compare.f a0_0 a1_0).bind fun t108 => (some t108)
set_option maxHeartbeats 8000000 in
set_option maxRecDepth 100000 in
theorem know_order.calls (a0_0 : ByteArray) (a0_1 : Int) (A0_2 : Option Addr) (c0_2 : Nat) (l0_2 : List Int) (a1_0 : ByteArray) (a1_1 : Int) (A1_2 : Option Addr) (c1_2 : Nat) (l1_2 : List Int) (r : Int) (w : World) (hr0_2 : Kd.C (Kd.int .i64) w A0_2 l0_2.length l0_2) (hc0_2 : l0_2.length ≤ c0_2) (hr1_2 : Kd.C (Kd.int .i64) w A1_2 l1_2.length l1_2) (hc1_2 : l1_2.length ≤ c1_2) (h : know_order.f a0_0 a0_1 l0_2 a1_0 a1_1 l1_2 = some r) :
    Calls Try.prog 37 #[.agg #[.string a0_0, .int .i64 a0_1, .slice A0_2 l0_2.length c0_2], .agg #[.string a1_0, .int .i64 a1_1, .slice A1_2 l1_2.length c1_2]] w fun e w' => e = .returned (.int .i64 r) ∧ Below w.heap.size w w' := by
  have hu61 := Try.underlying61
  have HR0_2 := Aside0.mk hr0_2
  have HC0_2 := Aside0.mk hc0_2
  clear hr0_2 hc0_2
  have HR1_2 := Aside0.mk hr1_2
  have HC1_2 := Aside0.mk hc1_2
  clear hr1_2 hc1_2
  have HB := Aside0.mk (Below.refl w.heap.size w)
  have H : ((id_Compare.f a0_0 a1_0).bind fun t108 => (some t108)) = some r := h
  clear h
  replace H := Option.bind_eq_some_iff.mp H
  obtain ⟨t108, A30, H⟩ := H
  have A3 := Aside0.mk A30
  clear A30
  obtain rfl := Option.some.inj H
  go_enter Try.func37, Try.ntmps37
  go_wp2_with (first | ((with_reducible refine gate_dst (N := 2) rfl ?_); refine box_event ?hg (N := 2) ?hd (cs := #[.string a0_0, .int .i64 a0_1, .slice A0_2 l0_2.length c0_2]) (t := 61) ?hr ?_; (case hd => rfl); (case hg => rfl); (case hr => first | (go_simp; done) | (go_simp; rfl)); intro gb106 hg w4 hbox hb; have BK106 := Aside0.mk (hbox); have GW106 := Aside0.mk ((by rw [hg]; exact (below_size (by repeat (first | (with_reducible first | exact HB.out | apply below_alloc | apply pw_below_drewN | apply below_drew1) | exact HB.out))) : w.heap.size ≤ gb106)); have GE106 := Aside0.mk ((by rw [hg]; exact (below_size (by repeat (first | (with_reducible first | exact HB.out | apply below_alloc | apply pw_below_drewN | apply below_drew1) | exact HB.out))) : w.heap.size ≤ gb106)); replace HB := Aside0.mk (below_step (by repeat (first | (with_reducible first | exact HB.out | apply below_alloc | apply pw_below_drewN | apply below_drew1) | exact HB.out)) hb); clear hb hbox hg) | ((with_reducible refine gate_dst (N := 3) rfl ?_); refine box_event ?hg (N := 3) ?hd (cs := #[.string a1_0, .int .i64 a1_1, .slice A1_2 l1_2.length c1_2]) (t := 61) ?hr ?_; (case hd => rfl); (case hg => rfl); (case hr => first | (go_simp; done) | (go_simp; rfl)); intro gb107 hg w5 hbox hb; have BK107 := Aside0.mk (hbox); have GW107 := Aside0.mk ((by rw [hg]; exact (below_size (by repeat (first | (with_reducible first | exact HB.out | apply below_alloc | apply pw_below_drewN | apply below_drew1 | refine below_set ?_ GE106.out) | exact HB.out))) : w.heap.size ≤ gb107)); have GE107 := Aside0.mk ((by rw [hg]; exact (below_size (by repeat (first | (with_reducible first | exact HB.out | apply below_alloc | apply pw_below_drewN | apply below_drew1 | refine below_set ?_ GE106.out) | exact HB.out))) : w.heap.size ≤ gb107)); replace HB := Aside0.mk (below_step (by repeat (first | (with_reducible first | exact HB.out | apply below_alloc | apply pw_below_drewN | apply below_drew1 | refine below_set ?_ GE106.out) | exact HB.out)) hb); have NB106_107 := Aside0.mk ((by rw [hg]; exact Nat.ne_of_lt (blk_lt (g := gb106) (o := .cells #[.string a0_0, .int .i64 a0_1, .slice A0_2 l0_2.length c0_2] 61 (0, 0)) (by (with_reducible repeat (first | refine blk_drewN ?_ _ | refine blk_drew ?_ | refine blk_alloc ?_ _)); exact BK106.out)) : gb106 ≠ gb107)); have NB107_106 := Aside0.mk ((by rw [hg]; exact Nat.ne_of_gt (blk_lt (g := gb106) (o := .cells #[.string a0_0, .int .i64 a0_1, .slice A0_2 l0_2.length c0_2] 61 (0, 0)) (by (with_reducible repeat (first | refine blk_drewN ?_ _ | refine blk_drew ?_ | refine blk_alloc ?_ _)); exact BK106.out)) : gb107 ≠ gb106)); replace BK106 := Aside0.mk (blk_below (g := gb106) (o := .cells #[.string a0_0, .int .i64 a0_1, .slice A0_2 l0_2.length c0_2] 61 (0, 0)) (by (with_reducible repeat (first | refine blk_drewN ?_ _ | refine blk_drew ?_ | refine blk_alloc ?_ _)); exact BK106.out) hb); clear hb hbox hg; have hnb6 := NB106_107.out; have hnc6 := NB107_106.out; have hcz7_0 : w5.cell? ⟨gb106, 0, none⟩ = some (.string a0_0) := (blk_cell BK106.out 0).trans rfl; have hcz7_1 : w5.cell? ⟨gb106, 1, none⟩ = some (.int .i64 a0_1) := (blk_cell BK106.out 1).trans rfl; have hcz7_2 : w5.cell? ⟨gb106, 2, none⟩ = some (.slice A0_2 l0_2.length c0_2) := (blk_cell BK106.out 2).trans rfl; have hfz7_0 := blk_frozen BK106.out 0; have hfz7_1 := blk_frozen BK106.out 1; have hfz7_2 := blk_frozen BK106.out 2; have hcz8_0 : w5.cell? ⟨gb107, 0, none⟩ = some (.string a1_0) := (blk_cell BK107.out 0).trans rfl; have hcz8_1 : w5.cell? ⟨gb107, 1, none⟩ = some (.int .i64 a1_1) := (blk_cell BK107.out 1).trans rfl; have hcz8_2 : w5.cell? ⟨gb107, 2, none⟩ = some (.slice A1_2 l1_2.length c1_2) := (blk_cell BK107.out 2).trans rfl; have hfz8_0 := blk_frozen BK107.out 0; have hfz8_1 := blk_frozen BK107.out 1; have hfz8_2 := blk_frozen BK107.out 2) | ((with_reducible refine gate_callee (f := 66) rfl ?_); refine goesL_ (some 9) rfl rfl Try.func66 (by kernel_rfl) rfl #[.string a0_0, .string a1_0] rfl (by (try simp only [List.map_toArray, List.map_cons, List.map_nil]); first | done | rfl | (simp only [List.length_drop, List.length_take]; rfl)) ?_; (with_reducible refine (id_Compare.calls a0_0 a1_0 t108 _ A3.out).mono ?_); rintro e w' ⟨rfl, ⟨nd, rfl⟩⟩; refine ⟨_, rfl, ?_⟩))
  go_ret
  exact ⟨by first | rfl | (simp [errW_none, errW_some] <;> rfl) | (simp [*, errW_none, errW_some] <;> rfl), by repeat (first | (with_reducible first | exact HB.out | apply below_alloc | apply pw_below_drewN | apply below_drew1 | refine below_set ?_ GE106.out | refine below_set ?_ GE107.out) | exact HB.out)⟩

/-! ### know_Right: function 8 -/
theorem zq8_0 {p_ : Prop} (h_ : p_ := by rw [hg]; exact (below_size (by repeat (first | (with_reducible first | exact HB.out | apply below_alloc | apply pw_below_drewN | apply below_drew1) | exact HB.out)))) : p_ := h_
theorem zq8_1 {p_ : Prop} (h_ : p_ := by repeat (first | (with_reducible first | exact HB.out | apply below_alloc | apply pw_below_drewN | apply below_drew1 | refine below_set ?_ GE110.out) | exact HB.out)) : p_ := h_
theorem zq8_2 {p_ : Prop} (h_ : p_ := by (try simp only [List.map_toArray, List.map_cons, List.map_nil]); first | done | rfl | (simp only [List.length_drop, List.length_take]; rfl)) : p_ := h_
theorem zq8_3 {p_ : Prop} (h_ : p_ := by repeat (first | (with_reducible first | exact HB.out | apply below_alloc | apply pw_below_drewN | apply below_drew1) | exact HB.out)) : p_ := h_
theorem zq8_4 {p_ : Prop} (h_ : p_ := by (with_reducible repeat (first | refine blk_drewN ?_ _ | refine blk_drew ?_ | refine blk_alloc ?_ _)); exact BK110.out) : p_ := h_
theorem zq8_5 {p_ : Prop} (h_ : p_ := by first | (with_reducible assumption) | assumption) : p_ := h_
theorem zq8_6 {p_ : Prop} (h_ : p_ := by first | rfl | (simp; done) | (simp [*]; done)) : p_ := h_
def know_Right.l0 : Nat → List (S61) → List (S61) → Int → Int → Option (Bool)
 | 0, _, _, _, _ => none
 | k + 1, x0, x5, x6, x7 => if x7 < x6 then (if 0 ≤ x7 then (if x7 < (x5.length : Int) then ((id_Right.f ((rd_T61 x5 x7).f0)).bind fun t111 => (if t111 = true then ((span_Right.f k ((rd_T61 x5 x7).f1.f0) ((rd_T61 x5 x7).f1.f1)).bind fun t112 => (if t112 = true then ((span_Count.f ((rd_T61 x5 x7).f1.f0) ((rd_T61 x5 x7).f1.f1)).bind fun t113 => (if t113 = 0 then (some false) else (if x7 > 0 then (if 0 ≤ (wrap64 (x7 - 1)) then (if (wrap64 (x7 - 1)) < (x0.length : Int) then ((know_order.f ((rd_T61 x0 (wrap64 (x7 - 1))).f0) ((rd_T61 x0 (wrap64 (x7 - 1))).f1.f0) ((rd_T61 x0 (wrap64 (x7 - 1))).f1.f1) ((rd_T61 x5 x7).f0) ((rd_T61 x5 x7).f1.f0) ((rd_T61 x5 x7).f1.f1)).bind fun t115 => (if t115 ≥ 0 then (some false) else (know_Right.l0 k x0 x5 x6 (wrap64 (x7 + 1))))) else (none)) else (none)) else (know_Right.l0 k x0 x5 x6 (wrap64 (x7 + 1)))))) else (some false))) else (some false))) else (none)) else (none)) else (some true)
def know_Right.f (k : Nat) (l0 : List (S61)) : Option (Bool) := know_Right.l0 k l0 l0 (l0.length : Int) 0
theorem know_Right.mono_l : ∀ k, (∀ y0 y1 y2 y3, LeO (know_Right.l0 k y0 y1 y2 y3) (know_Right.l0 (k + 1) y0 y1 y2 y3))
 | 0 => fun _ _ _ _ r h => by simp [know_Right.l0] at h
 | k + 1 => by
  have ih0 := know_Right.mono_l k
  ·intro y0 y1 y2 y3
   unfold know_Right.l0
   repeat' first
   | (with_reducible exact ih0 _ _ _ _)
   | (with_reducible exact span_Right.mono _ _ _)
   | (with_reducible exact LeO.refl _)
   | (with_reducible exact LeO.none _)
   | (with_reducible refine LeO.ite ?_ ?_)
   | (with_reducible refine LeO.bind ?_ (fun _ => ?_))
   | exact ih0 _ _ _ _
   | exact span_Right.mono _ _ _
   | exact LeO.none _
   | refine LeO.ite ?_ ?_
   | refine LeO.bind ?_ (fun _ => ?_)
theorem know_Right.mono : ∀ a0 k, LeO (know_Right.f k a0) (know_Right.f (k + 1) a0) := by
 intro a0 k
 have ih0 := know_Right.mono_l k
 unfold know_Right.f
 repeat' first
   | (with_reducible exact ih0 _ _ _ _)
   | (with_reducible exact span_Right.mono _ _ _)
   | (with_reducible exact LeO.refl _)
   | (with_reducible exact LeO.none _)
   | (with_reducible refine LeO.ite ?_ ?_)
   | (with_reducible refine LeO.bind ?_ (fun _ => ?_))
   | exact ih0 _ _ _ _
   | exact span_Right.mono _ _ _
   | exact LeO.none _
   | refine LeO.ite ?_ ?_
   | refine LeO.bind ?_ (fun _ => ?_)
def know_Right.T4 : Bool × List (List Nat × List Nat) := (true, [([], []), ([0], [0]), ([1], [1]), ([2], [2]), ([3, 2], [3]), ([4], [4]), ([5, 4], [4, 5]), ([6, 4, 4], [4, 6]), ([7, 4], [4, 7]), ([4, 8], [4, 8]), ([9, 7], [9]), ([10], [10]), ([11, 10], [10, 11]), ([12, 10, 10], [10, 12]), ([13, 10], [10, 13]), ([10, 14], [10, 14]), ([15, 13], [15]), ([16], [16]), ([17, 16], [16, 17]), ([18, 16, 16], [16, 18]), ([19], [19]), ([19], [19]), ([21, 19], [19, 21]), ([20, 22, 19], [19, 20, 22]), ([23, 19], [19, 23]), ([19], [19]), ([24, 25, 19, 19], [19, 24, 25]), ([26, 19], [19, 26]), ([19, 27, 16], [16, 19, 27]), ([16, 28], [16, 28])])
def know_Right.B4 : List Nat := [0, 1, 3, 7, 15, 31, 63, 127, 255, 511, 1023, 2047, 4095, 8191, 16383, 32767, 65535, 131071, 262143, 524287, 1048575, 1048575, 3145727, 8388607, 16777215, 1048575, 67108863, 134217727, 268435455, 536870911]
theorem know_Right.tab4 : rtab .any (opsOf Try.f8 4) = know_Right.T4 := by kernel_rfl
theorem know_Right.bits4 : waitsOk know_Right.T4.2 know_Right.B4 = true := by kernel_rfl
set_option maxHeartbeats 8000000 in
set_option maxRecDepth 100000 in
theorem know_Right.calls (k : Nat) (A0 : Option Addr) (c0 : Nat) (l0 : List (S61)) (r : Bool) (w : World) (hr0 : Kd.C k61 w A0 l0.length l0) (hc0 : l0.length ≤ c0) (h : know_Right.f k l0 = some r) :
  Calls Try.prog 8 #[.slice A0 l0.length c0] w fun e w' => e = .returned (.bool r) ∧ Below w.heap.size w w' := by
 have hu61 := Try.underlying61
 have hu44 := Try.underlying44
 have HR0 := Aside0.mk hr0
 have HC0 := Aside0.mk hc0
 clear hr0 hc0
 have HB := Aside0.mk (Below.refl w.heap.size w)
 have H : (know_Right.l0 k l0 l0 (l0.length : Int) 0) = some r := h
 clear h
 have H' := Aside0.mk H
 clear H
 go_enter Try.func8, Try.ntmps8
 go_wp2
 go_loopg [7] k (fun kq v7 w' => ∃ (x7_1 : Int), v7 = .int .i64 x7_1 ∧ Aside0 (know_Right.l0 kq l0 l0 (l0.length : Int) x7_1 = some r) ∧ Aside0 (kq ≤ k) ∧ Aside0 (Below w.heap.size w w'))
 case atStart => exact ⟨(0), zq8_6, H', ⟨Nat.le_refl _⟩, ⟨by repeat (first | (with_reducible first | exact HB.out | apply below_alloc | apply pw_below_drewN | apply below_drew1) | exact HB.out)⟩⟩
 case round =>
  clear H'
  obtain ⟨x7_1, rfl, HA, HK1, HB⟩ := hrel
  cases gk with
  | zero => exact absurd HA.out (by simp [know_Right.l0])
  | succ k1 =>
   have H := HA.out
   clear HA
   simp only [know_Right.l0] at H
   by_cases c2 : x7_1 < (l0.length : Int)
   ·rw [if_pos c2] at H
    have c2b0 : decide (x7_1 < (l0.length : Int)) = true := decide_eq_true c2
    clear c2
    by_cases c3 : 0 ≤ x7_1
    ·rw [if_pos c3] at H
     have c3b0 : decide (0 ≤ x7_1) = true := decide_eq_true c3
     clear c3
     by_cases c4 : x7_1 < (l0.length : Int)
     ·rw [if_pos c4] at H
      have c4b0 : decide (x7_1 < (l0.length : Int)) = true := decide_eq_true c4
      clear c4
      replace H := Option.bind_eq_some_iff.mp H
      obtain ⟨t111, A50, H⟩ := H
      have A5 := Aside0.mk A50
      clear A50
      by_cases c6 : t111 = true
      ·subst c6
       have H1 : ((span_Right.f k1 ((rd_T61 l0 x7_1).f1.f0) ((rd_T61 l0 x7_1).f1.f1)).bind fun t112 => (if t112 = true then ((span_Count.f ((rd_T61 l0 x7_1).f1.f0) ((rd_T61 l0 x7_1).f1.f1)).bind fun t113 => (if t113 = 0 then (some false) else (if x7_1 > 0 then (if 0 ≤ (wrap64 (x7_1 - 1)) then (if (wrap64 (x7_1 - 1)) < (l0.length : Int) then ((know_order.f ((rd_T61 l0 (wrap64 (x7_1 - 1))).f0) ((rd_T61 l0 (wrap64 (x7_1 - 1))).f1.f0) ((rd_T61 l0 (wrap64 (x7_1 - 1))).f1.f1) ((rd_T61 l0 x7_1).f0) ((rd_T61 l0 x7_1).f1.f0) ((rd_T61 l0 x7_1).f1.f1)).bind fun t115 => (if t115 ≥ 0 then (some false) else (know_Right.l0 k1 l0 l0 (l0.length : Int) (wrap64 (x7_1 + 1))))) else (none)) else (none)) else (know_Right.l0 k1 l0 l0 (l0.length : Int) (wrap64 (x7_1 + 1)))))) else (some false))) = some r := by rw [if_pos rfl] at H; exact H
       clear H
       have H := H1
       clear H1
       replace H := Option.bind_eq_some_iff.mp H
       obtain ⟨t112, A70, H⟩ := H
       have A7 := Aside0.mk A70
       clear A70
       by_cases c8 : t112 = true
       ·subst c8
        have H1 : ((span_Count.f ((rd_T61 l0 x7_1).f1.f0) ((rd_T61 l0 x7_1).f1.f1)).bind fun t113 => (if t113 = 0 then (some false) else (if x7_1 > 0 then (if 0 ≤ (wrap64 (x7_1 - 1)) then (if (wrap64 (x7_1 - 1)) < (l0.length : Int) then ((know_order.f ((rd_T61 l0 (wrap64 (x7_1 - 1))).f0) ((rd_T61 l0 (wrap64 (x7_1 - 1))).f1.f0) ((rd_T61 l0 (wrap64 (x7_1 - 1))).f1.f1) ((rd_T61 l0 x7_1).f0) ((rd_T61 l0 x7_1).f1.f0) ((rd_T61 l0 x7_1).f1.f1)).bind fun t115 => (if t115 ≥ 0 then (some false) else (know_Right.l0 k1 l0 l0 (l0.length : Int) (wrap64 (x7_1 + 1))))) else (none)) else (none)) else (know_Right.l0 k1 l0 l0 (l0.length : Int) (wrap64 (x7_1 + 1)))))) = some r := by rw [if_pos rfl] at H; exact H
        clear H
        have H := H1
        clear H1
        replace H := Option.bind_eq_some_iff.mp H
        obtain ⟨t113, A90, H⟩ := H
        have A9 := Aside0.mk A90
        clear A90
        by_cases c10 : t113 = 0
        ·rw [if_pos c10] at H
         have c10b0 : (t113 == 0) = true := beq_iff_eq.mpr c10
         have c10b1 : (t113 != 0) = false := bne_eq_false_iff_eq.mpr c10
         clear c10
         obtain rfl := Option.some.inj H
         have p109 : 0 ≤ (x7_1 : Int) := of_decide_eq_true zq8_5
         have q109 : x7_1 < (l0.length : Int) := of_decide_eq_true zq8_5
         obtain ⟨ad109, A109_2, c109_2, e109, hx109_0, hx109_1, hx109_2, hl109_2, hi109_2⟩ := at_T61 HR0.out x7_1 p109 q109
         cases e109
         replace hx109_0 := (HB.out.cell (World.block_lt_of_cell? w _ hx109_0)).trans hx109_0
         replace hx109_1 := (HB.out.cell (World.block_lt_of_cell? w _ hx109_1)).trans hx109_1
         replace hx109_2 := (HB.out.cell (World.block_lt_of_cell? w _ hx109_2)).trans hx109_2
         have HR109_2 := Aside0.mk hi109_2
         have HC109_2 := Aside0.mk hl109_2
         clear hi109_2 hl109_2
         replace p109 := eq_true p109
         replace q109 := eq_true q109
         try go_wp2_with (first | ((with_reducible refine gate_dst (N := 4) rfl ?_); refine box_event ?hg (N := 4) ?hd (cs := #[.string (⟨#[]⟩ : ByteArray), .int .i64 0, .slice none 0 0]) (t := 61) ?hr ?_; (case hd => rfl); (case hg => rfl); (case hr => first | (go_simp; done) | (go_simp; rfl)); intro gb110 hg w11 hbox hb; have BK110 := Aside0.mk (hbox); have GW110 := Aside0.mk ((zq8_0 : w.heap.size ≤ gb110)); have GE110 := Aside0.mk ((zq8_0 : w.heap.size ≤ gb110)); replace HB := Aside0.mk (below_step zq8_3 hb); clear hb hbox hg; have hcz12_0 : w11.cell? ⟨gb110, 0, none⟩ = some (.string (⟨#[]⟩ : ByteArray)) := (blk_cell BK110.out 0).trans rfl; have hcz12_1 : w11.cell? ⟨gb110, 1, none⟩ = some (.int .i64 0) := (blk_cell BK110.out 1).trans rfl; have hcz12_2 : w11.cell? ⟨gb110, 2, none⟩ = some (.slice none 0 0) := (blk_cell BK110.out 2).trans rfl; have hfz12_0 := blk_frozen BK110.out 0; have hfz12_1 := blk_frozen BK110.out 1; have hfz12_2 := blk_frozen BK110.out 2))
         have n0_ : Aside0 ((((w11.setCell ⟨gb110, 0, none⟩ (.string ((rd_T61 l0 x7_1).f0))).setCell ⟨gb110, 1, none⟩ (.int .i64 ((rd_T61 l0 x7_1).f1.f0))).setCell ⟨gb110, 2, none⟩ (.slice A109_2 ((rd_T61 l0 x7_1).f1.f1).length c109_2)).heap[gb110]? = some (.cells #[.string ((rd_T61 l0 x7_1).f0), .int .i64 ((rd_T61 l0 x7_1).f1.f0), .slice A109_2 ((rd_T61 l0 x7_1).f1.f1).length c109_2] 61 (0, 0))) := ⟨by (with_reducible repeat (first | refine blk_drewN ?_ _ | refine blk_drew ?_ | refine blk_alloc ?_ _)); refine blk_put (cs := #[.string ((rd_T61 l0 x7_1).f0), .int .i64 ((rd_T61 l0 x7_1).f1.f0), .slice none 0 0]) ?_ 2 _ rfl; (with_reducible repeat (first | refine blk_drewN ?_ _ | refine blk_drew ?_ | refine blk_alloc ?_ _)); refine blk_put (cs := #[.string ((rd_T61 l0 x7_1).f0), .int .i64 0, .slice none 0 0]) ?_ 1 _ rfl; (with_reducible repeat (first | refine blk_drewN ?_ _ | refine blk_drew ?_ | refine blk_alloc ?_ _)); refine blk_put (cs := #[.string (⟨#[]⟩ : ByteArray), .int .i64 0, .slice none 0 0]) ?_ 0 _ rfl; (with_reducible repeat (first | refine blk_drewN ?_ _ | refine blk_drew ?_ | refine blk_alloc ?_ _)); exact BK110.out⟩
         have n1_ : Aside0 (Below w.heap.size w (((w11.setCell ⟨gb110, 0, none⟩ (.string ((rd_T61 l0 x7_1).f0))).setCell ⟨gb110, 1, none⟩ (.int .i64 ((rd_T61 l0 x7_1).f1.f0))).setCell ⟨gb110, 2, none⟩ (.slice A109_2 ((rd_T61 l0 x7_1).f1.f1).length c109_2))) := ⟨by repeat (first | (with_reducible first | exact HB.out | apply below_alloc | apply pw_below_drewN | apply below_drew1 | refine below_set ?_ GE110.out) | exact HB.out)⟩
         (try clear BK110)
         (try clear HB)
         generalize (((w11.setCell ⟨gb110, 0, none⟩ (.string ((rd_T61 l0 x7_1).f0))).setCell ⟨gb110, 1, none⟩ (.int .i64 ((rd_T61 l0 x7_1).f1.f0))).setCell ⟨gb110, 2, none⟩ (.slice A109_2 ((rd_T61 l0 x7_1).f1.f1).length c109_2)) = w13 at n0_ n1_ ⊢
         have BK110 := n0_
         have HB := n1_
         clear n0_ n1_
         replace BK110 := Aside0.mk (blk_drew BK110.out)
         replace HB := Aside0.mk (below_drew1 HB.out)
         refine start_ (n := 30) (S := fun w' => w'.cell? ⟨gb110, 0, none⟩ = some (.string ((rd_T61 l0 x7_1).f0)) ∧ w'.cell? ⟨gb110, 1, none⟩ = some (.int .i64 ((rd_T61 l0 x7_1).f1.f0)) ∧ w'.cell? ⟨gb110, 2, none⟩ = some (.slice A109_2 ((rd_T61 l0 x7_1).f1.f1).length c109_2)) (ds := []) #[false, false, false, false, false, false, false, false, false, false, false, false, false, false, false, false, false, false, false, false, false, false, false, false, false, false, false, false, false, false] (by kernel_rfl) rfl rfl ⟨(blk_cell BK110.out 0).trans rfl, (blk_cell BK110.out 1).trans rfl, (blk_cell BK110.out 2).trans rfl⟩ (fun hHeld => ?_); refine with_tabW know_Right.tab4 know_Right.bits4 (fun HT_ HW_ => ?_)
         generalize w13.drew = w14 at BK110 HB hHeld ⊢
         refine p_ 0 12 (mk_ 30 0x1) ?_
         refine t_ 1 13 (mk_ 30 0x3) hHeld ?_
         refine one_ (i := 2) (N := some 14) #[true, true, true, false, false, false, false, false, false, false, false, false, false, false, false, false, false, false, false, false, false, false, false, false, false, false, false, false, false, false] rfl rfl (one_of HT_.out (by kernel_rfl)) (by decide) (fun K hK => ?_)
         refine goes_ Try.func34 (by kernel_rfl) rfl #[.string ((rd_T61 l0 x7_1).f0)] (by rfl) rfl rfl zq8_2 ?_
         with_reducible refine (id_Right.calls ((rd_T61 l0 x7_1).f0) true _ A5.out).mono ?_
         rintro e w15 ⟨rfl, hb⟩
         refine ⟨_, rfl, ?_⟩
         replace BK110 := Aside0.mk (blk_below (g := gb110) (o := .cells #[.string ((rd_T61 l0 x7_1).f0), .int .i64 ((rd_T61 l0 x7_1).f1.f0), .slice A109_2 ((rd_T61 l0 x7_1).f1.f1).length c109_2] 61 (0, 0)) zq8_4 hb)
         replace HB := Aside0.mk (below_step zq8_1 hb)
         (try clear hb)
         (try clear hb2)
         (try clear hk)
         (try clear hi)
         refine hK.out _ _ ⟨(blk_cell BK110.out 0).trans rfl, (blk_cell BK110.out 1).trans rfl, (blk_cell BK110.out 2).trans rfl⟩ (fun hHeld => ?_)
         clear hK K
         refine norm_ (a' := ?_) ?_ ?_
         rotate_left
         ·show Act.put _ (some 14) _ = _
          simp only [Act.put, List.setIfInBounds_toArray, List.set_cons_zero, List.set_cons_succ, i64_w, i32_w]
          rfl
         refine p_ 3 15 (mk_ 30 0xf) ?_
         refine p_ 4 16 (mk_ 30 0x1f) ?_
         refine p_ 5 17 (mk_ 30 0x3f) ?_
         refine t_ 6 18 (mk_ 30 0x7f) hHeld ?_
         refine one_ (i := 7) (N := some 19) #[true, true, true, true, true, true, true, true, false, false, false, false, false, false, false, false, false, false, false, false, false, false, false, false, false, false, false, false, false, false] rfl rfl (one_of HT_.out (by kernel_rfl)) (by decide) (fun K hK => ?_)
         refine goes_ Try.func35 (by kernel_rfl) rfl #[.agg #[.int .i64 ((rd_T61 l0 x7_1).f1.f0), .slice A109_2 ((rd_T61 l0 x7_1).f1.f1).length c109_2]] (by rfl) rfl rfl zq8_2 ?_
         with_reducible refine (span_Right.calls k1 ((rd_T61 l0 x7_1).f1.f0) _ _ ((rd_T61 l0 x7_1).f1.f1) true _ ?side1 ?side2 A7.out).mono ?_
         (case side1 => repeat (first | exact (Kd.C_below HR109_2.out HB.out) | (with_reducible refine Kd.C_alloc ?_ _) | (with_reducible refine Kd.C_drewN ?_ _) | (with_reducible refine Kd.C_drew ?_)))
         (case side2 => exact HC109_2.out)
         rintro e w16 ⟨rfl, hb⟩
         refine ⟨_, rfl, ?_⟩
         replace BK110 := Aside0.mk (blk_below (g := gb110) (o := .cells #[.string ((rd_T61 l0 x7_1).f0), .int .i64 ((rd_T61 l0 x7_1).f1.f0), .slice A109_2 ((rd_T61 l0 x7_1).f1.f1).length c109_2] 61 (0, 0)) zq8_4 hb)
         replace HB := Aside0.mk (below_step zq8_1 hb)
         (try clear hb)
         (try clear hb2)
         (try clear hk)
         (try clear hi)
         refine hK.out _ _ ⟨(blk_cell BK110.out 0).trans rfl, (blk_cell BK110.out 1).trans rfl, (blk_cell BK110.out 2).trans rfl⟩ (fun hHeld => ?_)
         clear hK K
         refine norm_ (a' := ?_) ?_ ?_
         rotate_left
         ·show Act.put _ (some 19) _ = _
          simp only [Act.put, List.setIfInBounds_toArray, List.set_cons_zero, List.set_cons_succ, i64_w, i32_w]
          rfl
         refine p_ 8 20 (mk_ 30 0x1ff) ?_
         refine p_ 9 21 (mk_ 30 0x3ff) ?_
         refine p_ 10 22 (mk_ 30 0x7ff) ?_
         refine p_ 11 23 (mk_ 30 0xfff) ?_
         refine t_ 12 24 (mk_ 30 0x1fff) hHeld ?_
         refine one_ (i := 13) (N := some 25) #[true, true, true, true, true, true, true, true, true, true, true, true, true, true, false, false, false, false, false, false, false, false, false, false, false, false, false, false, false, false] rfl rfl (one_of HT_.out (by kernel_rfl)) (by decide) (fun K hK => ?_)
         refine goes_ Try.func36 (by kernel_rfl) rfl #[.agg #[.int .i64 ((rd_T61 l0 x7_1).f1.f0), .slice A109_2 ((rd_T61 l0 x7_1).f1.f1).length c109_2]] (by rfl) rfl rfl zq8_2 ?_
         with_reducible refine (span_Count.calls ((rd_T61 l0 x7_1).f1.f0) _ _ ((rd_T61 l0 x7_1).f1.f1) t113 _ ?side1 ?side2 A9.out).mono ?_
         (case side1 => repeat (first | exact (Kd.C_below HR109_2.out HB.out) | (with_reducible refine Kd.C_alloc ?_ _) | (with_reducible refine Kd.C_drewN ?_ _) | (with_reducible refine Kd.C_drew ?_)))
         (case side2 => exact HC109_2.out)
         rintro e w17 ⟨rfl, hb⟩
         refine ⟨_, rfl, ?_⟩
         replace BK110 := Aside0.mk (blk_below (g := gb110) (o := .cells #[.string ((rd_T61 l0 x7_1).f0), .int .i64 ((rd_T61 l0 x7_1).f1.f0), .slice A109_2 ((rd_T61 l0 x7_1).f1.f1).length c109_2] 61 (0, 0)) zq8_4 hb)
         replace HB := Aside0.mk (below_step zq8_1 hb)
         (try clear hb)
         (try clear hb2)
         (try clear hk)
         (try clear hi)
         refine hK.out _ _ ⟨(blk_cell BK110.out 0).trans rfl, (blk_cell BK110.out 1).trans rfl, (blk_cell BK110.out 2).trans rfl⟩ (fun hHeld => ?_)
         clear hK K
         refine norm_ (a' := ?_) ?_ ?_
         rotate_left
         ·show Act.put _ (some 25) _ = _
          simp only [Act.put, List.setIfInBounds_toArray, List.set_cons_zero, List.set_cons_succ, i64_w, i32_w]
          rfl
         refine p_ 14 26 (mk_ 30 0x7fff) ?_
         refine p_ 15 27 (mk_ 30 0xffff) ?_
         refine p_ 16 28 (mk_ 30 0x1ffff) ?_
         refine u_ 17 29 (mk_ 30 0x3ffff) ?_
         refine u_ 18 30 (mk_ 30 0x7ffff) ?_
         refine u_ 19 31 (mk_ 30 0xfffff) ?_
         refine u_ 20 32 (mk_ 30 0x1fffff) ?_
         refine u_ 21 33 (mk_ 30 0x3fffff) ?_
         refine u_ 22 34 (mk_ 30 0x7fffff) ?_
         refine u_ 23 35 (mk_ 30 0xffffff) ?_
         refine u_ 24 36 (mk_ 30 0x1ffffff) ?_
         refine u_ 25 37 (mk_ 30 0x3ffffff) ?_
         refine u_ 26 38 (mk_ 30 0x7ffffff) ?_
         refine u_ 27 39 (mk_ 30 0xfffffff) ?_
         refine u_ 28 40 (mk_ 30 0x1fffffff) ?_
         refine p_ 29 41 (mk_ 30 0x3fffffff) ?_
         refine done_ (done_of HT_.out (by kernel_rfl)) ?_
         try go_wp2
         go_ret
         exact ⟨by first | rfl | (simp [errW_none, errW_some] <;> rfl) | (simp [*, errW_none, errW_some] <;> rfl), by repeat (first | (with_reducible first | exact HB.out | apply below_alloc | apply pw_below_drewN | apply below_drew1 | refine below_set ?_ GE110.out) | exact HB.out)⟩
        ·rw [if_neg c10] at H
         have c10b0 : (t113 == 0) = false := beq_eq_false_iff_ne.mpr c10
         have c10b1 : (t113 != 0) = true := bne_iff_ne.mpr c10
         by_cases c18 : x7_1 > 0
         ·rw [if_pos c18] at H
          have c18b0 : decide (0 < x7_1) = true := decide_eq_true c18
          clear c18
          obtain ⟨ji19, hji19⟩ : ∃ j_ : Int, (wrap64 (x7_1 - 1)) = j_ := ⟨_, rfl⟩
          replace H : (if 0 ≤ (ji19) then (if (ji19) < (l0.length : Int) then ((know_order.f ((rd_T61 l0 (ji19)).f0) ((rd_T61 l0 (ji19)).f1.f0) ((rd_T61 l0 (ji19)).f1.f1) ((rd_T61 l0 x7_1).f0) ((rd_T61 l0 x7_1).f1.f0) ((rd_T61 l0 x7_1).f1.f1)).bind fun t115 => (if t115 ≥ 0 then (some false) else (know_Right.l0 k1 l0 l0 (l0.length : Int) (wrap64 (x7_1 + 1))))) else (none)) else (none)) = some r := by first | (rw [hji19] at H; exact H) | (simp only [hji19] at H ⊢; exact H)
          (try rw [hji19] at A5)
          (try rw [hji19] at A7)
          (try rw [hji19] at A9)
          have hji19w : (IntKind.i64.wrap (x7_1 - 1)) = ji19 := (i64_w _).trans hji19
          by_cases c20 : 0 ≤ (ji19)
          ·rw [if_pos c20] at H
           have c20b0 : decide (0 ≤ (ji19)) = true := decide_eq_true c20
           clear c20
           by_cases c21 : (ji19) < (l0.length : Int)
           ·rw [if_pos c21] at H
            have c21b0 : decide ((ji19) < (l0.length : Int)) = true := decide_eq_true c21
            clear c21
            replace H := Option.bind_eq_some_iff.mp H
            obtain ⟨t115, A220, H⟩ := H
            have A22 := Aside0.mk A220
            clear A220
            by_cases c23 : t115 ≥ 0
            ·rw [if_pos c23] at H
             have c23b0 : decide (0 ≤ t115) = true := decide_eq_true c23
             clear c23
             obtain rfl := Option.some.inj H
             have p109 : 0 ≤ (x7_1 : Int) := of_decide_eq_true zq8_5
             have q109 : x7_1 < (l0.length : Int) := of_decide_eq_true zq8_5
             obtain ⟨ad109, A109_2, c109_2, e109, hx109_0, hx109_1, hx109_2, hl109_2, hi109_2⟩ := at_T61 HR0.out x7_1 p109 q109
             cases e109
             replace hx109_0 := (HB.out.cell (World.block_lt_of_cell? w _ hx109_0)).trans hx109_0
             replace hx109_1 := (HB.out.cell (World.block_lt_of_cell? w _ hx109_1)).trans hx109_1
             replace hx109_2 := (HB.out.cell (World.block_lt_of_cell? w _ hx109_2)).trans hx109_2
             have HR109_2 := Aside0.mk hi109_2
             have HC109_2 := Aside0.mk hl109_2
             clear hi109_2 hl109_2
             replace p109 := eq_true p109
             replace q109 := eq_true q109
             try go_wp2_with (first | ((with_reducible refine gate_dst (N := 4) rfl ?_); refine box_event ?hg (N := 4) ?hd (cs := #[.string (⟨#[]⟩ : ByteArray), .int .i64 0, .slice none 0 0]) (t := 61) ?hr ?_; (case hd => rfl); (case hg => rfl); (case hr => first | (go_simp; done) | (go_simp; rfl)); intro gb110 hg w24 hbox hb; have BK110 := Aside0.mk (hbox); have GW110 := Aside0.mk ((zq8_0 : w.heap.size ≤ gb110)); have GE110 := Aside0.mk ((zq8_0 : w.heap.size ≤ gb110)); replace HB := Aside0.mk (below_step zq8_3 hb); clear hb hbox hg; have hcz25_0 : w24.cell? ⟨gb110, 0, none⟩ = some (.string (⟨#[]⟩ : ByteArray)) := (blk_cell BK110.out 0).trans rfl; have hcz25_1 : w24.cell? ⟨gb110, 1, none⟩ = some (.int .i64 0) := (blk_cell BK110.out 1).trans rfl; have hcz25_2 : w24.cell? ⟨gb110, 2, none⟩ = some (.slice none 0 0) := (blk_cell BK110.out 2).trans rfl; have hfz25_0 := blk_frozen BK110.out 0; have hfz25_1 := blk_frozen BK110.out 1; have hfz25_2 := blk_frozen BK110.out 2))
             have n0_ : Aside0 ((((w24.setCell ⟨gb110, 0, none⟩ (.string ((rd_T61 l0 x7_1).f0))).setCell ⟨gb110, 1, none⟩ (.int .i64 ((rd_T61 l0 x7_1).f1.f0))).setCell ⟨gb110, 2, none⟩ (.slice A109_2 ((rd_T61 l0 x7_1).f1.f1).length c109_2)).heap[gb110]? = some (.cells #[.string ((rd_T61 l0 x7_1).f0), .int .i64 ((rd_T61 l0 x7_1).f1.f0), .slice A109_2 ((rd_T61 l0 x7_1).f1.f1).length c109_2] 61 (0, 0))) := ⟨by (with_reducible repeat (first | refine blk_drewN ?_ _ | refine blk_drew ?_ | refine blk_alloc ?_ _)); refine blk_put (cs := #[.string ((rd_T61 l0 x7_1).f0), .int .i64 ((rd_T61 l0 x7_1).f1.f0), .slice none 0 0]) ?_ 2 _ rfl; (with_reducible repeat (first | refine blk_drewN ?_ _ | refine blk_drew ?_ | refine blk_alloc ?_ _)); refine blk_put (cs := #[.string ((rd_T61 l0 x7_1).f0), .int .i64 0, .slice none 0 0]) ?_ 1 _ rfl; (with_reducible repeat (first | refine blk_drewN ?_ _ | refine blk_drew ?_ | refine blk_alloc ?_ _)); refine blk_put (cs := #[.string (⟨#[]⟩ : ByteArray), .int .i64 0, .slice none 0 0]) ?_ 0 _ rfl; (with_reducible repeat (first | refine blk_drewN ?_ _ | refine blk_drew ?_ | refine blk_alloc ?_ _)); exact BK110.out⟩
             have n1_ : Aside0 (Below w.heap.size w (((w24.setCell ⟨gb110, 0, none⟩ (.string ((rd_T61 l0 x7_1).f0))).setCell ⟨gb110, 1, none⟩ (.int .i64 ((rd_T61 l0 x7_1).f1.f0))).setCell ⟨gb110, 2, none⟩ (.slice A109_2 ((rd_T61 l0 x7_1).f1.f1).length c109_2))) := ⟨by repeat (first | (with_reducible first | exact HB.out | apply below_alloc | apply pw_below_drewN | apply below_drew1 | refine below_set ?_ GE110.out) | exact HB.out)⟩
             (try clear BK110)
             (try clear HB)
             generalize (((w24.setCell ⟨gb110, 0, none⟩ (.string ((rd_T61 l0 x7_1).f0))).setCell ⟨gb110, 1, none⟩ (.int .i64 ((rd_T61 l0 x7_1).f1.f0))).setCell ⟨gb110, 2, none⟩ (.slice A109_2 ((rd_T61 l0 x7_1).f1.f1).length c109_2)) = w26 at n0_ n1_ ⊢
             have BK110 := n0_
             have HB := n1_
             clear n0_ n1_
             replace BK110 := Aside0.mk (blk_drew BK110.out)
             replace HB := Aside0.mk (below_drew1 HB.out)
             have p114 : 0 ≤ ((ji19) : Int) := of_decide_eq_true zq8_5
             have q114 : (ji19) < (l0.length : Int) := of_decide_eq_true zq8_5
             obtain ⟨ad114, A114_2, c114_2, e114, hx114_0, hx114_1, hx114_2, hl114_2, hi114_2⟩ := at_T61 HR0.out (ji19) p114 q114
             have hw114_2 := hx114_2
             have hw114_1 := hx114_1
             have hw114_0 := hx114_0
             obtain rfl : ad109 = ad114 := (by injection e114)
             replace hx114_0 := (HB.out.cell (World.block_lt_of_cell? w _ hx114_0)).trans hx114_0
             replace hx114_1 := (HB.out.cell (World.block_lt_of_cell? w _ hx114_1)).trans hx114_1
             replace hx114_2 := (HB.out.cell (World.block_lt_of_cell? w _ hx114_2)).trans hx114_2
             have HR114_2 := Aside0.mk hi114_2
             have HC114_2 := Aside0.mk hl114_2
             clear hi114_2 hl114_2
             replace p114 := eq_true p114
             replace q114 := eq_true q114
             refine start_ (n := 30) (S := fun w' => w'.cell? ⟨gb110, 0, none⟩ = some (.string ((rd_T61 l0 x7_1).f0)) ∧ w'.cell? ⟨gb110, 1, none⟩ = some (.int .i64 ((rd_T61 l0 x7_1).f1.f0)) ∧ w'.cell? ⟨gb110, 2, none⟩ = some (.slice A109_2 ((rd_T61 l0 x7_1).f1.f1).length c109_2) ∧ w'.cell? (ad109.add (((ji19)).toNat * 3)) = some (.string ((rd_T61 l0 (ji19)).f0)) ∧ w'.cell? ⟨(ad109.add (((ji19)).toNat * 3)).block, (ad109.add (((ji19)).toNat * 3)).off + 1, none⟩ = some (.int .i64 ((rd_T61 l0 (ji19)).f1.f0)) ∧ w'.cell? ⟨(ad109.add (((ji19)).toNat * 3)).block, (ad109.add (((ji19)).toNat * 3)).off + 2, none⟩ = some (.slice A114_2 ((rd_T61 l0 (ji19)).f1.f1).length c114_2)) (ds := []) #[false, false, false, false, false, false, false, false, false, false, false, false, false, false, false, false, false, false, false, false, false, false, false, false, false, false, false, false, false, false] (by kernel_rfl) rfl rfl ⟨(blk_cell BK110.out 0).trans rfl, (blk_cell BK110.out 1).trans rfl, (blk_cell BK110.out 2).trans rfl, ((HB.out.cell (World.block_lt_of_cell? w _ hw114_0)).trans hw114_0), ((HB.out.cell (World.block_lt_of_cell? w _ hw114_1)).trans hw114_1), ((HB.out.cell (World.block_lt_of_cell? w _ hw114_2)).trans hw114_2)⟩ (fun hHeld => ?_); refine with_tabW know_Right.tab4 know_Right.bits4 (fun HT_ HW_ => ?_)
             generalize w26.drew = w27 at BK110 HB HR114_2 hx114_0 hx114_1 hx114_2 hHeld ⊢
             refine p_ 0 12 (mk_ 30 0x1) ?_
             refine t_ 1 13 (mk_ 30 0x3) hHeld ?_
             refine one_ (i := 2) (N := some 14) #[true, true, true, false, false, false, false, false, false, false, false, false, false, false, false, false, false, false, false, false, false, false, false, false, false, false, false, false, false, false] rfl rfl (one_of HT_.out (by kernel_rfl)) (by decide) (fun K hK => ?_)
             refine goes_ Try.func34 (by kernel_rfl) rfl #[.string ((rd_T61 l0 x7_1).f0)] (by rfl) rfl rfl zq8_2 ?_
             with_reducible refine (id_Right.calls ((rd_T61 l0 x7_1).f0) true _ A5.out).mono ?_
             rintro e w28 ⟨rfl, hb⟩
             refine ⟨_, rfl, ?_⟩
             replace BK110 := Aside0.mk (blk_below (g := gb110) (o := .cells #[.string ((rd_T61 l0 x7_1).f0), .int .i64 ((rd_T61 l0 x7_1).f1.f0), .slice A109_2 ((rd_T61 l0 x7_1).f1.f1).length c109_2] 61 (0, 0)) zq8_4 hb)
             replace HB := Aside0.mk (below_step zq8_1 hb)
             (try clear hb)
             (try clear hb2)
             (try clear hk)
             (try clear hi)
             refine hK.out _ _ ⟨(blk_cell BK110.out 0).trans rfl, (blk_cell BK110.out 1).trans rfl, (blk_cell BK110.out 2).trans rfl, ((HB.out.cell (World.block_lt_of_cell? w _ hw114_0)).trans hw114_0), ((HB.out.cell (World.block_lt_of_cell? w _ hw114_1)).trans hw114_1), ((HB.out.cell (World.block_lt_of_cell? w _ hw114_2)).trans hw114_2)⟩ (fun hHeld => ?_)
             clear hK K
             refine norm_ (a' := ?_) ?_ ?_
             rotate_left
             ·show Act.put _ (some 14) _ = _
              simp only [Act.put, List.setIfInBounds_toArray, List.set_cons_zero, List.set_cons_succ, i64_w, i32_w]
              rfl
             refine p_ 3 15 (mk_ 30 0xf) ?_
             refine p_ 4 16 (mk_ 30 0x1f) ?_
             refine p_ 5 17 (mk_ 30 0x3f) ?_
             refine t_ 6 18 (mk_ 30 0x7f) hHeld ?_
             refine one_ (i := 7) (N := some 19) #[true, true, true, true, true, true, true, true, false, false, false, false, false, false, false, false, false, false, false, false, false, false, false, false, false, false, false, false, false, false] rfl rfl (one_of HT_.out (by kernel_rfl)) (by decide) (fun K hK => ?_)
             refine goes_ Try.func35 (by kernel_rfl) rfl #[.agg #[.int .i64 ((rd_T61 l0 x7_1).f1.f0), .slice A109_2 ((rd_T61 l0 x7_1).f1.f1).length c109_2]] (by rfl) rfl rfl zq8_2 ?_
             with_reducible refine (span_Right.calls k1 ((rd_T61 l0 x7_1).f1.f0) _ _ ((rd_T61 l0 x7_1).f1.f1) true _ ?side1 ?side2 A7.out).mono ?_
             (case side1 => repeat (first | exact (Kd.C_below HR109_2.out HB.out) | (with_reducible refine Kd.C_alloc ?_ _) | (with_reducible refine Kd.C_drewN ?_ _) | (with_reducible refine Kd.C_drew ?_)))
             (case side2 => exact HC109_2.out)
             rintro e w29 ⟨rfl, hb⟩
             refine ⟨_, rfl, ?_⟩
             replace BK110 := Aside0.mk (blk_below (g := gb110) (o := .cells #[.string ((rd_T61 l0 x7_1).f0), .int .i64 ((rd_T61 l0 x7_1).f1.f0), .slice A109_2 ((rd_T61 l0 x7_1).f1.f1).length c109_2] 61 (0, 0)) zq8_4 hb)
             replace HB := Aside0.mk (below_step zq8_1 hb)
             (try clear hb)
             (try clear hb2)
             (try clear hk)
             (try clear hi)
             refine hK.out _ _ ⟨(blk_cell BK110.out 0).trans rfl, (blk_cell BK110.out 1).trans rfl, (blk_cell BK110.out 2).trans rfl, ((HB.out.cell (World.block_lt_of_cell? w _ hw114_0)).trans hw114_0), ((HB.out.cell (World.block_lt_of_cell? w _ hw114_1)).trans hw114_1), ((HB.out.cell (World.block_lt_of_cell? w _ hw114_2)).trans hw114_2)⟩ (fun hHeld => ?_)
             clear hK K
             refine norm_ (a' := ?_) ?_ ?_
             rotate_left
             ·show Act.put _ (some 19) _ = _
              simp only [Act.put, List.setIfInBounds_toArray, List.set_cons_zero, List.set_cons_succ, i64_w, i32_w]
              rfl
             refine p_ 8 20 (mk_ 30 0x1ff) ?_
             refine p_ 9 21 (mk_ 30 0x3ff) ?_
             refine p_ 10 22 (mk_ 30 0x7ff) ?_
             refine p_ 11 23 (mk_ 30 0xfff) ?_
             refine t_ 12 24 (mk_ 30 0x1fff) hHeld ?_
             refine one_ (i := 13) (N := some 25) #[true, true, true, true, true, true, true, true, true, true, true, true, true, true, false, false, false, false, false, false, false, false, false, false, false, false, false, false, false, false] rfl rfl (one_of HT_.out (by kernel_rfl)) (by decide) (fun K hK => ?_)
             refine goes_ Try.func36 (by kernel_rfl) rfl #[.agg #[.int .i64 ((rd_T61 l0 x7_1).f1.f0), .slice A109_2 ((rd_T61 l0 x7_1).f1.f1).length c109_2]] (by rfl) rfl rfl zq8_2 ?_
             with_reducible refine (span_Count.calls ((rd_T61 l0 x7_1).f1.f0) _ _ ((rd_T61 l0 x7_1).f1.f1) t113 _ ?side1 ?side2 A9.out).mono ?_
             (case side1 => repeat (first | exact (Kd.C_below HR109_2.out HB.out) | (with_reducible refine Kd.C_alloc ?_ _) | (with_reducible refine Kd.C_drewN ?_ _) | (with_reducible refine Kd.C_drew ?_)))
             (case side2 => exact HC109_2.out)
             rintro e w30 ⟨rfl, hb⟩
             refine ⟨_, rfl, ?_⟩
             replace BK110 := Aside0.mk (blk_below (g := gb110) (o := .cells #[.string ((rd_T61 l0 x7_1).f0), .int .i64 ((rd_T61 l0 x7_1).f1.f0), .slice A109_2 ((rd_T61 l0 x7_1).f1.f1).length c109_2] 61 (0, 0)) zq8_4 hb)
             replace HB := Aside0.mk (below_step zq8_1 hb)
             (try clear hb)
             (try clear hb2)
             (try clear hk)
             (try clear hi)
             refine hK.out _ _ ⟨(blk_cell BK110.out 0).trans rfl, (blk_cell BK110.out 1).trans rfl, (blk_cell BK110.out 2).trans rfl, ((HB.out.cell (World.block_lt_of_cell? w _ hw114_0)).trans hw114_0), ((HB.out.cell (World.block_lt_of_cell? w _ hw114_1)).trans hw114_1), ((HB.out.cell (World.block_lt_of_cell? w _ hw114_2)).trans hw114_2)⟩ (fun hHeld => ?_)
             clear hK K
             refine norm_ (a' := ?_) ?_ ?_
             rotate_left
             ·show Act.put _ (some 25) _ = _
              simp only [Act.put, List.setIfInBounds_toArray, List.set_cons_zero, List.set_cons_succ, i64_w, i32_w]
              rfl
             refine p_ 14 26 (mk_ 30 0x7fff) ?_
             refine p_ 15 27 (mk_ 30 0xffff) ?_
             refine p_ 16 28 (mk_ 30 0x1ffff) ?_
             refine p_ 17 29 (mk_ 30 0x3ffff) ?_
             refine p_ 18 30 (mk_ 30 0x7ffff) ?_
             refine p_ 19 31 (mk_ 30 0xfffff) ?_
             refine p_ 20 32 (mk_ 30 0x1fffff) ?_
             refine p_ 21 33 (mk_ 30 0x3fffff) ?_
             refine p_ 22 34 (mk_ 30 0x7fffff) ?_
             refine p_ 23 35 (mk_ 30 0xffffff) ?_
             refine t_ 24 36 (mk_ 30 0x1ffffff) hHeld ?_
             refine t_ 25 37 (mk_ 30 0x3ffffff) hHeld ?_
             refine one_ (i := 26) (N := some 38) #[true, true, true, true, true, true, true, true, true, true, true, true, true, true, true, true, true, true, true, true, true, true, true, true, true, true, true, false, false, false] rfl rfl (one_of HT_.out (by kernel_rfl)) (by decide) (fun K hK => ?_)
             refine goes_ Try.func37 (by kernel_rfl) rfl #[.agg #[.string ((rd_T61 l0 (ji19)).f0), .int .i64 ((rd_T61 l0 (ji19)).f1.f0), .slice A114_2 ((rd_T61 l0 (ji19)).f1.f1).length c114_2], .agg #[.string ((rd_T61 l0 x7_1).f0), .int .i64 ((rd_T61 l0 x7_1).f1.f0), .slice A109_2 ((rd_T61 l0 x7_1).f1.f1).length c109_2]] (by rfl) rfl rfl (by (try simp only [List.map_toArray, List.map_cons, List.map_nil]); first | done | (simp only [hji19]; rfl) | rfl | (simp only [List.length_drop, List.length_take]; rfl)) ?_
             with_reducible refine (know_order.calls ((rd_T61 l0 (ji19)).f0) ((rd_T61 l0 (ji19)).f1.f0) _ _ ((rd_T61 l0 (ji19)).f1.f1) ((rd_T61 l0 x7_1).f0) ((rd_T61 l0 x7_1).f1.f0) _ _ ((rd_T61 l0 x7_1).f1.f1) t115 _ ?side1 ?side2 ?side3 ?side4 A22.out).mono ?_
             (case side1 => repeat (first | exact (Kd.C_below HR114_2.out HB.out) | (with_reducible refine Kd.C_alloc ?_ _) | (with_reducible refine Kd.C_drewN ?_ _) | (with_reducible refine Kd.C_drew ?_)))
             (case side2 => exact HC114_2.out)
             (case side3 => repeat (first | exact (Kd.C_below HR109_2.out HB.out) | (with_reducible refine Kd.C_alloc ?_ _) | (with_reducible refine Kd.C_drewN ?_ _) | (with_reducible refine Kd.C_drew ?_)))
             (case side4 => exact HC109_2.out)
             rintro e w31 ⟨rfl, hb⟩
             refine ⟨_, rfl, ?_⟩
             replace BK110 := Aside0.mk (blk_below (g := gb110) (o := .cells #[.string ((rd_T61 l0 x7_1).f0), .int .i64 ((rd_T61 l0 x7_1).f1.f0), .slice A109_2 ((rd_T61 l0 x7_1).f1.f1).length c109_2] 61 (0, 0)) zq8_4 hb)
             replace HB := Aside0.mk (below_step zq8_1 hb)
             (try clear hb)
             (try clear hb2)
             (try clear hk)
             (try clear hi)
             refine hK.out _ _ ⟨(blk_cell BK110.out 0).trans rfl, (blk_cell BK110.out 1).trans rfl, (blk_cell BK110.out 2).trans rfl, ((HB.out.cell (World.block_lt_of_cell? w _ hw114_0)).trans hw114_0), ((HB.out.cell (World.block_lt_of_cell? w _ hw114_1)).trans hw114_1), ((HB.out.cell (World.block_lt_of_cell? w _ hw114_2)).trans hw114_2)⟩ (fun hHeld => ?_)
             clear hK K
             refine norm_ (a' := ?_) ?_ ?_
             rotate_left
             ·show Act.put _ (some 38) _ = _
              simp only [Act.put, List.setIfInBounds_toArray, List.set_cons_zero, List.set_cons_succ, i64_w, i32_w]
              rfl
             refine p_ 27 39 (mk_ 30 0xfffffff) ?_
             refine p_ 28 40 (mk_ 30 0x1fffffff) ?_
             refine p_ 29 41 (mk_ 30 0x3fffffff) ?_
             refine done_ (done_of HT_.out (by kernel_rfl)) ?_
             try go_wp2
             go_ret
             exact ⟨by first | rfl | (simp [errW_none, errW_some] <;> rfl) | (simp only [← hji19]; first | rfl | (simp [errW_none, errW_some] <;> rfl)) | (simp [*, errW_none, errW_some] <;> rfl), by repeat (first | (with_reducible first | exact HB.out | apply below_alloc | apply pw_below_drewN | apply below_drew1 | refine below_set ?_ GE110.out) | exact HB.out)⟩
            ·rw [if_neg c23] at H
             have c23b0 : decide (0 ≤ t115) = false := decide_eq_false c23
             clear c23
             have H' := Aside0.mk H
             clear H
             have p109 : 0 ≤ (x7_1 : Int) := of_decide_eq_true zq8_5
             have q109 : x7_1 < (l0.length : Int) := of_decide_eq_true zq8_5
             obtain ⟨ad109, A109_2, c109_2, e109, hx109_0, hx109_1, hx109_2, hl109_2, hi109_2⟩ := at_T61 HR0.out x7_1 p109 q109
             cases e109
             replace hx109_0 := (HB.out.cell (World.block_lt_of_cell? w _ hx109_0)).trans hx109_0
             replace hx109_1 := (HB.out.cell (World.block_lt_of_cell? w _ hx109_1)).trans hx109_1
             replace hx109_2 := (HB.out.cell (World.block_lt_of_cell? w _ hx109_2)).trans hx109_2
             have HR109_2 := Aside0.mk hi109_2
             have HC109_2 := Aside0.mk hl109_2
             clear hi109_2 hl109_2
             replace p109 := eq_true p109
             replace q109 := eq_true q109
             try go_wp2_with (first | ((with_reducible refine gate_dst (N := 4) rfl ?_); refine box_event ?hg (N := 4) ?hd (cs := #[.string (⟨#[]⟩ : ByteArray), .int .i64 0, .slice none 0 0]) (t := 61) ?hr ?_; (case hd => rfl); (case hg => rfl); (case hr => first | (go_simp; done) | (go_simp; rfl)); intro gb110 hg w32 hbox hb; have BK110 := Aside0.mk (hbox); have GW110 := Aside0.mk ((zq8_0 : w.heap.size ≤ gb110)); have GE110 := Aside0.mk ((zq8_0 : w.heap.size ≤ gb110)); replace HB := Aside0.mk (below_step zq8_3 hb); clear hb hbox hg; have hcz33_0 : w32.cell? ⟨gb110, 0, none⟩ = some (.string (⟨#[]⟩ : ByteArray)) := (blk_cell BK110.out 0).trans rfl; have hcz33_1 : w32.cell? ⟨gb110, 1, none⟩ = some (.int .i64 0) := (blk_cell BK110.out 1).trans rfl; have hcz33_2 : w32.cell? ⟨gb110, 2, none⟩ = some (.slice none 0 0) := (blk_cell BK110.out 2).trans rfl; have hfz33_0 := blk_frozen BK110.out 0; have hfz33_1 := blk_frozen BK110.out 1; have hfz33_2 := blk_frozen BK110.out 2))
             have n0_ : Aside0 ((((w32.setCell ⟨gb110, 0, none⟩ (.string ((rd_T61 l0 x7_1).f0))).setCell ⟨gb110, 1, none⟩ (.int .i64 ((rd_T61 l0 x7_1).f1.f0))).setCell ⟨gb110, 2, none⟩ (.slice A109_2 ((rd_T61 l0 x7_1).f1.f1).length c109_2)).heap[gb110]? = some (.cells #[.string ((rd_T61 l0 x7_1).f0), .int .i64 ((rd_T61 l0 x7_1).f1.f0), .slice A109_2 ((rd_T61 l0 x7_1).f1.f1).length c109_2] 61 (0, 0))) := ⟨by (with_reducible repeat (first | refine blk_drewN ?_ _ | refine blk_drew ?_ | refine blk_alloc ?_ _)); refine blk_put (cs := #[.string ((rd_T61 l0 x7_1).f0), .int .i64 ((rd_T61 l0 x7_1).f1.f0), .slice none 0 0]) ?_ 2 _ rfl; (with_reducible repeat (first | refine blk_drewN ?_ _ | refine blk_drew ?_ | refine blk_alloc ?_ _)); refine blk_put (cs := #[.string ((rd_T61 l0 x7_1).f0), .int .i64 0, .slice none 0 0]) ?_ 1 _ rfl; (with_reducible repeat (first | refine blk_drewN ?_ _ | refine blk_drew ?_ | refine blk_alloc ?_ _)); refine blk_put (cs := #[.string (⟨#[]⟩ : ByteArray), .int .i64 0, .slice none 0 0]) ?_ 0 _ rfl; (with_reducible repeat (first | refine blk_drewN ?_ _ | refine blk_drew ?_ | refine blk_alloc ?_ _)); exact BK110.out⟩
             have n1_ : Aside0 (Below w.heap.size w (((w32.setCell ⟨gb110, 0, none⟩ (.string ((rd_T61 l0 x7_1).f0))).setCell ⟨gb110, 1, none⟩ (.int .i64 ((rd_T61 l0 x7_1).f1.f0))).setCell ⟨gb110, 2, none⟩ (.slice A109_2 ((rd_T61 l0 x7_1).f1.f1).length c109_2))) := ⟨by repeat (first | (with_reducible first | exact HB.out | apply below_alloc | apply pw_below_drewN | apply below_drew1 | refine below_set ?_ GE110.out) | exact HB.out)⟩
             (try clear BK110)
             (try clear HB)
             generalize (((w32.setCell ⟨gb110, 0, none⟩ (.string ((rd_T61 l0 x7_1).f0))).setCell ⟨gb110, 1, none⟩ (.int .i64 ((rd_T61 l0 x7_1).f1.f0))).setCell ⟨gb110, 2, none⟩ (.slice A109_2 ((rd_T61 l0 x7_1).f1.f1).length c109_2)) = w34 at n0_ n1_ ⊢
             have BK110 := n0_
             have HB := n1_
             clear n0_ n1_
             replace BK110 := Aside0.mk (blk_drew BK110.out)
             replace HB := Aside0.mk (below_drew1 HB.out)
             have p114 : 0 ≤ ((ji19) : Int) := of_decide_eq_true zq8_5
             have q114 : (ji19) < (l0.length : Int) := of_decide_eq_true zq8_5
             obtain ⟨ad114, A114_2, c114_2, e114, hx114_0, hx114_1, hx114_2, hl114_2, hi114_2⟩ := at_T61 HR0.out (ji19) p114 q114
             have hw114_2 := hx114_2
             have hw114_1 := hx114_1
             have hw114_0 := hx114_0
             obtain rfl : ad109 = ad114 := (by injection e114)
             replace hx114_0 := (HB.out.cell (World.block_lt_of_cell? w _ hx114_0)).trans hx114_0
             replace hx114_1 := (HB.out.cell (World.block_lt_of_cell? w _ hx114_1)).trans hx114_1
             replace hx114_2 := (HB.out.cell (World.block_lt_of_cell? w _ hx114_2)).trans hx114_2
             have HR114_2 := Aside0.mk hi114_2
             have HC114_2 := Aside0.mk hl114_2
             clear hi114_2 hl114_2
             replace p114 := eq_true p114
             replace q114 := eq_true q114
             refine start_ (n := 30) (S := fun w' => w'.cell? ⟨gb110, 0, none⟩ = some (.string ((rd_T61 l0 x7_1).f0)) ∧ w'.cell? ⟨gb110, 1, none⟩ = some (.int .i64 ((rd_T61 l0 x7_1).f1.f0)) ∧ w'.cell? ⟨gb110, 2, none⟩ = some (.slice A109_2 ((rd_T61 l0 x7_1).f1.f1).length c109_2) ∧ w'.cell? (ad109.add (((ji19)).toNat * 3)) = some (.string ((rd_T61 l0 (ji19)).f0)) ∧ w'.cell? ⟨(ad109.add (((ji19)).toNat * 3)).block, (ad109.add (((ji19)).toNat * 3)).off + 1, none⟩ = some (.int .i64 ((rd_T61 l0 (ji19)).f1.f0)) ∧ w'.cell? ⟨(ad109.add (((ji19)).toNat * 3)).block, (ad109.add (((ji19)).toNat * 3)).off + 2, none⟩ = some (.slice A114_2 ((rd_T61 l0 (ji19)).f1.f1).length c114_2)) (ds := []) #[false, false, false, false, false, false, false, false, false, false, false, false, false, false, false, false, false, false, false, false, false, false, false, false, false, false, false, false, false, false] (by kernel_rfl) rfl rfl ⟨(blk_cell BK110.out 0).trans rfl, (blk_cell BK110.out 1).trans rfl, (blk_cell BK110.out 2).trans rfl, ((HB.out.cell (World.block_lt_of_cell? w _ hw114_0)).trans hw114_0), ((HB.out.cell (World.block_lt_of_cell? w _ hw114_1)).trans hw114_1), ((HB.out.cell (World.block_lt_of_cell? w _ hw114_2)).trans hw114_2)⟩ (fun hHeld => ?_); refine with_tabW know_Right.tab4 know_Right.bits4 (fun HT_ HW_ => ?_)
             generalize w34.drew = w35 at BK110 HB HR114_2 hx114_0 hx114_1 hx114_2 hHeld ⊢
             refine p_ 0 12 (mk_ 30 0x1) ?_
             refine t_ 1 13 (mk_ 30 0x3) hHeld ?_
             refine one_ (i := 2) (N := some 14) #[true, true, true, false, false, false, false, false, false, false, false, false, false, false, false, false, false, false, false, false, false, false, false, false, false, false, false, false, false, false] rfl rfl (one_of HT_.out (by kernel_rfl)) (by decide) (fun K hK => ?_)
             refine goes_ Try.func34 (by kernel_rfl) rfl #[.string ((rd_T61 l0 x7_1).f0)] (by rfl) rfl rfl zq8_2 ?_
             with_reducible refine (id_Right.calls ((rd_T61 l0 x7_1).f0) true _ A5.out).mono ?_
             rintro e w36 ⟨rfl, hb⟩
             refine ⟨_, rfl, ?_⟩
             replace BK110 := Aside0.mk (blk_below (g := gb110) (o := .cells #[.string ((rd_T61 l0 x7_1).f0), .int .i64 ((rd_T61 l0 x7_1).f1.f0), .slice A109_2 ((rd_T61 l0 x7_1).f1.f1).length c109_2] 61 (0, 0)) zq8_4 hb)
             replace HB := Aside0.mk (below_step zq8_1 hb)
             (try clear hb)
             (try clear hb2)
             (try clear hk)
             (try clear hi)
             refine hK.out _ _ ⟨(blk_cell BK110.out 0).trans rfl, (blk_cell BK110.out 1).trans rfl, (blk_cell BK110.out 2).trans rfl, ((HB.out.cell (World.block_lt_of_cell? w _ hw114_0)).trans hw114_0), ((HB.out.cell (World.block_lt_of_cell? w _ hw114_1)).trans hw114_1), ((HB.out.cell (World.block_lt_of_cell? w _ hw114_2)).trans hw114_2)⟩ (fun hHeld => ?_)
             clear hK K
             refine norm_ (a' := ?_) ?_ ?_
             rotate_left
             ·show Act.put _ (some 14) _ = _
              simp only [Act.put, List.setIfInBounds_toArray, List.set_cons_zero, List.set_cons_succ, i64_w, i32_w]
              rfl
             refine p_ 3 15 (mk_ 30 0xf) ?_
             refine p_ 4 16 (mk_ 30 0x1f) ?_
             refine p_ 5 17 (mk_ 30 0x3f) ?_
             refine t_ 6 18 (mk_ 30 0x7f) hHeld ?_
             refine one_ (i := 7) (N := some 19) #[true, true, true, true, true, true, true, true, false, false, false, false, false, false, false, false, false, false, false, false, false, false, false, false, false, false, false, false, false, false] rfl rfl (one_of HT_.out (by kernel_rfl)) (by decide) (fun K hK => ?_)
             refine goes_ Try.func35 (by kernel_rfl) rfl #[.agg #[.int .i64 ((rd_T61 l0 x7_1).f1.f0), .slice A109_2 ((rd_T61 l0 x7_1).f1.f1).length c109_2]] (by rfl) rfl rfl zq8_2 ?_
             with_reducible refine (span_Right.calls k1 ((rd_T61 l0 x7_1).f1.f0) _ _ ((rd_T61 l0 x7_1).f1.f1) true _ ?side1 ?side2 A7.out).mono ?_
             (case side1 => repeat (first | exact (Kd.C_below HR109_2.out HB.out) | (with_reducible refine Kd.C_alloc ?_ _) | (with_reducible refine Kd.C_drewN ?_ _) | (with_reducible refine Kd.C_drew ?_)))
             (case side2 => exact HC109_2.out)
             rintro e w37 ⟨rfl, hb⟩
             refine ⟨_, rfl, ?_⟩
             replace BK110 := Aside0.mk (blk_below (g := gb110) (o := .cells #[.string ((rd_T61 l0 x7_1).f0), .int .i64 ((rd_T61 l0 x7_1).f1.f0), .slice A109_2 ((rd_T61 l0 x7_1).f1.f1).length c109_2] 61 (0, 0)) zq8_4 hb)
             replace HB := Aside0.mk (below_step zq8_1 hb)
             (try clear hb)
             (try clear hb2)
             (try clear hk)
             (try clear hi)
             refine hK.out _ _ ⟨(blk_cell BK110.out 0).trans rfl, (blk_cell BK110.out 1).trans rfl, (blk_cell BK110.out 2).trans rfl, ((HB.out.cell (World.block_lt_of_cell? w _ hw114_0)).trans hw114_0), ((HB.out.cell (World.block_lt_of_cell? w _ hw114_1)).trans hw114_1), ((HB.out.cell (World.block_lt_of_cell? w _ hw114_2)).trans hw114_2)⟩ (fun hHeld => ?_)
             clear hK K
             refine norm_ (a' := ?_) ?_ ?_
             rotate_left
             ·show Act.put _ (some 19) _ = _
              simp only [Act.put, List.setIfInBounds_toArray, List.set_cons_zero, List.set_cons_succ, i64_w, i32_w]
              rfl
             refine p_ 8 20 (mk_ 30 0x1ff) ?_
             refine p_ 9 21 (mk_ 30 0x3ff) ?_
             refine p_ 10 22 (mk_ 30 0x7ff) ?_
             refine p_ 11 23 (mk_ 30 0xfff) ?_
             refine t_ 12 24 (mk_ 30 0x1fff) hHeld ?_
             refine one_ (i := 13) (N := some 25) #[true, true, true, true, true, true, true, true, true, true, true, true, true, true, false, false, false, false, false, false, false, false, false, false, false, false, false, false, false, false] rfl rfl (one_of HT_.out (by kernel_rfl)) (by decide) (fun K hK => ?_)
             refine goes_ Try.func36 (by kernel_rfl) rfl #[.agg #[.int .i64 ((rd_T61 l0 x7_1).f1.f0), .slice A109_2 ((rd_T61 l0 x7_1).f1.f1).length c109_2]] (by rfl) rfl rfl zq8_2 ?_
             with_reducible refine (span_Count.calls ((rd_T61 l0 x7_1).f1.f0) _ _ ((rd_T61 l0 x7_1).f1.f1) t113 _ ?side1 ?side2 A9.out).mono ?_
             (case side1 => repeat (first | exact (Kd.C_below HR109_2.out HB.out) | (with_reducible refine Kd.C_alloc ?_ _) | (with_reducible refine Kd.C_drewN ?_ _) | (with_reducible refine Kd.C_drew ?_)))
             (case side2 => exact HC109_2.out)
             rintro e w38 ⟨rfl, hb⟩
             refine ⟨_, rfl, ?_⟩
             replace BK110 := Aside0.mk (blk_below (g := gb110) (o := .cells #[.string ((rd_T61 l0 x7_1).f0), .int .i64 ((rd_T61 l0 x7_1).f1.f0), .slice A109_2 ((rd_T61 l0 x7_1).f1.f1).length c109_2] 61 (0, 0)) zq8_4 hb)
             replace HB := Aside0.mk (below_step zq8_1 hb)
             (try clear hb)
             (try clear hb2)
             (try clear hk)
             (try clear hi)
             refine hK.out _ _ ⟨(blk_cell BK110.out 0).trans rfl, (blk_cell BK110.out 1).trans rfl, (blk_cell BK110.out 2).trans rfl, ((HB.out.cell (World.block_lt_of_cell? w _ hw114_0)).trans hw114_0), ((HB.out.cell (World.block_lt_of_cell? w _ hw114_1)).trans hw114_1), ((HB.out.cell (World.block_lt_of_cell? w _ hw114_2)).trans hw114_2)⟩ (fun hHeld => ?_)
             clear hK K
             refine norm_ (a' := ?_) ?_ ?_
             rotate_left
             ·show Act.put _ (some 25) _ = _
              simp only [Act.put, List.setIfInBounds_toArray, List.set_cons_zero, List.set_cons_succ, i64_w, i32_w]
              rfl
             refine p_ 14 26 (mk_ 30 0x7fff) ?_
             refine p_ 15 27 (mk_ 30 0xffff) ?_
             refine p_ 16 28 (mk_ 30 0x1ffff) ?_
             refine p_ 17 29 (mk_ 30 0x3ffff) ?_
             refine p_ 18 30 (mk_ 30 0x7ffff) ?_
             refine p_ 19 31 (mk_ 30 0xfffff) ?_
             refine p_ 20 32 (mk_ 30 0x1fffff) ?_
             refine p_ 21 33 (mk_ 30 0x3fffff) ?_
             refine p_ 22 34 (mk_ 30 0x7fffff) ?_
             refine p_ 23 35 (mk_ 30 0xffffff) ?_
             refine t_ 24 36 (mk_ 30 0x1ffffff) hHeld ?_
             refine t_ 25 37 (mk_ 30 0x3ffffff) hHeld ?_
             refine one_ (i := 26) (N := some 38) #[true, true, true, true, true, true, true, true, true, true, true, true, true, true, true, true, true, true, true, true, true, true, true, true, true, true, true, false, false, false] rfl rfl (one_of HT_.out (by kernel_rfl)) (by decide) (fun K hK => ?_)
             refine goes_ Try.func37 (by kernel_rfl) rfl #[.agg #[.string ((rd_T61 l0 (ji19)).f0), .int .i64 ((rd_T61 l0 (ji19)).f1.f0), .slice A114_2 ((rd_T61 l0 (ji19)).f1.f1).length c114_2], .agg #[.string ((rd_T61 l0 x7_1).f0), .int .i64 ((rd_T61 l0 x7_1).f1.f0), .slice A109_2 ((rd_T61 l0 x7_1).f1.f1).length c109_2]] (by rfl) rfl rfl (by (try simp only [List.map_toArray, List.map_cons, List.map_nil]); first | done | (simp only [hji19]; rfl) | rfl | (simp only [List.length_drop, List.length_take]; rfl)) ?_
             with_reducible refine (know_order.calls ((rd_T61 l0 (ji19)).f0) ((rd_T61 l0 (ji19)).f1.f0) _ _ ((rd_T61 l0 (ji19)).f1.f1) ((rd_T61 l0 x7_1).f0) ((rd_T61 l0 x7_1).f1.f0) _ _ ((rd_T61 l0 x7_1).f1.f1) t115 _ ?side1 ?side2 ?side3 ?side4 A22.out).mono ?_
             (case side1 => repeat (first | exact (Kd.C_below HR114_2.out HB.out) | (with_reducible refine Kd.C_alloc ?_ _) | (with_reducible refine Kd.C_drewN ?_ _) | (with_reducible refine Kd.C_drew ?_)))
             (case side2 => exact HC114_2.out)
             (case side3 => repeat (first | exact (Kd.C_below HR109_2.out HB.out) | (with_reducible refine Kd.C_alloc ?_ _) | (with_reducible refine Kd.C_drewN ?_ _) | (with_reducible refine Kd.C_drew ?_)))
             (case side4 => exact HC109_2.out)
             rintro e w39 ⟨rfl, hb⟩
             refine ⟨_, rfl, ?_⟩
             replace BK110 := Aside0.mk (blk_below (g := gb110) (o := .cells #[.string ((rd_T61 l0 x7_1).f0), .int .i64 ((rd_T61 l0 x7_1).f1.f0), .slice A109_2 ((rd_T61 l0 x7_1).f1.f1).length c109_2] 61 (0, 0)) zq8_4 hb)
             replace HB := Aside0.mk (below_step zq8_1 hb)
             (try clear hb)
             (try clear hb2)
             (try clear hk)
             (try clear hi)
             refine hK.out _ _ ⟨(blk_cell BK110.out 0).trans rfl, (blk_cell BK110.out 1).trans rfl, (blk_cell BK110.out 2).trans rfl, ((HB.out.cell (World.block_lt_of_cell? w _ hw114_0)).trans hw114_0), ((HB.out.cell (World.block_lt_of_cell? w _ hw114_1)).trans hw114_1), ((HB.out.cell (World.block_lt_of_cell? w _ hw114_2)).trans hw114_2)⟩ (fun hHeld => ?_)
             clear hK K
             refine norm_ (a' := ?_) ?_ ?_
             rotate_left
             ·show Act.put _ (some 38) _ = _
              simp only [Act.put, List.setIfInBounds_toArray, List.set_cons_zero, List.set_cons_succ, i64_w, i32_w]
              rfl
             refine p_ 27 39 (mk_ 30 0xfffffff) ?_
             refine p_ 28 40 (mk_ 30 0x1fffffff) ?_
             refine p_ 29 41 (mk_ 30 0x3fffffff) ?_
             refine done_ (done_of HT_.out (by kernel_rfl)) ?_
             try go_wp2
             go_roundg k1
             case measure => have := HK1.out; omega
             case rel => exact ⟨(wrap64 (x7_1 + 1)), zq8_6, H', ⟨by have := HK1.out; omega⟩, ⟨by repeat (first | (with_reducible first | exact HB.out | apply below_alloc | apply pw_below_drewN | apply below_drew1 | refine below_set ?_ GE110.out) | exact HB.out)⟩⟩
           ·rw [if_neg c21] at H
            exact absurd H (by simp)
          ·rw [if_neg c20] at H
           exact absurd H (by simp)
         ·rw [if_neg c18] at H
          have c18b0 : decide (0 < x7_1) = false := decide_eq_false c18
          clear c18
          have H' := Aside0.mk H
          clear H
          have p109 : 0 ≤ (x7_1 : Int) := of_decide_eq_true zq8_5
          have q109 : x7_1 < (l0.length : Int) := of_decide_eq_true zq8_5
          obtain ⟨ad109, A109_2, c109_2, e109, hx109_0, hx109_1, hx109_2, hl109_2, hi109_2⟩ := at_T61 HR0.out x7_1 p109 q109
          cases e109
          replace hx109_0 := (HB.out.cell (World.block_lt_of_cell? w _ hx109_0)).trans hx109_0
          replace hx109_1 := (HB.out.cell (World.block_lt_of_cell? w _ hx109_1)).trans hx109_1
          replace hx109_2 := (HB.out.cell (World.block_lt_of_cell? w _ hx109_2)).trans hx109_2
          have HR109_2 := Aside0.mk hi109_2
          have HC109_2 := Aside0.mk hl109_2
          clear hi109_2 hl109_2
          replace p109 := eq_true p109
          replace q109 := eq_true q109
          try go_wp2_with (first | ((with_reducible refine gate_dst (N := 4) rfl ?_); refine box_event ?hg (N := 4) ?hd (cs := #[.string (⟨#[]⟩ : ByteArray), .int .i64 0, .slice none 0 0]) (t := 61) ?hr ?_; (case hd => rfl); (case hg => rfl); (case hr => first | (go_simp; done) | (go_simp; rfl)); intro gb110 hg w40 hbox hb; have BK110 := Aside0.mk (hbox); have GW110 := Aside0.mk ((zq8_0 : w.heap.size ≤ gb110)); have GE110 := Aside0.mk ((zq8_0 : w.heap.size ≤ gb110)); replace HB := Aside0.mk (below_step zq8_3 hb); clear hb hbox hg; have hcz41_0 : w40.cell? ⟨gb110, 0, none⟩ = some (.string (⟨#[]⟩ : ByteArray)) := (blk_cell BK110.out 0).trans rfl; have hcz41_1 : w40.cell? ⟨gb110, 1, none⟩ = some (.int .i64 0) := (blk_cell BK110.out 1).trans rfl; have hcz41_2 : w40.cell? ⟨gb110, 2, none⟩ = some (.slice none 0 0) := (blk_cell BK110.out 2).trans rfl; have hfz41_0 := blk_frozen BK110.out 0; have hfz41_1 := blk_frozen BK110.out 1; have hfz41_2 := blk_frozen BK110.out 2))
          have n0_ : Aside0 ((((w40.setCell ⟨gb110, 0, none⟩ (.string ((rd_T61 l0 x7_1).f0))).setCell ⟨gb110, 1, none⟩ (.int .i64 ((rd_T61 l0 x7_1).f1.f0))).setCell ⟨gb110, 2, none⟩ (.slice A109_2 ((rd_T61 l0 x7_1).f1.f1).length c109_2)).heap[gb110]? = some (.cells #[.string ((rd_T61 l0 x7_1).f0), .int .i64 ((rd_T61 l0 x7_1).f1.f0), .slice A109_2 ((rd_T61 l0 x7_1).f1.f1).length c109_2] 61 (0, 0))) := ⟨by (with_reducible repeat (first | refine blk_drewN ?_ _ | refine blk_drew ?_ | refine blk_alloc ?_ _)); refine blk_put (cs := #[.string ((rd_T61 l0 x7_1).f0), .int .i64 ((rd_T61 l0 x7_1).f1.f0), .slice none 0 0]) ?_ 2 _ rfl; (with_reducible repeat (first | refine blk_drewN ?_ _ | refine blk_drew ?_ | refine blk_alloc ?_ _)); refine blk_put (cs := #[.string ((rd_T61 l0 x7_1).f0), .int .i64 0, .slice none 0 0]) ?_ 1 _ rfl; (with_reducible repeat (first | refine blk_drewN ?_ _ | refine blk_drew ?_ | refine blk_alloc ?_ _)); refine blk_put (cs := #[.string (⟨#[]⟩ : ByteArray), .int .i64 0, .slice none 0 0]) ?_ 0 _ rfl; (with_reducible repeat (first | refine blk_drewN ?_ _ | refine blk_drew ?_ | refine blk_alloc ?_ _)); exact BK110.out⟩
          have n1_ : Aside0 (Below w.heap.size w (((w40.setCell ⟨gb110, 0, none⟩ (.string ((rd_T61 l0 x7_1).f0))).setCell ⟨gb110, 1, none⟩ (.int .i64 ((rd_T61 l0 x7_1).f1.f0))).setCell ⟨gb110, 2, none⟩ (.slice A109_2 ((rd_T61 l0 x7_1).f1.f1).length c109_2))) := ⟨by repeat (first | (with_reducible first | exact HB.out | apply below_alloc | apply pw_below_drewN | apply below_drew1 | refine below_set ?_ GE110.out) | exact HB.out)⟩
          (try clear BK110)
          (try clear HB)
          generalize (((w40.setCell ⟨gb110, 0, none⟩ (.string ((rd_T61 l0 x7_1).f0))).setCell ⟨gb110, 1, none⟩ (.int .i64 ((rd_T61 l0 x7_1).f1.f0))).setCell ⟨gb110, 2, none⟩ (.slice A109_2 ((rd_T61 l0 x7_1).f1.f1).length c109_2)) = w42 at n0_ n1_ ⊢
          have BK110 := n0_
          have HB := n1_
          clear n0_ n1_
          replace BK110 := Aside0.mk (blk_drew BK110.out)
          replace HB := Aside0.mk (below_drew1 HB.out)
          refine start_ (n := 30) (S := fun w' => w'.cell? ⟨gb110, 0, none⟩ = some (.string ((rd_T61 l0 x7_1).f0)) ∧ w'.cell? ⟨gb110, 1, none⟩ = some (.int .i64 ((rd_T61 l0 x7_1).f1.f0)) ∧ w'.cell? ⟨gb110, 2, none⟩ = some (.slice A109_2 ((rd_T61 l0 x7_1).f1.f1).length c109_2)) (ds := []) #[false, false, false, false, false, false, false, false, false, false, false, false, false, false, false, false, false, false, false, false, false, false, false, false, false, false, false, false, false, false] (by kernel_rfl) rfl rfl ⟨(blk_cell BK110.out 0).trans rfl, (blk_cell BK110.out 1).trans rfl, (blk_cell BK110.out 2).trans rfl⟩ (fun hHeld => ?_); refine with_tabW know_Right.tab4 know_Right.bits4 (fun HT_ HW_ => ?_)
          generalize w42.drew = w43 at BK110 HB hHeld ⊢
          refine p_ 0 12 (mk_ 30 0x1) ?_
          refine t_ 1 13 (mk_ 30 0x3) hHeld ?_
          refine one_ (i := 2) (N := some 14) #[true, true, true, false, false, false, false, false, false, false, false, false, false, false, false, false, false, false, false, false, false, false, false, false, false, false, false, false, false, false] rfl rfl (one_of HT_.out (by kernel_rfl)) (by decide) (fun K hK => ?_)
          refine goes_ Try.func34 (by kernel_rfl) rfl #[.string ((rd_T61 l0 x7_1).f0)] (by rfl) rfl rfl zq8_2 ?_
          with_reducible refine (id_Right.calls ((rd_T61 l0 x7_1).f0) true _ A5.out).mono ?_
          rintro e w44 ⟨rfl, hb⟩
          refine ⟨_, rfl, ?_⟩
          replace BK110 := Aside0.mk (blk_below (g := gb110) (o := .cells #[.string ((rd_T61 l0 x7_1).f0), .int .i64 ((rd_T61 l0 x7_1).f1.f0), .slice A109_2 ((rd_T61 l0 x7_1).f1.f1).length c109_2] 61 (0, 0)) zq8_4 hb)
          replace HB := Aside0.mk (below_step zq8_1 hb)
          (try clear hb)
          (try clear hb2)
          (try clear hk)
          (try clear hi)
          refine hK.out _ _ ⟨(blk_cell BK110.out 0).trans rfl, (blk_cell BK110.out 1).trans rfl, (blk_cell BK110.out 2).trans rfl⟩ (fun hHeld => ?_)
          clear hK K
          refine norm_ (a' := ?_) ?_ ?_
          rotate_left
          ·show Act.put _ (some 14) _ = _
           simp only [Act.put, List.setIfInBounds_toArray, List.set_cons_zero, List.set_cons_succ, i64_w, i32_w]
           rfl
          refine p_ 3 15 (mk_ 30 0xf) ?_
          refine p_ 4 16 (mk_ 30 0x1f) ?_
          refine p_ 5 17 (mk_ 30 0x3f) ?_
          refine t_ 6 18 (mk_ 30 0x7f) hHeld ?_
          refine one_ (i := 7) (N := some 19) #[true, true, true, true, true, true, true, true, false, false, false, false, false, false, false, false, false, false, false, false, false, false, false, false, false, false, false, false, false, false] rfl rfl (one_of HT_.out (by kernel_rfl)) (by decide) (fun K hK => ?_)
          refine goes_ Try.func35 (by kernel_rfl) rfl #[.agg #[.int .i64 ((rd_T61 l0 x7_1).f1.f0), .slice A109_2 ((rd_T61 l0 x7_1).f1.f1).length c109_2]] (by rfl) rfl rfl zq8_2 ?_
          with_reducible refine (span_Right.calls k1 ((rd_T61 l0 x7_1).f1.f0) _ _ ((rd_T61 l0 x7_1).f1.f1) true _ ?side1 ?side2 A7.out).mono ?_
          (case side1 => repeat (first | exact (Kd.C_below HR109_2.out HB.out) | (with_reducible refine Kd.C_alloc ?_ _) | (with_reducible refine Kd.C_drewN ?_ _) | (with_reducible refine Kd.C_drew ?_)))
          (case side2 => exact HC109_2.out)
          rintro e w45 ⟨rfl, hb⟩
          refine ⟨_, rfl, ?_⟩
          replace BK110 := Aside0.mk (blk_below (g := gb110) (o := .cells #[.string ((rd_T61 l0 x7_1).f0), .int .i64 ((rd_T61 l0 x7_1).f1.f0), .slice A109_2 ((rd_T61 l0 x7_1).f1.f1).length c109_2] 61 (0, 0)) zq8_4 hb)
          replace HB := Aside0.mk (below_step zq8_1 hb)
          (try clear hb)
          (try clear hb2)
          (try clear hk)
          (try clear hi)
          refine hK.out _ _ ⟨(blk_cell BK110.out 0).trans rfl, (blk_cell BK110.out 1).trans rfl, (blk_cell BK110.out 2).trans rfl⟩ (fun hHeld => ?_)
          clear hK K
          refine norm_ (a' := ?_) ?_ ?_
          rotate_left
          ·show Act.put _ (some 19) _ = _
           simp only [Act.put, List.setIfInBounds_toArray, List.set_cons_zero, List.set_cons_succ, i64_w, i32_w]
           rfl
          refine p_ 8 20 (mk_ 30 0x1ff) ?_
          refine p_ 9 21 (mk_ 30 0x3ff) ?_
          refine p_ 10 22 (mk_ 30 0x7ff) ?_
          refine p_ 11 23 (mk_ 30 0xfff) ?_
          refine t_ 12 24 (mk_ 30 0x1fff) hHeld ?_
          refine one_ (i := 13) (N := some 25) #[true, true, true, true, true, true, true, true, true, true, true, true, true, true, false, false, false, false, false, false, false, false, false, false, false, false, false, false, false, false] rfl rfl (one_of HT_.out (by kernel_rfl)) (by decide) (fun K hK => ?_)
          refine goes_ Try.func36 (by kernel_rfl) rfl #[.agg #[.int .i64 ((rd_T61 l0 x7_1).f1.f0), .slice A109_2 ((rd_T61 l0 x7_1).f1.f1).length c109_2]] (by rfl) rfl rfl zq8_2 ?_
          with_reducible refine (span_Count.calls ((rd_T61 l0 x7_1).f1.f0) _ _ ((rd_T61 l0 x7_1).f1.f1) t113 _ ?side1 ?side2 A9.out).mono ?_
          (case side1 => repeat (first | exact (Kd.C_below HR109_2.out HB.out) | (with_reducible refine Kd.C_alloc ?_ _) | (with_reducible refine Kd.C_drewN ?_ _) | (with_reducible refine Kd.C_drew ?_)))
          (case side2 => exact HC109_2.out)
          rintro e w46 ⟨rfl, hb⟩
          refine ⟨_, rfl, ?_⟩
          replace BK110 := Aside0.mk (blk_below (g := gb110) (o := .cells #[.string ((rd_T61 l0 x7_1).f0), .int .i64 ((rd_T61 l0 x7_1).f1.f0), .slice A109_2 ((rd_T61 l0 x7_1).f1.f1).length c109_2] 61 (0, 0)) zq8_4 hb)
          replace HB := Aside0.mk (below_step zq8_1 hb)
          (try clear hb)
          (try clear hb2)
          (try clear hk)
          (try clear hi)
          refine hK.out _ _ ⟨(blk_cell BK110.out 0).trans rfl, (blk_cell BK110.out 1).trans rfl, (blk_cell BK110.out 2).trans rfl⟩ (fun hHeld => ?_)
          clear hK K
          refine norm_ (a' := ?_) ?_ ?_
          rotate_left
          ·show Act.put _ (some 25) _ = _
           simp only [Act.put, List.setIfInBounds_toArray, List.set_cons_zero, List.set_cons_succ, i64_w, i32_w]
           rfl
          refine p_ 14 26 (mk_ 30 0x7fff) ?_
          refine p_ 15 27 (mk_ 30 0xffff) ?_
          refine p_ 16 28 (mk_ 30 0x1ffff) ?_
          refine p_ 17 29 (mk_ 30 0x3ffff) ?_
          refine p_ 18 30 (mk_ 30 0x7ffff) ?_
          refine p_ 19 31 (mk_ 30 0xfffff) ?_
          refine u_ 20 32 (mk_ 30 0x1fffff) ?_
          refine u_ 21 33 (mk_ 30 0x3fffff) ?_
          refine u_ 22 34 (mk_ 30 0x7fffff) ?_
          refine u_ 23 35 (mk_ 30 0xffffff) ?_
          refine u_ 24 36 (mk_ 30 0x1ffffff) ?_
          refine u_ 25 37 (mk_ 30 0x3ffffff) ?_
          refine u_ 26 38 (mk_ 30 0x7ffffff) ?_
          refine u_ 27 39 (mk_ 30 0xfffffff) ?_
          refine p_ 28 40 (mk_ 30 0x1fffffff) ?_
          refine p_ 29 41 (mk_ 30 0x3fffffff) ?_
          refine done_ (done_of HT_.out (by kernel_rfl)) ?_
          try go_wp2
          go_roundg k1
          case measure => have := HK1.out; omega
          case rel => exact ⟨(wrap64 (x7_1 + 1)), zq8_6, H', ⟨by have := HK1.out; omega⟩, ⟨by repeat (first | (with_reducible first | exact HB.out | apply below_alloc | apply pw_below_drewN | apply below_drew1 | refine below_set ?_ GE110.out) | exact HB.out)⟩⟩
       ·replace c8 := Bool.eq_false_iff.mpr c8
        subst c8
        have H1 : (some false) = some r := by rw [if_neg (show ¬ (false = true) by decide)] at H; exact H
        clear H
        have H := H1
        clear H1
        obtain rfl := Option.some.inj H
        have p109 : 0 ≤ (x7_1 : Int) := of_decide_eq_true zq8_5
        have q109 : x7_1 < (l0.length : Int) := of_decide_eq_true zq8_5
        obtain ⟨ad109, A109_2, c109_2, e109, hx109_0, hx109_1, hx109_2, hl109_2, hi109_2⟩ := at_T61 HR0.out x7_1 p109 q109
        cases e109
        replace hx109_0 := (HB.out.cell (World.block_lt_of_cell? w _ hx109_0)).trans hx109_0
        replace hx109_1 := (HB.out.cell (World.block_lt_of_cell? w _ hx109_1)).trans hx109_1
        replace hx109_2 := (HB.out.cell (World.block_lt_of_cell? w _ hx109_2)).trans hx109_2
        have HR109_2 := Aside0.mk hi109_2
        have HC109_2 := Aside0.mk hl109_2
        clear hi109_2 hl109_2
        replace p109 := eq_true p109
        replace q109 := eq_true q109
        try go_wp2_with (first | ((with_reducible refine gate_dst (N := 4) rfl ?_); refine box_event ?hg (N := 4) ?hd (cs := #[.string (⟨#[]⟩ : ByteArray), .int .i64 0, .slice none 0 0]) (t := 61) ?hr ?_; (case hd => rfl); (case hg => rfl); (case hr => first | (go_simp; done) | (go_simp; rfl)); intro gb110 hg w47 hbox hb; have BK110 := Aside0.mk (hbox); have GW110 := Aside0.mk ((zq8_0 : w.heap.size ≤ gb110)); have GE110 := Aside0.mk ((zq8_0 : w.heap.size ≤ gb110)); replace HB := Aside0.mk (below_step zq8_3 hb); clear hb hbox hg; have hcz48_0 : w47.cell? ⟨gb110, 0, none⟩ = some (.string (⟨#[]⟩ : ByteArray)) := (blk_cell BK110.out 0).trans rfl; have hcz48_1 : w47.cell? ⟨gb110, 1, none⟩ = some (.int .i64 0) := (blk_cell BK110.out 1).trans rfl; have hcz48_2 : w47.cell? ⟨gb110, 2, none⟩ = some (.slice none 0 0) := (blk_cell BK110.out 2).trans rfl; have hfz48_0 := blk_frozen BK110.out 0; have hfz48_1 := blk_frozen BK110.out 1; have hfz48_2 := blk_frozen BK110.out 2))
        have n0_ : Aside0 ((((w47.setCell ⟨gb110, 0, none⟩ (.string ((rd_T61 l0 x7_1).f0))).setCell ⟨gb110, 1, none⟩ (.int .i64 ((rd_T61 l0 x7_1).f1.f0))).setCell ⟨gb110, 2, none⟩ (.slice A109_2 ((rd_T61 l0 x7_1).f1.f1).length c109_2)).heap[gb110]? = some (.cells #[.string ((rd_T61 l0 x7_1).f0), .int .i64 ((rd_T61 l0 x7_1).f1.f0), .slice A109_2 ((rd_T61 l0 x7_1).f1.f1).length c109_2] 61 (0, 0))) := ⟨by (with_reducible repeat (first | refine blk_drewN ?_ _ | refine blk_drew ?_ | refine blk_alloc ?_ _)); refine blk_put (cs := #[.string ((rd_T61 l0 x7_1).f0), .int .i64 ((rd_T61 l0 x7_1).f1.f0), .slice none 0 0]) ?_ 2 _ rfl; (with_reducible repeat (first | refine blk_drewN ?_ _ | refine blk_drew ?_ | refine blk_alloc ?_ _)); refine blk_put (cs := #[.string ((rd_T61 l0 x7_1).f0), .int .i64 0, .slice none 0 0]) ?_ 1 _ rfl; (with_reducible repeat (first | refine blk_drewN ?_ _ | refine blk_drew ?_ | refine blk_alloc ?_ _)); refine blk_put (cs := #[.string (⟨#[]⟩ : ByteArray), .int .i64 0, .slice none 0 0]) ?_ 0 _ rfl; (with_reducible repeat (first | refine blk_drewN ?_ _ | refine blk_drew ?_ | refine blk_alloc ?_ _)); exact BK110.out⟩
        have n1_ : Aside0 (Below w.heap.size w (((w47.setCell ⟨gb110, 0, none⟩ (.string ((rd_T61 l0 x7_1).f0))).setCell ⟨gb110, 1, none⟩ (.int .i64 ((rd_T61 l0 x7_1).f1.f0))).setCell ⟨gb110, 2, none⟩ (.slice A109_2 ((rd_T61 l0 x7_1).f1.f1).length c109_2))) := ⟨by repeat (first | (with_reducible first | exact HB.out | apply below_alloc | apply pw_below_drewN | apply below_drew1 | refine below_set ?_ GE110.out) | exact HB.out)⟩
        (try clear BK110)
        (try clear HB)
        generalize (((w47.setCell ⟨gb110, 0, none⟩ (.string ((rd_T61 l0 x7_1).f0))).setCell ⟨gb110, 1, none⟩ (.int .i64 ((rd_T61 l0 x7_1).f1.f0))).setCell ⟨gb110, 2, none⟩ (.slice A109_2 ((rd_T61 l0 x7_1).f1.f1).length c109_2)) = w49 at n0_ n1_ ⊢
        have BK110 := n0_
        have HB := n1_
        clear n0_ n1_
        replace BK110 := Aside0.mk (blk_drew BK110.out)
        replace HB := Aside0.mk (below_drew1 HB.out)
        refine start_ (n := 30) (S := fun w' => w'.cell? ⟨gb110, 0, none⟩ = some (.string ((rd_T61 l0 x7_1).f0)) ∧ w'.cell? ⟨gb110, 1, none⟩ = some (.int .i64 ((rd_T61 l0 x7_1).f1.f0)) ∧ w'.cell? ⟨gb110, 2, none⟩ = some (.slice A109_2 ((rd_T61 l0 x7_1).f1.f1).length c109_2)) (ds := []) #[false, false, false, false, false, false, false, false, false, false, false, false, false, false, false, false, false, false, false, false, false, false, false, false, false, false, false, false, false, false] (by kernel_rfl) rfl rfl ⟨(blk_cell BK110.out 0).trans rfl, (blk_cell BK110.out 1).trans rfl, (blk_cell BK110.out 2).trans rfl⟩ (fun hHeld => ?_); refine with_tabW know_Right.tab4 know_Right.bits4 (fun HT_ HW_ => ?_)
        generalize w49.drew = w50 at BK110 HB hHeld ⊢
        refine p_ 0 12 (mk_ 30 0x1) ?_
        refine t_ 1 13 (mk_ 30 0x3) hHeld ?_
        refine one_ (i := 2) (N := some 14) #[true, true, true, false, false, false, false, false, false, false, false, false, false, false, false, false, false, false, false, false, false, false, false, false, false, false, false, false, false, false] rfl rfl (one_of HT_.out (by kernel_rfl)) (by decide) (fun K hK => ?_)
        refine goes_ Try.func34 (by kernel_rfl) rfl #[.string ((rd_T61 l0 x7_1).f0)] (by rfl) rfl rfl zq8_2 ?_
        with_reducible refine (id_Right.calls ((rd_T61 l0 x7_1).f0) true _ A5.out).mono ?_
        rintro e w51 ⟨rfl, hb⟩
        refine ⟨_, rfl, ?_⟩
        replace BK110 := Aside0.mk (blk_below (g := gb110) (o := .cells #[.string ((rd_T61 l0 x7_1).f0), .int .i64 ((rd_T61 l0 x7_1).f1.f0), .slice A109_2 ((rd_T61 l0 x7_1).f1.f1).length c109_2] 61 (0, 0)) zq8_4 hb)
        replace HB := Aside0.mk (below_step zq8_1 hb)
        (try clear hb)
        (try clear hb2)
        (try clear hk)
        (try clear hi)
        refine hK.out _ _ ⟨(blk_cell BK110.out 0).trans rfl, (blk_cell BK110.out 1).trans rfl, (blk_cell BK110.out 2).trans rfl⟩ (fun hHeld => ?_)
        clear hK K
        refine norm_ (a' := ?_) ?_ ?_
        rotate_left
        ·show Act.put _ (some 14) _ = _
         simp only [Act.put, List.setIfInBounds_toArray, List.set_cons_zero, List.set_cons_succ, i64_w, i32_w]
         rfl
        refine p_ 3 15 (mk_ 30 0xf) ?_
        refine p_ 4 16 (mk_ 30 0x1f) ?_
        refine p_ 5 17 (mk_ 30 0x3f) ?_
        refine t_ 6 18 (mk_ 30 0x7f) hHeld ?_
        refine one_ (i := 7) (N := some 19) #[true, true, true, true, true, true, true, true, false, false, false, false, false, false, false, false, false, false, false, false, false, false, false, false, false, false, false, false, false, false] rfl rfl (one_of HT_.out (by kernel_rfl)) (by decide) (fun K hK => ?_)
        refine goes_ Try.func35 (by kernel_rfl) rfl #[.agg #[.int .i64 ((rd_T61 l0 x7_1).f1.f0), .slice A109_2 ((rd_T61 l0 x7_1).f1.f1).length c109_2]] (by rfl) rfl rfl zq8_2 ?_
        with_reducible refine (span_Right.calls k1 ((rd_T61 l0 x7_1).f1.f0) _ _ ((rd_T61 l0 x7_1).f1.f1) false _ ?side1 ?side2 A7.out).mono ?_
        (case side1 => repeat (first | exact (Kd.C_below HR109_2.out HB.out) | (with_reducible refine Kd.C_alloc ?_ _) | (with_reducible refine Kd.C_drewN ?_ _) | (with_reducible refine Kd.C_drew ?_)))
        (case side2 => exact HC109_2.out)
        rintro e w52 ⟨rfl, hb⟩
        refine ⟨_, rfl, ?_⟩
        replace BK110 := Aside0.mk (blk_below (g := gb110) (o := .cells #[.string ((rd_T61 l0 x7_1).f0), .int .i64 ((rd_T61 l0 x7_1).f1.f0), .slice A109_2 ((rd_T61 l0 x7_1).f1.f1).length c109_2] 61 (0, 0)) zq8_4 hb)
        replace HB := Aside0.mk (below_step zq8_1 hb)
        (try clear hb)
        (try clear hb2)
        (try clear hk)
        (try clear hi)
        refine hK.out _ _ ⟨(blk_cell BK110.out 0).trans rfl, (blk_cell BK110.out 1).trans rfl, (blk_cell BK110.out 2).trans rfl⟩ (fun hHeld => ?_)
        clear hK K
        refine norm_ (a' := ?_) ?_ ?_
        rotate_left
        ·show Act.put _ (some 19) _ = _
         simp only [Act.put, List.setIfInBounds_toArray, List.set_cons_zero, List.set_cons_succ, i64_w, i32_w]
         rfl
        refine p_ 8 20 (mk_ 30 0x1ff) ?_
        refine p_ 9 21 (mk_ 30 0x3ff) ?_
        refine p_ 10 22 (mk_ 30 0x7ff) ?_
        refine u_ 11 23 (mk_ 30 0xfff) ?_
        refine u_ 12 24 (mk_ 30 0x1fff) ?_
        refine u_ 13 25 (mk_ 30 0x3fff) ?_
        refine u_ 14 26 (mk_ 30 0x7fff) ?_
        refine p_ 15 27 (mk_ 30 0xffff) ?_
        refine p_ 16 28 (mk_ 30 0x1ffff) ?_
        refine u_ 17 29 (mk_ 30 0x3ffff) ?_
        refine u_ 18 30 (mk_ 30 0x7ffff) ?_
        refine u_ 19 31 (mk_ 30 0xfffff) ?_
        refine u_ 20 32 (mk_ 30 0x1fffff) ?_
        refine u_ 21 33 (mk_ 30 0x3fffff) ?_
        refine u_ 22 34 (mk_ 30 0x7fffff) ?_
        refine u_ 23 35 (mk_ 30 0xffffff) ?_
        refine u_ 24 36 (mk_ 30 0x1ffffff) ?_
        refine u_ 25 37 (mk_ 30 0x3ffffff) ?_
        refine u_ 26 38 (mk_ 30 0x7ffffff) ?_
        refine u_ 27 39 (mk_ 30 0xfffffff) ?_
        refine u_ 28 40 (mk_ 30 0x1fffffff) ?_
        refine p_ 29 41 (mk_ 30 0x3fffffff) ?_
        refine done_ (done_of HT_.out (by kernel_rfl)) ?_
        try go_wp2
        go_ret
        exact ⟨by first | rfl | (simp [errW_none, errW_some] <;> rfl) | (simp [*, errW_none, errW_some] <;> rfl), by repeat (first | (with_reducible first | exact HB.out | apply below_alloc | apply pw_below_drewN | apply below_drew1 | refine below_set ?_ GE110.out) | exact HB.out)⟩
      ·replace c6 := Bool.eq_false_iff.mpr c6
       subst c6
       have H1 : (some false) = some r := by rw [if_neg (show ¬ (false = true) by decide)] at H; exact H
       clear H
       have H := H1
       clear H1
       obtain rfl := Option.some.inj H
       have p109 : 0 ≤ (x7_1 : Int) := of_decide_eq_true zq8_5
       have q109 : x7_1 < (l0.length : Int) := of_decide_eq_true zq8_5
       obtain ⟨ad109, A109_2, c109_2, e109, hx109_0, hx109_1, hx109_2, hl109_2, hi109_2⟩ := at_T61 HR0.out x7_1 p109 q109
       cases e109
       replace hx109_0 := (HB.out.cell (World.block_lt_of_cell? w _ hx109_0)).trans hx109_0
       replace hx109_1 := (HB.out.cell (World.block_lt_of_cell? w _ hx109_1)).trans hx109_1
       replace hx109_2 := (HB.out.cell (World.block_lt_of_cell? w _ hx109_2)).trans hx109_2
       have HR109_2 := Aside0.mk hi109_2
       have HC109_2 := Aside0.mk hl109_2
       clear hi109_2 hl109_2
       replace p109 := eq_true p109
       replace q109 := eq_true q109
       try go_wp2_with (first | ((with_reducible refine gate_dst (N := 4) rfl ?_); refine box_event ?hg (N := 4) ?hd (cs := #[.string (⟨#[]⟩ : ByteArray), .int .i64 0, .slice none 0 0]) (t := 61) ?hr ?_; (case hd => rfl); (case hg => rfl); (case hr => first | (go_simp; done) | (go_simp; rfl)); intro gb110 hg w53 hbox hb; have BK110 := Aside0.mk (hbox); have GW110 := Aside0.mk ((zq8_0 : w.heap.size ≤ gb110)); have GE110 := Aside0.mk ((zq8_0 : w.heap.size ≤ gb110)); replace HB := Aside0.mk (below_step zq8_3 hb); clear hb hbox hg; have hcz54_0 : w53.cell? ⟨gb110, 0, none⟩ = some (.string (⟨#[]⟩ : ByteArray)) := (blk_cell BK110.out 0).trans rfl; have hcz54_1 : w53.cell? ⟨gb110, 1, none⟩ = some (.int .i64 0) := (blk_cell BK110.out 1).trans rfl; have hcz54_2 : w53.cell? ⟨gb110, 2, none⟩ = some (.slice none 0 0) := (blk_cell BK110.out 2).trans rfl; have hfz54_0 := blk_frozen BK110.out 0; have hfz54_1 := blk_frozen BK110.out 1; have hfz54_2 := blk_frozen BK110.out 2))
       have n0_ : Aside0 ((((w53.setCell ⟨gb110, 0, none⟩ (.string ((rd_T61 l0 x7_1).f0))).setCell ⟨gb110, 1, none⟩ (.int .i64 ((rd_T61 l0 x7_1).f1.f0))).setCell ⟨gb110, 2, none⟩ (.slice A109_2 ((rd_T61 l0 x7_1).f1.f1).length c109_2)).heap[gb110]? = some (.cells #[.string ((rd_T61 l0 x7_1).f0), .int .i64 ((rd_T61 l0 x7_1).f1.f0), .slice A109_2 ((rd_T61 l0 x7_1).f1.f1).length c109_2] 61 (0, 0))) := ⟨by (with_reducible repeat (first | refine blk_drewN ?_ _ | refine blk_drew ?_ | refine blk_alloc ?_ _)); refine blk_put (cs := #[.string ((rd_T61 l0 x7_1).f0), .int .i64 ((rd_T61 l0 x7_1).f1.f0), .slice none 0 0]) ?_ 2 _ rfl; (with_reducible repeat (first | refine blk_drewN ?_ _ | refine blk_drew ?_ | refine blk_alloc ?_ _)); refine blk_put (cs := #[.string ((rd_T61 l0 x7_1).f0), .int .i64 0, .slice none 0 0]) ?_ 1 _ rfl; (with_reducible repeat (first | refine blk_drewN ?_ _ | refine blk_drew ?_ | refine blk_alloc ?_ _)); refine blk_put (cs := #[.string (⟨#[]⟩ : ByteArray), .int .i64 0, .slice none 0 0]) ?_ 0 _ rfl; (with_reducible repeat (first | refine blk_drewN ?_ _ | refine blk_drew ?_ | refine blk_alloc ?_ _)); exact BK110.out⟩
       have n1_ : Aside0 (Below w.heap.size w (((w53.setCell ⟨gb110, 0, none⟩ (.string ((rd_T61 l0 x7_1).f0))).setCell ⟨gb110, 1, none⟩ (.int .i64 ((rd_T61 l0 x7_1).f1.f0))).setCell ⟨gb110, 2, none⟩ (.slice A109_2 ((rd_T61 l0 x7_1).f1.f1).length c109_2))) := ⟨by repeat (first | (with_reducible first | exact HB.out | apply below_alloc | apply pw_below_drewN | apply below_drew1 | refine below_set ?_ GE110.out) | exact HB.out)⟩
       (try clear BK110)
       (try clear HB)
       generalize (((w53.setCell ⟨gb110, 0, none⟩ (.string ((rd_T61 l0 x7_1).f0))).setCell ⟨gb110, 1, none⟩ (.int .i64 ((rd_T61 l0 x7_1).f1.f0))).setCell ⟨gb110, 2, none⟩ (.slice A109_2 ((rd_T61 l0 x7_1).f1.f1).length c109_2)) = w55 at n0_ n1_ ⊢
       have BK110 := n0_
       have HB := n1_
       clear n0_ n1_
       replace BK110 := Aside0.mk (blk_drew BK110.out)
       replace HB := Aside0.mk (below_drew1 HB.out)
       refine start_ (n := 30) (S := fun w' => w'.cell? ⟨gb110, 0, none⟩ = some (.string ((rd_T61 l0 x7_1).f0)) ∧ w'.cell? ⟨gb110, 1, none⟩ = some (.int .i64 ((rd_T61 l0 x7_1).f1.f0)) ∧ w'.cell? ⟨gb110, 2, none⟩ = some (.slice A109_2 ((rd_T61 l0 x7_1).f1.f1).length c109_2)) (ds := []) #[false, false, false, false, false, false, false, false, false, false, false, false, false, false, false, false, false, false, false, false, false, false, false, false, false, false, false, false, false, false] (by kernel_rfl) rfl rfl ⟨(blk_cell BK110.out 0).trans rfl, (blk_cell BK110.out 1).trans rfl, (blk_cell BK110.out 2).trans rfl⟩ (fun hHeld => ?_); refine with_tabW know_Right.tab4 know_Right.bits4 (fun HT_ HW_ => ?_)
       generalize w55.drew = w56 at BK110 HB hHeld ⊢
       refine p_ 0 12 (mk_ 30 0x1) ?_
       refine t_ 1 13 (mk_ 30 0x3) hHeld ?_
       refine one_ (i := 2) (N := some 14) #[true, true, true, false, false, false, false, false, false, false, false, false, false, false, false, false, false, false, false, false, false, false, false, false, false, false, false, false, false, false] rfl rfl (one_of HT_.out (by kernel_rfl)) (by decide) (fun K hK => ?_)
       refine goes_ Try.func34 (by kernel_rfl) rfl #[.string ((rd_T61 l0 x7_1).f0)] (by rfl) rfl rfl zq8_2 ?_
       with_reducible refine (id_Right.calls ((rd_T61 l0 x7_1).f0) false _ A5.out).mono ?_
       rintro e w57 ⟨rfl, hb⟩
       refine ⟨_, rfl, ?_⟩
       replace BK110 := Aside0.mk (blk_below (g := gb110) (o := .cells #[.string ((rd_T61 l0 x7_1).f0), .int .i64 ((rd_T61 l0 x7_1).f1.f0), .slice A109_2 ((rd_T61 l0 x7_1).f1.f1).length c109_2] 61 (0, 0)) zq8_4 hb)
       replace HB := Aside0.mk (below_step zq8_1 hb)
       (try clear hb)
       (try clear hb2)
       (try clear hk)
       (try clear hi)
       refine hK.out _ _ ⟨(blk_cell BK110.out 0).trans rfl, (blk_cell BK110.out 1).trans rfl, (blk_cell BK110.out 2).trans rfl⟩ (fun hHeld => ?_)
       clear hK K
       refine norm_ (a' := ?_) ?_ ?_
       rotate_left
       ·show Act.put _ (some 14) _ = _
        simp only [Act.put, List.setIfInBounds_toArray, List.set_cons_zero, List.set_cons_succ, i64_w, i32_w]
        rfl
       refine p_ 3 15 (mk_ 30 0xf) ?_
       refine p_ 4 16 (mk_ 30 0x1f) ?_
       refine u_ 5 17 (mk_ 30 0x3f) ?_
       refine u_ 6 18 (mk_ 30 0x7f) ?_
       refine u_ 7 19 (mk_ 30 0xff) ?_
       refine u_ 8 20 (mk_ 30 0x1ff) ?_
       refine p_ 9 21 (mk_ 30 0x3ff) ?_
       refine p_ 10 22 (mk_ 30 0x7ff) ?_
       refine u_ 11 23 (mk_ 30 0xfff) ?_
       refine u_ 12 24 (mk_ 30 0x1fff) ?_
       refine u_ 13 25 (mk_ 30 0x3fff) ?_
       refine u_ 14 26 (mk_ 30 0x7fff) ?_
       refine p_ 15 27 (mk_ 30 0xffff) ?_
       refine p_ 16 28 (mk_ 30 0x1ffff) ?_
       refine u_ 17 29 (mk_ 30 0x3ffff) ?_
       refine u_ 18 30 (mk_ 30 0x7ffff) ?_
       refine u_ 19 31 (mk_ 30 0xfffff) ?_
       refine u_ 20 32 (mk_ 30 0x1fffff) ?_
       refine u_ 21 33 (mk_ 30 0x3fffff) ?_
       refine u_ 22 34 (mk_ 30 0x7fffff) ?_
       refine u_ 23 35 (mk_ 30 0xffffff) ?_
       refine u_ 24 36 (mk_ 30 0x1ffffff) ?_
       refine u_ 25 37 (mk_ 30 0x3ffffff) ?_
       refine u_ 26 38 (mk_ 30 0x7ffffff) ?_
       refine u_ 27 39 (mk_ 30 0xfffffff) ?_
       refine u_ 28 40 (mk_ 30 0x1fffffff) ?_
       refine p_ 29 41 (mk_ 30 0x3fffffff) ?_
       refine done_ (done_of HT_.out (by kernel_rfl)) ?_
       try go_wp2
       go_ret
       exact ⟨by first | rfl | (simp [errW_none, errW_some] <;> rfl) | (simp [*, errW_none, errW_some] <;> rfl), by repeat (first | (with_reducible first | exact HB.out | apply below_alloc | apply pw_below_drewN | apply below_drew1 | refine below_set ?_ GE110.out) | exact HB.out)⟩
     ·rw [if_neg c4] at H
      exact absurd H (by simp)
    ·rw [if_neg c3] at H
     exact absurd H (by simp)
   ·rw [if_neg c2] at H
    have c2b0 : decide (x7_1 < (l0.length : Int)) = false := decide_eq_false c2
    clear c2
    obtain rfl := Option.some.inj H
    go_wp2
    go_ret
    exact ⟨by first | rfl | (simp [errW_none, errW_some] <;> rfl) | (simp [*, errW_none, errW_some] <;> rfl), by repeat (first | (with_reducible first | exact HB.out | apply below_alloc | apply pw_below_drewN | apply below_drew1) | exact HB.out)⟩

/-! ### know_find: function 52 -/
set_option maxHeartbeats 800000 in
set_option maxRecDepth 100000 in
theorem korder_raw (s : ByteArray) (m : Int) (A : Option Addr) (n c : Nat) (t : ByteArray) (m' : Int) (A' : Option Addr) (n' c' : Nat) (r : Int) (W : World) (hr : cmpB s t = r) :
  Calls Try.prog 37 #[.agg #[.string s, .int .i64 m, .slice A n c], .agg #[.string t, .int .i64 m', .slice A' n' c']] W fun e w' => e = .returned (.int .i64 r) ∧ Below W.heap.size W w' := by
 have hu := Try.underlying61
 have hc := fun (W : World) => id_Compare.calls s t r W (by rw [← hr]; rfl)
 have HC := Aside0.mk hc
 clear hc hr
 have HB := Aside0.mk (below_alloc (below_alloc (Below.refl W.heap.size W) (.cells #[.string s, .int .i64 m, .slice A n c] 61)) (.cells #[.string t, .int .i64 m', .slice A' n' c'] 61))
 have BK0 := Aside0.mk (blk_alloc (blk_new W (.cells #[.string s, .int .i64 m, .slice A n c] 61)) (.cells #[.string t, .int .i64 m', .slice A' n' c'] 61))
 have BK1 := Aside0.mk (blk_new (W.alloc (.cells #[.string s, .int .i64 m, .slice A n c] 61)) (.cells #[.string t, .int .i64 m', .slice A' n' c'] 61))
 have e : (W.alloc (.cells #[.string s, .int .i64 m, .slice A n c] 61)).heap.size = W.heap.size + 1 := Array.size_push _
 rw [e] at BK1
 clear e
 go_enter Try.func37, Try.ntmps37
 go_upto_region 1 with fail
 generalize (W.alloc _).alloc _ = w1 at BK0 BK1 HB ⊢
 have hc0 : w1.cell? ⟨W.heap.size, 0, none⟩ = some (.string s) := (blk_cell BK0.out 0).trans rfl
 have hc1 : w1.cell? ⟨W.heap.size + 1, 0, none⟩ = some (.string t) := (blk_cell BK1.out 0).trans rfl
 go_wp2_with fail
 refine (HC.out _).mono ?_
 rintro e w' ⟨rfl, hb⟩
 have HB1 := Aside0.mk (below_step HB.out hb.below)
 clear hb
 go_wp2_with fail
 go_ret
 exact ⟨rfl, HB1.out⟩
set_option maxHeartbeats 1600000 in
set_option maxRecDepth 100000 in
theorem matf_bsearch (A0 : Option Addr) (c0 : Nat) (l0 : List RW) (a1 : ByteArray) (w : World) (hr0 : Kd.C kRW w A0 l0.length l0) (hlim : l0.length ≤ 140737488355328) :
  Calls Try.prog 71 #[.slice A0 l0.length c0, .agg #[.string a1, .int .i64 0, .slice none 0 0], .func (.func 37) #[] #[]] w fun e w' => e = .returned (.tuple #[.int .i64 (bsN (fun i => cmpB (l0.getD i zRW).f0 a1) l0.length : Nat), .bool (bsB (fun i => cmpB (l0.getD i zRW).f0 a1) l0.length)]) ∧ Below w.heap.size w w' := by
 have hlen := hr0.2.1
 have HR0 := Aside0.mk hr0
 clear hr0
 generalize hc : (fun i => cmpB (l0.getD i zRW).f0 a1) = c
 have HCC := Aside0.mk (show ∀ i, cmpB (l0.getD i zRW).f0 a1 = c i from fun i => by rw [← hc])
 clear hc
 generalize hn : l0.length = n at *
 have HR := Aside0.mk (show bsN c n = bsI c (n + 1) 0 n from rfl)
 clear hn
 have HB := Aside0.mk (below_alloc (Below.refl w.heap.size w) (.cells #[.string a1, .int .i64 0, .slice none 0 0] 61))
 have BK := Aside0.mk (blk_new w (.cells #[.string a1, .int .i64 0, .slice none 0 0] 61))
 have hut := Try.underlying61
 go_enter Try.func71, Try.ntmps71
 go_wp2
 go_loopw [9, 10, 11] (fun vi vj _ wr => ∃ i j fu : Nat, vi = .int .i64 i ∧ vj = .int .i64 j ∧ i ≤ j ∧ j ≤ n ∧ j - i < fu ∧ Aside0 (bsI c fu i j = bsN c n) ∧ Aside0 (Below w.heap.size w wr) ∧ Aside0 (wr.heap[w.heap.size]? = some (.cells #[.string a1, .int .i64 0, .slice none 0 0] 61 (0, 0)))) (fun vi vj _ _ => ((intOf vj).toNat - (intOf vi).toNat))
 case atStart => exact ⟨0, n, n + 1, rfl, rfl, Nat.zero_le _, Nat.le_refl _, by omega, ⟨HR.out.symm⟩, HB, BK⟩
 case round =>
  clear HB BK
  obtain ⟨i, j, fu, rfl, rfl, hij, hjn, hfu, HI, HB, BK⟩ := hrel
  by_cases hlt : i < j
  ·obtain ⟨ad, hA, hx0, hx1, hx2⟩ := at_RW HR0.out (((i : Int) + (j : Int)) / 2) (by omega) (by omega)
   obtain rfl := hA
   have hw0 := hx0; have hw1 := hx1; have hw2 := hx2; replace hx2 := (HB.out.cell (World.block_lt_of_cell? w _ hx2)).trans hx2; replace hx0 := (HB.out.cell (World.block_lt_of_cell? w _ hx0)).trans hx0; replace hx1 := (HB.out.cell (World.block_lt_of_cell? w _ hx1)).trans hx1
   have hm : (((i : Int) + (j : Int)) / 2).toNat = (i + j) / 2 := by omega
   have e2 : cmpB (l0.getD (((i : Int) + (j : Int)) / 2).toNat zRW).f0 a1 = c ((i + j) / 2) := by rw [hm]; exact HCC.out _
   have pm := eq_true (show (0 : Int) ≤ ((i : Int) + (j : Int)) / 2 by omega)
   have qm := eq_true (show ((i : Int) + (j : Int)) / 2 < (n : Int) by omega)
   clear hm
   have hub : bsI c (fu - 1 + 1) i j = if c ((i + j) / 2) < 0 then bsI c (fu - 1) ((i + j) / 2 + 1) j else bsI c (fu - 1) i ((i + j) / 2) := by
    simp only [bsI]; rw [if_pos hlt]
   have HU := Aside0.mk hub
   have hcalls := fun W => korder_raw (rd_RW l0 (((i : Int) + (j : Int)) / 2)).f0 (rd_RW l0 (((i : Int) + (j : Int)) / 2)).u (rd_RW l0 (((i : Int) + (j : Int)) / 2)).A (rd_RW l0 (((i : Int) + (j : Int)) / 2)).n (rd_RW l0 (((i : Int) + (j : Int)) / 2)).c a1 0 none 0 0 (c ((i + j) / 2)) W e2
   clear hub e2
   have HK := Aside0.mk hcalls
   clear hcalls
   have hfu1 : fu - 1 + 1 = fu := by omega
   have HF := Aside0.mk hfu1
   clear hfu1
   by_cases hneg : c ((i + j) / 2) < 0
   ·have HN := Aside0.mk hneg
    have hdn : decide (c ((i + j) / 2) < 0) = true := decide_eq_true hneg
    generalize hq : c ((i + j) / 2) = q at hdn HK hneg
    have HQ := Aside0.mk hq
    clear hq
    go_wp2_with fail
    refine start_ (n := 8) (S := fun w' => w'.cell? (ad.add ((((i : Int) + (j : Int)) / 2).toNat * 3)) = some (.string (rd_RW l0 (((i : Int) + (j : Int)) / 2)).f0) ∧ w'.cell? ⟨(ad.add ((((i : Int) + (j : Int)) / 2).toNat * 3)).block, (ad.add ((((i : Int) + (j : Int)) / 2).toNat * 3)).off + 1, none⟩ = some (.int .i64 (rd_RW l0 (((i : Int) + (j : Int)) / 2)).u) ∧ w'.cell? ⟨(ad.add ((((i : Int) + (j : Int)) / 2).toNat * 3)).block, (ad.add ((((i : Int) + (j : Int)) / 2).toNat * 3)).off + 2, none⟩ = some (.slice (rd_RW l0 (((i : Int) + (j : Int)) / 2)).A (rd_RW l0 (((i : Int) + (j : Int)) / 2)).n (rd_RW l0 (((i : Int) + (j : Int)) / 2)).c) ∧ w'.cell? ⟨w.heap.size, 0, none⟩ = some (.string a1) ∧ w'.cell? ⟨w.heap.size, 1, none⟩ = some (.int .i64 0) ∧ w'.cell? ⟨w.heap.size, 2, none⟩ = some (.slice none 0 0)) (ds := []) #[false, false, false, false, false, false, false, false] (by kernel_rfl) rfl rfl ⟨hx0, hx1, hx2, (blk_cell (blk_drew BK.out) 0).trans rfl, (blk_cell (blk_drew BK.out) 1).trans rfl, (blk_cell (blk_drew BK.out) 2).trans rfl⟩ (fun hHeld => ?_)
    refine p_ 0 24 (mk_ 8 0x1) ?_
    refine p_ 1 25 (mk_ 8 0x3) ?_
    refine p_ 2 26 (mk_ 8 0x7) ?_
    refine p_ 3 27 (mk_ 8 0xf) ?_
    refine t_ 4 28 (mk_ 8 0x1f) hHeld ?_
    refine t_ 5 29 (mk_ 8 0x3f) hHeld ?_
    refine one_ (i := 6) (N := some 30) #[true, true, true, true, true, true, true, false] rfl rfl (by kernel_rfl) (by decide) (fun K hK => ?_)
    refine goesV_ Try.func37 (by kernel_rfl) rfl #[.agg #[.string (rd_RW l0 (((i : Int) + (j : Int)) / 2)).f0, .int .i64 (rd_RW l0 (((i : Int) + (j : Int)) / 2)).u, .slice (rd_RW l0 (((i : Int) + (j : Int)) / 2)).A (rd_RW l0 (((i : Int) + (j : Int)) / 2)).n (rd_RW l0 (((i : Int) + (j : Int)) / 2)).c], .agg #[.string a1, .int .i64 0, .slice none 0 0]] (by rfl) rfl rfl rfl (by (try simp only [List.map_toArray, List.map_cons, List.map_nil]); first | done | rfl) ?_
    refine (HK.out _).mono ?_
    rintro e w' ⟨rfl, hb1⟩
    refine ⟨_, rfl, ?_⟩
    have HB1 := Aside0.mk (below_step (below_drew1 HB.out) hb1)
    have BK1 := Aside0.mk (blk_below (blk_drew BK.out) hb1)
    clear hb1
    refine hK.out _ _ ⟨(HB1.out.cell (World.block_lt_of_cell? w _ hw0)).trans hw0, (HB1.out.cell (World.block_lt_of_cell? w _ hw1)).trans hw1, (HB1.out.cell (World.block_lt_of_cell? w _ hw2)).trans hw2, (blk_cell BK1.out 0).trans rfl, (blk_cell BK1.out 1).trans rfl, (blk_cell BK1.out 2).trans rfl⟩ (fun hHeld => ?_)
    clear hK K
    refine norm_ (a' := ?_) ?_ ?_
    rotate_left
    ·show Act.put _ (some 30) _ = _
     simp only [Act.put, List.setIfInBounds_toArray, List.set_cons_zero, List.set_cons_succ, i64_w, i32_w]
     rfl
    refine p_ 7 31 (mk_ 8 0xff) ?_
    refine done_ (by kernel_rfl) ?_
    go_wp2_with fail
    go_roundw
    case rel => exact ⟨(i + j) / 2 + 1, j, fu - 1, by go_num, rfl, by omega, hjn, by omega, ⟨by have := HU.out; rw [HF.out, HI.out, if_pos HN.out] at this; exact this.symm⟩, HB1, BK1⟩
    case measure => simp [intOf]; omega
   ·have HN := Aside0.mk hneg
    have hdn : decide (c ((i + j) / 2) < 0) = false := decide_eq_false hneg
    generalize hq : c ((i + j) / 2) = q at hdn HK hneg
    have HQ := Aside0.mk hq
    clear hq
    go_wp2_with fail
    refine start_ (n := 8) (S := fun w' => w'.cell? (ad.add ((((i : Int) + (j : Int)) / 2).toNat * 3)) = some (.string (rd_RW l0 (((i : Int) + (j : Int)) / 2)).f0) ∧ w'.cell? ⟨(ad.add ((((i : Int) + (j : Int)) / 2).toNat * 3)).block, (ad.add ((((i : Int) + (j : Int)) / 2).toNat * 3)).off + 1, none⟩ = some (.int .i64 (rd_RW l0 (((i : Int) + (j : Int)) / 2)).u) ∧ w'.cell? ⟨(ad.add ((((i : Int) + (j : Int)) / 2).toNat * 3)).block, (ad.add ((((i : Int) + (j : Int)) / 2).toNat * 3)).off + 2, none⟩ = some (.slice (rd_RW l0 (((i : Int) + (j : Int)) / 2)).A (rd_RW l0 (((i : Int) + (j : Int)) / 2)).n (rd_RW l0 (((i : Int) + (j : Int)) / 2)).c) ∧ w'.cell? ⟨w.heap.size, 0, none⟩ = some (.string a1) ∧ w'.cell? ⟨w.heap.size, 1, none⟩ = some (.int .i64 0) ∧ w'.cell? ⟨w.heap.size, 2, none⟩ = some (.slice none 0 0)) (ds := []) #[false, false, false, false, false, false, false, false] (by kernel_rfl) rfl rfl ⟨hx0, hx1, hx2, (blk_cell (blk_drew BK.out) 0).trans rfl, (blk_cell (blk_drew BK.out) 1).trans rfl, (blk_cell (blk_drew BK.out) 2).trans rfl⟩ (fun hHeld => ?_)
    refine p_ 0 24 (mk_ 8 0x1) ?_
    refine p_ 1 25 (mk_ 8 0x3) ?_
    refine p_ 2 26 (mk_ 8 0x7) ?_
    refine p_ 3 27 (mk_ 8 0xf) ?_
    refine t_ 4 28 (mk_ 8 0x1f) hHeld ?_
    refine t_ 5 29 (mk_ 8 0x3f) hHeld ?_
    refine one_ (i := 6) (N := some 30) #[true, true, true, true, true, true, true, false] rfl rfl (by kernel_rfl) (by decide) (fun K hK => ?_)
    refine goesV_ Try.func37 (by kernel_rfl) rfl #[.agg #[.string (rd_RW l0 (((i : Int) + (j : Int)) / 2)).f0, .int .i64 (rd_RW l0 (((i : Int) + (j : Int)) / 2)).u, .slice (rd_RW l0 (((i : Int) + (j : Int)) / 2)).A (rd_RW l0 (((i : Int) + (j : Int)) / 2)).n (rd_RW l0 (((i : Int) + (j : Int)) / 2)).c], .agg #[.string a1, .int .i64 0, .slice none 0 0]] (by rfl) rfl rfl rfl (by (try simp only [List.map_toArray, List.map_cons, List.map_nil]); first | done | rfl) ?_
    refine (HK.out _).mono ?_
    rintro e w' ⟨rfl, hb1⟩
    refine ⟨_, rfl, ?_⟩
    have HB1 := Aside0.mk (below_step (below_drew1 HB.out) hb1)
    have BK1 := Aside0.mk (blk_below (blk_drew BK.out) hb1)
    clear hb1
    refine hK.out _ _ ⟨(HB1.out.cell (World.block_lt_of_cell? w _ hw0)).trans hw0, (HB1.out.cell (World.block_lt_of_cell? w _ hw1)).trans hw1, (HB1.out.cell (World.block_lt_of_cell? w _ hw2)).trans hw2, (blk_cell BK1.out 0).trans rfl, (blk_cell BK1.out 1).trans rfl, (blk_cell BK1.out 2).trans rfl⟩ (fun hHeld => ?_)
    clear hK K
    refine norm_ (a' := ?_) ?_ ?_
    rotate_left
    ·show Act.put _ (some 30) _ = _
     simp only [Act.put, List.setIfInBounds_toArray, List.set_cons_zero, List.set_cons_succ, i64_w, i32_w]
     rfl
    refine p_ 7 31 (mk_ 8 0xff) ?_
    refine done_ (by kernel_rfl) ?_
    go_wp2_with fail
    go_roundw
    case rel => exact ⟨i, (i + j) / 2, fu - 1, rfl, by go_num, by omega, by omega, by omega, ⟨by have := HU.out; rw [HF.out, HI.out, if_neg (by have := HN.out; omega)] at this; exact this.symm⟩, HB1, BK1⟩
    case measure => simp [intOf]; omega
  ·have hres : bsN c n = i := by
    rw [← HI.out]
    obtain ⟨f, rfl⟩ : ∃ f, fu = f + 1 := ⟨fu - 1, by omega⟩
    simp only [bsI]; rw [if_neg hlt]
   have HRS := Aside0.mk hres
   clear hres
   have hge : decide ((i : Int) < (j : Int)) = false := by simp; omega
   by_cases hin : i < n
   ·obtain ⟨ad, hA, hx0, hx1, hx2⟩ := at_RW HR0.out (i : Int) (by omega) (by omega)
    obtain rfl := hA
    have pm := eq_true (show (0 : Int) ≤ (i : Int) by omega)
    have qm := eq_true (show (i : Int) < (n : Int) by omega)
    have hw0 := hx0; have hw1 := hx1; have hw2 := hx2; replace hx2 := (HB.out.cell (World.block_lt_of_cell? w _ hx2)).trans hx2; replace hx0 := (HB.out.cell (World.block_lt_of_cell? w _ hx0)).trans hx0; replace hx1 := (HB.out.cell (World.block_lt_of_cell? w _ hx1)).trans hx1
    have hcalls := fun W => korder_raw (rd_RW l0 (i : Int)).f0 (rd_RW l0 (i : Int)).u (rd_RW l0 (i : Int)).A (rd_RW l0 (i : Int)).n (rd_RW l0 (i : Int)).c a1 0 none 0 0 (c i) W (HCC.out i)
    have HK := Aside0.mk hcalls
    clear hcalls
    have hbb : bsB c n = decide (c i = 0) := by unfold bsB; rw [HRS.out, decide_eq_true hin, Bool.true_and]
    have HBB := Aside0.mk hbb
    clear hbb
    have hin2 : decide ((i : Int) < (n : Int)) = true := by simp; omega
    generalize hq : c i = q at HK HBB
    have HQ := Aside0.mk hq
    clear hq
    go_wp2_with fail
    refine start_ (n := 16) (S := fun w' => w'.cell? (ad.add (i * 3)) = some (.string (rd_RW l0 (i : Int)).f0) ∧ w'.cell? ⟨(ad.add (i * 3)).block, (ad.add (i * 3)).off + 1, none⟩ = some (.int .i64 (rd_RW l0 (i : Int)).u) ∧ w'.cell? ⟨(ad.add (i * 3)).block, (ad.add (i * 3)).off + 2, none⟩ = some (.slice (rd_RW l0 (i : Int)).A (rd_RW l0 (i : Int)).n (rd_RW l0 (i : Int)).c) ∧ w'.cell? ⟨w.heap.size, 0, none⟩ = some (.string a1) ∧ w'.cell? ⟨w.heap.size, 1, none⟩ = some (.int .i64 0) ∧ w'.cell? ⟨w.heap.size, 2, none⟩ = some (.slice none 0 0)) (ds := []) #[false, false, false, false, false, false, false, false, false, false, false, false, false, false, false, false] (by kernel_rfl) rfl rfl ⟨hx0, hx1, hx2, (blk_cell (blk_drew BK.out) 0).trans rfl, (blk_cell (blk_drew BK.out) 1).trans rfl, (blk_cell (blk_drew BK.out) 2).trans rfl⟩ (fun hHeld => ?_)
    refine p_ 0 35 (mk_ 16 0x1) ?_
    refine p_ 1 36 (mk_ 16 0x3) ?_
    refine p_ 2 37 (mk_ 16 0x7) ?_
    refine p_ 3 38 (mk_ 16 0xf) ?_
    refine p_ 4 39 (mk_ 16 0x1f) ?_
    refine p_ 5 40 (mk_ 16 0x3f) ?_
    refine p_ 6 41 (mk_ 16 0x7f) ?_
    refine p_ 7 42 (mk_ 16 0xff) ?_
    refine p_ 8 43 (mk_ 16 0x1ff) ?_
    refine t_ 9 44 (mk_ 16 0x3ff) hHeld ?_
    refine t_ 10 45 (mk_ 16 0x7ff) hHeld ?_
    refine one_ (i := 11) (N := some 46) #[true, true, true, true, true, true, true, true, true, true, true, true, false, false, false, false] rfl rfl (by kernel_rfl) (by decide) (fun K hK => ?_)
    refine goesV_ Try.func37 (by kernel_rfl) rfl #[.agg #[.string (rd_RW l0 (i : Int)).f0, .int .i64 (rd_RW l0 (i : Int)).u, .slice (rd_RW l0 (i : Int)).A (rd_RW l0 (i : Int)).n (rd_RW l0 (i : Int)).c], .agg #[.string a1, .int .i64 0, .slice none 0 0]] (by rfl) rfl rfl rfl (by (try simp only [List.map_toArray, List.map_cons, List.map_nil]); first | done | rfl) ?_
    refine (HK.out _).mono ?_
    rintro e w' ⟨rfl, hb1⟩
    refine ⟨_, rfl, ?_⟩
    have HB1 := Aside0.mk (below_step (below_drew1 HB.out) hb1)
    have BK1 := Aside0.mk (blk_below (blk_drew BK.out) hb1)
    clear hb1
    refine hK.out _ _ ⟨(HB1.out.cell (World.block_lt_of_cell? w _ hw0)).trans hw0, (HB1.out.cell (World.block_lt_of_cell? w _ hw1)).trans hw1, (HB1.out.cell (World.block_lt_of_cell? w _ hw2)).trans hw2, (blk_cell BK1.out 0).trans rfl, (blk_cell BK1.out 1).trans rfl, (blk_cell BK1.out 2).trans rfl⟩ (fun hHeld => ?_)
    clear hK K
    refine norm_ (a' := ?_) ?_ ?_
    rotate_left
    ·show Act.put _ (some 46) _ = _
     simp only [Act.put, List.setIfInBounds_toArray, List.set_cons_zero, List.set_cons_succ, i64_w, i32_w]
     rfl
    refine p_ 12 47 (mk_ 16 0x1fff) ?_
    refine p_ 13 48 (mk_ 16 0x3fff) ?_
    refine p_ 14 6 (mk_ 16 0x7fff) ?_
    refine p_ 15 7 (mk_ 16 0xffff) ?_
    refine done_ (by kernel_rfl) ?_
    go_wp2_with fail
    go_ret2
    exact ⟨by rw [HRS.out, HBB.out]; rfl, HB1.out⟩
   ·have hbb : bsB c n = false := by unfold bsB; rw [HRS.out, decide_eq_false hin, Bool.false_and]
    have HBB := Aside0.mk hbb
    clear hbb
    have hin2 : decide ((i : Int) < (n : Int)) = false := by simp; omega
    go_wp2_with fail
    go_quiet (fail)
    try go_wp2
    go_ret2
    exact ⟨by rw [HRS.out, HBB.out]; rfl, pw_below_drewN HB.out _⟩

set_option maxHeartbeats 800000 in
set_option maxRecDepth 100000 in
theorem know_find.raw (A0 : Option Addr) (c0 : Nat) (l0 : List RW) (a1 : ByteArray) (w : World) (hr0 : Kd.C kRW w A0 l0.length l0) (hlim : l0.length < 1000000000) :
  Calls Try.prog 52 #[.slice A0 l0.length c0, .string a1] w fun e w' => e = .returned (.tuple #[.int .i64 (bsN (fun i => cmpB (l0.getD i zRW).f0 a1) l0.length : Nat), .bool (bsB (fun i => cmpB (l0.getD i zRW).f0 a1) l0.length)]) ∧ Below w.heap.size w w' := by
 have HB := Aside0.mk (Below.refl w.heap.size w)
 have hc := fun (W : World) (hW : Below w.heap.size w W) => matf_bsearch A0 c0 l0 a1 W (Kd.C_below hr0 hW) (by omega)
 generalize ((bsN (fun i => cmpB (l0.getD i zRW).f0 a1) l0.length : Nat) : Int) = r1 at hc ⊢
 generalize bsB (fun i => cmpB (l0.getD i zRW).f0 a1) l0.length = r2 at hc ⊢
 have HC := Aside0.mk hc
 clear hc hlim hr0
 have hut := Try.underlying61
 go_enter Try.func52, Try.ntmps52
 go_wp2_with fail
 refine (HC.out _ (by repeat (first | (with_reducible first | exact HB.out | apply below_alloc | apply pw_below_drewN | apply below_drew1) | exact HB.out))).mono ?_
 rintro e w' ⟨rfl, hb⟩
 have HB1 := Aside0.mk (below_step HB.out hb)
 clear hb
 go_wp2_with fail
 go_ret2
 exact ⟨rfl, HB1.out⟩
def okM (l : List S61) : Prop := l.length < 1000000000 ∧ ∀ x ∈ l, x.f1.f1.length < 1000000000
theorem lead_m : LeadK k61 (Kd.int .i64) S61.f0 (fun x => x.f1.f0) (fun x => x.f1.f1) := ⟨rfl, (Kd.heap_int .i64), fun h => k61_open h, fun h1 h2 => k61_mk _ _ h1 h2⟩
/-- One's row's place in a Know, and whether it is there. -/
def mN (l : List S61) (a : ByteArray) : Nat := bsN (fun i => cmpB (l.getD i z61).f0 a) l.length
def mB (l : List S61) (a : ByteArray) : Bool := bsB (fun i => cmpB (l.getD i z61).f0 a) l.length
theorem mN_le (l : List S61) (a : ByteArray) : mN l a ≤ l.length := bsI_le _ _ _ _ (Nat.zero_le _)
theorem mN_lt {l : List S61} {a : ByteArray} (h : mB l a = true) : mN l a < l.length := by
 unfold mB bsB at h
 rw [Bool.and_eq_true, decide_eq_true_eq] at h
 exact h.1
theorem mfind_raw (A0 : Option Addr) (c0 : Nat) (rs : List RW) (l0 : List S61) (a1 : ByteArray) (w : World) (ok : Nat → Prop) (hr0 : Kd.C kRW w A0 l0.length rs) (hI : INs (Kd.int .i64) S61.f0 (fun x => x.f1.f0) (fun x => x.f1.f1) w ok rs l0) (hlim : l0.length < 1000000000) :
  Calls Try.prog 52 #[.slice A0 l0.length c0, .string a1] w fun e w' => e = .returned (.tuple #[.int .i64 (mN l0 a1 : Nat), .bool (mB l0 a1)]) ∧ Below w.heap.size w w' := by
 have hl := F2.len hI
 have h := know_find.raw A0 c0 rs a1 w (by rw [hl]; exact hr0) (by omega)
 have hf : (fun i => cmpB (rs.getD i zRW).f0 a1) = fun i => cmpB (l0.getD i z61).f0 a1 := funext fun i => by rw [INs.f0 hI z61 rfl]
 rw [hf, hl] at h
 exact h
theorem mfind (A0 : Option Addr) (c0 : Nat) (l0 : List S61) (a1 : ByteArray) (w : World) (hr0 : Kd.C k61 w A0 l0.length l0) (hlim : l0.length < 1000000000) :
  Calls Try.prog 52 #[.slice A0 l0.length c0, .string a1] w fun e w' => e = .returned (.tuple #[.int .i64 (mN l0 a1 : Nat), .bool (mB l0 a1)]) ∧ Below w.heap.size w w' := by
 obtain ⟨rs, hC, hI⟩ := lead_raw lead_m hr0
 exact mfind_raw A0 c0 rs l0 a1 w _ hC hI hlim
def know_find.f (l0 : List S61) (a1 : ByteArray) : Option (Int × Bool) := if l0.length < 1000000000 then some ((mN l0 a1 : Nat), mB l0 a1) else none
theorem know_find.calls (A0 : Option Addr) (c0 : Nat) (l0 : List S61) (a1 : ByteArray) (r1 : Int) (r2 : Bool) (w : World) (hr0 : Kd.C k61 w A0 l0.length l0) (hc0 : l0.length ≤ c0) (h : know_find.f l0 a1 = some (r1, r2)) :
  Calls Try.prog 52 #[.slice A0 l0.length c0, .string a1] w fun e w' => e = .returned (.tuple #[.int .i64 r1, .bool r2]) ∧ Below w.heap.size w w' := by
 unfold know_find.f at h
 by_cases hc : l0.length < 1000000000
 ·rw [if_pos hc] at h
  obtain ⟨e1, e2⟩ := Prod.mk.inj (Option.some.inj h)
  rw [← e1, ← e2]
  exact mfind A0 c0 l0 a1 w hr0 hc
 ·rw [if_neg hc] at h; cases h

/-! ### slices_Clone_int_int: function 53 -/
def slices_Clone_int_int.f (l0 : List Int) : Option (List Int) := (some (([] : List Int) : List Int)).bind fun y116 => (if y116.length + l0.length < 17592186044416 then (some (y116 ++ l0)) else (none))
set_option maxHeartbeats 8000000 in
set_option maxRecDepth 100000 in
theorem slices_Clone_int_int.calls_some (ad0 : Addr) (c0 : Nat) (l0 : List Int) (r : List Int) (w : World) (hr0 : Kd.C (Kd.int .i64) w (some ad0) l0.length l0) (hc0 : l0.length ≤ c0) (h : slices_Clone_int_int.f l0 = some r) :
    Calls Try.prog 53 #[.slice (some ad0) l0.length c0] w fun e w' => ∃ v0_ : Value, e = .returned (v0_) ∧ Kd.R (Kd.int .i64) 3 w' w.heap.size (fun _ => True) v0_ r ∧ Below w.heap.size w w' := by
  have HR0 := Aside0.mk hr0
  have HC0 := Aside0.mk hc0
  clear hr0 hc0
  have HB := Aside0.mk (Below.refl w.heap.size w)
  have H : ((some (([] : List Int) : List Int)).bind fun y116 => (if y116.length + l0.length < 17592186044416 then (some (y116 ++ l0)) else (none))) = some r := h
  clear h
  obtain ⟨y116, hy116⟩ : ∃ y_ : List Int, y_ = (([] : List Int)) := ⟨_, rfl⟩
  replace H : (if y116.length + l0.length < 17592186044416 then (some (y116 ++ l0)) else (none)) = some r := by first | (rw [hy116]; with_reducible exact H) | (have H2_ := (Option.bind_some _ _).symm.trans H; rw [hy116]; with_reducible exact H2_) | (have H2_ := (Option.bind_some _ _).symm.trans H; with_reducible exact H2_) | with_reducible exact H | (rw [hy116]; exact H) | exact H
  have Ny116 := Aside0.mk hy116
  clear hy116
  by_cases c2 : y116.length + l0.length < 17592186044416
  · rw [if_pos c2] at H
    have LMc2 := Aside0.mk c2
    clear c2
    obtain ⟨y119, hy119⟩ : ∃ y_ : List Int, y_ = (y116 ++ l0) := ⟨_, rfl⟩
    replace H : (some y119) = some r := by first | (rw [hy119]; with_reducible exact H) | (have H2_ := (Option.bind_some _ _).symm.trans H; rw [hy119]; with_reducible exact H2_) | (have H2_ := (Option.bind_some _ _).symm.trans H; with_reducible exact H2_) | with_reducible exact H | (rw [hy119]; exact H) | exact H
    have Ny119 := Aside0.mk hy119
    clear hy119
    obtain rfl := Option.some.inj H
    have hnq_ : ∀ W : World, (binOp .eql 23 (.slice (some ad0) l0.length c0) (.slice none 0 0)).run Try.prog W = .ok (.bool ((some ad0) : Option Addr).isNone) W := fun W => by first | exact Lib.run_eql_slice_nil W 23 3 _ _ _ 0 0 Try.underlying23 | exact Lib.run_eql_slice_nil W 23 3 _ _ _ Try.underlying23
    go_enter Try.func53, Try.ntmps53
    go_wp2_with (first | ((with_reducible refine gate_dst (N := 5) rfl ?_); refine Kd.R_lit (Kd.int .i64) _ 3 ?hg (N := 5) ?hd (xs := ([] : List Int)) (inner := []) (ok := fun _ => True) (okp := fun _ => True) ?hr ?hp (fun _ hk => hk) trivial (Below.refl _ _) (Nat.le_refl _) (by simp) ?_; (case hd => rfl); (case hg => rfl); (case hr => first | (go_simp; done) | (go_simp; rfl)); (case hp => exact (Reps.none _ _)); intro v117 w3 ho4 hb hg_ hnew_; clear hg_ hnew_; (first | rw [← Ny116.out] at ho4 | (simp only [Int.reduceToNat] at ho4; rw [← Ny116.out] at ho4)); have HO118 := Aside0.mk (Kd.R_lower ho4 (below_size (by repeat (first | (with_reducible first | exact HB.out | apply below_alloc | apply pw_below_drewN | apply below_drew1) | exact HB.out)))); replace HB := Aside0.mk (below_step (by repeat (first | (with_reducible first | exact HB.out | apply below_alloc | apply pw_below_drewN | apply below_drew1) | exact HB.out)) hb); clear hb ho4) | ((with_reducible refine gate_builtin (b := .append) (xs := #[.tmp 5, .tmp 6]) rfl ?_); at_builtin; refine Kd.R_append_rows (Kd.int .i64) (w0 := w) w.heap.size rfl (.tmp 5) (.tmp 6) 23 3 (.int .i64 0) 8 rfl Try.underlying23 info3 rfl (by decide) (by omega) v117 y116 l0 _ _ _ (fun _ => True) (fun _ => False) rfl rfl ?aO ?aR (fun _ _ h => h) (fun _ h => h.elim) ?aF ?aB ?aS ?aL ?_; (case aR => repeat (first | exact (Kd.C_below HR0.out HB.out) | (with_reducible refine Kd.C_alloc ?_ _) | (with_reducible refine Kd.C_drewN ?_ _) | (with_reducible refine Kd.C_drew ?_))); (case aB => exact (by repeat (first | (with_reducible first | exact HB.out | apply below_alloc | apply pw_below_drewN | apply below_drew1) | exact HB.out))); (case aF => exact (fun _ _ => trivial)); (case aO => exact (by (with_reducible repeat (first | apply Kd.R_alloc | apply Kd.R_drewN | apply Kd.R_drew)); exact HO118.out)); (case aS => exact (below_size (by repeat (first | (with_reducible first | exact HB.out | apply below_alloc | apply pw_below_drewN | apply below_drew1) | exact HB.out)))); (case aL => have := LMc2.out; omega); intro v120 w5 ho hb hg hat; rw [← Ny119.out] at ho; replace HB := Aside0.mk (hb); have HO121 := Aside0.mk (ho); clear HO118; clear ho hb hg hat))
    go_ret
    exact ⟨_, by first | rfl | (simp [errW_none, errW_some] <;> rfl) | (simp [*, errW_none, errW_some] <;> rfl), by (with_reducible repeat (first | apply Kd.R_alloc | apply Kd.R_drewN | apply Kd.R_drew)); exact HO121.out, by repeat (first | (with_reducible first | exact HB.out | apply below_alloc | apply pw_below_drewN | apply below_drew1) | exact HB.out)⟩
  · rw [if_neg c2] at H
    exact absurd H (by simp)

set_option maxHeartbeats 8000000 in
set_option maxRecDepth 100000 in
theorem slices_Clone_int_int.calls (A0 : Option Addr) (c0 : Nat) (l0 : List Int) (r : List Int) (w : World) (hr0 : Kd.C (Kd.int .i64) w A0 l0.length l0) (hc0 : l0.length ≤ c0) (h : slices_Clone_int_int.f l0 = some r) :
    Calls Try.prog 53 #[.slice A0 l0.length c0] w fun e w' => ∃ v0_ : Value, e = .returned (v0_) ∧ Kd.R (Kd.int .i64) 3 w' w.heap.size (fun _ => True) v0_ r ∧ Below w.heap.size w w' := by
  cases A0 with
  | some ad0 => exact slices_Clone_int_int.calls_some ad0 c0 l0 r w hr0 hc0 h
  | none =>
    have hl : l0 = [] := by
      cases l0 with
      | nil => rfl
      | cons x t => obtain ⟨ad, e, _⟩ := hr0.2.2 (by simp); cases e
    subst hl
    have hr : r = [] := by simpa [slices_Clone_int_int.f] using h.symm
    subst hr
    clear h hr0
    have hnq_ : ∀ W : World, (binOp .eql 23 (.slice none 0 c0) (.slice none 0 0)).run Try.prog W = .ok (.bool (none : Option Addr).isNone) W := fun W => by first | exact Lib.run_eql_slice_nil W 23 3 _ _ _ 0 0 Try.underlying23 | exact Lib.run_eql_slice_nil W 23 3 _ _ _ Try.underlying23
    simp only [List.length_nil]
    go_enter Try.func53, Try.ntmps53
    go_wp2
    go_ret
    exact ⟨_, rfl, Kd.R_nil _ _ _ _ _, Below.refl _ _⟩

/-! ### know_Row: function 67 -/
set_option maxHeartbeats 8000000 in
set_option maxRecDepth 100000 in
theorem know_Row.raw_some (ad0 : Addr) (c0 : Nat) (l0 : List RW) (w : World) (hr0 : Kd.C kRW w (some ad0) l0.length l0) (hc0 : l0.length ≤ c0) (hlim : l0.length < 1000000000) :
  Calls Try.prog 67 #[.slice (some ad0) l0.length c0] w fun e w' => ∃ v0_ : Value, e = .returned (v0_) ∧ Kd.R kRW 61 w' w.heap.size (fun _ => True) v0_ l0 ∧ Below w.heap.size w w' := by
 have HR0 := Aside0.mk hr0
 have HC0 := Aside0.mk hc0
 clear hr0 hc0
 have HB := Aside0.mk (Below.refl w.heap.size w)
 have LM := Aside0.mk hlim
 clear hlim
 have hnq_ : ∀ W : World, (binOp .eql 31 (.slice (some ad0) l0.length c0) (.slice none 0 0)).run Try.prog W = .ok (.bool ((some ad0) : Option Addr).isNone) W := fun W => by first | exact Lib.run_eql_slice_nil W 31 61 _ _ _ 0 0 Try.underlying31 | exact Lib.run_eql_slice_nil W 31 61 _ _ _ Try.underlying31
 go_enter Try.func67, Try.ntmps67
 go_wp2_with (first | ((with_reducible refine gate_dst (N := 5) rfl ?_); refine Kd.R_lit kRW _ 61 ?hg (N := 5) ?hd (xs := ([] : List RW)) (inner := []) (ok := fun _ => True) (okp := fun _ => True) ?hr ?hp (fun _ hk => hk) trivial (Below.refl _ _) (Nat.le_refl _) (by simp) ?_; (case hd => rfl); (case hg => rfl); (case hr => first | (go_simp; done) | (go_simp; rfl)); (case hp => exact (Reps.none _ _)); intro v121 w3 ho4 hb hg_ hnew_; clear hg_ hnew_; have n0_ := Aside0.mk (Kd.R_lower ho4 (below_size HB.out)); have n1_ := Aside0.mk (below_step HB.out hb); clear HB; have HO122 := n0_; have HB := n1_; clear n0_ n1_; clear hb ho4) | ((with_reducible refine gate_builtin (b := .append) (xs := #[.tmp 5, .tmp 6]) rfl ?_); at_builtin; refine Kd.R_append_rows kRW (w0 := w) w.heap.size rfl (.tmp 5) (.tmp 6) 31 61 (.agg #[(.string ⟨#[]⟩), (.int .i64 0), (.slice none 0 0)]) 48 rfl Try.underlying31 info61 rfl (by decide) (by omega) v121 ([] : List RW) l0 _ _ _ (fun _ => True) (fun _ => False) rfl rfl ?aO ?aR (fun _ _ h => h) (fun _ h => h.elim) ?aF ?aB ?aS ?aL ?_; (case aR => exact (Kd.C_below HR0.out HB.out)); (case aB => exact HB.out); (case aF => exact (fun _ _ => trivial)); (case aO => exact HO122.out); (case aS => exact (below_size HB.out)); (case aL => have := LM.out; simp only [List.length_nil]; omega); intro v124 w5 ho hb hg hat; rw [List.nil_append] at ho; have n0_ := Aside0.mk (hb); have n1_ := Aside0.mk (ho); clear HB; clear HO122; have HB := n0_; have HO125 := n1_; clear n0_ n1_; clear ho hb hg hat))
 go_ret
 exact ⟨_, rfl, HO125.out, HB.out⟩
set_option maxHeartbeats 8000000 in
set_option maxRecDepth 100000 in
theorem know_Row.raw (A0 : Option Addr) (c0 : Nat) (l0 : List RW) (w : World) (hr0 : Kd.C kRW w A0 l0.length l0) (hc0 : l0.length ≤ c0) (hlim : l0.length < 1000000000) :
  Calls Try.prog 67 #[.slice A0 l0.length c0] w fun e w' => ∃ v0_ : Value, e = .returned (v0_) ∧ Kd.R kRW 61 w' w.heap.size (fun _ => True) v0_ l0 ∧ Below w.heap.size w w' := by
 cases A0 with
 | some ad0 => exact know_Row.raw_some ad0 c0 l0 w hr0 hc0 hlim
 | none =>
  have hl : l0 = [] := by
   cases l0 with
   | nil => rfl
   | cons x t => obtain ⟨ad, e, _⟩ := hr0.2.2 (by simp); cases e
  subst hl
  clear hr0
  have hnq_ : ∀ W : World, (binOp .eql 31 (.slice none 0 c0) (.slice none 0 0)).run Try.prog W = .ok (.bool (none : Option Addr).isNone) W := fun W => by first | exact Lib.run_eql_slice_nil W 31 61 _ _ _ 0 0 Try.underlying31 | exact Lib.run_eql_slice_nil W 31 61 _ _ _ Try.underlying31
  simp only [List.length_nil]
  go_enter Try.func67, Try.ntmps67
  go_wp2
  go_ret
  exact ⟨_, rfl, Kd.R_nil _ _ _ _ _, Below.refl _ _⟩

end Go.Proofs.Ytkfehkaiifjkmaa.P
