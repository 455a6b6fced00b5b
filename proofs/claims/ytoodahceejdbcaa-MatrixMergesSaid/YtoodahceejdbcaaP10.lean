-- Written by a program of this session (wip/pp.py over the kit's printer, with our own texts put in).
import Derived.Test.YtoodahceejdbcaaP0
import Derived.Test.YtoodahceejdbcaaP3
import Derived.Test.YtoodahceejdbcaaP4
import Derived.Test.YtoodahceejdbcaaP5
namespace Go.Proofs.Ytoodahceejdbcaa.P
open Go.RowKit Go.Proofs.YtoodahceejdbcaaW.PrintWords Go.Proofs.YtoodahceejdbcaaW.PrintLast Go.Proofs.YtoodahceejdbcaaW.PrintMore
attribute [local go_sem] max2_int min2_int max_two min_two max_three min_three max_four min_four   -- for this text's walks alone
set_option linter.unusedVariables false
set_option linter.unusedSimpArgs false

/-! ### matrix_Merge: function 22 -/
def mergeM (k : Nat) : List S50 → List S50 → Option (List S50)
 | m, [] => some m
 | m, x :: b => if okM m ∧ x.f1.length < 1000000000 then (mputF k m x.f0 x.f1).bind fun o => mergeM k o b else none
set_option maxHeartbeats 3200000 in
set_option maxRecDepth 100000 in
theorem matrix_Merge.at (k : Nat) (A0 : Option Addr) (c0 : Nat) (m : List S50) (A1 : Option Addr) (c1 : Nat) (b : List S50) (res : List S50) (w : World) (hr0 : Kd.C k50 w A0 m.length m) (hc0 : m.length ≤ c0) (hm : okM m) (hr1 : Kd.C k50 w A1 b.length b) (h : mergeM k m b = some res) :
  Calls Try.prog 22 #[.slice A0 m.length c0, .slice A1 b.length c1] w fun e w' => ∃ v0_ : Value, e = .returned (v0_) ∧ Kd.V k50 50 w' w.heap.size (fun k_ => w.heap.size ≤ k_) v0_ res ∧ Below w.heap.size w w' := by
 have hn1 := hr1.2.1
 have HR := Aside0.mk (fun (i : Nat) (hi : i < b.length) => at_T50 hr1 (i : Int) (by omega) (by omega))
 have HCP := Aside0.mk (matrix_copied.own A0 c0 m w hr0 hc0 hm)
 have H := Aside0.mk h
 clear hr0 hr1 h hm hc0
 generalize hn : b.length = n at *
 have HN := Aside0.mk hn
 clear hn
 have hut := Try.underlying50
 go_enter Try.func22, Try.ntmps22
 go_wp2_with fail
 refine HCP.out.mono ?_
 rintro e w1 ⟨v, rs, rfl, hO, hb1⟩
 have HC := Aside0.mk (hO.view (b := w.heap.size))
 obtain ⟨A, c, rfl⟩ := Kd.V_slice HC.out
 have HB := Aside0.mk hb1
 clear hO hb1 HCP
 go_wp2_with fail
 go_loopw [5, 12] (fun vo vi wr => ∃ (i : Nat) (out : List S50) (Ao : Option Addr) (co : Nat), vo = .slice Ao out.length co ∧ vi = .int .i64 i ∧ i ≤ n ∧ Aside0 (mergeM k out (b.drop i) = some res) ∧ Aside0 (Kd.V k50 50 wr w.heap.size (fun k => w.heap.size ≤ k) (.slice Ao out.length co) out) ∧ Aside0 (Below w.heap.size w wr)) (fun _ vi _ => n - (intOf vi).toNat)
 case atStart => exact ⟨0, m, A, c, rfl, rfl, Nat.zero_le _, ⟨by rw [List.drop_zero]; exact H.out⟩, HC, HB⟩
 case round =>
  clear HB HC H
  obtain ⟨i, out, Ao, co, rfl, rfl, hin, HP, HC, HB⟩ := hrel
  by_cases hj : i < n
  ·obtain ⟨ad, A1', c1', hA, hx0, hx1, hle1, hC1⟩ := HR.out i hj
   have hrd : rd_T50 b (i : Int) = b.getD i z50 := by unfold rd_T50; rw [Int.toNat_natCast]
   rw [hrd] at hx0 hx1 hle1 hC1
   simp only [Int.toNat_natCast] at hx0 hx1
   have hdr := drop_cons_getD b z50 (i := i) (by rw [HN.out]; exact hj)
   have hp := HP.out
   rw [hdr] at hp
   generalize hx : b.getD i z50 = x at hx0 hx1 hle1 hC1 hp
   unfold mergeM at hp
   by_cases hok : okM out ∧ x.f1.length < 1000000000
   rotate_left
   ·rw [if_neg hok] at hp; cases hp
   rw [if_pos hok] at hp
   obtain ⟨o, ho, hp⟩ := Option.bind_eq_some_iff.mp hp
   have HV := Aside0.mk hp
   subst hA
   replace hx0 := (HB.out.cell (World.block_lt_of_cell? w _ hx0)).trans hx0
   replace hx1 := (HB.out.cell (World.block_lt_of_cell? w _ hx1)).trans hx1
   have HPUT := Aside0.mk (fun W (hW : Below wr.heap.size wr W) => matrix_Put.at k Ao co out x.f0 A1' c1' x.f1 o W (Kd.V_reads' (Kd.V_below HC.out hW)).2.2 (Kd.V_reads' HC.out).2.1 hok.1 (Kd.C_below (Kd.C_below hC1 HB.out) hW) hle1 hok.2 ho)
   have HBA := Aside0.mk (below_alloc HB.out (.cells #[.string x.f0, .slice A1' x.f1.length c1'] 50))
   have pm := eq_true (show (0 : Int) ≤ (i : Int) by omega)
   have qm := eq_true (show (i : Int) < (n : Int) by omega)
   clear hrd hdr hp hx hC1 hle1 HP hok ho HC
   go_wp2_with fail
   refine (HPUT.out _ (below_alloc (Below.refl _ _) _)).mono ?_
   rintro e w2 ⟨v2, rfl, hV2, hb2⟩
   obtain ⟨A2, c2, rfl⟩ := Kd.V_slice hV2
   have HB2 := Aside0.mk (below_step HBA.out hb2)
   have HC2 := Aside0.mk (Kd.V_lower (base' := w.heap.size) (Kd.V_mono hV2 (ok' := fun k => w.heap.size ≤ k) (fun k hk => by have := below_size HBA.out; omega)) (below_size HBA.out))
   clear hb2 hV2 hx0 hx1 HPUT
   go_wp2_with fail
   go_roundw
   case rel => exact ⟨i + 1, o, A2, c2, rfl, by go_num, by omega, HV, HC2, HB2⟩
   case measure => simp [intOf]; omega
  ·have hge : decide ((i : Int) < (n : Int)) = false := by simp; omega
   have hres : res = out := by
    have hni : b.drop i = [] := List.drop_of_length_le (by rw [HN.out]; omega)
    have h1 := HP.out
    rw [hni] at h1
    unfold mergeM at h1
    exact (Option.some.inj h1).symm
   subst hres
   go_wp2_with fail
   go_ret
   exact ⟨_, rfl, HC.out, HB.out⟩
theorem mergeM_mono (k : Nat) : ∀ (b m : List S50), LeO (mergeM k m b) (mergeM (k + 1) m b)
 | [], _ => LeO.refl _
 | x :: b, m => by
  unfold mergeM mputF
  exact LeO.ite (LeO.bind (LeO.ite (LeO.bind (vec_Join.mono _ _ _) (fun _ => LeO.refl _)) (LeO.refl _)) (fun _ => mergeM_mono k b _)) (LeO.refl _)
def matrix_Merge.f (k : Nat) (l0 : List S50) (l1 : List S50) : Option (List S50) := if okM l0 then mergeM k l0 l1 else none
theorem matrix_Merge.mono : ∀ a0 a1 k, LeO (matrix_Merge.f k a0 a1) (matrix_Merge.f (k + 1) a0 a1) := by
 intro a0 a1 k
 unfold matrix_Merge.f
 exact LeO.ite (mergeM_mono _ _ _) (LeO.refl _)
theorem matrix_Merge.calls (k : Nat) (A0 : Option Addr) (c0 : Nat) (l0 : List S50) (A1 : Option Addr) (c1 : Nat) (l1 : List S50) (r : List S50) (w : World) (hr0 : Kd.C k50 w A0 l0.length l0) (hc0 : l0.length ≤ c0) (hr1 : Kd.C k50 w A1 l1.length l1) (hc1 : l1.length ≤ c1) (h : matrix_Merge.f k l0 l1 = some r) :
  Calls Try.prog 22 #[.slice A0 l0.length c0, .slice A1 l1.length c1] w fun e w' => ∃ v0_ : Value, e = .returned (v0_) ∧ Kd.V k50 50 w' w.heap.size (fun k_ => w.heap.size ≤ k_) v0_ r ∧ Below w.heap.size w w' := by
 unfold matrix_Merge.f at h
 by_cases hc : okM l0
 ·rw [if_pos hc] at h
  exact matrix_Merge.at k A0 c0 l0 A1 c1 l1 r w hr0 hc0 hc hr1 h
 ·rw [if_neg hc] at h; cases h

/-! ### matrix_Same: function 25 -/
set_option maxHeartbeats 3200000 in
set_option maxRecDepth 100000 in
theorem mate_equal (A0 : Option Addr) (c0 : Nat) (l0 : List RW) (A1 : Option Addr) (c1 : Nat) (l1 : List RW) (q : Nat → Bool) (w : World) (hr0 : Kd.C kRW w A0 l0.length l0) (hr1 : Kd.C kRW w A1 l1.length l1)
  (hp : ∀ (i : Nat) (x y : RW) (W : World), i < l0.length → i < l1.length → l0.getD i zRW = x → l1.getD i zRW = y → Below w.heap.size w W → Calls Try.prog 55 #[.agg #[.string x.f0, .slice x.A x.n x.c], .agg #[.string y.f0, .slice y.A y.n y.c]] W fun e w' => e = .returned (.bool (q i)) ∧ Below W.heap.size W w') :
  Calls Try.prog 54 #[.slice A0 l0.length c0, .slice A1 l1.length c1, .func (.func 55) #[] #[]] w fun e w' => e = .returned (.bool (if l0.length = l1.length then (List.range l0.length).all q else false)) ∧ Below w.heap.size w w' := by
 have hmax : maxLen = 9223372036854775807 := rfl
 have hlen := hr0.2.1
 have HR0 := Aside0.mk hr0
 have HR1 := Aside0.mk hr1
 have HP := Aside0.mk hp
 clear hr0 hr1 hp
 have HB := Aside0.mk (Below.refl w.heap.size w)
 have hut := Try.underlying50
 by_cases hl : l0.length = l1.length
 ·rw [if_pos hl]
  have hl2 : ((l0.length : Int) != (l1.length : Int)) = false := by rw [hl]; simp
  rw [← hl] at HR1 HP
  generalize hn : l0.length = n at *
  have HNL := Aside0.mk hl
  clear hl hn
  rw [← HNL.out] at hl2 ⊢
  obtain ⟨res, hres⟩ : ∃ res, (List.range n).all q = res := ⟨_, rfl⟩
  rw [hres]
  have HRES := Aside0.mk hres
  clear hres
  go_enter Try.func54, Try.ntmps54
  go_wp2
  go_loopw [17] (fun vi wr => ∃ i : Nat, vi = .int .i64 i ∧ i ≤ n ∧ Aside0 (∀ j, j < i → q j = true) ∧ Aside0 (Below w.heap.size w wr)) (fun vi _ => n - (intOf vi).toNat)
  case atStart => exact ⟨0, rfl, Nat.zero_le _, ⟨fun j hj => absurd hj (Nat.not_lt_zero _)⟩, HB⟩
  case round =>
   clear HB
   obtain ⟨i, rfl, hin, HA, HB⟩ := hrel
   by_cases hlt : i < n
   ·obtain ⟨ad, hA, hx0, hx1⟩ := at_RW HR0.out (i : Int) (by omega) (by omega)
    obtain ⟨bd, hB, hy0, hy1⟩ := at_RW HR1.out (i : Int) (by omega) (by omega)
    obtain rfl := hA
    obtain rfl := hB
    have pm := eq_true (show (0 : Int) ≤ (i : Int) by omega)
    have qm := eq_true (show (i : Int) < (n : Int) by omega)
    replace hx0 := (HB.out.cell (World.block_lt_of_cell? w _ hx0)).trans hx0; replace hx1 := (HB.out.cell (World.block_lt_of_cell? w _ hx1)).trans hx1; replace hy0 := (HB.out.cell (World.block_lt_of_cell? w _ hy0)).trans hy0; replace hy1 := (HB.out.cell (World.block_lt_of_cell? w _ hy1)).trans hy1
    have hel0 : rd_RW l0 (i : Int) = l0.getD i zRW := rfl
    have hel1 : rd_RW l1 (i : Int) = l1.getD i zRW := rfl
    simp only [Int.toNat_natCast, hel0, hel1] at hx0 hx1 hy0 hy1
    have HK := Aside0.mk (fun W (hW : Below wr.heap.size wr W) => HP.out i (l0.getD i zRW) (l1.getD i zRW) W hlt hlt rfl rfl (below_step HB.out hW))
    clear hel0 hel1
    generalize l0.getD i zRW = x at *
    generalize l1.getD i zRW = y at *
    by_cases hqi : q i = true
    ·rw [hqi] at HK
     have HQ := Aside0.mk hqi
     clear hqi
     go_upto_region 6 with fail
     have BKX := Aside0.mk (blk_new wr (.cells #[.string x.f0, .slice x.A x.n x.c] 50))
     have HWB := Aside0.mk (below_alloc (Below.refl wr.heap.size wr) (.cells #[.string x.f0, .slice x.A x.n x.c] 50))
     replace hy0 := (HWB.out.cell (World.block_lt_of_cell? wr _ hy0)).trans hy0; replace hy1 := (HWB.out.cell (World.block_lt_of_cell? wr _ hy1)).trans hy1
     clear hx0 hx1
     generalize wr.alloc (.cells #[.string x.f0, .slice x.A x.n x.c] 50) = w1 at BKX HWB hy0 hy1 ⊢
     generalize wr.heap.size = gx at BKX ⊢
     go_upto_region 7 with fail
     have BKY := Aside0.mk (blk_new w1 (.cells #[.string y.f0, .slice y.A y.n y.c] 50))
     replace BKX := Aside0.mk (blk_alloc BKX.out (.cells #[.string y.f0, .slice y.A y.n y.c] 50))
     replace HWB := Aside0.mk (below_alloc HWB.out (.cells #[.string y.f0, .slice y.A y.n y.c] 50))
     clear hy0 hy1
     generalize w1.alloc (.cells #[.string y.f0, .slice y.A y.n y.c] 50) = w2 at BKX BKY HWB ⊢
     generalize w1.heap.size = gy at BKY ⊢
     have hq0 : w2.cell? ⟨gx, 0, none⟩ = some (.string x.f0) := (blk_cell BKX.out 0).trans rfl; have hq1 : w2.cell? ⟨gx, 1, none⟩ = some (.slice x.A x.n x.c) := (blk_cell BKX.out 1).trans rfl; have hq2 : w2.cell? ⟨gy, 0, none⟩ = some (.string y.f0) := (blk_cell BKY.out 0).trans rfl; have hq3 : w2.cell? ⟨gy, 1, none⟩ = some (.slice y.A y.n y.c) := (blk_cell BKY.out 1).trans rfl
     go_wp2_with fail
     refine (HK.out w2 HWB.out).mono ?_
     rintro e w' ⟨rfl, hb1⟩
     have HB1 := Aside0.mk (below_step (below_step HB.out HWB.out) hb1)
     clear hb1
     go_wp2_with fail
     go_roundw
     case rel => exact ⟨i + 1, by go_num, by omega, ⟨fun j hj => by
      by_cases e : j = i
      ·subst e; exact HQ.out
      ·exact HA.out j (by omega)⟩, HB1⟩
     case measure => simp [intOf]; omega
    ·have hqf : q i = false := by simpa using hqi
     rw [hqf] at HK
     have hres : (List.range n).all q = false := by
      rw [Bool.eq_false_iff]
      intro hall
      have := List.all_eq_true.mp hall i (List.mem_range.mpr hlt)
      rw [hqf] at this; cases this
     obtain rfl : res = false := HRES.out.symm.trans hres
     clear hres hqi hqf HRES
     go_upto_region 6 with fail
     have BKX := Aside0.mk (blk_new wr (.cells #[.string x.f0, .slice x.A x.n x.c] 50))
     have HWB := Aside0.mk (below_alloc (Below.refl wr.heap.size wr) (.cells #[.string x.f0, .slice x.A x.n x.c] 50))
     replace hy0 := (HWB.out.cell (World.block_lt_of_cell? wr _ hy0)).trans hy0; replace hy1 := (HWB.out.cell (World.block_lt_of_cell? wr _ hy1)).trans hy1
     clear hx0 hx1
     generalize wr.alloc (.cells #[.string x.f0, .slice x.A x.n x.c] 50) = w1 at BKX HWB hy0 hy1 ⊢
     generalize wr.heap.size = gx at BKX ⊢
     go_upto_region 7 with fail
     have BKY := Aside0.mk (blk_new w1 (.cells #[.string y.f0, .slice y.A y.n y.c] 50))
     replace BKX := Aside0.mk (blk_alloc BKX.out (.cells #[.string y.f0, .slice y.A y.n y.c] 50))
     replace HWB := Aside0.mk (below_alloc HWB.out (.cells #[.string y.f0, .slice y.A y.n y.c] 50))
     clear hy0 hy1
     generalize w1.alloc (.cells #[.string y.f0, .slice y.A y.n y.c] 50) = w2 at BKX BKY HWB ⊢
     generalize w1.heap.size = gy at BKY ⊢
     have hq0 : w2.cell? ⟨gx, 0, none⟩ = some (.string x.f0) := (blk_cell BKX.out 0).trans rfl; have hq1 : w2.cell? ⟨gx, 1, none⟩ = some (.slice x.A x.n x.c) := (blk_cell BKX.out 1).trans rfl; have hq2 : w2.cell? ⟨gy, 0, none⟩ = some (.string y.f0) := (blk_cell BKY.out 0).trans rfl; have hq3 : w2.cell? ⟨gy, 1, none⟩ = some (.slice y.A y.n y.c) := (blk_cell BKY.out 1).trans rfl
     go_wp2_with fail
     refine (HK.out w2 HWB.out).mono ?_
     rintro e w' ⟨rfl, hb1⟩
     have HB1 := Aside0.mk (below_step (below_step HB.out HWB.out) hb1)
     clear hb1
     go_wp2_with fail
     go_ret
     exact ⟨rfl, HB1.out⟩
   ·have hge : decide ((i : Int) < (n : Int)) = false := by simp; omega
    have hres : (List.range n).all q = true := List.all_eq_true.mpr fun j hj => HA.out j (by have := List.mem_range.mp hj; omega)
    obtain rfl : res = true := HRES.out.symm.trans hres
    clear hres HRES
    go_wp2_with fail
    go_ret
    exact ⟨rfl, HB.out⟩
 ·rw [if_neg hl]
  have hl2 : ((l0.length : Int) != (l1.length : Int)) = true := by simp; omega
  have hl3 : ((l0.length : Int) == (l1.length : Int)) = false := by simp; omega
  have hl4 := eq_false hl
  clear hl
  go_enter Try.func54, Try.ntmps54
  go_wp2
  go_ret
  exact ⟨rfl, HB.out⟩

set_option maxHeartbeats 1600000 in
set_option maxRecDepth 100000 in
theorem mate_pred_ne (s : ByteArray) (A : Option Addr) (n c : Nat) (t : ByteArray) (A' : Option Addr) (n' c' : Nat) (b : Bool) (W : World) (hne : s ≠ t) :
  Calls Try.prog 55 #[.agg #[.string s, .slice A n c], .agg #[.string t, .slice A' n' c']] W fun e w' => e = .returned (.bool false) ∧ Below W.heap.size W w' := by
 have heq : (s.toList == t.toList) = false := by
  rw [Lib.toList_data, Lib.toList_data, beq_eq_false_iff_ne]
  exact fun e => hne (by apply ByteArray.ext; exact Array.toList_inj.mp e)
 clear hne
 have hu := Try.underlying50
 have BX := Aside0.mk (blk_below (blk_new W (.cells #[.string s, .slice A n c] 50)) (below_alloc (Below.refl _ _) (.cells #[.string t, .slice A' n' c'] 50)))
 have BY := Aside0.mk (blk_new (W.alloc (.cells #[.string s, .slice A n c] 50)) (.cells #[.string t, .slice A' n' c'] 50))
 have HB := Aside0.mk (below_alloc (below_alloc (Below.refl W.heap.size W) (.cells #[.string s, .slice A n c] 50)) (.cells #[.string t, .slice A' n' c'] 50))
 have e : (W.alloc (.cells #[.string s, .slice A n c] 50)).heap.size = W.heap.size + 1 := Array.size_push _
 rw [e] at BY
 clear e
 go_enter Try.func55, Try.ntmps55
 go_upto_region 1 with fail
 generalize (W.alloc _).alloc _ = w1 at BX BY HB ⊢
 have hc0 : w1.cell? ⟨W.heap.size, 0, none⟩ = some (.string s) := (blk_cell BX.out 0).trans rfl
 have hc1 : w1.cell? ⟨W.heap.size, 1, none⟩ = some (.slice A n c) := (blk_cell BX.out 1).trans rfl
 have hc2 : w1.cell? ⟨W.heap.size + 1, 0, none⟩ = some (.string t) := (blk_cell BY.out 0).trans rfl
 have hc3 : w1.cell? ⟨W.heap.size + 1, 1, none⟩ = some (.slice A' n' c') := (blk_cell BY.out 1).trans rfl
 go_wp2_with fail
 go_ret
 exact ⟨rfl, HB.out⟩
set_option maxHeartbeats 1600000 in
set_option maxRecDepth 100000 in
theorem mate_pred_eq (s : ByteArray) (A : Option Addr) (n c : Nat) (t : ByteArray) (A' : Option Addr) (n' c' : Nat) (b : Bool) (W : World) (he : s = t) (hv : ∀ w, Below W.heap.size W w → Calls Try.prog 23 #[.slice A n c, .slice A' n' c'] w fun e w' => e = .returned (.bool b) ∧ Below w.heap.size w w') :
  Calls Try.prog 55 #[.agg #[.string s, .slice A n c], .agg #[.string t, .slice A' n' c']] W fun e w' => e = .returned (.bool b) ∧ Below W.heap.size W w' := by
 have heq : (s.toList == t.toList) = true := by rw [he, beq_iff_eq]
 have HV := Aside0.mk hv
 clear he hv
 have hu := Try.underlying50
 have BX := Aside0.mk (blk_below (blk_new W (.cells #[.string s, .slice A n c] 50)) (below_alloc (Below.refl _ _) (.cells #[.string t, .slice A' n' c'] 50)))
 have BY := Aside0.mk (blk_new (W.alloc (.cells #[.string s, .slice A n c] 50)) (.cells #[.string t, .slice A' n' c'] 50))
 have HB := Aside0.mk (below_alloc (below_alloc (Below.refl W.heap.size W) (.cells #[.string s, .slice A n c] 50)) (.cells #[.string t, .slice A' n' c'] 50))
 have e : (W.alloc (.cells #[.string s, .slice A n c] 50)).heap.size = W.heap.size + 1 := Array.size_push _
 rw [e] at BY
 clear e
 go_enter Try.func55, Try.ntmps55
 go_upto_region 1 with fail
 generalize (W.alloc _).alloc _ = w1 at BX BY HB ⊢
 have hc0 : w1.cell? ⟨W.heap.size, 0, none⟩ = some (.string s) := (blk_cell BX.out 0).trans rfl
 have hc1 : w1.cell? ⟨W.heap.size, 1, none⟩ = some (.slice A n c) := (blk_cell BX.out 1).trans rfl
 have hc2 : w1.cell? ⟨W.heap.size + 1, 0, none⟩ = some (.string t) := (blk_cell BY.out 0).trans rfl
 have hc3 : w1.cell? ⟨W.heap.size + 1, 1, none⟩ = some (.slice A' n' c') := (blk_cell BY.out 1).trans rfl
 go_wp2_with fail
 refine (HV.out w1 HB.out).mono ?_
 rintro e w2 ⟨rfl, hb⟩
 replace HB := Aside0.mk (below_step HB.out hb)
 clear hb
 go_wp2_with fail
 go_ret
 exact ⟨rfl, HB.out⟩
/-- Row by row: the same name, and as far. -/
def sameQ (k : Nat) (x y : S50) : Option Bool := if x.f0 = y.f0 then vec_Same.f k x.f1 y.f1 else some false
def sameAll (k : Nat) (a b : List S50) : Prop := ∀ i, i < a.length → (sameQ k (a.getD i z50) (b.getD i z50)).isSome = true
instance (k : Nat) (a b : List S50) : Decidable (sameAll k a b) := by unfold sameAll; infer_instance
def sameB (k : Nat) (a b : List S50) : Bool := if a.length = b.length then (List.range a.length).all (fun i => (sameQ k (a.getD i z50) (b.getD i z50)).getD false) else false
def matrix_Same.f (k : Nat) (l0 : List S50) (l1 : List S50) : Option Bool := if sameAll k l0 l1 then some (sameB k l0 l1) else none
theorem sameQ_mono (k : Nat) (x y : S50) : LeO (sameQ k x y) (sameQ (k + 1) x y) := by unfold sameQ; exact LeO.ite (vec_Same.mono _ _ _) (LeO.refl _)
theorem matrix_Same.mono : ∀ a0 a1 k, LeO (matrix_Same.f k a0 a1) (matrix_Same.f (k + 1) a0 a1) := by
 intro a0 a1 k r h
 unfold matrix_Same.f at h ⊢
 by_cases hc : sameAll k a0 a1
 ·rw [if_pos hc] at h
  have hs : ∀ i, i < a0.length → sameQ (k + 1) (a0.getD i z50) (a1.getD i z50) = sameQ k (a0.getD i z50) (a1.getD i z50) := fun i hi => by
   obtain ⟨b, hb⟩ := Option.isSome_iff_exists.mp (hc i hi)
   rw [hb]; exact sameQ_mono _ _ _ _ hb
  have hc2 : sameAll (k + 1) a0 a1 := fun i hi => by rw [hs i hi]; exact hc i hi
  rw [if_pos hc2, ← h]
  unfold sameB
  by_cases hl : a0.length = a1.length
  ·rw [if_pos hl, if_pos hl]
   congr 1
   rw [Bool.eq_iff_iff, List.all_eq_true, List.all_eq_true]
   exact ⟨fun h i hi => by rw [← hs i (List.mem_range.mp hi)]; exact h i hi, fun h i hi => by rw [hs i (List.mem_range.mp hi)]; exact h i hi⟩
  ·rw [if_neg hl, if_neg hl]
 ·rw [if_neg hc] at h; cases h
set_option maxHeartbeats 1600000 in
set_option maxRecDepth 100000 in
theorem matrix_Same.calls (k : Nat) (A0 : Option Addr) (c0 : Nat) (l0 : List S50) (A1 : Option Addr) (c1 : Nat) (l1 : List S50) (r : Bool) (w : World) (hr0 : Kd.C k50 w A0 l0.length l0) (hc0 : l0.length ≤ c0) (hr1 : Kd.C k50 w A1 l1.length l1) (hc1 : l1.length ≤ c1) (h : matrix_Same.f k l0 l1 = some r) :
  Calls Try.prog 25 #[.slice A0 l0.length c0, .slice A1 l1.length c1] w fun e w' => e = .returned (.bool r) ∧ Below w.heap.size w w' := by
 unfold matrix_Same.f at h
 by_cases hc : sameAll k l0 l1
 rotate_left
 ·rw [if_neg hc] at h; cases h
 rw [if_pos hc] at h
 obtain rfl := Option.some.inj h
 clear h
 obtain ⟨rs, hC, hI⟩ := lead_raw lead_m hr0
 obtain ⟨rt, hD, hJ⟩ := lead_raw lead_m hr1
 have hl0 := F2.len hI
 have hl1 := F2.len hJ
 rw [← hl0] at hC
 rw [← hl1] at hD
 have hEQ := fun (W : World) (hW : Below w.heap.size w W) => mate_equal A0 c0 rs A1 c1 rt (fun i => (sameQ k (l0.getD i z50) (l1.getD i z50)).getD false) W (Kd.C_below hC hW) (Kd.C_below hD hW) (fun i x y W2 hi hi2 hx hy hW2 => by
  have i1 := (F2.getD hI (j := i) (by omega) zRW z50)
  have i2 := (F2.getD hJ (j := i) (by omega) zRW z50)
  rw [hx] at i1
  rw [hy] at i2
  have hs := hc i (by omega)
  generalize l0.getD i z50 = p at i1 hs ⊢
  generalize l1.getD i z50 = q at i2 hs ⊢
  obtain ⟨b, hb⟩ := Option.isSome_iff_exists.mp hs
  rw [hb, Option.getD_some]
  obtain ⟨a1, a2, a3, a4⟩ := ((i1.below hW).below hW2).now
  obtain ⟨b1, b2, b3, b4⟩ := ((i2.below hW).below hW2).now
  rw [a1, a2, b1, b2]
  unfold sameQ at hb
  by_cases he : p.f0 = q.f0
  ·rw [if_pos he] at hb
   exact mate_pred_eq _ _ _ _ _ _ _ _ b W2 he (fun w3 hw3 => (vec_Same.calls k x.A x.c p.f1 y.A y.c q.f1 b w3 (Kd.C_below a4 hw3) a3 (Kd.C_below b4 hw3) b3 hb).mono (fun e w' h => ⟨h.1, h.2.below⟩))
  ·rw [if_neg he] at hb
   obtain rfl := Option.some.inj hb
   exact mate_pred_ne _ _ _ _ _ _ _ _ false W2 he)
 rw [hl0, hl1] at hEQ
 have hsb : sameB k l0 l1 = (if l0.length = l1.length then (List.range l0.length).all (fun i => (sameQ k (l0.getD i z50) (l1.getD i z50)).getD false) else false) := rfl
 rw [← hsb] at hEQ
 clear hsb
 generalize sameB k l0 l1 = res at hEQ ⊢
 have HEQ := Aside0.mk hEQ
 have HB := Aside0.mk (Below.refl w.heap.size w)
 clear hEQ hC hD hI hJ hr0 hr1 hc hl0 hl1
 go_enter Try.func25, Try.ntmps25
 go_wp2_with fail
 refine (HEQ.out _ HB.out).mono ?_
 rintro e w1 ⟨rfl, hb⟩
 have HB1 := Aside0.mk (below_step HB.out hb)
 clear hb
 go_wp2_with fail
 go_ret
 exact ⟨rfl, HB1.out⟩

end Go.Proofs.Ytoodahceejdbcaa.P
