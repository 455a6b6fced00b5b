-- Written by a program of this session (wip/pp.py over the kit's printer, with our own texts put in).
import Derived.Test.YtkfehkaiifjkmaaP0
import Derived.Test.YtkfehkaiifjkmaaP1
import Derived.Test.YtkfehkaiifjkmaaP2
import Derived.Test.YtkfehkaiifjkmaaP3
import Derived.Test.YtkfehkaiifjkmaaP4
import Derived.Test.YtkfehkaiifjkmaaP5
import Derived.Test.YtkfehkaiifjkmaaP6
import Derived.Test.YtkfehkaiifjkmaaP7
import Derived.Test.YtkfehkaiifjkmaaP8
namespace Go.Proofs.Ytkfehkaiifjkmaa.P
open Go.RowKit Go.Proofs.YtkfehkaiifjkmaaW.PrintWords Go.Proofs.YtkfehkaiifjkmaaW.PrintLast Go.Proofs.YtkfehkaiifjkmaaW.PrintMore
attribute [local go_sem] max2_int min2_int max_two min_two max_three min_three max_four min_four   -- for this text's walks alone
set_option linter.unusedVariables false
set_option linter.unusedSimpArgs false

/-! ### know_Drop: function 13 -/
set_option maxHeartbeats 1600000 in
set_option maxRecDepth 100000 in
theorem matd_index (A0 : Option Addr) (c0 : Nat) (l0 : List RW) (cb : Value) (p : RW → Bool) (w : World) (hr0 : Kd.C kRW w A0 l0.length l0)
  (hp : ∀ (x : RW) (W : World), x ∈ l0 → Below w.heap.size w W → Calls Try.prog 50 #[.agg #[.string x.f0, .int .i64 x.u, .slice x.A x.n x.c], cb] W fun e w' => e = .returned (.bool (p x)) ∧ Below W.heap.size W w') :
  Calls Try.prog 70 #[.slice A0 l0.length c0, .func (.func 50) #[] #[cb]] w fun e w' => e = .returned (.int .i64 (idxI p l0)) ∧ Below w.heap.size w w' := by
 have hlen := hr0.2.1
 have HR0 := Aside0.mk hr0
 have HP := Aside0.mk hp
 clear hr0 hp
 have HF := Aside0.mk (fun i hi hn h => idxI_found p zRW l0 i hi hn h)
 have HN := Aside0.mk (fun hn => idxI_none p zRW l0 hn)
 generalize idxI p l0 = r at *
 generalize hn : l0.length = n at *
 have HL := Aside0.mk hn
 clear hn
 have HB := Aside0.mk (Below.refl w.heap.size w)
 have hut := Try.underlying61
 go_enter Try.func70, Try.ntmps70
 go_wp2
 go_loopw [8] (fun vi wr => ∃ i : Nat, vi = .int .i64 i ∧ i ≤ n ∧ Aside0 (∀ j, j < i → p (l0.getD j zRW) = false) ∧ Aside0 (Below w.heap.size w wr)) (fun vi _ => n - (intOf vi).toNat)
 case atStart => exact ⟨0, rfl, Nat.zero_le _, ⟨fun j hj => absurd hj (Nat.not_lt_zero _)⟩, HB⟩
 case round =>
  clear HB
  obtain ⟨i, rfl, hin, HA, HB⟩ := hrel
  by_cases hlt : i < n
  ·obtain ⟨ad, hA, hx0, hx1, hx2⟩ := at_RW HR0.out (i : Int) (by omega) (by omega)
   obtain rfl := hA
   have pm := eq_true (show (0 : Int) ≤ (i : Int) by omega)
   have qm := eq_true (show (i : Int) < (n : Int) by omega)
   replace hx2 := (HB.out.cell (World.block_lt_of_cell? w _ hx2)).trans hx2; replace hx0 := (HB.out.cell (World.block_lt_of_cell? w _ hx0)).trans hx0; replace hx1 := (HB.out.cell (World.block_lt_of_cell? w _ hx1)).trans hx1
   have hel : rd_RW l0 (i : Int) = l0.getD i zRW := rfl
   simp only [Int.toNat_natCast, hel] at hx0 hx1 hx2
   have HK := Aside0.mk (HP.out (l0.getD i zRW)  wr (by rw [← List.getElem_eq_getD (h := by have := HL.out; omega)]; exact List.getElem_mem _) HB.out)
   by_cases hpx : p (l0.getD i zRW) = true
   ·have HRES := Aside0.mk (HF.out i (by have := HL.out; omega) HA.out hpx)
    rw [hpx] at HK
    clear hel hpx
    go_wp2_with fail
    refine HK.out.mono ?_
    rintro e w' ⟨rfl, hb1⟩
    have HB1 := Aside0.mk (below_step HB.out hb1)
    clear hb1
    go_wp2_with fail
    go_ret
    exact ⟨by rw [HRES.out]; rfl, HB1.out⟩
   ·have hpf : p (l0.getD i zRW) = false := by simpa using hpx
    rw [hpf] at HK
    have HPF := Aside0.mk hpf
    clear hel hpx hpf
    go_wp2_with fail
    refine HK.out.mono ?_
    rintro e w' ⟨rfl, hb1⟩
    have HB1 := Aside0.mk (below_step HB.out hb1)
    clear hb1
    go_wp2_with fail
    go_roundw
    case rel => exact ⟨i + 1, by go_num, by omega, ⟨fun j hj => by
     by_cases e : j = i
     ·subst e; exact HPF.out
     ·exact HA.out j (by omega)⟩, HB1⟩
    case measure => simp [intOf]; omega
  ·have hge : decide ((i : Int) < (n : Int)) = false := by simp; omega
   have HRES := Aside0.mk (HN.out (fun j hj => HA.out j (by have := HL.out; omega)))
   go_wp2_with fail
   go_ret
   exact ⟨by rw [HRES.out]; rfl, HB.out⟩

set_option maxHeartbeats 3200000 in
set_option maxRecDepth 100000 in
theorem matd_deletek (w : World) (base : Nat) (ok : Nat → Prop) (v : Value) (l : List RW) (cb : Value) (p : RW → Bool) (ho : Kd.R kRW 61 w base ok v l) (hbase : base ≤ w.heap.size)
  (hp : ∀ (x : RW) (W : World), x ∈ l → Below base w W → Calls Try.prog 50 #[.agg #[.string x.f0, .int .i64 x.u, .slice x.A x.n x.c], cb] W fun e w' => e = .returned (.bool (p x)) ∧ Below W.heap.size W w') :
  Calls Try.prog 49 #[v, .func (.func 50) #[] #[cb]] w fun e w' => ∃ v' : Value, e = .returned v' ∧ Kd.R kRW 61 w' base ok v' (l.filter fun x => !p x) ∧ Below base w w' ∧ ∀ k, k < w.heap.size → some k ≠ v.ownBlock → w'.heap[k]? = w.heap[k]? := by
 obtain ⟨A, c, rfl, hlc, hC⟩ := Kd.R_reads ho
 have hix := matd_index A c l cb p w hC (fun x  W hx hW => hp x  W hx ⟨hW.os, hW.tape, hW.output, by have := hW.size; omega, fun k hk => hW.block k (by omega)⟩)
 have hle := idxP_le p l
 have HIX := Aside0.mk hix
 have HP := Aside0.mk hp
 have HO := Aside0.mk ho
 clear hix hp hC
 obtain ⟨i0, hi0⟩ : ∃ i0, idxP p l = i0 := ⟨_, rfl⟩
 have hut := Try.underlying61
 by_cases hlt : i0 < l.length
 ·have hq : idxI p l = (i0 : Int) := by unfold idxI; rw [hi0, if_pos hlt]
  rw [hq] at HIX
  have hq1 : ((i0 : Int) == -1) = false := by rw [beq_eq_false_iff_ne]; omega
  have hne : l ≠ [] := fun e => by rw [e] at hlt; simp at hlt
  obtain ⟨g, cap, cur, ev, hg, hk, hh, h2, h3, h4, hpp⟩ := R_open ho hne
  injection ev with eA _ ec
  subst eA; subst ec
  clear hh h4 hpp ho hq
  have hw1 : IntKind.i64.wrap ((i0 : Int) + 1) = (i0 : Int) + 1 := by
   have : maxLen = 9223372036854775807 := rfl
   rw [IntKind.wrap_i64] <;> omega
  go_enter Try.func49, Try.ntmps49
  go_wp2_with fail
  refine HIX.out.mono ?_
  rintro e w1 ⟨rfl, hb1⟩
  have HO1 := Aside0.mk (Kd.R_below HO.out hb1)
  have HB1 := Aside0.mk (below_then (Below.refl base w) hbase hb1)
  have HK1 := Aside0.mk (show ∀ k, k < w.heap.size → k ≠ g → w1.heap[k]? = w.heap[k]? from fun k hk _ => hb1.block k hk)
  clear hb1 HO HIX
  go_wp2_with fail
  have HS := Aside0.mk (del_start p zRW l (by rw [hi0]; exact hlt))
  rw [hi0] at HS
  generalize hn : l.length = n at *
  have HL := Aside0.mk hn
  clear hn hi0 hq1 hw1
  have hmax : maxLen = 9223372036854775807 := rfl
  go_loopw [5, 6] (fun vi vj wr => ∃ (i j : Nat) (L : List RW), vi = .int .i64 i ∧ vj = .int .i64 j ∧ i < j ∧ j ≤ n ∧ Aside0 (L.length = n) ∧ Aside0 (L.take i = (l.take j).filter (fun x => !p x)) ∧ Aside0 (L.drop j = l.drop j) ∧ Aside0 (Kd.R kRW 61 wr base ok (.slice (some ⟨g, 0, none⟩) n c) L) ∧ Aside0 (Below base w wr) ∧ Aside0 (∀ k, k < w.heap.size → k ≠ g → wr.heap[k]? = w.heap[k]?)) (fun _ vj _ => n - (intOf vj).toNat)
  case atStart => exact ⟨i0, i0 + 1, l, rfl, by go_num, by omega, by omega, HL, HS, ⟨rfl⟩, HO1, HB1, HK1⟩
  case round =>
   clear HS HO1 HB1 HK1
   obtain ⟨i, j, L, rfl, rfl, hij, hjn, HLL, HT, HD, HO, HB, HKP⟩ := hrel
   by_cases hj : j < n
   ·have hC := (Kd.R_reads' HO.out).2.2
    obtain ⟨ad, hA, hx0, hx1, hx2⟩ := at_RW hC (j : Int) (by omega) (by have := HLL.out; omega)
    injection hA with hA
    subst hA
    have pm := eq_true (show (0 : Int) ≤ (j : Int) by omega)
    have qm := eq_true (show (j : Int) < (n : Int) by omega)
    have hel : rd_RW L (j : Int) = l.getD j zRW := drop_get zRW HD.out (by have := HL.out; omega)
    simp only [Int.toNat_natCast, hel, Addr.add_lit, Nat.zero_add] at hx0 hx1 hx2
    clear hC
    have HMEM := Aside0.mk (show l.getD j zRW ∈ l by rw [← List.getElem_eq_getD (h := by have := HL.out; omega)]; exact List.getElem_mem _)
    generalize hx : l.getD j zRW = x at hx0 hx1 hx2 hel HMEM
    have HX := Aside0.mk hx
    clear hx hel
    go_wp2_with fail
    have HBA := Aside0.mk (HB.out.alloc (by have := below_size' HB.out hbase; omega) (.cells #[.string x.f0, .int .i64 x.u, .slice x.A x.n x.c] 61))
    have HOA := Aside0.mk (Kd.R_below HO.out (below_alloc (Below.refl _ _) (.cells #[.string x.f0, .int .i64 x.u, .slice x.A x.n x.c] 61)))
    have BK := Aside0.mk (blk_new wr (.cells #[.string x.f0, .int .i64 x.u, .slice x.A x.n x.c] 61))
    have HKA := Aside0.mk (show ∀ (W : World), Below (wr.alloc (.cells #[.string x.f0, .int .i64 x.u, .slice x.A x.n x.c] 61)).heap.size (wr.alloc (.cells #[.string x.f0, .int .i64 x.u, .slice x.A x.n x.c] 61)) W → ∀ k, k < w.heap.size → k ≠ g → W.heap[k]? = w.heap[k]? from fun W hW k hk hne => ((hW.block k (by have := HB.out.size; simp; omega)).trans ((below_alloc (Below.refl _ _) _).block k (by have := HB.out.size; omega))).trans (HKP.out k hk hne))
    have HK := Aside0.mk (HP.out x  _ HMEM.out HBA.out)
    by_cases hpx : p x = true
    ·rw [hpx] at HK
     have HPX := Aside0.mk hpx
     clear hpx
     refine HK.out.mono ?_
     rintro e w' ⟨rfl, hb1⟩
     have HB1 := Aside0.mk (below_then HBA.out (below_size' HBA.out hbase) hb1)
     have HO1 := Aside0.mk (Kd.R_below HOA.out hb1)
     have HK2 := Aside0.mk (HKA.out _ hb1)
     clear hb1
     go_wp2_with fail
     go_roundw
     case rel => exact ⟨i, j + 1, L, rfl, by go_num, by omega, by omega, HLL, ⟨del_skip p zRW HT.out (by have := HL.out; omega) (by rw [HX.out]; exact HPX.out)⟩, ⟨drop_succ_eq HD.out⟩, HO1, HB1, HK2⟩
     case measure => simp [intOf]; omega
    ·have hpf : p x = false := by simpa using hpx
     rw [hpf] at HK
     have HPX := Aside0.mk hpf
     clear hpx hpf
     refine HK.out.mono ?_
     rintro e w' ⟨rfl, hb1⟩
     have HB1 := Aside0.mk (below_then HBA.out (below_size' HBA.out hbase) hb1)
     have HO1 := Aside0.mk (Kd.R_below HOA.out hb1)
     have BK1 := Aside0.mk (blk_below BK.out hb1)
     have HK2 := Aside0.mk (HKA.out _ hb1)
     clear hb1
     have hin : i < n := by omega
     have pi := eq_true (show (0 : Int) ≤ (i : Int) by omega)
     have qi := eq_true (show (i : Int) < (n : Int) by omega)
     obtain ⟨gI, capI, curI, evI, _, _, hhI, _, _, _, _⟩ := R_open HO1.out (fun e => by have := HLL.out; rw [e] at this; simp at this; omega)
     injection evI with eA eN eC
     clear eN eC
     injection eA with eA
     injection eA with eA
     subst eA
     obtain ⟨adI, hAI, hy0, hy1, hy2⟩ := at_RW (Kd.R_reads' HO1.out).2.2 (i : Int) (by omega) (by have := HLL.out; omega)
     injection hAI with hAI
     subst hAI
     simp only [Int.toNat_natCast, Addr.add_lit, Nat.zero_add] at hy0 hy1 hy2
     have hq0 : w'.cell? ⟨wr.heap.size, 0, none⟩ = some (.string x.f0) := (blk_cell BK1.out 0).trans rfl; have hq1 : w'.cell? ⟨wr.heap.size, 1, none⟩ = some (.int .i64 x.u) := (blk_cell BK1.out 1).trans rfl; have hq2 : w'.cell? ⟨wr.heap.size, 2, none⟩ = some (.slice x.A x.n x.c) := (blk_cell BK1.out 2).trans rfl
     have hz0 : w'.frozen? ⟨g, i * 3, none⟩ = false := blk_frozen hhI _; have hz1 : w'.frozen? ⟨g, i * 3 + 1, none⟩ = false := blk_frozen hhI _; have hz2 : w'.frozen? ⟨g, i * 3 + 2, none⟩ = false := blk_frozen hhI _
     have hres := Kd.R_seg (d := kRW) (W := w') (okp := fun _ => False) HO1.out (i : Int) (by omega) (by omega) (c := [.string (rd_RW L (i : Int)).f0, .int .i64 (rd_RW L (i : Int)).u, .slice (rd_RW L (i : Int)).A (rd_RW L (i : Int)).n (rd_RW L (i : Int)).c]) (seg := [.string x.f0, .int .i64 x.u, .slice x.A x.n x.c]) (j := 0) rfl (fun q u hq => by rw [Int.toNat_natCast]; rcases q with _ | _ | _ | q; (cases hq; exact hy0); (cases hq; exact hy1); (cases hq; exact hy2); (cases hq)) (show 0 + 3 ≤ 3 by decide) (x' := x) (kRW_mkM _ _ _ x) (fun _ h => h.elim)
     have HR := Aside0.mk hres.1
     have HG := Aside0.mk (HB1.out.grown hres.2 (below_size' HB1.out hbase) (fun k e => by injection e with e; omega))
     have HK3 := Aside0.mk (fun k (hk : k < w.heap.size) (hne : k ≠ g) => (hres.2.block k (by have := HB1.out.size; omega) (fun e => by injection e with e; exact hne e)).trans (HK2.out k hk hne))
     clear hres hhI
     go_wp2_with fail
     go_roundw
     case rel => exact ⟨i + 1, j + 1, L.set i x, by go_num, by go_num, by omega, by omega, ⟨by rw [List.length_set]; exact HLL.out⟩, ⟨by rw [← HX.out]; exact del_keep p zRW HT.out (by have := HL.out; omega) (by have := HLL.out; omega) (by rw [HX.out]; exact HPX.out)⟩, ⟨del_drop x HD.out hij⟩, HR, HG, HK3⟩
     case measure => simp [intOf]; omega
   ·have hge : decide ((j : Int) < (n : Int)) = false := by simp; omega
    have hjj : j = n := by omega
    obtain ⟨i1, hi1, hz1, hsz1, hby1⟩ := info_parts info61
    obtain ⟨gI, capI, curI, evI, hgI, hkI, hhI, h2I, h3I, h4I, hpI⟩ := R_open HO.out (fun e => by have := HLL.out; rw [e] at this; simp at this; omega)
    injection evI with eA eN eC
    clear eN
    injection eA with eA
    injection eA with eA
    subst eA; subst eC
    rw [HLL.out] at h2I
    have hin : i < n := by omega
    have c1 : ∀ W : World, (Instr.slice 31 (.slice (some ⟨g, 0, none⟩) n c) (some (.int .i64 (i : Int))) none none).run Try.prog W = .ok (.slice (some ⟨g, i * 3, none⟩) (n - i) (c - i)) W := by
     intro W
     rw [cut_from (P := Try.prog) 31 61 .i64 Try.underlying31 hi1 3 hsz1 (some ⟨g, 0, none⟩) n c (i : Int) (by omega) (by omega) W, Int.toNat_natCast, if_neg (by omega), Option.map_some, Addr.add_lit, Nat.zero_add]
    have c2 := cut_to (P := Try.prog) 31 61 .i64 Try.underlying31 hi1 (some ⟨g, 0, none⟩) n c (i : Int) (by omega) (by omega) h2I
    rw [Int.toNat_natCast] at c2
    have hcl := fun ty => run_clear_k (P := Try.prog) wr 31 61 ty _ [.string ⟨#[]⟩, .int .i64 0, .slice none 0 0] Try.underlying31 Try.zeroValue61 rfl (by decide) (by decide) g (i * 3) (n - i) (c - i) (by omega) (fun q hq => by
     have hq' : q < (n - i) * 3 := hq
     rw [blk_cell hhI, Array.getElem?_eq_getElem (by have h4' : curI.size = c * 3 := h4I; omega)]; rfl) (fun q _ => blk_frozen hhI _)
    have hfin := R_cut_clear (d := kRW) (i := i) hgI hkI hhI (by rw [HLL.out]; exact h2I) h3I h4I hpI (by rw [HLL.out]; omega) (List.replicate (n - i) ([.string ⟨#[]⟩, .int .i64 0, .slice none 0 0] : List Value)).flatten (by
     have h4' : curI.size = c * 3 := h4I
     have hl : ((List.replicate (n - i) ([.string ⟨#[]⟩, .int .i64 0, .slice none 0 0] : List Value)).flatten).length = (n - i) * 3 := by simp
     rw [hl]
     show i * 3 + _ ≤ _
     omega)
    generalize (List.replicate (n - i) ([.string ⟨#[]⟩, .int .i64 0, .slice none 0 0] : List Value)).flatten = vs at hcl hfin
    have HR := Aside0.mk (show Kd.R kRW 61 (wr.setCells g (i * 3) vs) base ok (.slice (some ⟨g, 0, none⟩) i c) (l.filter fun x => !p x) from by
     have h := hfin.1
     rw [HT.out, hjj, List.take_of_length_le (by have := HL.out; omega)] at h
     exact h)
    have HG := Aside0.mk (show Below base w (wr.setCells g (i * 3) vs) from HB.out.grown hfin.2 (below_size' HB.out hbase) (fun k e => by injection e with e; omega))
    have HK4 := Aside0.mk (show ∀ k, k < w.heap.size → k ≠ g → (wr.setCells g (i * 3) vs).heap[k]? = w.heap[k]? from fun k hk hne => (hfin.2.block k (by have := HB.out.size; omega) (fun e => by injection e with e; exact hne e)).trans (HKP.out k hk hne))
    clear hfin hhI hpI h4I
    go_wp2
    go_ret
    exact ⟨_, rfl, HR.out, HG.out, fun k hk hne => HK4.out k hk (fun e => hne (by rw [e]; simp [Value.ownBlock]))⟩
 ·have hq : idxI p l = -1 := by unfold idxI; rw [hi0, if_neg hlt]
  have HF := Aside0.mk (filter_none p l (by omega))
  rw [hq] at HIX
  clear hq hi0 hlt hle hlc ho
  go_enter Try.func49, Try.ntmps49
  go_wp2_with fail
  refine HIX.out.mono ?_
  rintro e w1 ⟨rfl, hb1⟩
  have HO1 := Aside0.mk (Kd.R_below HO.out hb1)
  have HB1 := Aside0.mk (below_then (Below.refl base w) hbase hb1)
  have HK1 := Aside0.mk hb1
  clear hb1 HO HIX
  go_wp2_with fail
  go_ret
  exact ⟨_, rfl, by rw [HF.out]; exact HO1.out, HB1.out, fun k hk _ => HK1.out.block k hk⟩
set_option maxHeartbeats 800000 in
set_option maxRecDepth 100000 in
theorem matd_pred (x : RW) (B : Nat) (a1 : ByteArray) (W : World) (hB : W.heap[B]? = some (.cells #[.string a1] 36 (0, 0))) :
  Calls Try.prog 50 #[.agg #[.string x.f0, .int .i64 x.u, .slice x.A x.n x.c], .pointer (some ⟨B, 0, none⟩)] W fun e w' => e = .returned (.bool (decide (x.f0 = a1))) ∧ Below W.heap.size W w' := by
 have HB := Aside0.mk (below_alloc (Below.refl W.heap.size W) (.cells #[.string x.f0, .int .i64 x.u, .slice x.A x.n x.c] 61))
 have BK := Aside0.mk (blk_new W (.cells #[.string x.f0, .int .i64 x.u, .slice x.A x.n x.c] 61))
 have BB := Aside0.mk (blk_alloc hB (.cells #[.string x.f0, .int .i64 x.u, .slice x.A x.n x.c] 61))
 have hc0 : (W.alloc (.cells #[.string x.f0, .int .i64 x.u, .slice x.A x.n x.c] 61)).cell? ⟨W.heap.size, 0, none⟩ = some (.string x.f0) := (blk_cell BK.out 0).trans rfl
 have hc1 : (W.alloc (.cells #[.string x.f0, .int .i64 x.u, .slice x.A x.n x.c] 61)).cell? ⟨B, 0, none⟩ = some (.string a1) := (blk_cell BB.out 0).trans rfl
 have hut := Try.underlying61
 have huid := Try.underlying36
 have heq : (x.f0.toList == a1.toList) = decide (x.f0 = a1) := by
  rw [Lib.toList_data, Lib.toList_data]
  by_cases h : x.f0 = a1
  ·subst h; simp
  ·have : ¬ x.f0.data.toList = a1.data.toList := fun e => h (by apply ByteArray.ext; exact Array.toList_inj.mp e)
   rw [decide_eq_false h]; simpa using this
 have HE := Aside0.mk heq
 clear hB heq
 go_enter Try.func50, Try.ntmps50
 go_wp2
 go_ret
 exact ⟨by rw [← HE.out]; rfl, HB.out⟩
def mdropF (l0 : List S61) (a1 : ByteArray) : List S61 := l0.filter fun x => !(decide (x.f0 = a1))
set_option maxHeartbeats 1600000 in
set_option maxRecDepth 100000 in
theorem know_Drop.at (A0 : Option Addr) (c0 : Nat) (l0 : List S61) (a1 : ByteArray) (w : World) (hr0 : Kd.C k61 w A0 l0.length l0) (hc0 : l0.length ≤ c0) (hl : okM l0) :
  Calls Try.prog 13 #[.slice A0 l0.length c0, .string a1] w fun e w' => ∃ v0_ : Value, e = .returned (v0_) ∧ Kd.V k61 61 w' w.heap.size (fun k_ => w.heap.size ≤ k_) v0_ (mdropF l0 a1) ∧ Below w.heap.size w w' := by
 have HCP := Aside0.mk (fun W (hW : Below w.heap.size w W) => know_copied.own A0 c0 l0 W (Kd.C_below hr0 hW) hc0 hl)
 have HB := Aside0.mk (below_alloc (Below.refl w.heap.size w) (.cells #[.string a1] 36))
 have BK := Aside0.mk (blk_new w (.cells #[.string a1] 36))
 clear hr0 hc0 hl
 go_enter Try.func13, Try.ntmps13
 go_wp2_with fail
 refine (HCP.out _ HB.out).mono ?_
 rintro e w1 ⟨v1, rs, rfl, hO, hb1⟩
 have HO := Aside0.mk hO
 have BK1 := Aside0.mk (blk_below BK.out hb1)
 have HB1 := Aside0.mk (below_step HB.out hb1)
 have hsz : (w.alloc (.cells #[.string a1] 36)).heap.size = w.heap.size + 1 := by simp
 have hz1 : w.heap.size + 1 ≤ w1.heap.size := by rw [← hsz]; exact hb1.size
 rw [hsz] at HO
 have HZ := Aside0.mk hz1
 clear hO hb1 hsz hz1 HCP
 go_wp2_with fail
 refine (matd_deletek w1 (w.heap.size + 1) (fun _ => True) v1 rs (.pointer (some ⟨w.heap.size, 0, none⟩)) (fun x => decide (x.f0 = a1)) HO.out.1 HZ.out (fun x W _ hW => matd_pred x w.heap.size a1 W ((hW.block _ (by omega)).trans BK1.out))).mono ?_
 rintro e w2 ⟨v2, rfl, ho2, hb2, hk2⟩
 have hI := F2.filter (p := fun x : RW => !(decide (x.f0 = a1))) (q := fun x : S61 => !(decide (x.f0 = a1))) (fun a b h => by show (!(decide (a.f0 = a1))) = !(decide (b.f0 = a1)); rw [h.1]) (INs.step (INs.bound HO.out.2) (fun k hk hlt => hk2 k hlt hk.1.1))
 have HR := Aside0.mk (Kd.V_mono (lead_view (b := w.heap.size) lead_m ho2 hI (fun k hk => hk.1.2)) (ok' := fun k => w.heap.size ≤ k) (fun k hk => by omega))
 have HB2 := Aside0.mk (HB1.out.trans ⟨hb2.os, hb2.tape, hb2.output, hb2.size, fun k hk => hb2.block k (by omega)⟩)
 clear ho2 hb2 hk2 hI
 go_wp2_with fail
 go_ret
 exact ⟨_, rfl, HR.out, HB2.out⟩
def know_Drop.f (l0 : List S61) (a1 : ByteArray) : Option (List S61) := if okM l0 then some (mdropF l0 a1) else none
theorem know_Drop.calls (A0 : Option Addr) (c0 : Nat) (l0 : List S61) (a1 : ByteArray) (r : List S61) (w : World) (hr0 : Kd.C k61 w A0 l0.length l0) (hc0 : l0.length ≤ c0) (h : know_Drop.f l0 a1 = some r) :
  Calls Try.prog 13 #[.slice A0 l0.length c0, .string a1] w fun e w' => ∃ v0_ : Value, e = .returned (v0_) ∧ Kd.V k61 61 w' w.heap.size (fun k_ => w.heap.size ≤ k_) v0_ r ∧ Below w.heap.size w w' := by
 unfold know_Drop.f at h
 by_cases hc : okM l0
 ·rw [if_pos hc] at h
  obtain rfl := Option.some.inj h
  exact know_Drop.at A0 c0 l0 a1 w hr0 hc0 hc
 ·rw [if_neg hc] at h; cases h

/-! ### cenotaphref04_Add: function 16 -/
theorem zq16_0 {p_ : Prop} (h_ : p_ := by (try simp only [List.map_toArray, List.map_cons, List.map_nil]); first | done | rfl | (simp only [List.length_drop, List.length_take]; rfl)) : p_ := h_
theorem zq16_1 {p_ : Prop} (h_ : p_ := by repeat (first | (with_reducible first | exact HB.out | apply below_alloc | apply pw_below_drewN | apply below_drew1) | exact HB.out)) : p_ := h_
theorem zq16_2 {p_ : Prop} (h_ : p_ := by (with_reducible repeat (first | apply Kd.V_alloc | apply Kd.V_drewN | apply Kd.V_drew)); exact HO0.out) : p_ := h_
def cenotaphref04_Add.f (k : Nat) (l0 : List (S27)) (a1 : ByteArray) (a2 : Int) : Option ((List (S27))) := (cenotaphref01_Right.f k a1).bind fun t343 => (if t343 = true then ((cenotaphref04_Of.f k l0 a1).bind fun bt344 => ((cenotaphref02_Add.f k bt344.1 bt344.2 a2).bind fun bt348 => ((cenotaphref04_put.f k l0 a1 bt348.1 bt348.2).bind fun t352 => (some t352)))) else ((some (([] : List (S27)) : List (S27))).bind fun y355 => (if y355.length + l0.length < 2932031007402 then (some (y355 ++ l0)) else (none))))
theorem cenotaphref04_Add.mono : ∀ a0 a1 a2 k, LeO (cenotaphref04_Add.f k a0 a1 a2) (cenotaphref04_Add.f (k + 1) a0 a1 a2) := by
 intro a0 a1 a2 k
 unfold cenotaphref04_Add.f
 repeat' first
   | (with_reducible exact cenotaphref01_Right.mono _ _)
   | (with_reducible exact cenotaphref02_Add.mono _ _ _ _)
   | (with_reducible exact cenotaphref04_Of.mono _ _ _)
   | (with_reducible exact cenotaphref04_put.mono _ _ _ _ _)
   | (with_reducible exact LeO.refl _)
   | (with_reducible exact LeO.none _)
   | (with_reducible refine LeO.ite ?_ ?_)
   | (with_reducible refine LeO.bind ?_ (fun _ => ?_))
   | exact cenotaphref01_Right.mono _ _
   | exact cenotaphref02_Add.mono _ _ _ _
   | exact cenotaphref04_Of.mono _ _ _
   | exact cenotaphref04_put.mono _ _ _ _ _
   | exact LeO.none _
   | refine LeO.ite ?_ ?_
   | refine LeO.bind ?_ (fun _ => ?_)
set_option maxHeartbeats 8000000 in
set_option maxRecDepth 100000 in
theorem cenotaphref04_Add.calls (k : Nat) (P0_ : Nat → Prop) (A0 : Option Addr) (c0 : Nat) (l0 : List (S27)) (a1 : ByteArray) (a2 : Int) (r : List (S27)) (w : World) (hs0 : Kd.V k27 27 w w.heap.size (fun k_ => P0_ k_) (.slice A0 l0.length c0) l0) (h : cenotaphref04_Add.f k l0 a1 a2 = some r) :
  Calls Try.prog 16 #[.slice A0 l0.length c0, .string a1, .int .i64 a2] w fun e w' => ∃ v0_ : Value, e = .returned (v0_) ∧ Kd.V k27 27 w' w.heap.size (fun k_ => (P0_ k_ ∨ w.heap.size ≤ k_)) v0_ r ∧ Below w.heap.size w w' := by
 have HO0 := Aside0.mk (show Kd.V k27 27 w w.heap.size (fun k_ => (P0_ k_ ∨ w.heap.size ≤ k_)) (.slice A0 l0.length c0) l0 from Kd.V_mono hs0 (fun k_ hk => .inl hk))
 have HB := Aside0.mk (Below.refl w.heap.size w)
 have H := h
 unfold cenotaphref04_Add.f at H
 clear h
 replace H := Option.bind_eq_some_iff.mp H
 obtain ⟨t343, A40, H⟩ := H
 have A4 := Aside0.mk A40
 clear A40
 by_cases c5 : t343 = true
 ·subst c5
  have H1 : ((cenotaphref04_Of.f k l0 a1).bind fun bt344 => ((cenotaphref02_Add.f k bt344.1 bt344.2 a2).bind fun bt348 => ((cenotaphref04_put.f k l0 a1 bt348.1 bt348.2).bind fun t352 => (some t352)))) = some r := by rw [if_pos rfl] at H; exact H
  clear H
  have H := H1
  clear H1
  replace H := Option.bind_eq_some_iff.mp H
  obtain ⟨⟨t344, t345⟩, A60, H⟩ := H
  have A6 := Aside0.mk A60
  clear A60
  replace H := Option.bind_eq_some_iff.mp H
  obtain ⟨⟨t348, t349⟩, A70, H⟩ := H
  have A7 := Aside0.mk A70
  clear A70
  replace H := Option.bind_eq_some_iff.mp H
  obtain ⟨t352, A80, H⟩ := H
  have A8 := Aside0.mk A80
  clear A80
  obtain rfl := Option.some.inj H
  go_enter Try.func16, Try.ntmps16
  go_wp2_with (first | ((with_reducible refine gate_callee (f := 39) rfl ?_); refine goesL_ (some 8) rfl rfl Try.func39 (by kernel_rfl) rfl #[.string a1] rfl zq16_0 ?_; (with_reducible refine (cenotaphref01_Right.calls k a1 true _ A4.out).mono ?_); rintro e w' ⟨rfl, ⟨nd, rfl⟩⟩; refine ⟨_, rfl, ?_⟩) | ((with_reducible refine gate_callee (f := 21) rfl ?_); refine goesL_ (some 17) rfl rfl Try.func21 (by kernel_rfl) rfl #[.slice A0 l0.length c0, .string a1] rfl zq16_0 ?_; (with_reducible refine (cenotaphref04_Of.calls k (fun k_ => (P0_ k_ ∨ w.heap.size ≤ k_)) _ _ l0 a1 t344 t345 _ ?side1 A6.out).mono ?_); (case side1 => exact HO0.out); rintro e w9 ⟨v346, rfl, ho0, hb⟩; refine ⟨_, rfl, ?_⟩; replace HO0 := Aside0.mk (Kd.V_below zq16_2 hb); have HO347 := Aside0.mk (Kd.V_lower (Kd.V_mono (ok' := fun k_ => (P0_ k_ ∨ w.heap.size ≤ k_)) ho0 (fun k_ hk_ => Or.elim hk_ (fun hs_ => hs_) (fun hn_ => (.inr (Nat.le_trans (below_size zq16_1) hn_))))) (below_size zq16_1)); replace HB := Aside0.mk (below_step zq16_1 hb); (try clear hb); (try clear hb2); (try clear hk); (try clear hi); (try clear ho0); obtain ⟨Ao10, co10, eo10⟩ := Kd.V_slice HO347.out; subst eo10) | ((with_reducible refine gate_callee (f := 51) rfl ?_); refine goesL_ (some 19) rfl rfl Try.func51 (by kernel_rfl) rfl #[.agg #[.int .i64 t344, .slice Ao10 t345.length co10], .int .i64 a2] rfl zq16_0 ?_; (with_reducible refine (cenotaphref02_Add.calls k t344 _ _ t345 a2 t348 t349 _ ?side1 ?side2 A7.out).mono ?_); (case side1 => repeat (first | exact (Kd.V_reads' HO347.out).2.2 | (with_reducible refine Kd.C_alloc ?_ _) | (with_reducible refine Kd.C_drewN ?_ _) | (with_reducible refine Kd.C_drew ?_))); (case side2 => exact (Kd.V_reads' HO347.out).2.1); rintro e w11 ⟨v350, rfl, ho0, hb⟩; refine ⟨_, rfl, ?_⟩; replace HO0 := Aside0.mk (Kd.V_elder' zq16_2 (Kd.R_base ho0) hb); replace HO347 := Aside0.mk (Kd.V_elder' (by (with_reducible repeat (first | apply Kd.V_alloc | apply Kd.V_drewN | apply Kd.V_drew)); exact HO347.out) (Kd.R_base ho0) hb); have HO351 := Aside0.mk (Kd.R_lower (Kd.R_newM (M := fun k_ => (w.heap.size ≤ k_)) ho0 (below_size zq16_1) (fun k_ h_ => h_)) (below_size zq16_1)); replace HB := Aside0.mk (below_step zq16_1 hb); (try clear hb); (try clear hb2); (try clear hk); (try clear hi); (try clear ho0); obtain ⟨Ao12, co12, eo12⟩ := Kd.R_slice HO351.out; subst eo12) | ((with_reducible refine gate_callee (f := 43) rfl ?_); refine goesL_ (some 20) rfl rfl Try.func43 (by kernel_rfl) rfl #[.slice A0 l0.length c0, .string a1, .agg #[.int .i64 t348, .slice Ao12 t349.length co12]] rfl zq16_0 ?_; (with_reducible refine (cenotaphref04_put.calls k (fun k_ => ((P0_ k_ ∨ w.heap.size ≤ k_) ∧ some k_ ≠ (.slice Ao12 t349.length co12 : Value).ownBlock)) _ _ l0 a1 t348 (fun k_ => some k_ = (.slice Ao12 t349.length co12 : Value).ownBlock) _ _ t349 t352 _ ?side1 ?side2 A8.out).mono ?_); (case side1 => exact HO0.out); (case side2 => exact Kd.R_V (Kd.R_tight rfl (HO351.out))); rintro e w13 ⟨v353, rfl, ho0, hb⟩; refine ⟨_, rfl, ?_⟩; replace HO0 := Aside0.mk (Kd.V_below zq16_2 hb); replace HO347 := Aside0.mk (Kd.V_below (by (with_reducible repeat (first | apply Kd.V_alloc | apply Kd.V_drewN | apply Kd.V_drew)); exact HO347.out) hb); have HO354 := Aside0.mk (Kd.V_lower (Kd.V_mono (ok' := fun k_ => (P0_ k_ ∨ w.heap.size ≤ k_)) ho0 (fun k_ hk_ => Or.elim hk_ (fun hs_ => Or.elim hs_ (fun hs_ => hs_.1) (fun hs_ => (.inr (((HO351.out).1 k_ hs_.symm).1)))) (fun hn_ => (.inr (Nat.le_trans (below_size zq16_1) hn_))))) (below_size zq16_1)); replace HO351 := Aside0.mk (Kd.R_below (by (with_reducible repeat (first | apply Kd.R_alloc | apply Kd.R_drewN | apply Kd.R_drew)); exact HO351.out) hb); replace HB := Aside0.mk (below_step zq16_1 hb); (try clear hb); (try clear hb2); (try clear hk); (try clear hi); (try clear ho0)))
  go_ret
  exact ⟨_, by first | rfl | (simp [errW_none, errW_some] <;> rfl) | (simp [*, errW_none, errW_some] <;> rfl), by (with_reducible repeat (first | apply Kd.V_alloc | apply Kd.V_drewN | apply Kd.V_drew)); exact HO354.out, by repeat (first | (with_reducible first | exact HB.out | apply below_alloc | apply pw_below_drewN | apply below_drew1) | exact HB.out)⟩
 ·replace c5 := Bool.eq_false_iff.mpr c5
  subst c5
  have H1 : ((some (([] : List (S27)) : List (S27))).bind fun y355 => (if y355.length + l0.length < 2932031007402 then (some (y355 ++ l0)) else (none))) = some r := by rw [if_neg (show ¬ (false = true) by decide)] at H; exact H
  clear H
  have H := H1
  clear H1
  obtain ⟨y355, hy355⟩ : ∃ y_ : List (S27), y_ = (([] : List (S27))) := ⟨_, rfl⟩
  replace H : (if y355.length + l0.length < 2932031007402 then (some (y355 ++ l0)) else (none)) = some r := by first | (rw [hy355]; with_reducible exact H) | (have H2_ := (Option.bind_some _ _).symm.trans H; rw [hy355]; with_reducible exact H2_) | (have H2_ := (Option.bind_some _ _).symm.trans H; with_reducible exact H2_) | with_reducible exact H | (rw [hy355]; exact H) | exact H
  have Ny355 := Aside0.mk hy355
  clear hy355
  by_cases c14 : y355.length + l0.length < 2932031007402
  ·rw [if_pos c14] at H
   have LMc14 := Aside0.mk c14
   clear c14
   obtain ⟨y358, hy358⟩ : ∃ y_ : List (S27), y_ = (y355 ++ l0) := ⟨_, rfl⟩
   replace H : (some y358) = some r := by first | (rw [hy358]; with_reducible exact H) | (have H2_ := (Option.bind_some _ _).symm.trans H; rw [hy358]; with_reducible exact H2_) | (have H2_ := (Option.bind_some _ _).symm.trans H; with_reducible exact H2_) | with_reducible exact H | (rw [hy358]; exact H) | exact H
   have Ny358 := Aside0.mk hy358
   clear hy358
   obtain rfl := Option.some.inj H
   go_enter Try.func16, Try.ntmps16
   go_wp2_with (first | ((with_reducible refine gate_callee (f := 39) rfl ?_); refine goesL_ (some 8) rfl rfl Try.func39 (by kernel_rfl) rfl #[.string a1] rfl zq16_0 ?_; (with_reducible refine (cenotaphref01_Right.calls k a1 false _ A4.out).mono ?_); rintro e w' ⟨rfl, ⟨nd, rfl⟩⟩; refine ⟨_, rfl, ?_⟩) | ((with_reducible refine gate_dst (N := 10) rfl ?_); refine Kd.N_lit k27 _ 27 ?hg (N' := 10) ?hd (xs := ([] : List (S27))) (inner := []) (ok := (fun k_ => (P0_ k_ ∨ w.heap.size ≤ k_))) (okp := (fun k_ => (P0_ k_ ∨ w.heap.size ≤ k_))) ?hr ?hp (fun _ hk => hk) ((show ∀ k_, w.heap.size ≤ k_ → (fun k_ => (P0_ k_ ∨ w.heap.size ≤ k_)) k_ from fun k_ hk => (.inr (Nat.le_trans (below_size zq16_1) hk))) _ (Nat.le_refl _)) (Below.refl _ _) (Nat.le_refl _) (by simp) ?_; (case hd => rfl); (case hg => rfl); (case hr => first | (go_simp; done) | (go_simp; rfl)); (case hp => exact (Reps.none _ _)); intro v356 w15 ho16 hb hg_ hnew_; clear hg_ hnew_; (first | rw [← Ny355.out] at ho16 | (simp only [Int.reduceToNat] at ho16; rw [← Ny355.out] at ho16)); replace HO0 := Aside0.mk (Kd.V_elder' zq16_2 (Kd.N_base ho16) hb); have HO357 := Aside0.mk (Kd.N_lower ho16 (below_size zq16_1)); replace HB := Aside0.mk (below_step zq16_1 hb); clear hb ho16) | ((with_reducible refine gate_builtin (b := .append) (xs := #[.tmp 10, .tmp 11]) rfl ?_); at_builtin; refine Kd.N_append_rows k27 (w0 := w) w.heap.size rfl (.tmp 10) (.tmp 11) 22 27 (.agg #[(.string ⟨#[]⟩), (.int .i64 0), (.slice none 0 0)]) 48 rfl Try.underlying22 info27 rfl (by decide) (by omega) v356 y355 l0 _ _ _ (fun k_ => (P0_ k_ ∨ w.heap.size ≤ k_)) (fun k_ => ((fun k_ => (P0_ k_ ∨ w.heap.size ≤ k_))) k_ ∧ some k_ ≠ (v356 : Value).ownBlock) rfl rfl ?aO ?aR (fun _ hk => hk) ?aF ?aB ?aS ?aL ?_; (case aR => exact (by skip; exact Kd.V_F (Kd.V_mono (ok' := (fun k_ => ((fun k_ => (P0_ k_ ∨ w.heap.size ≤ k_))) k_ ∧ some k_ ≠ (v356 : Value).ownBlock)) (HO0.out) (fun k_ hk => ⟨hk.1, hk.2⟩)))); (case aB => exact zq16_1); (case aF => exact (fun k_ hk => (.inr (Nat.le_trans (below_size zq16_1) hk)))); (case aO => exact (by (with_reducible repeat (first | apply Kd.N_alloc | apply Kd.N_drewN | apply Kd.N_drew)); exact HO357.out)); (case aS => exact (below_size zq16_1)); (case aL => have := LMc14.out; omega); intro v359 w17 ho hb hg hat; rw [← Ny358.out] at ho; replace HO0 := Aside0.mk (Kd.V_afterv (ok := (fun k_ => (P0_ k_ ∨ w.heap.size ≤ k_))) zq16_2 hg hat); replace HB := Aside0.mk (hb); have HO360 := Aside0.mk (ho); clear HO357; clear ho hb hg hat))
   go_ret
   exact ⟨_, by first | rfl | (simp [errW_none, errW_some] <;> rfl) | (simp [*, errW_none, errW_some] <;> rfl), Kd.N_V (by (with_reducible repeat (first | apply Kd.N_alloc | apply Kd.N_drewN | apply Kd.N_drew)); exact HO360.out), by repeat (first | (with_reducible first | exact HB.out | apply below_alloc | apply pw_below_drewN | apply below_drew1) | exact HB.out)⟩
  ·rw [if_neg c14] at H
   exact absurd H (by simp)

/-! ### cenotaphref04_Has: function 23 -/
def cenotaphref04_Has.f (k : Nat) (l0 : List (S27)) (a1 : ByteArray) (a2 : Int) : Option (Bool) := (cenotaphref04_Of.f k l0 a1).bind fun bt361 => ((cenotaphref02_Has.f k bt361.1 bt361.2 a2).bind fun t365 => (some t365))
theorem cenotaphref04_Has.mono : ∀ a0 a1 a2 k, LeO (cenotaphref04_Has.f k a0 a1 a2) (cenotaphref04_Has.f (k + 1) a0 a1 a2) := by
  intro a0 a1 a2 k
  unfold cenotaphref04_Has.f
  repeat' first
      | (with_reducible exact cenotaphref02_Has.mono _ _ _ _)
      | (with_reducible exact cenotaphref04_Of.mono _ _ _)
      | (with_reducible exact LeO.refl _)
      | (with_reducible exact LeO.none _)
      | (with_reducible refine LeO.ite ?_ ?_)
      | (with_reducible refine LeO.bind ?_ (fun _ => ?_))
      | exact cenotaphref02_Has.mono _ _ _ _
      | exact cenotaphref04_Of.mono _ _ _
      | exact LeO.none _
      | refine LeO.ite ?_ ?_
      | refine LeO.bind ?_ (fun _ => ?_)
set_option maxHeartbeats 8000000 in
set_option maxRecDepth 100000 in
theorem cenotaphref04_Has.calls (k : Nat) (A0 : Option Addr) (c0 : Nat) (l0 : List (S27)) (a1 : ByteArray) (a2 : Int) (r : Bool) (w : World) (hr0 : Kd.C k27 w A0 l0.length l0) (hc0 : l0.length ≤ c0) (h : cenotaphref04_Has.f k l0 a1 a2 = some r) :
    Calls Try.prog 23 #[.slice A0 l0.length c0, .string a1, .int .i64 a2] w fun e w' => e = .returned (.bool r) ∧ Below w.heap.size w w' := by
  have HR0 := Aside0.mk hr0
  have HC0 := Aside0.mk hc0
  clear hr0 hc0
  have HB := Aside0.mk (Below.refl w.heap.size w)
  have H : ((cenotaphref04_Of.f k l0 a1).bind fun bt361 => ((cenotaphref02_Has.f k bt361.1 bt361.2 a2).bind fun t365 => (some t365))) = some r := h
  clear h
  replace H := Option.bind_eq_some_iff.mp H
  obtain ⟨⟨t361, t362⟩, A40, H⟩ := H
  have A4 := Aside0.mk A40
  clear A40
  replace H := Option.bind_eq_some_iff.mp H
  obtain ⟨t365, A50, H⟩ := H
  have A5 := Aside0.mk A50
  clear A50
  obtain rfl := Option.some.inj H
  go_enter Try.func23, Try.ntmps23
  go_wp2_with (first | ((with_reducible refine gate_callee (f := 21) rfl ?_); refine goesL_ (some 9) rfl rfl Try.func21 (by kernel_rfl) rfl #[.slice A0 l0.length c0, .string a1] rfl (by (try simp only [List.map_toArray, List.map_cons, List.map_nil]); first | done | rfl | (simp only [List.length_drop, List.length_take]; rfl)) ?_; (with_reducible refine (cenotaphref04_Of.calls k (fun k_ => k_ < w.heap.size) _ _ l0 a1 t361 t362 _ ?side1 A4.out).mono ?_); (case side1 => exact Kd.V_mk HC0.out (Kd.F_below (Kd.C_F k27_heap HR0.out) (by repeat (first | (with_reducible first | exact HB.out | apply below_alloc | apply pw_below_drewN | apply below_drew1) | exact HB.out)))); rintro e w6 ⟨v363, rfl, ho0, hb⟩; refine ⟨_, rfl, ?_⟩; have HO364 := Aside0.mk (Kd.V_lower (Kd.V_mono (ok' := fun k_ => True) ho0 (fun k_ hk_ => trivial)) (below_size (by repeat (first | (with_reducible first | exact HB.out | apply below_alloc | apply pw_below_drewN | apply below_drew1) | exact HB.out)))); replace HB := Aside0.mk (below_step (by repeat (first | (with_reducible first | exact HB.out | apply below_alloc | apply pw_below_drewN | apply below_drew1) | exact HB.out)) hb); (try clear hb); (try clear hb2); (try clear hk); (try clear hi); (try clear ho0); obtain ⟨Ao7, co7, eo7⟩ := Kd.V_slice HO364.out; subst eo7) | ((with_reducible refine gate_callee (f := 55) rfl ?_); refine goesL_ (some 11) rfl rfl Try.func55 (by kernel_rfl) rfl #[.agg #[.int .i64 t361, .slice Ao7 t362.length co7], .int .i64 a2] rfl (by (try simp only [List.map_toArray, List.map_cons, List.map_nil]); first | done | rfl | (simp only [List.length_drop, List.length_take]; rfl)) ?_; (with_reducible refine (cenotaphref02_Has.calls k t361 _ _ t362 a2 t365 _ ?side1 ?side2 A5.out).mono ?_); (case side1 => repeat (first | exact (Kd.V_reads' HO364.out).2.2 | (with_reducible refine Kd.C_alloc ?_ _) | (with_reducible refine Kd.C_drewN ?_ _) | (with_reducible refine Kd.C_drew ?_))); (case side2 => exact (Kd.V_reads' HO364.out).2.1); rintro e w8 ⟨rfl, hb⟩; refine ⟨_, rfl, ?_⟩; replace HO364 := Aside0.mk (Kd.V_below (by (with_reducible repeat (first | apply Kd.V_alloc | apply Kd.V_drewN | apply Kd.V_drew)); exact HO364.out) hb); replace HB := Aside0.mk (below_step (by repeat (first | (with_reducible first | exact HB.out | apply below_alloc | apply pw_below_drewN | apply below_drew1) | exact HB.out)) hb); (try clear hb); (try clear hb2); (try clear hk); (try clear hi)))
  go_ret
  exact ⟨by first | rfl | (simp [errW_none, errW_some] <;> rfl) | (simp [*, errW_none, errW_some] <;> rfl), by repeat (first | (with_reducible first | exact HB.out | apply below_alloc | apply pw_below_drewN | apply below_drew1) | exact HB.out)⟩

/-! ### cenotaphref04_Count: function 25 -/
def cenotaphref04_Count.l0 : Nat → List (S27) → Int → Int → Option (Int)
  | 0, _, _, _ => none
  | k + 1, x0, x3, x4 => if x4 < (x0.length : Int) then (if 0 ≤ x4 then ((cenotaphref02_Count.f ((rd_T27 x0 x4).f1.f0) ((rd_T27 x0 x4).f1.f1)).bind fun t367 => (cenotaphref04_Count.l0 k x0 (wrap64 (x3 + t367)) (wrap64 (x4 + 1)))) else (none)) else (some x3)
def cenotaphref04_Count.f (k : Nat) (l0 : List (S27)) : Option (Int) := cenotaphref04_Count.l0 k l0 0 0
theorem cenotaphref04_Count.mono_l : ∀ k, (∀ y0 y1 y2, LeO (cenotaphref04_Count.l0 k y0 y1 y2) (cenotaphref04_Count.l0 (k + 1) y0 y1 y2))
  | 0 => fun _ _ _ r h => by simp [cenotaphref04_Count.l0] at h
  | k + 1 => by
    have ih0 := cenotaphref04_Count.mono_l k
    · intro y0 y1 y2
      unfold cenotaphref04_Count.l0
      repeat' first
      | (with_reducible exact ih0 _ _ _)
      | (with_reducible exact LeO.refl _)
      | (with_reducible exact LeO.none _)
      | (with_reducible refine LeO.ite ?_ ?_)
      | (with_reducible refine LeO.bind ?_ (fun _ => ?_))
      | exact ih0 _ _ _
      | exact LeO.none _
      | refine LeO.ite ?_ ?_
      | refine LeO.bind ?_ (fun _ => ?_)
theorem cenotaphref04_Count.mono : ∀ a0 k, LeO (cenotaphref04_Count.f k a0) (cenotaphref04_Count.f (k + 1) a0) := by
  intro a0 k
  have ih0 := cenotaphref04_Count.mono_l k
  unfold cenotaphref04_Count.f
  repeat' first
      | (with_reducible exact ih0 _ _ _)
      | (with_reducible exact LeO.refl _)
      | (with_reducible exact LeO.none _)
      | (with_reducible refine LeO.ite ?_ ?_)
      | (with_reducible refine LeO.bind ?_ (fun _ => ?_))
      | exact ih0 _ _ _
      | exact LeO.none _
      | refine LeO.ite ?_ ?_
      | refine LeO.bind ?_ (fun _ => ?_)
set_option maxHeartbeats 8000000 in
set_option maxRecDepth 100000 in
theorem cenotaphref04_Count.calls (k : Nat) (A0 : Option Addr) (c0 : Nat) (l0 : List (S27)) (r : Int) (w : World) (hr0 : Kd.C k27 w A0 l0.length l0) (hc0 : l0.length ≤ c0) (h : cenotaphref04_Count.f k l0 = some r) :
    Calls Try.prog 25 #[.slice A0 l0.length c0] w fun e w' => e = .returned (.int .i64 r) ∧ Below w.heap.size w w' := by
  have hu25 := Try.underlying25
  have HR0 := Aside0.mk hr0
  have HC0 := Aside0.mk hc0
  clear hr0 hc0
  have HB := Aside0.mk (Below.refl w.heap.size w)
  have H : (cenotaphref04_Count.l0 k l0 0 0) = some r := h
  clear h
  have H' := Aside0.mk H
  clear H
  go_enter Try.func25, Try.ntmps25
  go_wp2
  go_loopg [3, 4] k (fun kq v3 v4 w' => ∃ (x3_1 : Int) (x4_1 : Int), v3 = .int .i64 x3_1 ∧ v4 = .int .i64 x4_1 ∧ Aside0 (cenotaphref04_Count.l0 kq l0 x3_1 x4_1 = some r) ∧ Aside0 (kq ≤ k) ∧ Aside0 (Below w.heap.size w w'))
  case atStart => exact ⟨(0), (0), (by first | rfl | (simp; done) | (simp [*]; done)), (by first | rfl | (simp; done) | (simp [*]; done)), H', ⟨Nat.le_refl _⟩, ⟨by repeat (first | (with_reducible first | exact HB.out | apply below_alloc | apply pw_below_drewN | apply below_drew1) | exact HB.out)⟩⟩
  case round =>
    clear H'
    obtain ⟨x3_1, x4_1, rfl, rfl, HA, HK1, HB⟩ := hrel
    cases gk with
    | zero => exact absurd HA.out (by simp [cenotaphref04_Count.l0])
    | succ k1 =>
      have H := HA.out
      clear HA
      simp only [cenotaphref04_Count.l0] at H
      by_cases c2 : x4_1 < (l0.length : Int)
      · rw [if_pos c2] at H
        have c2b0 : decide (x4_1 < (l0.length : Int)) = true := decide_eq_true c2
        clear c2
        by_cases c3 : 0 ≤ x4_1
        · rw [if_pos c3] at H
          have c3b0 : decide (0 ≤ x4_1) = true := decide_eq_true c3
          clear c3
          replace H := Option.bind_eq_some_iff.mp H
          obtain ⟨t367, A40, H⟩ := H
          have A4 := Aside0.mk A40
          clear A40
          have H' := Aside0.mk H
          clear H
          have p366 : 0 ≤ (x4_1 : Int) := of_decide_eq_true (by first | (with_reducible assumption) | assumption)
          have q366 : x4_1 < (l0.length : Int) := of_decide_eq_true (by first | (with_reducible assumption) | assumption)
          obtain ⟨ad366, A366_2, c366_2, e366, hx366_0, hx366_1, hx366_2, hl366_2, hi366_2⟩ := at_T27 HR0.out x4_1 p366 q366
          cases e366
          replace hx366_0 := (HB.out.cell (World.block_lt_of_cell? w _ hx366_0)).trans hx366_0
          replace hx366_1 := (HB.out.cell (World.block_lt_of_cell? w _ hx366_1)).trans hx366_1
          replace hx366_2 := (HB.out.cell (World.block_lt_of_cell? w _ hx366_2)).trans hx366_2
          have HR366_2 := Aside0.mk hi366_2
          have HC366_2 := Aside0.mk hl366_2
          clear hi366_2 hl366_2
          replace p366 := eq_true p366
          replace q366 := eq_true q366
          go_wp2_with (first | ((with_reducible refine gate_callee (f := 41) rfl ?_); refine goesL_ (some 17) rfl rfl Try.func41 (by kernel_rfl) rfl #[.agg #[.int .i64 ((rd_T27 l0 x4_1).f1.f0), .slice A366_2 ((rd_T27 l0 x4_1).f1.f1).length c366_2]] rfl (by (try simp only [List.map_toArray, List.map_cons, List.map_nil]); first | done | rfl | (simp only [List.length_drop, List.length_take]; rfl)) ?_; (with_reducible refine (cenotaphref02_Count.calls ((rd_T27 l0 x4_1).f1.f0) _ _ ((rd_T27 l0 x4_1).f1.f1) t367 _ ?side1 ?side2 A4.out).mono ?_); (case side1 => repeat (first | exact (Kd.C_below HR366_2.out HB.out) | (with_reducible refine Kd.C_alloc ?_ _) | (with_reducible refine Kd.C_drewN ?_ _) | (with_reducible refine Kd.C_drew ?_))); (case side2 => exact HC366_2.out); rintro e w5 ⟨rfl, hb⟩; refine ⟨_, rfl, ?_⟩; replace HB := Aside0.mk (below_step (by repeat (first | (with_reducible first | exact HB.out | apply below_alloc | apply pw_below_drewN | apply below_drew1) | exact HB.out)) hb); (try clear hb); (try clear hb2); (try clear hk); (try clear hi)))
          go_roundg k1
          case measure => have := HK1.out; omega
          case rel => exact ⟨(wrap64 (x3_1 + t367)), (wrap64 (x4_1 + 1)), (by first | rfl | (simp; done) | (simp [*]; done)), (by first | rfl | (simp; done) | (simp [*]; done)), H', ⟨by have := HK1.out; omega⟩, ⟨by repeat (first | (with_reducible first | exact HB.out | apply below_alloc | apply pw_below_drewN | apply below_drew1) | exact HB.out)⟩⟩
        · rw [if_neg c3] at H
          exact absurd H (by simp)
      · rw [if_neg c2] at H
        have c2b0 : decide (x4_1 < (l0.length : Int)) = false := decide_eq_false c2
        clear c2
        obtain rfl := Option.some.inj H
        go_wp2
        go_ret
        exact ⟨by first | rfl | (simp [errW_none, errW_some] <;> rfl) | (simp [*, errW_none, errW_some] <;> rfl), by repeat (first | (with_reducible first | exact HB.out | apply below_alloc | apply pw_below_drewN | apply below_drew1) | exact HB.out)⟩

/-! ### cenotaphref04_Extras: function 27 -/
def cenotaphref04_Extras.l0 : Nat → List (S27) → Int → Int → Option (Int)
  | 0, _, _, _ => none
  | k + 1, x0, x3, x4 => if x4 < (x0.length : Int) then (if 0 ≤ x4 then (cenotaphref04_Extras.l0 k x0 (wrap64 (x3 + (((rd_T27 x0 x4).f1.f1).length : Int))) (wrap64 (x4 + 1))) else (none)) else (some x3)
def cenotaphref04_Extras.f (k : Nat) (l0 : List (S27)) : Option (Int) := cenotaphref04_Extras.l0 k l0 0 0
theorem cenotaphref04_Extras.mono_l : ∀ k, (∀ y0 y1 y2, LeO (cenotaphref04_Extras.l0 k y0 y1 y2) (cenotaphref04_Extras.l0 (k + 1) y0 y1 y2))
  | 0 => fun _ _ _ r h => by simp [cenotaphref04_Extras.l0] at h
  | k + 1 => by
    have ih0 := cenotaphref04_Extras.mono_l k
    · intro y0 y1 y2
      unfold cenotaphref04_Extras.l0
      repeat' first
      | (with_reducible exact ih0 _ _ _)
      | (with_reducible exact LeO.refl _)
      | (with_reducible exact LeO.none _)
      | (with_reducible refine LeO.ite ?_ ?_)
      | (with_reducible refine LeO.bind ?_ (fun _ => ?_))
      | exact ih0 _ _ _
      | exact LeO.none _
      | refine LeO.ite ?_ ?_
      | refine LeO.bind ?_ (fun _ => ?_)
theorem cenotaphref04_Extras.mono : ∀ a0 k, LeO (cenotaphref04_Extras.f k a0) (cenotaphref04_Extras.f (k + 1) a0) := by
  intro a0 k
  have ih0 := cenotaphref04_Extras.mono_l k
  unfold cenotaphref04_Extras.f
  repeat' first
      | (with_reducible exact ih0 _ _ _)
      | (with_reducible exact LeO.refl _)
      | (with_reducible exact LeO.none _)
      | (with_reducible refine LeO.ite ?_ ?_)
      | (with_reducible refine LeO.bind ?_ (fun _ => ?_))
      | exact ih0 _ _ _
      | exact LeO.none _
      | refine LeO.ite ?_ ?_
      | refine LeO.bind ?_ (fun _ => ?_)
set_option maxHeartbeats 8000000 in
set_option maxRecDepth 100000 in
theorem cenotaphref04_Extras.calls (k : Nat) (A0 : Option Addr) (c0 : Nat) (l0 : List (S27)) (r : Int) (w : World) (hr0 : Kd.C k27 w A0 l0.length l0) (hc0 : l0.length ≤ c0) (h : cenotaphref04_Extras.f k l0 = some r) :
    Calls Try.prog 27 #[.slice A0 l0.length c0] w fun e w' => e = .returned (.int .i64 r) ∧ Drawn0 w w' := by
  have HR0 := Aside0.mk hr0
  have HC0 := Aside0.mk hc0
  clear hr0 hc0
  have H : (cenotaphref04_Extras.l0 k l0 0 0) = some r := h
  clear h
  have H' := Aside0.mk H
  clear H
  go_enter Try.func27, Try.ntmps27
  go_wp2
  go_loopg [3, 4] k (fun kq v3 v4 w' => ∃ (x3_1 : Int) (x4_1 : Int), v3 = .int .i64 x3_1 ∧ v4 = .int .i64 x4_1 ∧ Aside0 (cenotaphref04_Extras.l0 kq l0 x3_1 x4_1 = some r) ∧ Aside0 (kq ≤ k) ∧ Drawn0 w w')
  case atStart => exact ⟨(0), (0), (by first | rfl | (simp; done) | (simp [*]; done)), (by first | rfl | (simp; done) | (simp [*]; done)), H', ⟨Nat.le_refl _⟩, by repeat (first | exact Drawn0.refl _ | apply Drawn0.step)⟩
  case round =>
    clear H'
    obtain ⟨x3_1, x4_1, rfl, rfl, HA, HK1, ⟨m1, rfl⟩⟩ := hrel
    cases gk with
    | zero => exact absurd HA.out (by simp [cenotaphref04_Extras.l0])
    | succ k1 =>
      have H := HA.out
      clear HA
      simp only [cenotaphref04_Extras.l0] at H
      by_cases c2 : x4_1 < (l0.length : Int)
      · rw [if_pos c2] at H
        have c2b0 : decide (x4_1 < (l0.length : Int)) = true := decide_eq_true c2
        clear c2
        by_cases c3 : 0 ≤ x4_1
        · rw [if_pos c3] at H
          have c3b0 : decide (0 ≤ x4_1) = true := decide_eq_true c3
          clear c3
          have H' := Aside0.mk H
          clear H
          have p368 : 0 ≤ (x4_1 : Int) := of_decide_eq_true (by first | (with_reducible assumption) | assumption)
          have q368 : x4_1 < (l0.length : Int) := of_decide_eq_true (by first | (with_reducible assumption) | assumption)
          obtain ⟨ad368, A368_2, c368_2, e368, hx368_0, hx368_1, hx368_2, hl368_2, hi368_2⟩ := at_T27 HR0.out x4_1 p368 q368
          cases e368
          have HR368_2 := Aside0.mk hi368_2
          have HC368_2 := Aside0.mk hl368_2
          clear hi368_2 hl368_2
          replace p368 := eq_true p368
          replace q368 := eq_true q368
          go_wp2
          go_roundg k1
          case measure => have := HK1.out; omega
          case rel => exact ⟨(wrap64 (x3_1 + (((rd_T27 l0 x4_1).f1.f1).length : Int))), (wrap64 (x4_1 + 1)), (by first | rfl | (simp; done) | (simp [*]; done)), (by first | rfl | (simp; done) | (simp [*]; done)), H', ⟨by have := HK1.out; omega⟩, by repeat (first | exact Drawn0.refl _ | apply Drawn0.step)⟩
        · rw [if_neg c3] at H
          exact absurd H (by simp)
      · rw [if_neg c2] at H
        have c2b0 : decide (x4_1 < (l0.length : Int)) = false := decide_eq_false c2
        clear c2
        obtain rfl := Option.some.inj H
        go_wp2
        go_ret
        exact ⟨by first | rfl | (simp; done) | (simp [*]; done), by repeat (first | exact Drawn0.refl _ | apply Drawn0.step)⟩

/-! ### cenotaphlaw04_KnowAdds: function 4 -/
theorem zq4x_0 {p_ : Prop} (h_ : p_ := by (try simp only [List.map_toArray, List.map_cons, List.map_nil]); first | done | rfl | (simp only [List.length_drop, List.length_take]; rfl)) : p_ := h_
theorem zq4x_1 {p_ : Prop} (h_ : p_ := by repeat (first | (with_reducible first | exact HB.out | apply below_alloc | apply pw_below_drewN | apply below_drew1) | exact HB.out)) : p_ := h_
theorem zq4x_2 {p_ : Prop} (h_ : p_ := by (with_reducible repeat (first | apply Kd.V_alloc | apply Kd.V_drewN | apply Kd.V_drew)); exact HO371.out) : p_ := h_
theorem zq4x_3 {p_ : Prop} (h_ : p_ := by (with_reducible repeat (first | apply Kd.N_alloc | apply Kd.N_drewN | apply Kd.N_drew)); exact HO374.out) : p_ := h_
theorem zq4x_4 {p_ : Prop} (h_ : p_ := by (with_reducible repeat (first | apply Kd.V_alloc | apply Kd.V_drewN | apply Kd.V_drew)); exact HO377.out) : p_ := h_
theorem zq4x_5 {p_ : Prop} (h_ : p_ := by (with_reducible repeat (first | apply Kd.V_alloc | apply Kd.V_drewN | apply Kd.V_drew)); exact HO380.out) : p_ := h_
theorem zq4x_6 {p_ : Prop} (h_ : p_ := by (with_reducible repeat (first | apply Kd.N_alloc | apply Kd.N_drewN | apply Kd.N_drew)); exact HO384.out) : p_ := h_
theorem zq4x_7 {p_ : Prop} (h_ : p_ := by (with_reducible repeat (first | apply Kd.V_alloc | apply Kd.V_drewN | apply Kd.V_drew)); exact HO387.out) : p_ := h_
theorem zq4x_8 {p_ : Prop} (h_ : p_ := by (with_reducible repeat (first | apply Kd.N_alloc | apply Kd.N_drewN | apply Kd.N_drew)); exact HO391.out) : p_ := h_
theorem zq4x_9 {p_ : Prop} (h_ : p_ := by (with_reducible repeat (first | apply Kd.N_alloc | apply Kd.N_drewN | apply Kd.N_drew)); exact HO394.out) : p_ := h_
theorem zq4x_10 {p_ : Prop} (h_ : p_ := by (with_reducible repeat (first | apply Kd.R_alloc | apply Kd.R_drewN | apply Kd.R_drew)); exact HO399.out) : p_ := h_
theorem zq4x_11 {p_ : Prop} (h_ : p_ := by (with_reducible repeat (first | apply Kd.R_alloc | apply Kd.R_drewN | apply Kd.R_drew)); exact HO403.out) : p_ := h_
theorem zq4x_12 {p_ : Prop} (h_ : p_ := by (with_reducible repeat (first | apply Kd.V_alloc | apply Kd.V_drewN | apply Kd.V_drew)); exact HO407.out) : p_ := h_
def cenotaphlaw04_KnowAdds.f (k : Nat) (l0 : List (S27)) (a1 : ByteArray) (a2 : Int) : Option (Bool) := (cenotaphref04_Fix.f k l0).bind fun t369 => ((cenotaphlaw04_To.f k t369).bind fun t372 => ((know_Add.f k t372 a1 a2).bind fun t375 => ((know_Drop.f t372 a1).bind fun t378 => ((cenotaphlaw04_told.f k).bind fun t381 => (if t381 = true then ((cenotaphlaw04_From.f k t375).bind fun t382 => ((cenotaphref04_Add.f k t369 a1 a2).bind fun t385 => ((cenotaphref04_Same.f k t382 t385).bind fun t388 => (if t388 = true then ((cenotaphlaw04_From.f k t378).bind fun t389 => ((cenotaphref04_Drop.f k t369 a1).bind fun t392 => ((cenotaphref04_Same.f k t389 t392).bind fun t395 => (if t395 = true then ((know_Of.f t372 a1).bind fun bt396 => ((cenotaphlaw02_From.f bt396.1 bt396.2).bind fun bt400 => ((cenotaphref04_Of.f k t369 a1).bind fun bt404 => ((cenotaphref02_Same.f k bt400.1 bt400.2 bt404.1 bt404.2).bind fun t408 => (if t408 = true then ((know_Has.f k t372 a1 a2).bind fun t409 => ((cenotaphref04_Has.f k t369 a1 a2).bind fun t410 => (if (t409 != t410) = true then (none) else ((know_Right.f k t375).bind fun t411 => (if t411 = true then ((know_Right.f k t378).bind fun t412 => (if t412 = true then ((know_Count.f k t372).bind fun t413 => ((cenotaphref04_Count.f k t369).bind fun t414 => (if t413 = t414 then ((know_Extras.f k t372).bind fun t415 => ((cenotaphref04_Extras.f k t369).bind fun t416 => (if t415 = t416 then ((cenotaphlaw04_From.f k t372).bind fun t417 => ((cenotaphref04_Same.f k t417 t369).bind fun t420 => (some t420))) else (none)))) else (none)))) else (none))) else (none)))))) else (none)))))) else (none))))) else (none))))) else (none))))))
theorem cenotaphlaw04_KnowAdds.mono : ∀ a0 a1 a2 k, LeO (cenotaphlaw04_KnowAdds.f k a0 a1 a2) (cenotaphlaw04_KnowAdds.f (k + 1) a0 a1 a2) := by
 intro a0 a1 a2 k
 unfold cenotaphlaw04_KnowAdds.f
 repeat' first
   | (with_reducible exact cenotaphlaw04_From.mono _ _)
   | (with_reducible exact cenotaphlaw04_To.mono _ _)
   | (with_reducible exact cenotaphlaw04_told.mono _)
   | (with_reducible exact cenotaphref02_Same.mono _ _ _ _ _)
   | (with_reducible exact cenotaphref04_Add.mono _ _ _ _)
   | (with_reducible exact cenotaphref04_Count.mono _ _)
   | (with_reducible exact cenotaphref04_Drop.mono _ _ _)
   | (with_reducible exact cenotaphref04_Extras.mono _ _)
   | (with_reducible exact cenotaphref04_Fix.mono _ _)
   | (with_reducible exact cenotaphref04_Has.mono _ _ _ _)
   | (with_reducible exact cenotaphref04_Of.mono _ _ _)
   | (with_reducible exact cenotaphref04_Same.mono _ _ _)
   | (with_reducible exact know_Add.mono _ _ _ _)
   | (with_reducible exact know_Count.mono _ _)
   | (with_reducible exact know_Extras.mono _ _)
   | (with_reducible exact know_Has.mono _ _ _ _)
   | (with_reducible exact know_Right.mono _ _)
   | (with_reducible exact LeO.refl _)
   | (with_reducible exact LeO.none _)
   | (with_reducible refine LeO.ite ?_ ?_)
   | (with_reducible refine LeO.bind ?_ (fun _ => ?_))
   | exact cenotaphlaw04_From.mono _ _
   | exact cenotaphlaw04_To.mono _ _
   | exact cenotaphlaw04_told.mono _
   | exact cenotaphref02_Same.mono _ _ _ _ _
   | exact cenotaphref04_Add.mono _ _ _ _
   | exact cenotaphref04_Count.mono _ _
   | exact cenotaphref04_Drop.mono _ _ _
   | exact cenotaphref04_Extras.mono _ _
   | exact cenotaphref04_Fix.mono _ _
   | exact cenotaphref04_Has.mono _ _ _ _
   | exact cenotaphref04_Of.mono _ _ _
   | exact cenotaphref04_Same.mono _ _ _
   | exact know_Add.mono _ _ _ _
   | exact know_Count.mono _ _
   | exact know_Extras.mono _ _
   | exact know_Has.mono _ _ _ _
   | exact know_Right.mono _ _
   | exact LeO.none _
   | refine LeO.ite ?_ ?_
   | refine LeO.bind ?_ (fun _ => ?_)
set_option maxHeartbeats 8000000 in
set_option maxRecDepth 100000 in
theorem cenotaphlaw04_KnowAdds.calls (k : Nat) (A0 : Option Addr) (c0 : Nat) (l0 : List (S27)) (a1 : ByteArray) (a2 : Int) (r : Bool) (w : World) (hr0 : Kd.C k27 w A0 l0.length l0) (hc0 : l0.length ≤ c0) (h : cenotaphlaw04_KnowAdds.f k l0 a1 a2 = some r) :
  Calls Try.prog 4 #[.slice A0 l0.length c0, .string a1, .int .i64 a2] w fun e w' => e = .returned (.bool r) ∧ Below w.heap.size w w' := by
 have HR0 := Aside0.mk hr0
 have HC0 := Aside0.mk hc0
 clear hr0 hc0
 have HB := Aside0.mk (Below.refl w.heap.size w)
 have H := h
 unfold cenotaphlaw04_KnowAdds.f at H
 clear h
 replace H := Option.bind_eq_some_iff.mp H
 obtain ⟨t369, A40, H⟩ := H
 have A4 := Aside0.mk A40
 clear A40
 replace H := Option.bind_eq_some_iff.mp H
 obtain ⟨t372, A50, H⟩ := H
 have A5 := Aside0.mk A50
 clear A50
 replace H := Option.bind_eq_some_iff.mp H
 obtain ⟨t375, A60, H⟩ := H
 have A6 := Aside0.mk A60
 clear A60
 replace H := Option.bind_eq_some_iff.mp H
 obtain ⟨t378, A70, H⟩ := H
 have A7 := Aside0.mk A70
 clear A70
 replace H := Option.bind_eq_some_iff.mp H
 obtain ⟨t381, A80, H⟩ := H
 have A8 := Aside0.mk A80
 clear A80
 by_cases c9 : t381 = true
 ·subst c9
  have H1 : ((cenotaphlaw04_From.f k t375).bind fun t382 => ((cenotaphref04_Add.f k t369 a1 a2).bind fun t385 => ((cenotaphref04_Same.f k t382 t385).bind fun t388 => (if t388 = true then ((cenotaphlaw04_From.f k t378).bind fun t389 => ((cenotaphref04_Drop.f k t369 a1).bind fun t392 => ((cenotaphref04_Same.f k t389 t392).bind fun t395 => (if t395 = true then ((know_Of.f t372 a1).bind fun bt396 => ((cenotaphlaw02_From.f bt396.1 bt396.2).bind fun bt400 => ((cenotaphref04_Of.f k t369 a1).bind fun bt404 => ((cenotaphref02_Same.f k bt400.1 bt400.2 bt404.1 bt404.2).bind fun t408 => (if t408 = true then ((know_Has.f k t372 a1 a2).bind fun t409 => ((cenotaphref04_Has.f k t369 a1 a2).bind fun t410 => (if (t409 != t410) = true then (none) else ((know_Right.f k t375).bind fun t411 => (if t411 = true then ((know_Right.f k t378).bind fun t412 => (if t412 = true then ((know_Count.f k t372).bind fun t413 => ((cenotaphref04_Count.f k t369).bind fun t414 => (if t413 = t414 then ((know_Extras.f k t372).bind fun t415 => ((cenotaphref04_Extras.f k t369).bind fun t416 => (if t415 = t416 then ((cenotaphlaw04_From.f k t372).bind fun t417 => ((cenotaphref04_Same.f k t417 t369).bind fun t420 => (some t420))) else (none)))) else (none)))) else (none))) else (none)))))) else (none)))))) else (none))))) else (none))))) = some r := by rw [if_pos rfl] at H; exact H
  clear H
  have H := H1
  clear H1
  replace H := Option.bind_eq_some_iff.mp H
  obtain ⟨t382, A100, H⟩ := H
  have A10 := Aside0.mk A100
  clear A100
  replace H := Option.bind_eq_some_iff.mp H
  obtain ⟨t385, A110, H⟩ := H
  have A11 := Aside0.mk A110
  clear A110
  replace H := Option.bind_eq_some_iff.mp H
  obtain ⟨t388, A120, H⟩ := H
  have A12 := Aside0.mk A120
  clear A120
  by_cases c13 : t388 = true
  ·subst c13
   have H1 : ((cenotaphlaw04_From.f k t378).bind fun t389 => ((cenotaphref04_Drop.f k t369 a1).bind fun t392 => ((cenotaphref04_Same.f k t389 t392).bind fun t395 => (if t395 = true then ((know_Of.f t372 a1).bind fun bt396 => ((cenotaphlaw02_From.f bt396.1 bt396.2).bind fun bt400 => ((cenotaphref04_Of.f k t369 a1).bind fun bt404 => ((cenotaphref02_Same.f k bt400.1 bt400.2 bt404.1 bt404.2).bind fun t408 => (if t408 = true then ((know_Has.f k t372 a1 a2).bind fun t409 => ((cenotaphref04_Has.f k t369 a1 a2).bind fun t410 => (if (t409 != t410) = true then (none) else ((know_Right.f k t375).bind fun t411 => (if t411 = true then ((know_Right.f k t378).bind fun t412 => (if t412 = true then ((know_Count.f k t372).bind fun t413 => ((cenotaphref04_Count.f k t369).bind fun t414 => (if t413 = t414 then ((know_Extras.f k t372).bind fun t415 => ((cenotaphref04_Extras.f k t369).bind fun t416 => (if t415 = t416 then ((cenotaphlaw04_From.f k t372).bind fun t417 => ((cenotaphref04_Same.f k t417 t369).bind fun t420 => (some t420))) else (none)))) else (none)))) else (none))) else (none)))))) else (none)))))) else (none))))) = some r := by rw [if_pos rfl] at H; exact H
   clear H
   have H := H1
   clear H1
   replace H := Option.bind_eq_some_iff.mp H
   obtain ⟨t389, A140, H⟩ := H
   have A14 := Aside0.mk A140
   clear A140
   replace H := Option.bind_eq_some_iff.mp H
   obtain ⟨t392, A150, H⟩ := H
   have A15 := Aside0.mk A150
   clear A150
   replace H := Option.bind_eq_some_iff.mp H
   obtain ⟨t395, A160, H⟩ := H
   have A16 := Aside0.mk A160
   clear A160
   by_cases c17 : t395 = true
   ·subst c17
    have H1 : ((know_Of.f t372 a1).bind fun bt396 => ((cenotaphlaw02_From.f bt396.1 bt396.2).bind fun bt400 => ((cenotaphref04_Of.f k t369 a1).bind fun bt404 => ((cenotaphref02_Same.f k bt400.1 bt400.2 bt404.1 bt404.2).bind fun t408 => (if t408 = true then ((know_Has.f k t372 a1 a2).bind fun t409 => ((cenotaphref04_Has.f k t369 a1 a2).bind fun t410 => (if (t409 != t410) = true then (none) else ((know_Right.f k t375).bind fun t411 => (if t411 = true then ((know_Right.f k t378).bind fun t412 => (if t412 = true then ((know_Count.f k t372).bind fun t413 => ((cenotaphref04_Count.f k t369).bind fun t414 => (if t413 = t414 then ((know_Extras.f k t372).bind fun t415 => ((cenotaphref04_Extras.f k t369).bind fun t416 => (if t415 = t416 then ((cenotaphlaw04_From.f k t372).bind fun t417 => ((cenotaphref04_Same.f k t417 t369).bind fun t420 => (some t420))) else (none)))) else (none)))) else (none))) else (none)))))) else (none)))))) = some r := by rw [if_pos rfl] at H; exact H
    clear H
    have H := H1
    clear H1
    replace H := Option.bind_eq_some_iff.mp H
    obtain ⟨⟨t396, t397⟩, A180, H⟩ := H
    have A18 := Aside0.mk A180
    clear A180
    replace H := Option.bind_eq_some_iff.mp H
    obtain ⟨⟨t400, t401⟩, A190, H⟩ := H
    have A19 := Aside0.mk A190
    clear A190
    replace H := Option.bind_eq_some_iff.mp H
    obtain ⟨⟨t404, t405⟩, A200, H⟩ := H
    have A20 := Aside0.mk A200
    clear A200
    replace H := Option.bind_eq_some_iff.mp H
    obtain ⟨t408, A210, H⟩ := H
    have A21 := Aside0.mk A210
    clear A210
    by_cases c22 : t408 = true
    ·subst c22
     have H1 : ((know_Has.f k t372 a1 a2).bind fun t409 => ((cenotaphref04_Has.f k t369 a1 a2).bind fun t410 => (if (t409 != t410) = true then (none) else ((know_Right.f k t375).bind fun t411 => (if t411 = true then ((know_Right.f k t378).bind fun t412 => (if t412 = true then ((know_Count.f k t372).bind fun t413 => ((cenotaphref04_Count.f k t369).bind fun t414 => (if t413 = t414 then ((know_Extras.f k t372).bind fun t415 => ((cenotaphref04_Extras.f k t369).bind fun t416 => (if t415 = t416 then ((cenotaphlaw04_From.f k t372).bind fun t417 => ((cenotaphref04_Same.f k t417 t369).bind fun t420 => (some t420))) else (none)))) else (none)))) else (none))) else (none)))))) = some r := by rw [if_pos rfl] at H; exact H
     clear H
     have H := H1
     clear H1
     replace H := Option.bind_eq_some_iff.mp H
     obtain ⟨t409, A230, H⟩ := H
     have A23 := Aside0.mk A230
     clear A230
     replace H := Option.bind_eq_some_iff.mp H
     obtain ⟨t410, A240, H⟩ := H
     have A24 := Aside0.mk A240
     clear A240
     by_cases c25 : (t409 != t410) = true
     ·rw [if_pos c25] at H
      exact absurd H (by simp)
     ·rw [if_neg c25] at H
      have c25b0 : (t409 != t410) = false := by simpa using c25
      (try (have c25b1 : decide (t409 = t410) = true := by simpa using c25))
      (try (have c25b2 : (t409 == t410) = true := by simpa using c25))
      clear c25
      replace H := Option.bind_eq_some_iff.mp H
      obtain ⟨t411, A260, H⟩ := H
      have A26 := Aside0.mk A260
      clear A260
      by_cases c27 : t411 = true
      ·subst c27
       have H1 : ((know_Right.f k t378).bind fun t412 => (if t412 = true then ((know_Count.f k t372).bind fun t413 => ((cenotaphref04_Count.f k t369).bind fun t414 => (if t413 = t414 then ((know_Extras.f k t372).bind fun t415 => ((cenotaphref04_Extras.f k t369).bind fun t416 => (if t415 = t416 then ((cenotaphlaw04_From.f k t372).bind fun t417 => ((cenotaphref04_Same.f k t417 t369).bind fun t420 => (some t420))) else (none)))) else (none)))) else (none))) = some r := by rw [if_pos rfl] at H; exact H
       clear H
       have H := H1
       clear H1
       replace H := Option.bind_eq_some_iff.mp H
       obtain ⟨t412, A280, H⟩ := H
       have A28 := Aside0.mk A280
       clear A280
       by_cases c29 : t412 = true
       ·subst c29
        have H1 : ((know_Count.f k t372).bind fun t413 => ((cenotaphref04_Count.f k t369).bind fun t414 => (if t413 = t414 then ((know_Extras.f k t372).bind fun t415 => ((cenotaphref04_Extras.f k t369).bind fun t416 => (if t415 = t416 then ((cenotaphlaw04_From.f k t372).bind fun t417 => ((cenotaphref04_Same.f k t417 t369).bind fun t420 => (some t420))) else (none)))) else (none)))) = some r := by rw [if_pos rfl] at H; exact H
        clear H
        have H := H1
        clear H1
        replace H := Option.bind_eq_some_iff.mp H
        obtain ⟨t413, A300, H⟩ := H
        have A30 := Aside0.mk A300
        clear A300
        replace H := Option.bind_eq_some_iff.mp H
        obtain ⟨t414, A310, H⟩ := H
        have A31 := Aside0.mk A310
        clear A310
        by_cases c32 : t413 = t414
        ·rw [if_pos c32] at H
         have c32b0 : (t413 == t414) = true := beq_iff_eq.mpr c32
         have c32b1 : (t413 != t414) = false := bne_eq_false_iff_eq.mpr c32
         clear c32
         replace H := Option.bind_eq_some_iff.mp H
         obtain ⟨t415, A330, H⟩ := H
         have A33 := Aside0.mk A330
         clear A330
         replace H := Option.bind_eq_some_iff.mp H
         obtain ⟨t416, A340, H⟩ := H
         have A34 := Aside0.mk A340
         clear A340
         by_cases c35 : t415 = t416
         ·rw [if_pos c35] at H
          have c35b0 : (t415 == t416) = true := beq_iff_eq.mpr c35
          have c35b1 : (t415 != t416) = false := bne_eq_false_iff_eq.mpr c35
          clear c35
          replace H := Option.bind_eq_some_iff.mp H
          obtain ⟨t417, A360, H⟩ := H
          have A36 := Aside0.mk A360
          clear A360
          replace H := Option.bind_eq_some_iff.mp H
          obtain ⟨t420, A370, H⟩ := H
          have A37 := Aside0.mk A370
          clear A370
          obtain rfl := Option.some.inj H
          go_enter Try.func4, Try.ntmps4
          go_wp2_with (first | ((with_reducible refine gate_callee (f := 11) rfl ?_); refine goesL_ (some 11) rfl rfl Try.func11 (by kernel_rfl) rfl #[.slice A0 l0.length c0] rfl zq4x_0 ?_; (with_reducible refine (cenotaphref04_Fix.calls k _ _ l0 t369 _ ?side1 ?side2 A4.out).mono ?_); (case side1 => repeat (first | exact HR0.out | (with_reducible refine Kd.C_alloc ?_ _) | (with_reducible refine Kd.C_drewN ?_ _) | (with_reducible refine Kd.C_drew ?_))); (case side2 => exact HC0.out); rintro e w38 ⟨v370, rfl, ho0, hb⟩; refine ⟨_, rfl, ?_⟩; have HO371 := Aside0.mk (Kd.V_lower (Kd.V_mono (ok' := fun k_ => True) ho0 (fun k_ hk_ => trivial)) (below_size zq4x_1)); replace HB := Aside0.mk (below_step zq4x_1 hb); (try clear hb); (try clear hb2); (try clear hk); (try clear hi); (try clear ho0); obtain ⟨Ao39, co39, eo39⟩ := Kd.V_slice HO371.out; subst eo39) | ((with_reducible refine gate_callee (f := 9) rfl ?_); refine goesL_ (some 13) rfl rfl Try.func9 (by kernel_rfl) rfl #[.slice Ao39 t369.length co39] rfl zq4x_0 ?_; (with_reducible refine (cenotaphlaw04_To.calls k _ _ t369 t372 _ ?side1 ?side2 A5.out).mono ?_); (case side1 => repeat (first | exact (Kd.V_reads' HO371.out).2.2 | (with_reducible refine Kd.C_alloc ?_ _) | (with_reducible refine Kd.C_drewN ?_ _) | (with_reducible refine Kd.C_drew ?_))); (case side2 => exact (Kd.V_reads' HO371.out).2.1); rintro e w40 ⟨v373, rfl, ho0, hb⟩; refine ⟨_, rfl, ?_⟩; replace HO371 := Aside0.mk (Kd.V_elder' zq4x_2 (by first | exact Kd.N_base ho0 | exact Kd.S_base ho0) hb); have HO374 := Aside0.mk (Kd.N_lower (Kd.N_mono (ok' := fun k_ => True) (Kd.S_N (Kd.S_bound ho0)) (fun k_ hk_ => trivial)) (below_size zq4x_1)); replace HB := Aside0.mk (below_step zq4x_1 hb); (try clear hb); (try clear hb2); (try clear hk); (try clear hi); (try clear ho0); obtain ⟨Ao41, co41, eo41⟩ := Kd.N_slice HO374.out; subst eo41) | ((with_reducible refine gate_callee (f := 12) rfl ?_); refine goesL_ (some 17) rfl rfl Try.func12 (by kernel_rfl) rfl #[.slice Ao41 t372.length co41, .string a1, .int .i64 a2] rfl zq4x_0 ?_; (with_reducible refine (know_Add.calls k _ _ t372 a1 a2 t375 _ ?side1 ?side2 A6.out).mono ?_); (case side1 => repeat (first | exact (Kd.N_reads' HO374.out).2.2 | (with_reducible refine Kd.C_alloc ?_ _) | (with_reducible refine Kd.C_drewN ?_ _) | (with_reducible refine Kd.C_drew ?_))); (case side2 => exact (Kd.N_reads' HO374.out).2.1); rintro e w42 ⟨v376, rfl, ho0, hb⟩; refine ⟨_, rfl, ?_⟩; replace HO371 := Aside0.mk (Kd.V_below zq4x_2 hb); have HO377 := Aside0.mk (Kd.V_lower (Kd.V_mono (ok' := fun k_ => some k_ ≠ (.slice Ao41 t372.length co41 : Value).ownBlock) ho0 (fun k_ hk_ => (Kd.fresh' (Kd.N_lt zq4x_3) k_ hk_))) (below_size zq4x_1)); replace HO374 := Aside0.mk (Kd.N_below zq4x_3 hb); replace HB := Aside0.mk (below_step zq4x_1 hb); (try clear hb); (try clear hb2); (try clear hk); (try clear hi); (try clear ho0)) | ((with_reducible refine gate_callee (f := 13) rfl ?_); refine goesL_ (some 20) rfl rfl Try.func13 (by kernel_rfl) rfl #[.slice Ao41 t372.length co41, .string a1] rfl zq4x_0 ?_; (with_reducible refine (know_Drop.calls _ _ t372 a1 t378 _ ?side1 ?side2 A7.out).mono ?_); (case side1 => repeat (first | exact (Kd.N_reads' HO374.out).2.2 | (with_reducible refine Kd.C_alloc ?_ _) | (with_reducible refine Kd.C_drewN ?_ _) | (with_reducible refine Kd.C_drew ?_))); (case side2 => exact (Kd.N_reads' HO374.out).2.1); rintro e w43 ⟨v379, rfl, ho0, hb⟩; refine ⟨_, rfl, ?_⟩; replace HO371 := Aside0.mk (Kd.V_below zq4x_2 hb); replace HO377 := Aside0.mk (Kd.V_below zq4x_4 hb); have HO380 := Aside0.mk (Kd.V_lower (Kd.V_mono (ok' := fun k_ => some k_ ≠ (.slice Ao41 t372.length co41 : Value).ownBlock) ho0 (fun k_ hk_ => (Kd.fresh' (Kd.N_lt zq4x_3) k_ hk_))) (below_size zq4x_1)); replace HO374 := Aside0.mk (Kd.N_below zq4x_3 hb); replace HB := Aside0.mk (below_step zq4x_1 hb); (try clear hb); (try clear hb2); (try clear hk); (try clear hi); (try clear ho0)) | ((with_reducible refine gate_callee (f := 7) rfl ?_); refine goesL_ (some 21) rfl rfl Try.func7 (by kernel_rfl) rfl #[] rfl zq4x_0 ?_; (with_reducible refine (cenotaphlaw04_told.calls k  true _ A8.out).mono ?_); rintro e w44 ⟨rfl, hb⟩; refine ⟨_, rfl, ?_⟩; replace HO371 := Aside0.mk (Kd.V_below zq4x_2 hb); replace HO374 := Aside0.mk (Kd.N_below zq4x_3 hb); replace HO377 := Aside0.mk (Kd.V_below zq4x_4 hb); replace HO380 := Aside0.mk (Kd.V_below zq4x_5 hb); replace HB := Aside0.mk (below_step zq4x_1 hb); (try clear hb); (try clear hb2); (try clear hk); (try clear hi); obtain ⟨Ao45, co45, eo45⟩ := Kd.V_slice HO377.out; subst eo45) | (go_at_call 15; (with_reducible refine (cenotaphlaw04_From.calls k _ _ t375 t382 _ ?side1 ?side2 A10.out).mono ?_); (case side1 => repeat (first | exact (Kd.V_reads' HO377.out).2.2 | (with_reducible refine Kd.C_alloc ?_ _) | (with_reducible refine Kd.C_drewN ?_ _) | (with_reducible refine Kd.C_drew ?_))); (case side2 => exact (Kd.V_reads' HO377.out).2.1); rintro e w46 ⟨v383, rfl, ho0, hb⟩; replace HO371 := Aside0.mk (Kd.V_elder' zq4x_2 (by first | exact Kd.N_base ho0 | exact Kd.S_base ho0) hb); replace HO377 := Aside0.mk (Kd.V_elder' zq4x_4 (by first | exact Kd.N_base ho0 | exact Kd.S_base ho0) hb); replace HO380 := Aside0.mk (Kd.V_elder' zq4x_5 (by first | exact Kd.N_base ho0 | exact Kd.S_base ho0) hb); have HO384 := Aside0.mk (Kd.N_lower (Kd.N_mono (ok' := fun k_ => some k_ ≠ (.slice Ao41 t372.length co41 : Value).ownBlock) (Kd.S_N (Kd.S_bound ho0)) (fun k_ hk_ => (Kd.fresh' (Kd.N_lt zq4x_3) k_ hk_.2.1))) (below_size zq4x_1)); replace HO374 := Aside0.mk (Kd.N_elder' zq4x_3 (by first | exact Kd.N_base ho0 | exact Kd.S_base ho0) hb); replace HB := Aside0.mk (below_step zq4x_1 hb); (try clear hb); (try clear hb2); (try clear hk); (try clear hi); (try clear ho0)) | (go_at_call 16; (with_reducible refine (cenotaphref04_Add.calls k (fun k_ => ((True ∧ some k_ ≠ (.slice Ao41 t372.length co41 : Value).ownBlock) ∧ some k_ ≠ (v383 : Value).ownBlock)) _ _ t369 a1 a2 t385 _ ?side1 A11.out).mono ?_); (case side1 => exact HO371.out); rintro e w47 ⟨v386, rfl, ho0, hb⟩; replace HO371 := Aside0.mk (Kd.V_below zq4x_2 hb); replace HO377 := Aside0.mk (Kd.V_below zq4x_4 hb); replace HO380 := Aside0.mk (Kd.V_below zq4x_5 hb); have HO387 := Aside0.mk (Kd.V_lower (Kd.V_mono (ok' := fun k_ => some k_ ≠ (.slice Ao41 t372.length co41 : Value).ownBlock ∧ some k_ ≠ (v383 : Value).ownBlock) ho0 (fun k_ hk_ => ⟨Or.elim hk_ (fun hs_ => hs_.1.2) (fun hn_ => (Kd.fresh' (Kd.N_lt zq4x_3) k_ hn_)), Or.elim hk_ (fun hs_ => hs_.2) (fun hn_ => (Kd.fresh' (Kd.N_lt zq4x_6) k_ hn_))⟩)) (below_size zq4x_1)); replace HO374 := Aside0.mk (Kd.N_below zq4x_3 hb); replace HO384 := Aside0.mk (Kd.N_below zq4x_6 hb); replace HB := Aside0.mk (below_step zq4x_1 hb); (try clear hb); (try clear hb2); (try clear hk); (try clear hi); (try clear ho0); obtain ⟨Ao48, co48, eo48⟩ := Kd.N_slice HO384.out; subst eo48; obtain ⟨Ao49, co49, eo49⟩ := Kd.V_slice HO387.out; subst eo49) | (go_at_call 14; (with_reducible refine (cenotaphref04_Same.calls k _ _ t382 _ _ t385 true _ ?side1 ?side2 ?side3 ?side4 A12.out).mono ?_); (case side1 => repeat (first | exact (Kd.N_reads' HO384.out).2.2 | (with_reducible refine Kd.C_alloc ?_ _) | (with_reducible refine Kd.C_drewN ?_ _) | (with_reducible refine Kd.C_drew ?_))); (case side2 => exact (Kd.N_reads' HO384.out).2.1); (case side3 => repeat (first | exact (Kd.V_reads' HO387.out).2.2 | (with_reducible refine Kd.C_alloc ?_ _) | (with_reducible refine Kd.C_drewN ?_ _) | (with_reducible refine Kd.C_drew ?_))); (case side4 => exact (Kd.V_reads' HO387.out).2.1); rintro e w50 ⟨rfl, hb⟩; replace HO371 := Aside0.mk (Kd.V_below zq4x_2 hb); replace HO374 := Aside0.mk (Kd.N_below zq4x_3 hb); replace HO377 := Aside0.mk (Kd.V_below zq4x_4 hb); replace HO380 := Aside0.mk (Kd.V_below zq4x_5 hb); replace HO384 := Aside0.mk (Kd.N_below zq4x_6 hb); replace HO387 := Aside0.mk (Kd.V_below zq4x_7 hb); replace HB := Aside0.mk (below_step zq4x_1 hb); (try clear hb); (try clear hb2); (try clear hk); (try clear hi); obtain ⟨Ao51, co51, eo51⟩ := Kd.V_slice HO380.out; subst eo51) | (go_at_call 15; (with_reducible refine (cenotaphlaw04_From.calls k _ _ t378 t389 _ ?side1 ?side2 A14.out).mono ?_); (case side1 => repeat (first | exact (Kd.V_reads' HO380.out).2.2 | (with_reducible refine Kd.C_alloc ?_ _) | (with_reducible refine Kd.C_drewN ?_ _) | (with_reducible refine Kd.C_drew ?_))); (case side2 => exact (Kd.V_reads' HO380.out).2.1); rintro e w52 ⟨v390, rfl, ho0, hb⟩; replace HO371 := Aside0.mk (Kd.V_elder' zq4x_2 (by first | exact Kd.N_base ho0 | exact Kd.S_base ho0) hb); replace HO377 := Aside0.mk (Kd.V_elder' zq4x_4 (by first | exact Kd.N_base ho0 | exact Kd.S_base ho0) hb); replace HO380 := Aside0.mk (Kd.V_elder' zq4x_5 (by first | exact Kd.N_base ho0 | exact Kd.S_base ho0) hb); replace HO387 := Aside0.mk (Kd.V_elder' zq4x_7 (by first | exact Kd.N_base ho0 | exact Kd.S_base ho0) hb); have HO391 := Aside0.mk (Kd.N_lower (Kd.N_mono (ok' := fun k_ => some k_ ≠ (.slice Ao41 t372.length co41 : Value).ownBlock ∧ some k_ ≠ (.slice Ao48 t382.length co48 : Value).ownBlock) (Kd.S_N (Kd.S_bound ho0)) (fun k_ hk_ => ⟨(Kd.fresh' (Kd.N_lt zq4x_3) k_ hk_.2.1), (Kd.fresh' (Kd.N_lt zq4x_6) k_ hk_.2.1)⟩)) (below_size zq4x_1)); replace HO374 := Aside0.mk (Kd.N_elder' zq4x_3 (by first | exact Kd.N_base ho0 | exact Kd.S_base ho0) hb); replace HO384 := Aside0.mk (Kd.N_elder' zq4x_6 (by first | exact Kd.N_base ho0 | exact Kd.S_base ho0) hb); replace HB := Aside0.mk (below_step zq4x_1 hb); (try clear hb); (try clear hb2); (try clear hk); (try clear hi); (try clear ho0)) | (go_at_call 17; (with_reducible refine (cenotaphref04_Drop.calls k (fun k_ => (((True ∧ some k_ ≠ (.slice Ao41 t372.length co41 : Value).ownBlock) ∧ some k_ ≠ (.slice Ao48 t382.length co48 : Value).ownBlock) ∧ some k_ ≠ (v390 : Value).ownBlock)) _ _ t369 a1 t392 _ ?side1 A15.out).mono ?_); (case side1 => exact HO371.out); rintro e w53 ⟨v393, rfl, ho0, hb⟩; replace HO371 := Aside0.mk (Kd.V_elder' zq4x_2 (by first | exact Kd.N_base ho0 | exact Kd.S_base ho0) hb); replace HO377 := Aside0.mk (Kd.V_elder' zq4x_4 (by first | exact Kd.N_base ho0 | exact Kd.S_base ho0) hb); replace HO380 := Aside0.mk (Kd.V_elder' zq4x_5 (by first | exact Kd.N_base ho0 | exact Kd.S_base ho0) hb); replace HO387 := Aside0.mk (Kd.V_elder' zq4x_7 (by first | exact Kd.N_base ho0 | exact Kd.S_base ho0) hb); have HO394 := Aside0.mk (Kd.N_lower (Kd.N_mono (ok' := fun k_ => some k_ ≠ (.slice Ao41 t372.length co41 : Value).ownBlock ∧ some k_ ≠ (.slice Ao48 t382.length co48 : Value).ownBlock ∧ some k_ ≠ (v390 : Value).ownBlock) ho0 (fun k_ hk_ => ⟨Or.elim hk_ (fun hs_ => hs_.1.1.2) (fun hn_ => (Kd.fresh' (Kd.N_lt zq4x_3) k_ hn_)), Or.elim hk_ (fun hs_ => hs_.1.2) (fun hn_ => (Kd.fresh' (Kd.N_lt zq4x_6) k_ hn_)), Or.elim hk_ (fun hs_ => hs_.2) (fun hn_ => (Kd.fresh' (Kd.N_lt zq4x_8) k_ hn_))⟩)) (below_size zq4x_1)); replace HO374 := Aside0.mk (Kd.N_elder' zq4x_3 (by first | exact Kd.N_base ho0 | exact Kd.S_base ho0) hb); replace HO384 := Aside0.mk (Kd.N_elder' zq4x_6 (by first | exact Kd.N_base ho0 | exact Kd.S_base ho0) hb); replace HO391 := Aside0.mk (Kd.N_elder' zq4x_8 (by first | exact Kd.N_base ho0 | exact Kd.S_base ho0) hb); replace HB := Aside0.mk (below_step zq4x_1 hb); (try clear hb); (try clear hb2); (try clear hk); (try clear hi); (try clear ho0); obtain ⟨Ao54, co54, eo54⟩ := Kd.N_slice HO391.out; subst eo54; obtain ⟨Ao55, co55, eo55⟩ := Kd.N_slice HO394.out; subst eo55) | (go_at_call 14; (with_reducible refine (cenotaphref04_Same.calls k _ _ t389 _ _ t392 true _ ?side1 ?side2 ?side3 ?side4 A16.out).mono ?_); (case side1 => repeat (first | exact (Kd.N_reads' HO391.out).2.2 | (with_reducible refine Kd.C_alloc ?_ _) | (with_reducible refine Kd.C_drewN ?_ _) | (with_reducible refine Kd.C_drew ?_))); (case side2 => exact (Kd.N_reads' HO391.out).2.1); (case side3 => repeat (first | exact (Kd.N_reads' HO394.out).2.2 | (with_reducible refine Kd.C_alloc ?_ _) | (with_reducible refine Kd.C_drewN ?_ _) | (with_reducible refine Kd.C_drew ?_))); (case side4 => exact (Kd.N_reads' HO394.out).2.1); rintro e w56 ⟨rfl, hb⟩; replace HO371 := Aside0.mk (Kd.V_below zq4x_2 hb); replace HO374 := Aside0.mk (Kd.N_below zq4x_3 hb); replace HO377 := Aside0.mk (Kd.V_below zq4x_4 hb); replace HO380 := Aside0.mk (Kd.V_below zq4x_5 hb); replace HO384 := Aside0.mk (Kd.N_below zq4x_6 hb); replace HO387 := Aside0.mk (Kd.V_below zq4x_7 hb); replace HO391 := Aside0.mk (Kd.N_below zq4x_8 hb); replace HO394 := Aside0.mk (Kd.N_below zq4x_9 hb); replace HB := Aside0.mk (below_step zq4x_1 hb); (try clear hb); (try clear hb2); (try clear hk); (try clear hi)) | (go_at_call 20; (with_reducible refine (know_Of.calls _ _ t372 a1 t396 t397 _ ?side1 ?side2 A18.out).mono ?_); (case side1 => repeat (first | exact (Kd.N_reads' HO374.out).2.2 | (with_reducible refine Kd.C_alloc ?_ _) | (with_reducible refine Kd.C_drewN ?_ _) | (with_reducible refine Kd.C_drew ?_))); (case side2 => exact (Kd.N_reads' HO374.out).2.1); rintro e w57 ⟨v398, rfl, ho0, hb⟩; replace HO371 := Aside0.mk (Kd.V_elder' zq4x_2 (Kd.R_base ho0) hb); replace HO374 := Aside0.mk (Kd.N_elder' zq4x_3 (Kd.R_base ho0) hb); replace HO377 := Aside0.mk (Kd.V_elder' zq4x_4 (Kd.R_base ho0) hb); replace HO380 := Aside0.mk (Kd.V_elder' zq4x_5 (Kd.R_base ho0) hb); replace HO384 := Aside0.mk (Kd.N_elder' zq4x_6 (Kd.R_base ho0) hb); replace HO387 := Aside0.mk (Kd.V_elder' zq4x_7 (Kd.R_base ho0) hb); replace HO391 := Aside0.mk (Kd.N_elder' zq4x_8 (Kd.R_base ho0) hb); replace HO394 := Aside0.mk (Kd.N_elder' zq4x_9 (Kd.R_base ho0) hb); have HO399 := Aside0.mk (Kd.R_lower ho0 (below_size zq4x_1)); replace HB := Aside0.mk (below_step zq4x_1 hb); (try clear hb); (try clear hb2); (try clear hk); (try clear hi); (try clear ho0); obtain ⟨Ao58, co58, eo58⟩ := Kd.R_slice HO399.out; subst eo58) | (go_at_call 19; (with_reducible refine (cenotaphlaw02_From.calls t396 _ _ t397 t400 t401 _ ?side1 ?side2 A19.out).mono ?_); (case side1 => repeat (first | exact (Kd.R_reads' HO399.out).2.2 | (with_reducible refine Kd.C_alloc ?_ _) | (with_reducible refine Kd.C_drewN ?_ _) | (with_reducible refine Kd.C_drew ?_))); (case side2 => exact (Kd.R_reads' HO399.out).2.1); rintro e w59 ⟨v402, rfl, ho0, hb⟩; replace HO371 := Aside0.mk (Kd.V_elder' zq4x_2 (Kd.R_base ho0) hb); replace HO374 := Aside0.mk (Kd.N_elder' zq4x_3 (Kd.R_base ho0) hb); replace HO377 := Aside0.mk (Kd.V_elder' zq4x_4 (Kd.R_base ho0) hb); replace HO380 := Aside0.mk (Kd.V_elder' zq4x_5 (Kd.R_base ho0) hb); replace HO384 := Aside0.mk (Kd.N_elder' zq4x_6 (Kd.R_base ho0) hb); replace HO387 := Aside0.mk (Kd.V_elder' zq4x_7 (Kd.R_base ho0) hb); replace HO391 := Aside0.mk (Kd.N_elder' zq4x_8 (Kd.R_base ho0) hb); replace HO394 := Aside0.mk (Kd.N_elder' zq4x_9 (Kd.R_base ho0) hb); have HO403 := Aside0.mk (Kd.R_lower (Kd.R_new' ho0 (Kd.R_lt zq4x_10)) (below_size zq4x_1)); replace HO399 := Aside0.mk (Kd.R_elder' zq4x_10 (Kd.R_base ho0) hb); replace HB := Aside0.mk (below_step zq4x_1 hb); (try clear hb); (try clear hb2); (try clear hk); (try clear hi); (try clear ho0)) | (go_at_call 21; (with_reducible refine (cenotaphref04_Of.calls k (fun k_ => ((((((True ∧ some k_ ≠ (.slice Ao41 t372.length co41 : Value).ownBlock) ∧ some k_ ≠ (.slice Ao48 t382.length co48 : Value).ownBlock) ∧ some k_ ≠ (.slice Ao54 t389.length co54 : Value).ownBlock) ∧ some k_ ≠ (.slice Ao55 t392.length co55 : Value).ownBlock) ∧ some k_ ≠ (.slice Ao58 t397.length co58 : Value).ownBlock) ∧ some k_ ≠ (v402 : Value).ownBlock)) _ _ t369 a1 t404 t405 _ ?side1 A20.out).mono ?_); (case side1 => exact HO371.out); rintro e w60 ⟨v406, rfl, ho0, hb⟩; replace HO371 := Aside0.mk (Kd.V_below zq4x_2 hb); replace HO377 := Aside0.mk (Kd.V_below zq4x_4 hb); replace HO380 := Aside0.mk (Kd.V_below zq4x_5 hb); replace HO387 := Aside0.mk (Kd.V_below zq4x_7 hb); have HO407 := Aside0.mk (Kd.V_lower (Kd.V_mono (ok' := fun k_ => some k_ ≠ (.slice Ao41 t372.length co41 : Value).ownBlock ∧ some k_ ≠ (.slice Ao48 t382.length co48 : Value).ownBlock ∧ some k_ ≠ (.slice Ao54 t389.length co54 : Value).ownBlock ∧ some k_ ≠ (.slice Ao55 t392.length co55 : Value).ownBlock ∧ some k_ ≠ (.slice Ao58 t397.length co58 : Value).ownBlock ∧ some k_ ≠ (v402 : Value).ownBlock) ho0 (fun k_ hk_ => ⟨Or.elim hk_ (fun hs_ => hs_.1.1.1.1.1.2) (fun hn_ => (Kd.fresh' (Kd.N_lt zq4x_3) k_ hn_)), Or.elim hk_ (fun hs_ => hs_.1.1.1.1.2) (fun hn_ => (Kd.fresh' (Kd.N_lt zq4x_6) k_ hn_)), Or.elim hk_ (fun hs_ => hs_.1.1.1.2) (fun hn_ => (Kd.fresh' (Kd.N_lt zq4x_8) k_ hn_)), Or.elim hk_ (fun hs_ => hs_.1.1.2) (fun hn_ => (Kd.fresh' (Kd.N_lt zq4x_9) k_ hn_)), Or.elim hk_ (fun hs_ => hs_.1.2) (fun hn_ => (Kd.fresh' (Kd.R_lt zq4x_10) k_ hn_)), Or.elim hk_ (fun hs_ => hs_.2) (fun hn_ => (Kd.fresh' (Kd.R_lt zq4x_11) k_ hn_))⟩)) (below_size zq4x_1)); replace HO374 := Aside0.mk (Kd.N_below zq4x_3 hb); replace HO384 := Aside0.mk (Kd.N_below zq4x_6 hb); replace HO391 := Aside0.mk (Kd.N_below zq4x_8 hb); replace HO394 := Aside0.mk (Kd.N_below zq4x_9 hb); replace HO399 := Aside0.mk (Kd.R_below zq4x_10 hb); replace HO403 := Aside0.mk (Kd.R_below zq4x_11 hb); replace HB := Aside0.mk (below_step zq4x_1 hb); (try clear hb); (try clear hb2); (try clear hk); (try clear hi); (try clear ho0); obtain ⟨Ao61, co61, eo61⟩ := Kd.R_slice HO403.out; subst eo61; obtain ⟨Ao62, co62, eo62⟩ := Kd.V_slice HO407.out; subst eo62) | (go_at_call 18; (with_reducible refine (cenotaphref02_Same.calls k t400 _ _ t401 t404 _ _ t405 true _ ?side1 ?side2 ?side3 ?side4 A21.out).mono ?_); (case side1 => repeat (first | exact (Kd.R_reads' HO403.out).2.2 | (with_reducible refine Kd.C_alloc ?_ _) | (with_reducible refine Kd.C_drewN ?_ _) | (with_reducible refine Kd.C_drew ?_))); (case side2 => exact (Kd.R_reads' HO403.out).2.1); (case side3 => repeat (first | exact (Kd.V_reads' HO407.out).2.2 | (with_reducible refine Kd.C_alloc ?_ _) | (with_reducible refine Kd.C_drewN ?_ _) | (with_reducible refine Kd.C_drew ?_))); (case side4 => exact (Kd.V_reads' HO407.out).2.1); rintro e w63 ⟨rfl, hb⟩; replace HO371 := Aside0.mk (Kd.V_below zq4x_2 hb); replace HO374 := Aside0.mk (Kd.N_below zq4x_3 hb); replace HO377 := Aside0.mk (Kd.V_below zq4x_4 hb); replace HO380 := Aside0.mk (Kd.V_below zq4x_5 hb); replace HO384 := Aside0.mk (Kd.N_below zq4x_6 hb); replace HO387 := Aside0.mk (Kd.V_below zq4x_7 hb); replace HO391 := Aside0.mk (Kd.N_below zq4x_8 hb); replace HO394 := Aside0.mk (Kd.N_below zq4x_9 hb); replace HO399 := Aside0.mk (Kd.R_below zq4x_10 hb); replace HO403 := Aside0.mk (Kd.R_below zq4x_11 hb); replace HO407 := Aside0.mk (Kd.V_below zq4x_12 hb); replace HB := Aside0.mk (below_step zq4x_1 hb); (try clear hb); (try clear hb2); (try clear hk); (try clear hi)) | (go_at_call 22; (with_reducible refine (know_Has.calls k _ _ t372 a1 a2 t409 _ ?side1 ?side2 A23.out).mono ?_); (case side1 => repeat (first | exact (Kd.N_reads' HO374.out).2.2 | (with_reducible refine Kd.C_alloc ?_ _) | (with_reducible refine Kd.C_drewN ?_ _) | (with_reducible refine Kd.C_drew ?_))); (case side2 => exact (Kd.N_reads' HO374.out).2.1); rintro e w64 ⟨rfl, hb⟩; replace HO371 := Aside0.mk (Kd.V_below zq4x_2 hb); replace HO374 := Aside0.mk (Kd.N_below zq4x_3 hb); replace HO377 := Aside0.mk (Kd.V_below zq4x_4 hb); replace HO380 := Aside0.mk (Kd.V_below zq4x_5 hb); replace HO384 := Aside0.mk (Kd.N_below zq4x_6 hb); replace HO387 := Aside0.mk (Kd.V_below zq4x_7 hb); replace HO391 := Aside0.mk (Kd.N_below zq4x_8 hb); replace HO394 := Aside0.mk (Kd.N_below zq4x_9 hb); replace HO399 := Aside0.mk (Kd.R_below zq4x_10 hb); replace HO403 := Aside0.mk (Kd.R_below zq4x_11 hb); replace HO407 := Aside0.mk (Kd.V_below zq4x_12 hb); replace HB := Aside0.mk (below_step zq4x_1 hb); (try clear hb); (try clear hb2); (try clear hk); (try clear hi)) | (go_at_call 23; (with_reducible refine (cenotaphref04_Has.calls k _ _ t369 a1 a2 t410 _ ?side1 ?side2 A24.out).mono ?_); (case side1 => repeat (first | exact (Kd.V_reads' HO371.out).2.2 | (with_reducible refine Kd.C_alloc ?_ _) | (with_reducible refine Kd.C_drewN ?_ _) | (with_reducible refine Kd.C_drew ?_))); (case side2 => exact (Kd.V_reads' HO371.out).2.1); rintro e w65 ⟨rfl, hb⟩; replace HO371 := Aside0.mk (Kd.V_below zq4x_2 hb); replace HO374 := Aside0.mk (Kd.N_below zq4x_3 hb); replace HO377 := Aside0.mk (Kd.V_below zq4x_4 hb); replace HO380 := Aside0.mk (Kd.V_below zq4x_5 hb); replace HO384 := Aside0.mk (Kd.N_below zq4x_6 hb); replace HO387 := Aside0.mk (Kd.V_below zq4x_7 hb); replace HO391 := Aside0.mk (Kd.N_below zq4x_8 hb); replace HO394 := Aside0.mk (Kd.N_below zq4x_9 hb); replace HO399 := Aside0.mk (Kd.R_below zq4x_10 hb); replace HO403 := Aside0.mk (Kd.R_below zq4x_11 hb); replace HO407 := Aside0.mk (Kd.V_below zq4x_12 hb); replace HB := Aside0.mk (below_step zq4x_1 hb); (try clear hb); (try clear hb2); (try clear hk); (try clear hi)) | ((with_reducible refine gate_callee (f := 8) rfl ?_); refine goesL_ (some 65) rfl rfl Try.func8 (by kernel_rfl) rfl #[.slice Ao45 t375.length co45] rfl zq4x_0 ?_; (with_reducible refine (know_Right.calls k _ _ t375 true _ ?side1 ?side2 A26.out).mono ?_); (case side1 => repeat (first | exact (Kd.V_reads' HO377.out).2.2 | (with_reducible refine Kd.C_alloc ?_ _) | (with_reducible refine Kd.C_drewN ?_ _) | (with_reducible refine Kd.C_drew ?_))); (case side2 => exact (Kd.V_reads' HO377.out).2.1); rintro e w66 ⟨rfl, hb⟩; refine ⟨_, rfl, ?_⟩; replace HO371 := Aside0.mk (Kd.V_below zq4x_2 hb); replace HO374 := Aside0.mk (Kd.N_below zq4x_3 hb); replace HO377 := Aside0.mk (Kd.V_below zq4x_4 hb); replace HO380 := Aside0.mk (Kd.V_below zq4x_5 hb); replace HO384 := Aside0.mk (Kd.N_below zq4x_6 hb); replace HO387 := Aside0.mk (Kd.V_below zq4x_7 hb); replace HO391 := Aside0.mk (Kd.N_below zq4x_8 hb); replace HO394 := Aside0.mk (Kd.N_below zq4x_9 hb); replace HO399 := Aside0.mk (Kd.R_below zq4x_10 hb); replace HO403 := Aside0.mk (Kd.R_below zq4x_11 hb); replace HO407 := Aside0.mk (Kd.V_below zq4x_12 hb); replace HB := Aside0.mk (below_step zq4x_1 hb); (try clear hb); (try clear hb2); (try clear hk); (try clear hi)) | (go_at_call 8; (with_reducible refine (know_Right.calls k _ _ t378 true _ ?side1 ?side2 A28.out).mono ?_); (case side1 => repeat (first | exact (Kd.V_reads' HO380.out).2.2 | (with_reducible refine Kd.C_alloc ?_ _) | (with_reducible refine Kd.C_drewN ?_ _) | (with_reducible refine Kd.C_drew ?_))); (case side2 => exact (Kd.V_reads' HO380.out).2.1); rintro e w67 ⟨rfl, hb⟩; replace HO371 := Aside0.mk (Kd.V_below zq4x_2 hb); replace HO374 := Aside0.mk (Kd.N_below zq4x_3 hb); replace HO377 := Aside0.mk (Kd.V_below zq4x_4 hb); replace HO380 := Aside0.mk (Kd.V_below zq4x_5 hb); replace HO384 := Aside0.mk (Kd.N_below zq4x_6 hb); replace HO387 := Aside0.mk (Kd.V_below zq4x_7 hb); replace HO391 := Aside0.mk (Kd.N_below zq4x_8 hb); replace HO394 := Aside0.mk (Kd.N_below zq4x_9 hb); replace HO399 := Aside0.mk (Kd.R_below zq4x_10 hb); replace HO403 := Aside0.mk (Kd.R_below zq4x_11 hb); replace HO407 := Aside0.mk (Kd.V_below zq4x_12 hb); replace HB := Aside0.mk (below_step zq4x_1 hb); (try clear hb); (try clear hb2); (try clear hk); (try clear hi)) | (go_at_call 24; (with_reducible refine (know_Count.calls k _ _ t372 t413 _ ?side1 ?side2 A30.out).mono ?_); (case side1 => repeat (first | exact (Kd.N_reads' HO374.out).2.2 | (with_reducible refine Kd.C_alloc ?_ _) | (with_reducible refine Kd.C_drewN ?_ _) | (with_reducible refine Kd.C_drew ?_))); (case side2 => exact (Kd.N_reads' HO374.out).2.1); rintro e w68 ⟨rfl, hb⟩; replace HO371 := Aside0.mk (Kd.V_below zq4x_2 hb); replace HO374 := Aside0.mk (Kd.N_below zq4x_3 hb); replace HO377 := Aside0.mk (Kd.V_below zq4x_4 hb); replace HO380 := Aside0.mk (Kd.V_below zq4x_5 hb); replace HO384 := Aside0.mk (Kd.N_below zq4x_6 hb); replace HO387 := Aside0.mk (Kd.V_below zq4x_7 hb); replace HO391 := Aside0.mk (Kd.N_below zq4x_8 hb); replace HO394 := Aside0.mk (Kd.N_below zq4x_9 hb); replace HO399 := Aside0.mk (Kd.R_below zq4x_10 hb); replace HO403 := Aside0.mk (Kd.R_below zq4x_11 hb); replace HO407 := Aside0.mk (Kd.V_below zq4x_12 hb); replace HB := Aside0.mk (below_step zq4x_1 hb); (try clear hb); (try clear hb2); (try clear hk); (try clear hi)) | (go_at_call 25; (with_reducible refine (cenotaphref04_Count.calls k _ _ t369 t414 _ ?side1 ?side2 A31.out).mono ?_); (case side1 => repeat (first | exact (Kd.V_reads' HO371.out).2.2 | (with_reducible refine Kd.C_alloc ?_ _) | (with_reducible refine Kd.C_drewN ?_ _) | (with_reducible refine Kd.C_drew ?_))); (case side2 => exact (Kd.V_reads' HO371.out).2.1); rintro e w69 ⟨rfl, hb⟩; replace HO371 := Aside0.mk (Kd.V_below zq4x_2 hb); replace HO374 := Aside0.mk (Kd.N_below zq4x_3 hb); replace HO377 := Aside0.mk (Kd.V_below zq4x_4 hb); replace HO380 := Aside0.mk (Kd.V_below zq4x_5 hb); replace HO384 := Aside0.mk (Kd.N_below zq4x_6 hb); replace HO387 := Aside0.mk (Kd.V_below zq4x_7 hb); replace HO391 := Aside0.mk (Kd.N_below zq4x_8 hb); replace HO394 := Aside0.mk (Kd.N_below zq4x_9 hb); replace HO399 := Aside0.mk (Kd.R_below zq4x_10 hb); replace HO403 := Aside0.mk (Kd.R_below zq4x_11 hb); replace HO407 := Aside0.mk (Kd.V_below zq4x_12 hb); replace HB := Aside0.mk (below_step zq4x_1 hb); (try clear hb); (try clear hb2); (try clear hk); (try clear hi)) | (go_at_call 26; (with_reducible refine (know_Extras.calls k _ _ t372 t415 _ ?side1 ?side2 A33.out).mono ?_); (case side1 => repeat (first | exact (Kd.N_reads' HO374.out).2.2 | (with_reducible refine Kd.C_alloc ?_ _) | (with_reducible refine Kd.C_drewN ?_ _) | (with_reducible refine Kd.C_drew ?_))); (case side2 => exact (Kd.N_reads' HO374.out).2.1); rintro e w70 ⟨rfl, hb⟩; replace HO371 := Aside0.mk (Kd.V_below zq4x_2 hb); replace HO374 := Aside0.mk (Kd.N_below zq4x_3 hb); replace HO377 := Aside0.mk (Kd.V_below zq4x_4 hb); replace HO380 := Aside0.mk (Kd.V_below zq4x_5 hb); replace HO384 := Aside0.mk (Kd.N_below zq4x_6 hb); replace HO387 := Aside0.mk (Kd.V_below zq4x_7 hb); replace HO391 := Aside0.mk (Kd.N_below zq4x_8 hb); replace HO394 := Aside0.mk (Kd.N_below zq4x_9 hb); replace HO399 := Aside0.mk (Kd.R_below zq4x_10 hb); replace HO403 := Aside0.mk (Kd.R_below zq4x_11 hb); replace HO407 := Aside0.mk (Kd.V_below zq4x_12 hb); replace HB := Aside0.mk (below_step zq4x_1 hb); (try clear hb); (try clear hb2); (try clear hk); (try clear hi)) | (go_at_call 27; (with_reducible refine (cenotaphref04_Extras.calls k _ _ t369 t416 _ ?side1 ?side2 A34.out).mono ?_); (case side1 => repeat (first | exact (Kd.V_reads' HO371.out).2.2 | (with_reducible refine Kd.C_alloc ?_ _) | (with_reducible refine Kd.C_drewN ?_ _) | (with_reducible refine Kd.C_drew ?_))); (case side2 => exact (Kd.V_reads' HO371.out).2.1); rintro e w' ⟨rfl, ⟨nd, rfl⟩⟩) | (go_at_call 15; (with_reducible refine (cenotaphlaw04_From.calls k _ _ t372 t417 _ ?side1 ?side2 A36.out).mono ?_); (case side1 => repeat (first | exact (Kd.N_reads' HO374.out).2.2 | (with_reducible refine Kd.C_alloc ?_ _) | (with_reducible refine Kd.C_drewN ?_ _) | (with_reducible refine Kd.C_drew ?_))); (case side2 => exact (Kd.N_reads' HO374.out).2.1); rintro e w71 ⟨v418, rfl, ho0, hb⟩; replace HO371 := Aside0.mk (Kd.V_elder' zq4x_2 (by first | exact Kd.N_base ho0 | exact Kd.S_base ho0) hb); replace HO377 := Aside0.mk (Kd.V_elder' zq4x_4 (by first | exact Kd.N_base ho0 | exact Kd.S_base ho0) hb); replace HO380 := Aside0.mk (Kd.V_elder' zq4x_5 (by first | exact Kd.N_base ho0 | exact Kd.S_base ho0) hb); replace HO387 := Aside0.mk (Kd.V_elder' zq4x_7 (by first | exact Kd.N_base ho0 | exact Kd.S_base ho0) hb); replace HO407 := Aside0.mk (Kd.V_elder' zq4x_12 (by first | exact Kd.N_base ho0 | exact Kd.S_base ho0) hb); have HO419 := Aside0.mk (Kd.N_lower (Kd.N_mono (ok' := fun k_ => some k_ ≠ (.slice Ao41 t372.length co41 : Value).ownBlock ∧ some k_ ≠ (.slice Ao48 t382.length co48 : Value).ownBlock ∧ some k_ ≠ (.slice Ao54 t389.length co54 : Value).ownBlock ∧ some k_ ≠ (.slice Ao55 t392.length co55 : Value).ownBlock ∧ some k_ ≠ (.slice Ao58 t397.length co58 : Value).ownBlock ∧ some k_ ≠ (.slice Ao61 t401.length co61 : Value).ownBlock) (Kd.S_N (Kd.S_bound ho0)) (fun k_ hk_ => ⟨(Kd.fresh' (Kd.N_lt zq4x_3) k_ hk_.2.1), (Kd.fresh' (Kd.N_lt zq4x_6) k_ hk_.2.1), (Kd.fresh' (Kd.N_lt zq4x_8) k_ hk_.2.1), (Kd.fresh' (Kd.N_lt zq4x_9) k_ hk_.2.1), (Kd.fresh' (Kd.R_lt zq4x_10) k_ hk_.2.1), (Kd.fresh' (Kd.R_lt zq4x_11) k_ hk_.2.1)⟩)) (below_size zq4x_1)); replace HO374 := Aside0.mk (Kd.N_elder' zq4x_3 (by first | exact Kd.N_base ho0 | exact Kd.S_base ho0) hb); replace HO384 := Aside0.mk (Kd.N_elder' zq4x_6 (by first | exact Kd.N_base ho0 | exact Kd.S_base ho0) hb); replace HO391 := Aside0.mk (Kd.N_elder' zq4x_8 (by first | exact Kd.N_base ho0 | exact Kd.S_base ho0) hb); replace HO394 := Aside0.mk (Kd.N_elder' zq4x_9 (by first | exact Kd.N_base ho0 | exact Kd.S_base ho0) hb); replace HO399 := Aside0.mk (Kd.R_below zq4x_10 hb); replace HO403 := Aside0.mk (Kd.R_below zq4x_11 hb); replace HB := Aside0.mk (below_step zq4x_1 hb); (try clear hb); (try clear hb2); (try clear hk); (try clear hi); (try clear ho0); obtain ⟨Ao72, co72, eo72⟩ := Kd.N_slice HO419.out; subst eo72) | (go_at_call 14; (with_reducible refine (cenotaphref04_Same.calls k _ _ t417 _ _ t369 t420 _ ?side1 ?side2 ?side3 ?side4 A37.out).mono ?_); (case side1 => repeat (first | exact (Kd.N_reads' HO419.out).2.2 | (with_reducible refine Kd.C_alloc ?_ _) | (with_reducible refine Kd.C_drewN ?_ _) | (with_reducible refine Kd.C_drew ?_))); (case side2 => exact (Kd.N_reads' HO419.out).2.1); (case side3 => repeat (first | exact (Kd.V_reads' HO371.out).2.2 | (with_reducible refine Kd.C_alloc ?_ _) | (with_reducible refine Kd.C_drewN ?_ _) | (with_reducible refine Kd.C_drew ?_))); (case side4 => exact (Kd.V_reads' HO371.out).2.1); rintro e w73 ⟨rfl, hb⟩; replace HO371 := Aside0.mk (Kd.V_below zq4x_2 hb); replace HO374 := Aside0.mk (Kd.N_below zq4x_3 hb); replace HO377 := Aside0.mk (Kd.V_below zq4x_4 hb); replace HO380 := Aside0.mk (Kd.V_below zq4x_5 hb); replace HO384 := Aside0.mk (Kd.N_below zq4x_6 hb); replace HO387 := Aside0.mk (Kd.V_below zq4x_7 hb); replace HO391 := Aside0.mk (Kd.N_below zq4x_8 hb); replace HO394 := Aside0.mk (Kd.N_below zq4x_9 hb); replace HO399 := Aside0.mk (Kd.R_below zq4x_10 hb); replace HO403 := Aside0.mk (Kd.R_below zq4x_11 hb); replace HO407 := Aside0.mk (Kd.V_below zq4x_12 hb); replace HO419 := Aside0.mk (Kd.N_below (by (with_reducible repeat (first | apply Kd.N_alloc | apply Kd.N_drewN | apply Kd.N_drew)); exact HO419.out) hb); replace HB := Aside0.mk (below_step zq4x_1 hb); (try clear hb); (try clear hb2); (try clear hk); (try clear hi)))
          go_ret
          exact ⟨by first | rfl | (simp [errW_none, errW_some] <;> rfl) | (simp [*, errW_none, errW_some] <;> rfl), by repeat (first | (with_reducible first | exact HB.out | apply below_alloc | apply pw_below_drewN | apply below_drew1) | exact HB.out)⟩
         ·rw [if_neg c35] at H
          exact absurd H (by simp)
        ·rw [if_neg c32] at H
         exact absurd H (by simp)
       ·replace c29 := Bool.eq_false_iff.mpr c29
        subst c29
        have H1 : (none) = some r := by rw [if_neg (show ¬ (false = true) by decide)] at H; exact H
        clear H
        have H := H1
        clear H1
        exact absurd H (by simp)
      ·replace c27 := Bool.eq_false_iff.mpr c27
       subst c27
       have H1 : (none) = some r := by rw [if_neg (show ¬ (false = true) by decide)] at H; exact H
       clear H
       have H := H1
       clear H1
       exact absurd H (by simp)
    ·replace c22 := Bool.eq_false_iff.mpr c22
     subst c22
     have H1 : (none) = some r := by rw [if_neg (show ¬ (false = true) by decide)] at H; exact H
     clear H
     have H := H1
     clear H1
     exact absurd H (by simp)
   ·replace c17 := Bool.eq_false_iff.mpr c17
    subst c17
    have H1 : (none) = some r := by rw [if_neg (show ¬ (false = true) by decide)] at H; exact H
    clear H
    have H := H1
    clear H1
    exact absurd H (by simp)
  ·replace c13 := Bool.eq_false_iff.mpr c13
   subst c13
   have H1 : (none) = some r := by rw [if_neg (show ¬ (false = true) by decide)] at H; exact H
   clear H
   have H := H1
   clear H1
   exact absurd H (by simp)
 ·replace c9 := Bool.eq_false_iff.mpr c9
  subst c9
  have H1 : (none) = some r := by rw [if_neg (show ¬ (false = true) by decide)] at H; exact H
  clear H
  have H := H1
  clear H1
  exact absurd H (by simp)

end Go.Proofs.Ytkfehkaiifjkmaa.P
