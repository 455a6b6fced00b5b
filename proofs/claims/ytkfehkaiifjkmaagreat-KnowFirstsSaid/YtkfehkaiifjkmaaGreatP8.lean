import Derived.Test.YtkfehkaiifjkmaaGreatP0
import Derived.Test.YtkfehkaiifjkmaaGreatP5
import Derived.Test.YtkfehkaiifjkmaaGreatP6
import Derived.Test.YtkfehkaiifjkmaaGreatP7
namespace Go.Proofs.YtkfehkaiifjkmaaGreat.P
open Go.RowKit Go.Proofs.YtkfehkaiifjkmaaGreatW.PrintWords Go.Proofs.YtkfehkaiifjkmaaGreatW.PrintLast Go.Proofs.YtkfehkaiifjkmaaGreatW.PrintMore
set_option maxHeartbeats 8000000
set_option maxRecDepth 100000
attribute [local go_sem] max2_int min2_int max_two min_two max_three min_three max_four min_four
set_option linter.unusedVariables false
set_option linter.unusedSimpArgs false
theorem mato_index (A0 : Option Addr) (c0 : Nat) (l0 : List RW) (cb : Value) (p : RW → Bool) (w : World) (hr0 : Kd.C kRW w A0 l0.length l0)
  (hp : ∀ (x : RW) (W : World), x ∈ l0 → Below w.heap.size w W → Calls Tryz.prog 44 #[.agg #[.string x.f0, .int .i64 x.u, .slice x.A x.n x.c], cb] W fun e w' => e = .returned (.bool (p x)) ∧ Below W.heap.size W w') :
  Calls Tryz.prog 69 #[.slice A0 l0.length c0, .func (.func 44) #[] #[cb]] w fun e w' => e = .returned (.int .i64 (idxI p l0)) ∧ Below w.heap.size w w' := by
 have hlen := hr0.2.1
 have HR0 := aK hr0
 have HP := aK hp
 clear hr0 hp
 have HF := aK (fun i hi hn h => idxI_found p zRW l0 i hi hn h)
 have HN := aK (fun hn => idxI_none p zRW l0 hn)
 generalize idxI p l0 = r at *
 generalize hn : l0.length = n at *
 have HL := aK hn
 clear hn
 have HB := aK (Below.refl w.heap.size w)
 have hut := Tryz.underlying72
 go_enter Tryz.func69, Tryz.ntmps69
 go_wp2
 go_loopw [8] (fun vi wr => ∃ i : Nat, vi = .int .i64 i ∧ i ≤ n ∧ Aside0 (∀ j, j < i → p (l0.getD j zRW) = false) ∧ Aside0 (Below w.heap.size w wr)) (fun vi _ => n - (intOf vi).toNat)
 case atStart => exact ⟨0, rfl, Nat.zero_le _, ⟨fun j hj => absurd hj (Nat.not_lt_zero _)⟩, HB⟩
 case round =>
  clear HB
  obtain ⟨i, rfl, hin, HA, HB⟩ := hrel
  by_cases hlt : i < n
  ·obtain ⟨ad, hA, hx0, hx1, hx2⟩ := at_RW HR0.out (i : Int) (by omega) (by omega)
   obtain rfl := hA
   have pm := eT (show (0 : Int) ≤ (i : Int) by omega)
   have qm := eT (show (i : Int) < (n : Int) by omega)
   replace hx2 := pc_ HB hx2; replace hx0 := pc_ HB hx0; replace hx1 := pc_ HB hx1
   have hel : rd_RW l0 (i : Int) = l0.getD i zRW := rfl
   simp only [Int.toNat_natCast, hel] at hx0 hx1 hx2
   have HK := aK (HP.out (l0.getD i zRW)  wr (by rw [← List.getElem_eq_getD (h := by have := HL.out; omega)]; exact List.getElem_mem _) HB.out)
   by_cases hpx : p (l0.getD i zRW) = true
   ·have HRES := aK (HF.out i (by have := HL.out; omega) HA.out hpx)
    rw [hpx] at HK
    clear hel hpx
    go_wp2_with fail
    refine HK.out.mono ?_
    rintro e w' ⟨rfl, hb1⟩
    have HB1 := aK (bS HB.out hb1)
    clear hb1
    go_wp2_with fail
    go_ret
    exact ⟨by rw [HRES.out]; rfl, HB1.out⟩
   ·have hpf : p (l0.getD i zRW) = false := by simpa using hpx
    rw [hpf] at HK
    have HPF := aK hpf
    clear hel hpx hpf
    go_wp2_with fail
    refine HK.out.mono ?_
    rintro e w' ⟨rfl, hb1⟩
    have HB1 := aK (bS HB.out hb1)
    clear hb1
    go_wp2_with fail
    go_roundw
    case rel => exact ⟨i + 1, by go_num, by omega, ⟨fun j hj => by
     by_cases e : j = i
     ·subst e; exact HPF.out
     ·exact HA.out j (by omega)⟩, HB1⟩
    case measure => simp [intOf]; omega
  ·have hge : decide ((i : Int) < (n : Int)) = false := by simp; omega
   have HRES := aK (HN.out (fun j hj => HA.out j (by have := HL.out; omega)))
   go_wp2_with fail
   go_ret
   exact ⟨by rw [HRES.out]; rfl, HB.out⟩
theorem mato_deletek (w : World) (base : Nat) (ok : Nat → Prop) (v : Value) (l : List RW) (cb : Value) (p : RW → Bool) (ho : Kd.R kRW 72 w base ok v l) (hbase : base ≤ w.heap.size)
  (hp : ∀ (x : RW) (W : World), x ∈ l → Below base w W → Calls Tryz.prog 44 #[.agg #[.string x.f0, .int .i64 x.u, .slice x.A x.n x.c], cb] W fun e w' => e = .returned (.bool (p x)) ∧ Below W.heap.size W w') :
  Calls Tryz.prog 42 #[v, .func (.func 44) #[] #[cb]] w fun e w' => ∃ v' : Value, e = .returned v' ∧ Kd.R kRW 72 w' base ok v' (l.filter fun x => !p x) ∧ Below base w w' ∧ ∀ k, k < w.heap.size → some k ≠ v.ownBlock → w'.heap[k]? = w.heap[k]? := by
 obtain ⟨A, c, rfl, hlc, hC⟩ := Kd.R_reads ho
 have hix := mato_index A c l cb p w hC (fun x  W hx hW => hp x  W hx ⟨hW.os, hW.tape, hW.output, by have := hW.size; omega, fun k hk => hW.block k (by omega)⟩)
 have hle := idxP_le p l
 have HIX := aK hix
 have HP := aK hp
 have HO := aK ho
 clear hix hp hC
 obtain ⟨i0, hi0⟩ : ∃ i0, idxP p l = i0 := ⟨_, rfl⟩
 have hut := Tryz.underlying72
 by_cases hlt : i0 < l.length
 ·have hq : idxI p l = (i0 : Int) := by unfold idxI; rw [hi0, if_pos hlt]
  rw [hq] at HIX
  have hq1 : ((i0 : Int) == -1) = false := by rw [beq_eq_false_iff_ne]; omega
  have hne : l ≠ [] := fun e => by rw [e] at hlt; simp at hlt
  obtain ⟨g, cap, cur, ev, hg, hk, hh, h2, h3, h4, hpp⟩ := R_open ho hne
  injection ev with eA _ ec
  subst eA; subst ec
  clear hh h4 hpp ho hq
  have hw1 : IntKind.i64.wrap ((i0 : Int) + 1) = (i0 : Int) + 1 := by
   have : maxLen = 9223372036854775807 := rfl
   rw [IntKind.wrap_i64] <;> omega
  go_enter Tryz.func42, Tryz.ntmps42
  go_wp2_with fail
  refine HIX.out.mono ?_
  rintro e w1 ⟨rfl, hb1⟩
  have HO1 := aK (Kd.R_below HO.out hb1)
  have HB1 := aK (below_then (Below.refl base w) hbase hb1)
  have HK1 := aK (show ∀ k, k < w.heap.size → k ≠ g → w1.heap[k]? = w.heap[k]? from fun k hk _ => hb1.block k hk)
  clear hb1 HO HIX
  go_wp2_with fail
  have HS := aK (del_start p zRW l (by rw [hi0]; exact hlt))
  rw [hi0] at HS
  generalize hn : l.length = n at *
  have HL := aK hn
  clear hn hi0 hq1 hw1
  have hmax : maxLen = 9223372036854775807 := rfl
  go_loopw [5, 6] (fun vi vj wr => ∃ (i j : Nat) (L : List RW), vi = .int .i64 i ∧ vj = .int .i64 j ∧ i < j ∧ j ≤ n ∧ Aside0 (L.length = n) ∧ Aside0 (L.take i = (l.take j).filter (fun x => !p x)) ∧ Aside0 (L.drop j = l.drop j) ∧ Aside0 (Kd.R kRW 72 wr base ok (.slice (some ⟨g, 0, none⟩) n c) L) ∧ Aside0 (Below base w wr) ∧ Aside0 (∀ k, k < w.heap.size → k ≠ g → wr.heap[k]? = w.heap[k]?)) (fun _ vj _ => n - (intOf vj).toNat)
  case atStart => exact ⟨i0, i0 + 1, l, rfl, by go_num, by omega, by omega, HL, HS, ⟨rfl⟩, HO1, HB1, HK1⟩
  case round =>
   clear HS HO1 HB1 HK1
   obtain ⟨i, j, L, rfl, rfl, hij, hjn, HLL, HT, HD, HO, HB, HKP⟩ := hrel
   by_cases hj : j < n
   ·have hC := (Kd.R_reads' HO.out).2.2
    obtain ⟨ad, hA, hx0, hx1, hx2⟩ := at_RW hC (j : Int) (by omega) (by have := HLL.out; omega)
    injection hA with hA
    subst hA
    have pm := eT (show (0 : Int) ≤ (j : Int) by omega)
    have qm := eT (show (j : Int) < (n : Int) by omega)
    have hel : rd_RW L (j : Int) = l.getD j zRW := drop_get zRW HD.out (by have := HL.out; omega)
    simp only [Int.toNat_natCast, hel, Addr.add_lit, Nat.zero_add] at hx0 hx1 hx2
    clear hC
    have HMEM := aK (show l.getD j zRW ∈ l by rw [← List.getElem_eq_getD (h := by have := HL.out; omega)]; exact List.getElem_mem _)
    generalize hx : l.getD j zRW = x at hx0 hx1 hx2 hel HMEM
    have HX := aK hx
    clear hx hel
    go_wp2_with fail
    have HBA := aK (HB.out.alloc (by have := below_size' HB.out hbase; omega) (.cells #[.string x.f0, .int .i64 x.u, .slice x.A x.n x.c] 72))
    have HOA := aK (Kd.R_below HO.out (bA (Below.refl _ _) (.cells #[.string x.f0, .int .i64 x.u, .slice x.A x.n x.c] 72)))
    have BK := aK (blk_new wr (.cells #[.string x.f0, .int .i64 x.u, .slice x.A x.n x.c] 72))
    have HKA := aK (show ∀ (W : World), Below (wr.alloc (.cells #[.string x.f0, .int .i64 x.u, .slice x.A x.n x.c] 72)).heap.size (wr.alloc (.cells #[.string x.f0, .int .i64 x.u, .slice x.A x.n x.c] 72)) W → ∀ k, k < w.heap.size → k ≠ g → W.heap[k]? = w.heap[k]? from fun W hW k hk hne => ((hW.block k (by have := HB.out.size; simp; omega)).trans ((bA (Below.refl _ _) _).block k (by have := HB.out.size; omega))).trans (HKP.out k hk hne))
    have HK := aK (HP.out x  _ HMEM.out HBA.out)
    by_cases hpx : p x = true
    ·rw [hpx] at HK
     have HPX := aK hpx
     clear hpx
     refine HK.out.mono ?_
     rintro e w' ⟨rfl, hb1⟩
     have HB1 := aK (below_then HBA.out (below_size' HBA.out hbase) hb1)
     have HO1 := aK (Kd.R_below HOA.out hb1)
     have HK2 := aK (HKA.out _ hb1)
     clear hb1
     go_wp2_with fail
     go_roundw
     case rel => exact ⟨i, j + 1, L, rfl, by go_num, by omega, by omega, HLL, ⟨del_skip p zRW HT.out (by have := HL.out; omega) (by rw [HX.out]; exact HPX.out)⟩, ⟨drop_succ_eq HD.out⟩, HO1, HB1, HK2⟩
     case measure => simp [intOf]; omega
    ·have hpf : p x = false := by simpa using hpx
     rw [hpf] at HK
     have HPX := aK hpf
     clear hpx hpf
     refine HK.out.mono ?_
     rintro e w' ⟨rfl, hb1⟩
     have HB1 := aK (below_then HBA.out (below_size' HBA.out hbase) hb1)
     have HO1 := aK (Kd.R_below HOA.out hb1)
     have BK1 := aK (bB BK.out hb1)
     have HK2 := aK (HKA.out _ hb1)
     clear hb1
     have hin : i < n := by omega
     have pi := eT (show (0 : Int) ≤ (i : Int) by omega)
     have qi := eT (show (i : Int) < (n : Int) by omega)
     obtain ⟨gI, capI, curI, evI, _, _, hhI, _, _, _, _⟩ := R_open HO1.out (fun e => by have := HLL.out; rw [e] at this; simp at this; omega)
     injection evI with eA eN eC
     clear eN eC
     injection eA with eA
     injection eA with eA
     subst eA
     obtain ⟨adI, hAI, hy0, hy1, hy2⟩ := at_RW (Kd.R_reads' HO1.out).2.2 (i : Int) (by omega) (by have := HLL.out; omega)
     injection hAI with hAI
     subst hAI
     simp only [Int.toNat_natCast, Addr.add_lit, Nat.zero_add] at hy0 hy1 hy2
     have hq0 : w'.cell? ⟨wr.heap.size, 0, none⟩ = some (.string x.f0) := (bC BK1.out 0).trans rfl; have hq1 : w'.cell? ⟨wr.heap.size, 1, none⟩ = some (.int .i64 x.u) := (bC BK1.out 1).trans rfl; have hq2 : w'.cell? ⟨wr.heap.size, 2, none⟩ = some (.slice x.A x.n x.c) := (bC BK1.out 2).trans rfl
     have hz0 : w'.frozen? ⟨g, i * 3, none⟩ = false := bF_ hhI _; have hz1 : w'.frozen? ⟨g, i * 3 + 1, none⟩ = false := bF_ hhI _; have hz2 : w'.frozen? ⟨g, i * 3 + 2, none⟩ = false := bF_ hhI _
     have hres := Kd.R_seg (d := kRW) (W := w') (okp := fun _ => False) HO1.out (i : Int) (by omega) (by omega) (c := [.string (rd_RW L (i : Int)).f0, .int .i64 (rd_RW L (i : Int)).u, .slice (rd_RW L (i : Int)).A (rd_RW L (i : Int)).n (rd_RW L (i : Int)).c]) (seg := [.string x.f0, .int .i64 x.u, .slice x.A x.n x.c]) (j := 0) rfl (fun q u hq => by rw [Int.toNat_natCast]; rcases q with _ | _ | _ | q; (cases hq; exact hy0); (cases hq; exact hy1); (cases hq; exact hy2); (cases hq)) (show 0 + 3 ≤ 3 by decide) (x' := x) (kRW_mkM _ _ _ x) (fun _ h => h.elim)
     have HR := aK hres.1
     have HG := aK (HB1.out.grown hres.2 (below_size' HB1.out hbase) (fun k e => by injection e with e; omega))
     have HK3 := aK (fun k (hk : k < w.heap.size) (hne : k ≠ g) => (hres.2.block k (by have := HB1.out.size; omega) (fun e => by injection e with e; exact hne e)).trans (HK2.out k hk hne))
     clear hres hhI
     go_wp2_with fail
     go_roundw
     case rel => exact ⟨i + 1, j + 1, L.set i x, by go_num, by go_num, by omega, by omega, ⟨by rw [List.length_set]; exact HLL.out⟩, ⟨by rw [← HX.out]; exact del_keep p zRW HT.out (by have := HL.out; omega) (by have := HLL.out; omega) (by rw [HX.out]; exact HPX.out)⟩, ⟨del_drop x HD.out hij⟩, HR, HG, HK3⟩
     case measure => simp [intOf]; omega
   ·have hge : decide ((j : Int) < (n : Int)) = false := by simp; omega
    have hjj : j = n := by omega
    obtain ⟨i1, hi1, hz1, hsz1, hby1⟩ := info_parts info72
    obtain ⟨gI, capI, curI, evI, hgI, hkI, hhI, h2I, h3I, h4I, hpI⟩ := R_open HO.out (fun e => by have := HLL.out; rw [e] at this; simp at this; omega)
    injection evI with eA eN eC
    clear eN
    injection eA with eA
    injection eA with eA
    subst eA; subst eC
    rw [HLL.out] at h2I
    have hin : i < n := by omega
    have c1 : ∀ W : World, (Instr.slice 29 (.slice (some ⟨g, 0, none⟩) n c) (some (.int .i64 (i : Int))) none none).run Tryz.prog W = .ok (.slice (some ⟨g, i * 3, none⟩) (n - i) (c - i)) W := by
     intro W
     rw [cut_from (P := Tryz.prog) 29 72 .i64 Tryz.underlying29 hi1 3 hsz1 (some ⟨g, 0, none⟩) n c (i : Int) (by omega) (by omega) W, Int.toNat_natCast, if_neg (by omega), Option.map_some, Addr.add_lit, Nat.zero_add]
    have c2 := cut_to (P := Tryz.prog) 29 72 .i64 Tryz.underlying29 hi1 (some ⟨g, 0, none⟩) n c (i : Int) (by omega) (by omega) h2I
    rw [Int.toNat_natCast] at c2
    have hcl := fun ty => run_clear_k (P := Tryz.prog) wr 29 72 ty _ [.string ⟨#[]⟩, .int .i64 0, .slice none 0 0] Tryz.underlying29 Tryz.zeroValue72 rfl (by decide) (by decide) g (i * 3) (n - i) (c - i) (by omega) (fun q hq => by
     have hq' : q < (n - i) * 3 := hq
     rw [bC hhI, Array.getElem?_eq_getElem (by have h4' : curI.size = c * 3 := h4I; omega)]; rfl) (fun q _ => bF_ hhI _)
    have hfin := R_cut_clear (d := kRW) (i := i) hgI hkI hhI (by rw [HLL.out]; exact h2I) h3I h4I hpI (by rw [HLL.out]; omega) (List.replicate (n - i) ([.string ⟨#[]⟩, .int .i64 0, .slice none 0 0] : List Value)).flatten (by
     have h4' : curI.size = c * 3 := h4I
     have hl : ((List.replicate (n - i) ([.string ⟨#[]⟩, .int .i64 0, .slice none 0 0] : List Value)).flatten).length = (n - i) * 3 := by simp
     rw [hl]
     show i * 3 + _ ≤ _
     omega)
    generalize (List.replicate (n - i) ([.string ⟨#[]⟩, .int .i64 0, .slice none 0 0] : List Value)).flatten = vs at hcl hfin
    have HR := aK (show Kd.R kRW 72 (wr.setCells g (i * 3) vs) base ok (.slice (some ⟨g, 0, none⟩) i c) (l.filter fun x => !p x) from by
     have h := hfin.1
     rw [HT.out, hjj, List.take_of_length_le (by have := HL.out; omega)] at h
     exact h)
    have HG := aK (show Below base w (wr.setCells g (i * 3) vs) from HB.out.grown hfin.2 (below_size' HB.out hbase) (fun k e => by injection e with e; omega))
    have HK4 := aK (show ∀ k, k < w.heap.size → k ≠ g → (wr.setCells g (i * 3) vs).heap[k]? = w.heap[k]? from fun k hk hne => (hfin.2.block k (by have := HB.out.size; omega) (fun e => by injection e with e; exact hne e)).trans (HKP.out k hk hne))
    clear hfin hhI hpI h4I
    go_wp2
    go_ret
    exact ⟨_, rfl, HR.out, HG.out, fun k hk hne => HK4.out k hk (fun e => hne (by rw [e]; simp [Value.ownBlock]))⟩
 ·have hq : idxI p l = -1 := by unfold idxI; rw [hi0, if_neg hlt]
  have HF := aK (filter_none p l (by omega))
  rw [hq] at HIX
  clear hq hi0 hlt hle hlc ho
  go_enter Tryz.func42, Tryz.ntmps42
  go_wp2_with fail
  refine HIX.out.mono ?_
  rintro e w1 ⟨rfl, hb1⟩
  have HO1 := aK (Kd.R_below HO.out hb1)
  have HB1 := aK (below_then (Below.refl base w) hbase hb1)
  have HK1 := aK hb1
  clear hb1 HO HIX
  go_wp2_with fail
  go_ret
  exact ⟨_, rfl, by rw [HF.out]; exact HO1.out, HB1.out, fun k hk _ => HK1.out.block k hk⟩
def hasL (l : List ByteArray) (a : ByteArray) : Bool := bsB (fun i => cmpB (l.getD i ByteArray.empty) a) l.length
theorem mato_pred (x : RW) (B : Nat) (A1 : Option Addr) (c1 : Nat) (l1 : List ByteArray) (W : World) (hr1 : Kd.C Kd.string W A1 l1.length l1) (hc1 : l1.length ≤ c1) (hl : l1.length < 8796093022208) (hB : W.heap[B]? = some (.cells #[.slice A1 l1.length c1] 44 (0, 0))) :
  Calls Tryz.prog 44 #[.agg #[.string x.f0, .int .i64 x.u, .slice x.A x.n x.c], .pointer (some ⟨B, 0, none⟩)] W fun e w' => e = .returned (.bool (!(hasL l1 x.f0))) ∧ Below W.heap.size W w' := by
 have HB := aK (bA (Below.refl W.heap.size W) (.cells #[.string x.f0, .int .i64 x.u, .slice x.A x.n x.c] 72))
 have BK := aK (blk_new W (.cells #[.string x.f0, .int .i64 x.u, .slice x.A x.n x.c] 72))
 have BB := aK (blk_alloc hB (.cells #[.string x.f0, .int .i64 x.u, .slice x.A x.n x.c] 72))
 have hc0 : (W.alloc (.cells #[.string x.f0, .int .i64 x.u, .slice x.A x.n x.c] 72)).cell? ⟨W.heap.size, 0, none⟩ = some (.string x.f0) := (bC BK.out 0).trans rfl
 have hc1' : (W.alloc (.cells #[.string x.f0, .int .i64 x.u, .slice x.A x.n x.c] 72)).cell? ⟨B, 0, none⟩ = some (.slice A1 l1.length c1) := (bC BB.out 0).trans rfl
 have hut := Tryz.underlying72
 have HK := aK (id_Has.calls A1 c1 l1 x.f0 (hasL l1 x.f0) _ (cB hr1 HB.out) hc1 (by unfold id_Has.f; rw [if_pos hl]; rfl))
 clear hB hr1 hc1 hl
 go_enter Tryz.func44, Tryz.ntmps44
 go_wp2_with fail
 refine HK.out.mono ?_
 rintro e w' ⟨rfl, hd⟩
 have HB1 := aK (bS HB.out hd.below)
 clear hd
 go_wp2_with fail
 go_ret
 exact ⟨rfl, HB1.out⟩
def konlyF (l0 : List S72) (l1 : List ByteArray) : List S72 := l0.filter fun x => !(!(hasL l1 x.f0))
theorem know_Only.at (A0 : Option Addr) (c0 : Nat) (l0 : List S72) (A1 : Option Addr) (c1 : Nat) (l1 : List ByteArray) (w : World) (hr0 : Kd.C k72 w A0 l0.length l0) (hc0 : l0.length ≤ c0) (hr1 : Kd.C Kd.string w A1 l1.length l1) (hc1 : l1.length ≤ c1) (hl : okM l0) (hl1 : l1.length < 8796093022208) :
  Calls Tryz.prog 19 #[.slice A0 l0.length c0, .slice A1 l1.length c1] w fun e w' => ∃ v0_ : Value, e = .returned (v0_) ∧ Kd.V k72 72 w' w.heap.size (fun k_ => w.heap.size ≤ k_) v0_ (konlyF l0 l1) ∧ Below w.heap.size w w' := by
 have HCP := aK (fun W (hW : Below w.heap.size w W) => know_copied.own A0 c0 l0 W (cB hr0 hW) hc0 hl)
 have HR1 := aK hr1
 have HB := aK (bA (Below.refl w.heap.size w) (.cells #[.slice A1 l1.length c1] 44))
 have BK := aK (blk_new w (.cells #[.slice A1 l1.length c1] 44))
 clear hr0 hc0 hl hr1
 go_enter Tryz.func19, Tryz.ntmps19
 go_wp2_with fail
 refine (HCP.out _ HB.out).mono ?_
 rintro e w1 ⟨v1, rs, rfl, hO, hb1⟩
 have HO := aK hO
 have BK1 := aK (bB BK.out hb1)
 have HB1 := aK (bS HB.out hb1)
 have hsz : (w.alloc (.cells #[.slice A1 l1.length c1] 44)).heap.size = w.heap.size + 1 := by simp
 have hz1 : w.heap.size + 1 ≤ w1.heap.size := by rw [← hsz]; exact hb1.size
 rw [hsz] at HO
 have HZ := aK hz1
 clear hO hb1 hsz hz1 HCP
 go_wp2_with fail
 refine (mato_deletek w1 (w.heap.size + 1) (fun _ => True) v1 rs (.pointer (some ⟨w.heap.size, 0, none⟩)) (fun x => !(hasL l1 x.f0)) HO.out.1 HZ.out (fun x W _ hW => mato_pred x w.heap.size A1 c1 l1 W (cB HR1.out (HB1.out.trans ⟨hW.os, hW.tape, hW.output, hW.size, fun k hk => hW.block k (by omega)⟩)) hc1 hl1 ((hW.block _ (by omega)).trans BK1.out))).mono ?_
 rintro e w2 ⟨v2, rfl, ho2, hb2, hk2⟩
 have hI := F2.filter (p := fun x : RW => !(!(hasL l1 x.f0))) (q := fun x : S72 => !(!(hasL l1 x.f0))) (fun a b h => by show (!(!(hasL l1 a.f0))) = !(!(hasL l1 b.f0)); rw [h.1]) (INs.step (INs.bound HO.out.2) (fun k hk hlt => hk2 k hlt hk.1.1))
 have HR := aK (Kd.V_mono (lead_view (b := w.heap.size) lead_m ho2 hI (fun k hk => hk.1.2)) (ok' := fun k => w.heap.size ≤ k) (fun k hk => by omega))
 have HB2 := aK (HB1.out.trans ⟨hb2.os, hb2.tape, hb2.output, hb2.size, fun k hk => hb2.block k (by omega)⟩)
 clear ho2 hb2 hk2 hI
 go_wp2_with fail
 go_ret
 exact ⟨_, rfl, HR.out, HB2.out⟩
def know_Only.f (l0 : List S72) (l1 : List ByteArray) : Option (List S72) := if okM l0 ∧ l1.length < 8796093022208 then some (konlyF l0 l1) else none
theorem know_Only.calls (A0 : Option Addr) (c0 : Nat) (l0 : List S72) (A1 : Option Addr) (c1 : Nat) (l1 : List ByteArray) (r : List S72) (w : World) (hr0 : Kd.C k72 w A0 l0.length l0) (hc0 : l0.length ≤ c0) (hr1 : Kd.C Kd.string w A1 l1.length l1) (hc1 : l1.length ≤ c1) (h : know_Only.f l0 l1 = some r) :
  Calls Tryz.prog 19 #[.slice A0 l0.length c0, .slice A1 l1.length c1] w fun e w' => ∃ v0_ : Value, e = .returned (v0_) ∧ Kd.V k72 72 w' w.heap.size (fun k_ => w.heap.size ≤ k_) v0_ r ∧ Below w.heap.size w w' := by
 unfold know_Only.f at h
 by_cases hc : okM l0 ∧ l1.length < 8796093022208
 ·rw [if_pos hc] at h
  obtain rfl := sI h
  exact know_Only.at A0 c0 l0 A1 c1 l1 w hr0 hc0 hr1 hc1 hc.1 hc.2
 ·rw [if_neg hc] at h; cases h
def cenotaphlaw01_To.l0 : Nat → List ByteArray → List ByteArray → Int → Option (List ByteArray)
 | 0, _, _, _ => none
 | k + 1, x0, x3, x4 => if x4 < (x0.length : Int) then (if 0 ≤ x4 then (if x3.length < 8796093022208 then (cenotaphlaw01_To.l0 k x0 (x3 ++ [rdOf ByteArray.empty x0 x4]) (wrap64 (x4 + 1))) else (none)) else (none)) else (some x3)
def cenotaphlaw01_To.f (k : Nat) (l0 : List ByteArray) : Option (List ByteArray) := cenotaphlaw01_To.l0 k l0 ([] : List ByteArray) 0
theorem cenotaphlaw01_To.mono_l : ∀ k, (∀ y0 y1 y2, LeO (cenotaphlaw01_To.l0 k y0 y1 y2) (cenotaphlaw01_To.l0 (k + 1) y0 y1 y2))
 | 0 => fun _ _ _ r h => by simp [cenotaphlaw01_To.l0] at h
 | k + 1 => by
  have ih0 := cenotaphlaw01_To.mono_l k
  ·intro y0 y1 y2
   unfold cenotaphlaw01_To.l0
   repeat' first
   | (with_reducible exact ih0 _ _ _)
   | (with_reducible exact LeO.refl _)
   | (with_reducible exact LeO.none _)
   | (with_reducible refine LeO.ite ?_ ?_)
   | (with_reducible refine LeO.bind ?_ (fun _ => ?_))
   | exact ih0 _ _ _
   | exact LeO.none _
   | refine LeO.ite ?_ ?_
   | refine LeO.bind ?_ (fun _ => ?_)
theorem cenotaphlaw01_To.mono : ∀ a0 k, LeO (cenotaphlaw01_To.f k a0) (cenotaphlaw01_To.f (k + 1) a0) := by
 intro a0 k
 have ih0 := cenotaphlaw01_To.mono_l k
 unfold cenotaphlaw01_To.f
 repeat' first
   | (with_reducible exact ih0 _ _ _)
   | (with_reducible exact LeO.refl _)
   | (with_reducible exact LeO.none _)
   | (with_reducible refine LeO.ite ?_ ?_)
   | (with_reducible refine LeO.bind ?_ (fun _ => ?_))
   | exact ih0 _ _ _
   | exact LeO.none _
   | refine LeO.ite ?_ ?_
   | refine LeO.bind ?_ (fun _ => ?_)
theorem cenotaphlaw01_To.calls (k : Nat) (A0 : Option Addr) (c0 : Nat) (l0 : List ByteArray) (r : List ByteArray) (w : World) (hr0 : Kd.C Kd.string w A0 l0.length l0) (hc0 : l0.length ≤ c0) (h : cenotaphlaw01_To.f k l0 = some r) :
  Calls Tryz.prog 20 #[.slice A0 l0.length c0] w fun e w' => ∃ v0_ : Value, e = .returned (v0_) ∧ Kd.R Kd.string 51 w' w.heap.size (fun _ => True) v0_ r ∧ Below w.heap.size w w' := by
 have HR0 := aK hr0
 have HC0 := aK hc0
 clear hr0 hc0
 have HB := aK (Below.refl w.heap.size w)
 have H : (cenotaphlaw01_To.l0 k l0 ([] : List ByteArray) 0) = some r := h
 clear h
 have H' := aK H
 clear H
 go_enter Tryz.func20, Tryz.ntmps20
 go_wp2
 go_loopg [3, 4] k (fun kq v3 v4 w' => ∃ (x3_1 : List ByteArray) (x4_1 : Int), v4 = .int .i64 x4_1 ∧ Aside0 (cenotaphlaw01_To.l0 kq l0 x3_1 x4_1 = some r) ∧ Aside0 (kq ≤ k) ∧ Aside0 (Kd.R Kd.string 51 w' w.heap.size (fun _ => True) v3 x3_1) ∧ Aside0 (Below w.heap.size w w'))
 case atStart => exact ⟨(([] : List ByteArray)), (0), (by first | rfl | (simp; done) | (simp [*]; done)), H', ⟨Nat.le_refl _⟩, ⟨by first | exact Kd.R_nil _ _ _ _ _ | exact Kd.N_nil _ _ _ _ _ | exact Kd.V_nil _ _ _ _ _ | exact Kd.Q_nil _ _ _ _ _ | exact Kd.S_nil _ _ _ _ _⟩, ⟨by repeat (first | (with_reducible first | exact HB.out | apply bA | apply pB | apply bW) | exact HB.out)⟩⟩
 case round =>
  clear H'
  obtain ⟨x3_1, x4_1, rfl, HA, HK1, HO_3, HB⟩ := hrel
  cases gk with
  | zero => exact absurd HA.out (by simp [cenotaphlaw01_To.l0])
  | succ k1 =>
   have H := HA.out
   clear HA
   simp only [cenotaphlaw01_To.l0] at H
   by_cases c2 : x4_1 < (l0.length : Int)
   ·rw [if_pos c2] at H
    have c2b0 : decide (x4_1 < (l0.length : Int)) = true := dT c2
    clear c2
    by_cases c3 : 0 ≤ x4_1
    ·rw [if_pos c3] at H
     have c3b0 : decide (0 ≤ x4_1) = true := dT c3
     clear c3
     by_cases c4 : x3_1.length < 8796093022208
     ·rw [if_pos c4] at H
      have LMc4 := aK c4
      clear c4
      obtain ⟨y393, hy393⟩ : ∃ y_ : List ByteArray, y_ = (x3_1 ++ [rdOf ByteArray.empty l0 x4_1]) := ⟨_, rfl⟩
      replace H : (cenotaphlaw01_To.l0 k1 l0 y393 (wrap64 (x4_1 + 1))) = some r := by first | (rw [hy393]; with_reducible exact H) | (have H2_ := (Option.bind_some _ _).symm.trans H; rw [hy393]; with_reducible exact H2_) | (have H2_ := (Option.bind_some _ _).symm.trans H; with_reducible exact H2_) | with_reducible exact H | (rw [hy393]; exact H) | exact H
      have Ny393 := aK hy393
      clear hy393
      have H' := aK H
      clear H
      have p392 : 0 ≤ (x4_1 : Int) := oD (by first | (with_reducible assumption) | assumption)
      have q392 : x4_1 < (l0.length : Int) := oD (by first | (with_reducible assumption) | assumption)
      obtain ⟨ad392, e392, hx392_0⟩ := Kd.at_string HR0.out x4_1 p392 q392
      cases e392
      replace hx392_0 := pc_ HB hx392_0
      replace p392 := eT p392
      replace q392 := eT q392
      go_wp2_with (first | ((with_reducible refine gate_builtin (b := .append) (xs := #[.tmp 11, .tmp 16]) rfl ?_); at_builtin; refine Kd.R_append Kd.string (w0 := w) w.heap.size rfl (.tmp 11) (.tmp 16) 44 51 (.string ⟨#[]⟩) 16 rfl Tryz.underlying44 info51 rfl (by decide) (by omega) u3 x3_1 (rdOf ByteArray.empty l0 x4_1) [.string (rdOf ByteArray.empty l0 x4_1)] (fun _ => True) (fun _ => False) rfl rfl ?aP (fun _ hk => hk.elim) ?aF ?aO ?aB ?aS ?aL ?_; (case aP => exact rfl); (case aB => exact (by repeat (first | (with_reducible first | exact HB.out | apply bA | apply pB | apply bW) | exact HB.out))); (case aF => exact (fun _ _ => trivial)); (case aO => exact (by (with_reducible repeat (first | apply Kd.R_alloc | apply Kd.R_drewN | apply Kd.R_drew)); exact HO_3.out)); (case aS => exact (below_size (by repeat (first | (with_reducible first | exact HB.out | apply bA | apply pB | apply bW) | exact HB.out)))); (case aL => have := LMc4.out; omega); intro v394 w5 ho hb hg hat; rw [← Ny393.out] at ho; replace HB := aK (hb); have HO395 := aK (ho); clear HO_3; clear ho hb hg hat))
      go_roundg k1
      case measure => have := HK1.out; omega
      case rel => exact ⟨(y393), (wrap64 (x4_1 + 1)), (by first | rfl | (simp; done) | (simp [*]; done)), H', ⟨by have := HK1.out; omega⟩, ⟨by (with_reducible repeat (first | apply Kd.R_alloc | apply Kd.R_drewN | apply Kd.R_drew)); exact HO395.out⟩, ⟨by repeat (first | (with_reducible first | exact HB.out | apply bA | apply pB | apply bW) | exact HB.out)⟩⟩
     ·rw [if_neg c4] at H
      exact absurd H (by simp)
    ·rw [if_neg c3] at H
     exact absurd H (by simp)
   ·rw [if_neg c2] at H
    have c2b0 : decide (x4_1 < (l0.length : Int)) = false := decide_eq_false c2
    clear c2
    obtain rfl := sI H
    go_wp2
    go_ret
    exact ⟨_, by first | rfl | (simp [errW_none, errW_some] <;> rfl) | (simp [*, errW_none, errW_some] <;> rfl), by (with_reducible repeat (first | apply Kd.R_alloc | apply Kd.R_drewN | apply Kd.R_drew)); exact HO_3.out, by repeat (first | (with_reducible first | exact HB.out | apply bA | apply pB | apply bW) | exact HB.out)⟩
theorem mate_equal (A0 : Option Addr) (c0 : Nat) (l0 : List RW) (A1 : Option Addr) (c1 : Nat) (l1 : List RW) (q : Nat → Bool) (w : World) (hr0 : Kd.C kRW w A0 l0.length l0) (hr1 : Kd.C kRW w A1 l1.length l1)
  (hp : ∀ (i : Nat) (x y : RW) (W : World), i < l0.length → i < l1.length → l0.getD i zRW = x → l1.getD i zRW = y → Below w.heap.size w W → Calls Tryz.prog 51 #[.agg #[.string x.f0, .int .i64 x.u, .slice x.A x.n x.c], .agg #[.string y.f0, .int .i64 y.u, .slice y.A y.n y.c]] W fun e w' => e = .returned (.bool (q i)) ∧ Below W.heap.size W w') :
  Calls Tryz.prog 50 #[.slice A0 l0.length c0, .slice A1 l1.length c1, .func (.func 51) #[] #[]] w fun e w' => e = .returned (.bool (if l0.length = l1.length then (List.range l0.length).all q else false)) ∧ Below w.heap.size w w' := by
 have hmax : maxLen = 9223372036854775807 := rfl
 have hlen := hr0.2.1
 have HR0 := aK hr0
 have HR1 := aK hr1
 have HP := aK hp
 clear hr0 hr1 hp
 have HB := aK (Below.refl w.heap.size w)
 have hut := Tryz.underlying72
 by_cases hl : l0.length = l1.length
 ·rw [if_pos hl]
  have hl2 : ((l0.length : Int) != (l1.length : Int)) = false := by rw [hl]; simp
  rw [← hl] at HR1 HP
  generalize hn : l0.length = n at *
  have HNL := aK hl
  clear hl hn
  rw [← HNL.out] at hl2 ⊢
  obtain ⟨res, hres⟩ : ∃ res, (List.range n).all q = res := ⟨_, rfl⟩
  rw [hres]
  have HRES := aK hres
  clear hres
  go_enter Tryz.func50, Tryz.ntmps50
  go_wp2
  go_loopw [17] (fun vi wr => ∃ i : Nat, vi = .int .i64 i ∧ i ≤ n ∧ Aside0 (∀ j, j < i → q j = true) ∧ Aside0 (Below w.heap.size w wr)) (fun vi _ => n - (intOf vi).toNat)
  case atStart => exact ⟨0, rfl, Nat.zero_le _, ⟨fun j hj => absurd hj (Nat.not_lt_zero _)⟩, HB⟩
  case round =>
   clear HB
   obtain ⟨i, rfl, hin, HA, HB⟩ := hrel
   by_cases hlt : i < n
   ·obtain ⟨ad, hA, hx0, hx1, hx2⟩ := at_RW HR0.out (i : Int) (by omega) (by omega)
    obtain ⟨bd, hB, hy0, hy1, hy2⟩ := at_RW HR1.out (i : Int) (by omega) (by omega)
    obtain rfl := hA
    obtain rfl := hB
    have pm := eT (show (0 : Int) ≤ (i : Int) by omega)
    have qm := eT (show (i : Int) < (n : Int) by omega)
    replace hx2 := pc_ HB hx2; replace hy2 := pc_ HB hy2; replace hx0 := pc_ HB hx0; replace hx1 := pc_ HB hx1; replace hy0 := pc_ HB hy0; replace hy1 := pc_ HB hy1
    have hel0 : rd_RW l0 (i : Int) = l0.getD i zRW := rfl
    have hel1 : rd_RW l1 (i : Int) = l1.getD i zRW := rfl
    simp only [Int.toNat_natCast, hel0, hel1] at hx0 hx1 hx2 hy0 hy1 hy2
    have HK := aK (fun W (hW : Below wr.heap.size wr W) => HP.out i (l0.getD i zRW) (l1.getD i zRW) W hlt hlt rfl rfl (bS HB.out hW))
    clear hel0 hel1
    generalize l0.getD i zRW = x at *
    generalize l1.getD i zRW = y at *
    by_cases hqi : q i = true
    ·rw [hqi] at HK
     have HQ := aK hqi
     clear hqi
     go_upto_region 6 with fail
     have BKX := aK (blk_new wr (.cells #[.string x.f0, .int .i64 x.u, .slice x.A x.n x.c] 72))
     have HWB := aK (bA (Below.refl wr.heap.size wr) (.cells #[.string x.f0, .int .i64 x.u, .slice x.A x.n x.c] 72))
     replace hy2 := pc_ HWB hy2; replace hy0 := pc_ HWB hy0; replace hy1 := pc_ HWB hy1
     clear hx0 hx1 hx2
     generalize wr.alloc (.cells #[.string x.f0, .int .i64 x.u, .slice x.A x.n x.c] 72) = w1 at BKX HWB hy0 hy1 hy2 ⊢
     generalize wr.heap.size = gx at BKX ⊢
     go_upto_region 7 with fail
     have BKY := aK (blk_new w1 (.cells #[.string y.f0, .int .i64 y.u, .slice y.A y.n y.c] 72))
     replace BKX := aK (blk_alloc BKX.out (.cells #[.string y.f0, .int .i64 y.u, .slice y.A y.n y.c] 72))
     replace HWB := aK (bA HWB.out (.cells #[.string y.f0, .int .i64 y.u, .slice y.A y.n y.c] 72))
     clear hy0 hy1 hy2
     generalize w1.alloc (.cells #[.string y.f0, .int .i64 y.u, .slice y.A y.n y.c] 72) = w2 at BKX BKY HWB ⊢
     generalize w1.heap.size = gy at BKY ⊢
     have hq0 : w2.cell? ⟨gx, 0, none⟩ = some (.string x.f0) := (bC BKX.out 0).trans rfl; have hq1 : w2.cell? ⟨gx, 1, none⟩ = some (.int .i64 x.u) := (bC BKX.out 1).trans rfl; have hq4 : w2.cell? ⟨gx, 2, none⟩ = some (.slice x.A x.n x.c) := (bC BKX.out 2).trans rfl; have hq2 : w2.cell? ⟨gy, 0, none⟩ = some (.string y.f0) := (bC BKY.out 0).trans rfl; have hq3 : w2.cell? ⟨gy, 1, none⟩ = some (.int .i64 y.u) := (bC BKY.out 1).trans rfl; have hq5 : w2.cell? ⟨gy, 2, none⟩ = some (.slice y.A y.n y.c) := (bC BKY.out 2).trans rfl
     go_wp2_with fail
     refine (HK.out w2 HWB.out).mono ?_
     rintro e w' ⟨rfl, hb1⟩
     have HB1 := aK (bS (bS HB.out HWB.out) hb1)
     clear hb1
     go_wp2_with fail
     go_roundw
     case rel => exact ⟨i + 1, by go_num, by omega, ⟨fun j hj => by
      by_cases e : j = i
      ·subst e; exact HQ.out
      ·exact HA.out j (by omega)⟩, HB1⟩
     case measure => simp [intOf]; omega
    ·have hqf : q i = false := by simpa using hqi
     rw [hqf] at HK
     have hres : (List.range n).all q = false := by
      rw [Bool.eq_false_iff]
      intro hall
      have := List.all_eq_true.mp hall i (List.mem_range.mpr hlt)
      rw [hqf] at this; cases this
     obtain rfl : res = false := HRES.out.symm.trans hres
     clear hres hqi hqf HRES
     go_upto_region 6 with fail
     have BKX := aK (blk_new wr (.cells #[.string x.f0, .int .i64 x.u, .slice x.A x.n x.c] 72))
     have HWB := aK (bA (Below.refl wr.heap.size wr) (.cells #[.string x.f0, .int .i64 x.u, .slice x.A x.n x.c] 72))
     replace hy2 := pc_ HWB hy2; replace hy0 := pc_ HWB hy0; replace hy1 := pc_ HWB hy1
     clear hx0 hx1 hx2
     generalize wr.alloc (.cells #[.string x.f0, .int .i64 x.u, .slice x.A x.n x.c] 72) = w1 at BKX HWB hy0 hy1 hy2 ⊢
     generalize wr.heap.size = gx at BKX ⊢
     go_upto_region 7 with fail
     have BKY := aK (blk_new w1 (.cells #[.string y.f0, .int .i64 y.u, .slice y.A y.n y.c] 72))
     replace BKX := aK (blk_alloc BKX.out (.cells #[.string y.f0, .int .i64 y.u, .slice y.A y.n y.c] 72))
     replace HWB := aK (bA HWB.out (.cells #[.string y.f0, .int .i64 y.u, .slice y.A y.n y.c] 72))
     clear hy0 hy1 hy2
     generalize w1.alloc (.cells #[.string y.f0, .int .i64 y.u, .slice y.A y.n y.c] 72) = w2 at BKX BKY HWB ⊢
     generalize w1.heap.size = gy at BKY ⊢
     have hq0 : w2.cell? ⟨gx, 0, none⟩ = some (.string x.f0) := (bC BKX.out 0).trans rfl; have hq1 : w2.cell? ⟨gx, 1, none⟩ = some (.int .i64 x.u) := (bC BKX.out 1).trans rfl; have hq4 : w2.cell? ⟨gx, 2, none⟩ = some (.slice x.A x.n x.c) := (bC BKX.out 2).trans rfl; have hq2 : w2.cell? ⟨gy, 0, none⟩ = some (.string y.f0) := (bC BKY.out 0).trans rfl; have hq3 : w2.cell? ⟨gy, 1, none⟩ = some (.int .i64 y.u) := (bC BKY.out 1).trans rfl; have hq5 : w2.cell? ⟨gy, 2, none⟩ = some (.slice y.A y.n y.c) := (bC BKY.out 2).trans rfl
     go_wp2_with fail
     refine (HK.out w2 HWB.out).mono ?_
     rintro e w' ⟨rfl, hb1⟩
     have HB1 := aK (bS (bS HB.out HWB.out) hb1)
     clear hb1
     go_wp2_with fail
     go_ret
     exact ⟨rfl, HB1.out⟩
   ·have hge : decide ((i : Int) < (n : Int)) = false := by simp; omega
    have hres : (List.range n).all q = true := List.all_eq_true.mpr fun j hj => HA.out j (by have := List.mem_range.mp hj; omega)
    obtain rfl : res = true := HRES.out.symm.trans hres
    clear hres HRES
    go_wp2_with fail
    go_ret
    exact ⟨rfl, HB.out⟩
 ·rw [if_neg hl]
  have hl2 : ((l0.length : Int) != (l1.length : Int)) = true := by simp; omega
  have hl3 : ((l0.length : Int) == (l1.length : Int)) = false := by simp; omega
  have hl4 := eq_false hl
  clear hl
  go_enter Tryz.func50, Tryz.ntmps50
  go_wp2
  go_ret
  exact ⟨rfl, HB.out⟩
theorem mate_pred_ne (s : ByteArray) (m : Int) (A : Option Addr) (n c : Nat) (t : ByteArray) (m' : Int) (A' : Option Addr) (n' c' : Nat) (b : Bool) (W : World) (hne : s ≠ t) :
  Calls Tryz.prog 51 #[.agg #[.string s, .int .i64 m, .slice A n c], .agg #[.string t, .int .i64 m', .slice A' n' c']] W fun e w' => e = .returned (.bool false) ∧ Below W.heap.size W w' := by
 have heq : (s.toList == t.toList) = false := by
  rw [Lib.toList_data, Lib.toList_data, beq_eq_false_iff_ne]
  exact fun e => hne (by apply ByteArray.ext; exact Array.toList_inj.mp e)
 clear hne
 have hu := Tryz.underlying72
 have BX := aK (bB (blk_new W (.cells #[.string s, .int .i64 m, .slice A n c] 72)) (bA (Below.refl _ _) (.cells #[.string t, .int .i64 m', .slice A' n' c'] 72)))
 have BY := aK (blk_new (W.alloc (.cells #[.string s, .int .i64 m, .slice A n c] 72)) (.cells #[.string t, .int .i64 m', .slice A' n' c'] 72))
 have HB := aK (bA (bA (Below.refl W.heap.size W) (.cells #[.string s, .int .i64 m, .slice A n c] 72)) (.cells #[.string t, .int .i64 m', .slice A' n' c'] 72))
 have e : (W.alloc (.cells #[.string s, .int .i64 m, .slice A n c] 72)).heap.size = W.heap.size + 1 := Array.size_push _
 rw [e] at BY
 clear e
 go_enter Tryz.func51, Tryz.ntmps51
 go_upto_region 1 with fail
 generalize (W.alloc _).alloc _ = w1 at BX BY HB ⊢
 have hc0 : w1.cell? ⟨W.heap.size, 0, none⟩ = some (.string s) := (bC BX.out 0).trans rfl
 have hc1 : w1.cell? ⟨W.heap.size, 1, none⟩ = some (.int .i64 m) := (bC BX.out 1).trans rfl
 have hc4 : w1.cell? ⟨W.heap.size, 2, none⟩ = some (.slice A n c) := (bC BX.out 2).trans rfl
 have hc2 : w1.cell? ⟨W.heap.size + 1, 0, none⟩ = some (.string t) := (bC BY.out 0).trans rfl
 have hc3 : w1.cell? ⟨W.heap.size + 1, 1, none⟩ = some (.int .i64 m') := (bC BY.out 1).trans rfl
 have hc5 : w1.cell? ⟨W.heap.size + 1, 2, none⟩ = some (.slice A' n' c') := (bC BY.out 2).trans rfl
 go_wp2_with fail
 go_ret
 exact ⟨rfl, HB.out⟩
theorem mate_pred_eq (s : ByteArray) (m : Int) (A : Option Addr) (n c : Nat) (t : ByteArray) (m' : Int) (A' : Option Addr) (n' c' : Nat) (b : Bool) (W : World) (he : s = t) (hv : ∀ w, Below W.heap.size W w → Calls Tryz.prog 52 #[.agg #[.int .i64 m, .slice A n c], .agg #[.int .i64 m', .slice A' n' c']] w fun e w' => e = .returned (.bool b) ∧ Below w.heap.size w w') :
  Calls Tryz.prog 51 #[.agg #[.string s, .int .i64 m, .slice A n c], .agg #[.string t, .int .i64 m', .slice A' n' c']] W fun e w' => e = .returned (.bool b) ∧ Below W.heap.size W w' := by
 have heq : (s.toList == t.toList) = true := by rw [he, beq_iff_eq]
 have HV := aK hv
 clear he hv
 have hu := Tryz.underlying72
 have BX := aK (bB (blk_new W (.cells #[.string s, .int .i64 m, .slice A n c] 72)) (bA (Below.refl _ _) (.cells #[.string t, .int .i64 m', .slice A' n' c'] 72)))
 have BY := aK (blk_new (W.alloc (.cells #[.string s, .int .i64 m, .slice A n c] 72)) (.cells #[.string t, .int .i64 m', .slice A' n' c'] 72))
 have HB := aK (bA (bA (Below.refl W.heap.size W) (.cells #[.string s, .int .i64 m, .slice A n c] 72)) (.cells #[.string t, .int .i64 m', .slice A' n' c'] 72))
 have e : (W.alloc (.cells #[.string s, .int .i64 m, .slice A n c] 72)).heap.size = W.heap.size + 1 := Array.size_push _
 rw [e] at BY
 clear e
 go_enter Tryz.func51, Tryz.ntmps51
 go_upto_region 1 with fail
 generalize (W.alloc _).alloc _ = w1 at BX BY HB ⊢
 have hc0 : w1.cell? ⟨W.heap.size, 0, none⟩ = some (.string s) := (bC BX.out 0).trans rfl
 have hc1 : w1.cell? ⟨W.heap.size, 1, none⟩ = some (.int .i64 m) := (bC BX.out 1).trans rfl
 have hc4 : w1.cell? ⟨W.heap.size, 2, none⟩ = some (.slice A n c) := (bC BX.out 2).trans rfl
 have hc2 : w1.cell? ⟨W.heap.size + 1, 0, none⟩ = some (.string t) := (bC BY.out 0).trans rfl
 have hc3 : w1.cell? ⟨W.heap.size + 1, 1, none⟩ = some (.int .i64 m') := (bC BY.out 1).trans rfl
 have hc5 : w1.cell? ⟨W.heap.size + 1, 2, none⟩ = some (.slice A' n' c') := (bC BY.out 2).trans rfl
 go_wp2_with fail
 refine (HV.out w1 HB.out).mono ?_
 rintro e w2 ⟨rfl, hb⟩
 replace HB := aK (bS HB.out hb)
 clear hb
 go_wp2_with fail
 go_ret
 exact ⟨rfl, HB.out⟩
def sameQ (k : Nat) (x y : S72) : Option Bool := if x.f0 = y.f0 then span_Same.f k x.f1.f0 x.f1.f1 y.f1.f0 y.f1.f1 else some false
def sameAll (k : Nat) (a b : List S72) : Prop := ∀ i, i < a.length → (sameQ k (a.getD i z72) (b.getD i z72)).isSome = true
instance (k : Nat) (a b : List S72) : Decidable (sameAll k a b) := by unfold sameAll; infer_instance
def sameB (k : Nat) (a b : List S72) : Bool := if a.length = b.length then (List.range a.length).all (fun i => (sameQ k (a.getD i z72) (b.getD i z72)).getD false) else false
def know_Same.f (k : Nat) (l0 : List S72) (l1 : List S72) : Option Bool := if sameAll k l0 l1 then some (sameB k l0 l1) else none
theorem sameQ_mono (k : Nat) (x y : S72) : LeO (sameQ k x y) (sameQ (k + 1) x y) := by unfold sameQ; exact LeO.ite (span_Same.mono _ _ _ _ _) (LeO.refl _)
theorem know_Same.mono : ∀ a0 a1 k, LeO (know_Same.f k a0 a1) (know_Same.f (k + 1) a0 a1) := by
 intro a0 a1 k r h
 unfold know_Same.f at h ⊢
 by_cases hc : sameAll k a0 a1
 ·rw [if_pos hc] at h
  have hs : ∀ i, i < a0.length → sameQ (k + 1) (a0.getD i z72) (a1.getD i z72) = sameQ k (a0.getD i z72) (a1.getD i z72) := fun i hi => by
   obtain ⟨b, hb⟩ := Option.isSome_iff_exists.mp (hc i hi)
   rw [hb]; exact sameQ_mono _ _ _ _ hb
  have hc2 : sameAll (k + 1) a0 a1 := fun i hi => by rw [hs i hi]; exact hc i hi
  rw [if_pos hc2, ← h]
  unfold sameB
  by_cases hl : a0.length = a1.length
  ·rw [if_pos hl, if_pos hl]
   congr 1
   rw [Bool.eq_iff_iff, List.all_eq_true, List.all_eq_true]
   exact ⟨fun h i hi => by rw [← hs i (List.mem_range.mp hi)]; exact h i hi, fun h i hi => by rw [hs i (List.mem_range.mp hi)]; exact h i hi⟩
  ·rw [if_neg hl, if_neg hl]
 ·rw [if_neg hc] at h; cases h
theorem know_Same.calls (k : Nat) (A0 : Option Addr) (c0 : Nat) (l0 : List S72) (A1 : Option Addr) (c1 : Nat) (l1 : List S72) (r : Bool) (w : World) (hr0 : Kd.C k72 w A0 l0.length l0) (hc0 : l0.length ≤ c0) (hr1 : Kd.C k72 w A1 l1.length l1) (hc1 : l1.length ≤ c1) (h : know_Same.f k l0 l1 = some r) :
  Calls Tryz.prog 23 #[.slice A0 l0.length c0, .slice A1 l1.length c1] w fun e w' => e = .returned (.bool r) ∧ Below w.heap.size w w' := by
 unfold know_Same.f at h
 by_cases hc : sameAll k l0 l1
 rotate_left
 ·rw [if_neg hc] at h; cases h
 rw [if_pos hc] at h
 obtain rfl := sI h
 clear h
 obtain ⟨rs, hC, hI⟩ := lead_raw lead_m hr0
 obtain ⟨rt, hD, hJ⟩ := lead_raw lead_m hr1
 have hl0 := F2.len hI
 have hl1 := F2.len hJ
 rw [← hl0] at hC
 rw [← hl1] at hD
 have hEQ := fun (W : World) (hW : Below w.heap.size w W) => mate_equal A0 c0 rs A1 c1 rt (fun i => (sameQ k (l0.getD i z72) (l1.getD i z72)).getD false) W (cB hC hW) (cB hD hW) (fun i x y W2 hi hi2 hx hy hW2 => by
  have i1 := (F2.getD hI (j := i) (by omega) zRW z72)
  have i2 := (F2.getD hJ (j := i) (by omega) zRW z72)
  rw [hx] at i1
  rw [hy] at i2
  have hs := hc i (by omega)
  generalize l0.getD i z72 = p at i1 hs ⊢
  generalize l1.getD i z72 = q at i2 hs ⊢
  obtain ⟨b, hb⟩ := Option.isSome_iff_exists.mp hs
  rw [hb, Option.getD_some]
  obtain ⟨a1, a5, a2, a3, a4⟩ := ((i1.below hW).below hW2).now
  obtain ⟨b1, b5, b2, b3, b4⟩ := ((i2.below hW).below hW2).now
  rw [a1, a5, a2, b1, b5, b2]
  unfold sameQ at hb
  by_cases he : p.f0 = q.f0
  ·rw [if_pos he] at hb
   exact mate_pred_eq _ _ _ _ _ _ _ _ _ _ b W2 he (fun w3 hw3 => (span_Same.calls k p.f1.f0 x.A x.c p.f1.f1 q.f1.f0 y.A y.c q.f1.f1 b w3 (cB a4 hw3) a3 (cB b4 hw3) b3 hb).mono (fun e w' h => ⟨h.1, h.2⟩))
  ·rw [if_neg he] at hb
   obtain rfl := sI hb
   exact mate_pred_ne _ _ _ _ _ _ _ _ _ _ false W2 he)
 rw [hl0, hl1] at hEQ
 have hsb : sameB k l0 l1 = (if l0.length = l1.length then (List.range l0.length).all (fun i => (sameQ k (l0.getD i z72) (l1.getD i z72)).getD false) else false) := rfl
 rw [← hsb] at hEQ
 clear hsb
 generalize sameB k l0 l1 = res at hEQ ⊢
 have HEQ := aK hEQ
 have HB := aK (Below.refl w.heap.size w)
 clear hEQ hC hD hI hJ hr0 hr1 hc hl0 hl1
 go_enter Tryz.func23, Tryz.ntmps23
 go_wp2_with fail
 refine (HEQ.out _ HB.out).mono ?_
 rintro e w1 ⟨rfl, hb⟩
 have HB1 := aK (bS HB.out hb)
 clear hb
 go_wp2_with fail
 go_ret
 exact ⟨rfl, HB1.out⟩
end Go.Proofs.YtkfehkaiifjkmaaGreat.P
