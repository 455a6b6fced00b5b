-- Written by a program of this session (wip/pp.py over the kit's printer, with our own texts put in).
import Derived.Test.YtoodahceejdbcaaP0
import Derived.Test.YtoodahceejdbcaaP3
import Derived.Test.YtoodahceejdbcaaP4
import Derived.Test.YtoodahceejdbcaaP5
import Derived.Test.YtoodahceejdbcaaP6
import Derived.Test.YtoodahceejdbcaaP7
import Derived.Test.YtoodahceejdbcaaP8
import Derived.Test.YtoodahceejdbcaaP11
namespace Go.Proofs.Ytoodahceejdbcaa.P
open Go.RowKit Go.Proofs.YtoodahceejdbcaaW.PrintWords Go.Proofs.YtoodahceejdbcaaW.PrintLast Go.Proofs.YtoodahceejdbcaaW.PrintMore
attribute [local go_sem] max2_int min2_int max_two min_two max_three min_three max_four min_four   -- for this text's walks alone
set_option linter.unusedVariables false
set_option linter.unusedSimpArgs false

/-! ### matrix_Drop: function 32 -/
set_option maxHeartbeats 1600000 in
set_option maxRecDepth 100000 in
theorem matd_index (A0 : Option Addr) (c0 : Nat) (l0 : List RW) (cb : Value) (p : RW → Bool) (w : World) (hr0 : Kd.C kRW w A0 l0.length l0)
    (hp : ∀ (x : RW) (W : World), x ∈ l0 → Below w.heap.size w W → Calls Try.prog 60 #[.agg #[.string x.f0, .slice x.A x.n x.c], cb] W fun e w' => e = .returned (.bool (p x)) ∧ Below W.heap.size W w') :
    Calls Try.prog 72 #[.slice A0 l0.length c0, .func (.func 60) #[] #[cb]] w fun e w' => e = .returned (.int .i64 (idxI p l0)) ∧ Below w.heap.size w w' := by
  have hlen := hr0.2.1
  have HR0 := Aside0.mk hr0
  have HP := Aside0.mk hp
  clear hr0 hp
  have HF := Aside0.mk (fun i hi hn h => idxI_found p zRW l0 i hi hn h)
  have HN := Aside0.mk (fun hn => idxI_none p zRW l0 hn)
  generalize idxI p l0 = r at *
  generalize hn : l0.length = n at *
  have HL := Aside0.mk hn
  clear hn
  have HB := Aside0.mk (Below.refl w.heap.size w)
  have hut := Try.underlying50
  go_enter Try.func72, Try.ntmps72
  go_wp2
  go_loopw [8] (fun vi wr => ∃ i : Nat, vi = .int .i64 i ∧ i ≤ n ∧ Aside0 (∀ j, j < i → p (l0.getD j zRW) = false) ∧ Aside0 (Below w.heap.size w wr)) (fun vi _ => n - (intOf vi).toNat)
  case atStart => exact ⟨0, rfl, Nat.zero_le _, ⟨fun j hj => absurd hj (Nat.not_lt_zero _)⟩, HB⟩
  case round =>
    clear HB
    obtain ⟨i, rfl, hin, HA, HB⟩ := hrel
    by_cases hlt : i < n
    · obtain ⟨ad, hA, hx0, hx1⟩ := at_RW HR0.out (i : Int) (by omega) (by omega)
      obtain rfl := hA
      have pm := eq_true (show (0 : Int) ≤ (i : Int) by omega)
      have qm := eq_true (show (i : Int) < (n : Int) by omega)
      replace hx0 := (HB.out.cell (World.block_lt_of_cell? w _ hx0)).trans hx0; replace hx1 := (HB.out.cell (World.block_lt_of_cell? w _ hx1)).trans hx1
      have hel : rd_RW l0 (i : Int) = l0.getD i zRW := rfl
      simp only [Int.toNat_natCast, hel] at hx0 hx1
      have HK := Aside0.mk (HP.out (l0.getD i zRW)  wr (by rw [← List.getElem_eq_getD (h := by have := HL.out; omega)]; exact List.getElem_mem _) HB.out)
      by_cases hpx : p (l0.getD i zRW) = true
      · have HRES := Aside0.mk (HF.out i (by have := HL.out; omega) HA.out hpx)
        rw [hpx] at HK
        clear hel hpx
        go_wp2_with fail
        refine HK.out.mono ?_
        rintro e w' ⟨rfl, hb1⟩
        have HB1 := Aside0.mk (below_step HB.out hb1)
        clear hb1
        go_wp2_with fail
        go_ret
        exact ⟨by rw [HRES.out]; rfl, HB1.out⟩
      · have hpf : p (l0.getD i zRW) = false := by simpa using hpx
        rw [hpf] at HK
        have HPF := Aside0.mk hpf
        clear hel hpx hpf
        go_wp2_with fail
        refine HK.out.mono ?_
        rintro e w' ⟨rfl, hb1⟩
        have HB1 := Aside0.mk (below_step HB.out hb1)
        clear hb1
        go_wp2_with fail
        go_roundw
        case rel => exact ⟨i + 1, by go_num, by omega, ⟨fun j hj => by
          by_cases e : j = i
          · subst e; exact HPF.out
          · exact HA.out j (by omega)⟩, HB1⟩
        case measure => simp [intOf]; omega
    · have hge : decide ((i : Int) < (n : Int)) = false := by simp; omega
      have HRES := Aside0.mk (HN.out (fun j hj => HA.out j (by have := HL.out; omega)))
      go_wp2_with fail
      go_ret
      exact ⟨by rw [HRES.out]; rfl, HB.out⟩

set_option maxHeartbeats 3200000 in
set_option maxRecDepth 100000 in
theorem matd_deletek (w : World) (base : Nat) (ok : Nat → Prop) (v : Value) (l : List RW) (cb : Value) (p : RW → Bool) (ho : Kd.R kRW 50 w base ok v l) (hbase : base ≤ w.heap.size)
    (hp : ∀ (x : RW) (W : World), x ∈ l → Below base w W → Calls Try.prog 60 #[.agg #[.string x.f0, .slice x.A x.n x.c], cb] W fun e w' => e = .returned (.bool (p x)) ∧ Below W.heap.size W w') :
    Calls Try.prog 59 #[v, .func (.func 60) #[] #[cb]] w fun e w' => ∃ v' : Value, e = .returned v' ∧ Kd.R kRW 50 w' base ok v' (l.filter fun x => !p x) ∧ Below base w w' ∧ ∀ k, k < w.heap.size → some k ≠ v.ownBlock → w'.heap[k]? = w.heap[k]? := by
  obtain ⟨A, c, rfl, hlc, hC⟩ := Kd.R_reads ho
  have hix := matd_index A c l cb p w hC (fun x  W hx hW => hp x  W hx ⟨hW.os, hW.tape, hW.output, by have := hW.size; omega, fun k hk => hW.block k (by omega)⟩)
  have hle := idxP_le p l
  have HIX := Aside0.mk hix
  have HP := Aside0.mk hp
  have HO := Aside0.mk ho
  clear hix hp hC
  obtain ⟨i0, hi0⟩ : ∃ i0, idxP p l = i0 := ⟨_, rfl⟩
  have hut := Try.underlying50
  by_cases hlt : i0 < l.length
  · have hq : idxI p l = (i0 : Int) := by unfold idxI; rw [hi0, if_pos hlt]
    rw [hq] at HIX
    have hq1 : ((i0 : Int) == -1) = false := by rw [beq_eq_false_iff_ne]; omega
    have hne : l ≠ [] := fun e => by rw [e] at hlt; simp at hlt
    obtain ⟨g, cap, cur, ev, hg, hk, hh, h2, h3, h4, hpp⟩ := R_open ho hne
    injection ev with eA _ ec
    subst eA; subst ec
    clear hh h4 hpp ho hq
    have hw1 : IntKind.i64.wrap ((i0 : Int) + 1) = (i0 : Int) + 1 := by
      have : maxLen = 9223372036854775807 := rfl
      rw [IntKind.wrap_i64] <;> omega
    go_enter Try.func59, Try.ntmps59
    go_wp2_with fail
    refine HIX.out.mono ?_
    rintro e w1 ⟨rfl, hb1⟩
    have HO1 := Aside0.mk (Kd.R_below HO.out hb1)
    have HB1 := Aside0.mk (below_then (Below.refl base w) hbase hb1)
    have HK1 := Aside0.mk (show ∀ k, k < w.heap.size → k ≠ g → w1.heap[k]? = w.heap[k]? from fun k hk _ => hb1.block k hk)
    clear hb1 HO HIX
    go_wp2_with fail
    have HS := Aside0.mk (del_start p zRW l (by rw [hi0]; exact hlt))
    rw [hi0] at HS
    generalize hn : l.length = n at *
    have HL := Aside0.mk hn
    clear hn hi0 hq1 hw1
    have hmax : maxLen = 9223372036854775807 := rfl
    go_loopw [5, 6] (fun vi vj wr => ∃ (i j : Nat) (L : List RW), vi = .int .i64 i ∧ vj = .int .i64 j ∧ i < j ∧ j ≤ n ∧ Aside0 (L.length = n) ∧ Aside0 (L.take i = (l.take j).filter (fun x => !p x)) ∧ Aside0 (L.drop j = l.drop j) ∧ Aside0 (Kd.R kRW 50 wr base ok (.slice (some ⟨g, 0, none⟩) n c) L) ∧ Aside0 (Below base w wr) ∧ Aside0 (∀ k, k < w.heap.size → k ≠ g → wr.heap[k]? = w.heap[k]?)) (fun _ vj _ => n - (intOf vj).toNat)
    case atStart => exact ⟨i0, i0 + 1, l, rfl, by go_num, by omega, by omega, HL, HS, ⟨rfl⟩, HO1, HB1, HK1⟩
    case round =>
      clear HS HO1 HB1 HK1
      obtain ⟨i, j, L, rfl, rfl, hij, hjn, HLL, HT, HD, HO, HB, HKP⟩ := hrel
      by_cases hj : j < n
      · have hC := (Kd.R_reads' HO.out).2.2
        obtain ⟨ad, hA, hx0, hx1⟩ := at_RW hC (j : Int) (by omega) (by have := HLL.out; omega)
        injection hA with hA
        subst hA
        have pm := eq_true (show (0 : Int) ≤ (j : Int) by omega)
        have qm := eq_true (show (j : Int) < (n : Int) by omega)
        have hel : rd_RW L (j : Int) = l.getD j zRW := drop_get zRW HD.out (by have := HL.out; omega)
        simp only [Int.toNat_natCast, hel, Addr.add_lit, Nat.zero_add] at hx0 hx1
        clear hC
        have HMEM := Aside0.mk (show l.getD j zRW ∈ l by rw [← List.getElem_eq_getD (h := by have := HL.out; omega)]; exact List.getElem_mem _)
        generalize hx : l.getD j zRW = x at hx0 hx1 hel HMEM
        have HX := Aside0.mk hx
        clear hx hel
        go_wp2_with fail
        have HBA := Aside0.mk (HB.out.alloc (by have := below_size' HB.out hbase; omega) (.cells #[.string x.f0, .slice x.A x.n x.c] 50))
        have HOA := Aside0.mk (Kd.R_below HO.out (below_alloc (Below.refl _ _) (.cells #[.string x.f0, .slice x.A x.n x.c] 50)))
        have BK := Aside0.mk (blk_new wr (.cells #[.string x.f0, .slice x.A x.n x.c] 50))
        have HKA := Aside0.mk (show ∀ (W : World), Below (wr.alloc (.cells #[.string x.f0, .slice x.A x.n x.c] 50)).heap.size (wr.alloc (.cells #[.string x.f0, .slice x.A x.n x.c] 50)) W → ∀ k, k < w.heap.size → k ≠ g → W.heap[k]? = w.heap[k]? from fun W hW k hk hne => ((hW.block k (by have := HB.out.size; simp; omega)).trans ((below_alloc (Below.refl _ _) _).block k (by have := HB.out.size; omega))).trans (HKP.out k hk hne))
        have HK := Aside0.mk (HP.out x  _ HMEM.out HBA.out)
        by_cases hpx : p x = true
        · rw [hpx] at HK
          have HPX := Aside0.mk hpx
          clear hpx
          refine HK.out.mono ?_
          rintro e w' ⟨rfl, hb1⟩
          have HB1 := Aside0.mk (below_then HBA.out (below_size' HBA.out hbase) hb1)
          have HO1 := Aside0.mk (Kd.R_below HOA.out hb1)
          have HK2 := Aside0.mk (HKA.out _ hb1)
          clear hb1
          go_wp2_with fail
          go_roundw
          case rel => exact ⟨i, j + 1, L, rfl, by go_num, by omega, by omega, HLL, ⟨del_skip p zRW HT.out (by have := HL.out; omega) (by rw [HX.out]; exact HPX.out)⟩, ⟨drop_succ_eq HD.out⟩, HO1, HB1, HK2⟩
          case measure => simp [intOf]; omega
        · have hpf : p x = false := by simpa using hpx
          rw [hpf] at HK
          have HPX := Aside0.mk hpf
          clear hpx hpf
          refine HK.out.mono ?_
          rintro e w' ⟨rfl, hb1⟩
          have HB1 := Aside0.mk (below_then HBA.out (below_size' HBA.out hbase) hb1)
          have HO1 := Aside0.mk (Kd.R_below HOA.out hb1)
          have BK1 := Aside0.mk (blk_below BK.out hb1)
          have HK2 := Aside0.mk (HKA.out _ hb1)
          clear hb1
          have hin : i < n := by omega
          have pi := eq_true (show (0 : Int) ≤ (i : Int) by omega)
          have qi := eq_true (show (i : Int) < (n : Int) by omega)
          obtain ⟨gI, capI, curI, evI, _, _, hhI, _, _, _, _⟩ := R_open HO1.out (fun e => by have := HLL.out; rw [e] at this; simp at this; omega)
          injection evI with eA eN eC
          clear eN eC
          injection eA with eA
          injection eA with eA
          subst eA
          obtain ⟨adI, hAI, hy0, hy1⟩ := at_RW (Kd.R_reads' HO1.out).2.2 (i : Int) (by omega) (by have := HLL.out; omega)
          injection hAI with hAI
          subst hAI
          simp only [Int.toNat_natCast, Addr.add_lit, Nat.zero_add] at hy0 hy1
          have hq0 : w'.cell? ⟨wr.heap.size, 0, none⟩ = some (.string x.f0) := (blk_cell BK1.out 0).trans rfl; have hq1 : w'.cell? ⟨wr.heap.size, 1, none⟩ = some (.slice x.A x.n x.c) := (blk_cell BK1.out 1).trans rfl
          have hz0 : w'.frozen? ⟨g, i * 2, none⟩ = false := blk_frozen hhI _; have hz1 : w'.frozen? ⟨g, i * 2 + 1, none⟩ = false := blk_frozen hhI _
          have hres := Kd.R_seg (d := kRW) (W := w') (okp := fun _ => False) HO1.out (i : Int) (by omega) (by omega) (c := [.string (rd_RW L (i : Int)).f0, .slice (rd_RW L (i : Int)).A (rd_RW L (i : Int)).n (rd_RW L (i : Int)).c]) (seg := [.string x.f0, .slice x.A x.n x.c]) (j := 0) rfl (fun q u hq => by rw [Int.toNat_natCast]; rcases q with _ | _ | q; (cases hq; exact hy0); (cases hq; exact hy1); (cases hq)) (show 0 + 2 ≤ 2 by decide) (x' := x) (kRW_mkM _ _ _ x) (fun _ h => h.elim)
          have HR := Aside0.mk hres.1
          have HG := Aside0.mk (HB1.out.grown hres.2 (below_size' HB1.out hbase) (fun k e => by injection e with e; omega))
          have HK3 := Aside0.mk (fun k (hk : k < w.heap.size) (hne : k ≠ g) => (hres.2.block k (by have := HB1.out.size; omega) (fun e => by injection e with e; exact hne e)).trans (HK2.out k hk hne))
          clear hres hhI
          go_wp2_with fail
          go_roundw
          case rel => exact ⟨i + 1, j + 1, L.set i x, by go_num, by go_num, by omega, by omega, ⟨by rw [List.length_set]; exact HLL.out⟩, ⟨by rw [← HX.out]; exact del_keep p zRW HT.out (by have := HL.out; omega) (by have := HLL.out; omega) (by rw [HX.out]; exact HPX.out)⟩, ⟨del_drop x HD.out hij⟩, HR, HG, HK3⟩
          case measure => simp [intOf]; omega
      · have hge : decide ((j : Int) < (n : Int)) = false := by simp; omega
        have hjj : j = n := by omega
        obtain ⟨i1, hi1, hz1, hsz1, hby1⟩ := info_parts info50
        obtain ⟨gI, capI, curI, evI, hgI, hkI, hhI, h2I, h3I, h4I, hpI⟩ := R_open HO.out (fun e => by have := HLL.out; rw [e] at this; simp at this; omega)
        injection evI with eA eN eC
        clear eN
        injection eA with eA
        injection eA with eA
        subst eA; subst eC
        rw [HLL.out] at h2I
        have hin : i < n := by omega
        have c1 : ∀ W : World, (Instr.slice 29 (.slice (some ⟨g, 0, none⟩) n c) (some (.int .i64 (i : Int))) none none).run Try.prog W = .ok (.slice (some ⟨g, i * 2, none⟩) (n - i) (c - i)) W := by
          intro W
          rw [cut_from (P := Try.prog) 29 50 .i64 Try.underlying29 hi1 2 hsz1 (some ⟨g, 0, none⟩) n c (i : Int) (by omega) (by omega) W, Int.toNat_natCast, if_neg (by omega), Option.map_some, Addr.add_lit, Nat.zero_add]
        have c2 := cut_to (P := Try.prog) 29 50 .i64 Try.underlying29 hi1 (some ⟨g, 0, none⟩) n c (i : Int) (by omega) (by omega) h2I
        rw [Int.toNat_natCast] at c2
        have hcl := fun ty => run_clear_k (P := Try.prog) wr 29 50 ty _ [.string ⟨#[]⟩, .slice none 0 0] Try.underlying29 Try.zeroValue50 rfl (by decide) (by decide) g (i * 2) (n - i) (c - i) (by omega) (fun q hq => by
          have hq' : q < (n - i) * 2 := hq
          rw [blk_cell hhI, Array.getElem?_eq_getElem (by have h4' : curI.size = c * 2 := h4I; omega)]; rfl) (fun q _ => blk_frozen hhI _)
        have hfin := R_cut_clear (d := kRW) (i := i) hgI hkI hhI (by rw [HLL.out]; exact h2I) h3I h4I hpI (by rw [HLL.out]; omega) (List.replicate (n - i) ([.string ⟨#[]⟩, .slice none 0 0] : List Value)).flatten (by
          have h4' : curI.size = c * 2 := h4I
          have hl : ((List.replicate (n - i) ([.string ⟨#[]⟩, .slice none 0 0] : List Value)).flatten).length = (n - i) * 2 := by simp
          rw [hl]
          show i * 2 + _ ≤ _
          omega)
        generalize (List.replicate (n - i) ([.string ⟨#[]⟩, .slice none 0 0] : List Value)).flatten = vs at hcl hfin
        have HR := Aside0.mk (show Kd.R kRW 50 (wr.setCells g (i * 2) vs) base ok (.slice (some ⟨g, 0, none⟩) i c) (l.filter fun x => !p x) from by
          have h := hfin.1
          rw [HT.out, hjj, List.take_of_length_le (by have := HL.out; omega)] at h
          exact h)
        have HG := Aside0.mk (show Below base w (wr.setCells g (i * 2) vs) from HB.out.grown hfin.2 (below_size' HB.out hbase) (fun k e => by injection e with e; omega))
        have HK4 := Aside0.mk (show ∀ k, k < w.heap.size → k ≠ g → (wr.setCells g (i * 2) vs).heap[k]? = w.heap[k]? from fun k hk hne => (hfin.2.block k (by have := HB.out.size; omega) (fun e => by injection e with e; exact hne e)).trans (HKP.out k hk hne))
        clear hfin hhI hpI h4I
        go_wp2
        go_ret
        exact ⟨_, rfl, HR.out, HG.out, fun k hk hne => HK4.out k hk (fun e => hne (by rw [e]; simp [Value.ownBlock]))⟩
  · have hq : idxI p l = -1 := by unfold idxI; rw [hi0, if_neg hlt]
    have HF := Aside0.mk (filter_none p l (by omega))
    rw [hq] at HIX
    clear hq hi0 hlt hle hlc ho
    go_enter Try.func59, Try.ntmps59
    go_wp2_with fail
    refine HIX.out.mono ?_
    rintro e w1 ⟨rfl, hb1⟩
    have HO1 := Aside0.mk (Kd.R_below HO.out hb1)
    have HB1 := Aside0.mk (below_then (Below.refl base w) hbase hb1)
    have HK1 := Aside0.mk hb1
    clear hb1 HO HIX
    go_wp2_with fail
    go_ret
    exact ⟨_, rfl, by rw [HF.out]; exact HO1.out, HB1.out, fun k hk _ => HK1.out.block k hk⟩
theorem matd_delete (w : World) (base : Nat) (ok : Nat → Prop) (v : Value) (l : List RW) (cb : Value) (p : RW → Bool) (ho : Kd.R kRW 50 w base ok v l) (hbase : base ≤ w.heap.size)
    (hp : ∀ (x : RW) (W : World), x ∈ l → Below base w W → Calls Try.prog 60 #[.agg #[.string x.f0, .slice x.A x.n x.c], cb] W fun e w' => e = .returned (.bool (p x)) ∧ Below W.heap.size W w') :
    Calls Try.prog 59 #[v, .func (.func 60) #[] #[cb]] w fun e w' => ∃ v' : Value, e = .returned v' ∧ Kd.R kRW 50 w' base ok v' (l.filter fun x => !p x) ∧ Below base w w' :=
  (matd_deletek w base ok v l cb p ho hbase hp).mono fun e w' h => by
    obtain ⟨v', h1, h2, h3, -⟩ := h
    exact ⟨v', h1, h2, h3⟩

set_option maxHeartbeats 800000 in
set_option maxRecDepth 100000 in
theorem matd_pred (x : RW) (B : Nat) (a1 : ByteArray) (W : World) (hB : W.heap[B]? = some (.cells #[.string a1] 46 (0, 0))) :
    Calls Try.prog 60 #[.agg #[.string x.f0, .slice x.A x.n x.c], .pointer (some ⟨B, 0, none⟩)] W fun e w' => e = .returned (.bool (decide (x.f0 = a1))) ∧ Below W.heap.size W w' := by
  have HB := Aside0.mk (below_alloc (Below.refl W.heap.size W) (.cells #[.string x.f0, .slice x.A x.n x.c] 50))
  have BK := Aside0.mk (blk_new W (.cells #[.string x.f0, .slice x.A x.n x.c] 50))
  have BB := Aside0.mk (blk_alloc hB (.cells #[.string x.f0, .slice x.A x.n x.c] 50))
  have hc0 : (W.alloc (.cells #[.string x.f0, .slice x.A x.n x.c] 50)).cell? ⟨W.heap.size, 0, none⟩ = some (.string x.f0) := (blk_cell BK.out 0).trans rfl
  have hc1 : (W.alloc (.cells #[.string x.f0, .slice x.A x.n x.c] 50)).cell? ⟨B, 0, none⟩ = some (.string a1) := (blk_cell BB.out 0).trans rfl
  have hut := Try.underlying50
  have huid := Try.underlying46
  have heq : (x.f0.toList == a1.toList) = decide (x.f0 = a1) := by
    rw [Lib.toList_data, Lib.toList_data]
    by_cases h : x.f0 = a1
    · subst h; simp
    · have : ¬ x.f0.data.toList = a1.data.toList := fun e => h (by apply ByteArray.ext; exact Array.toList_inj.mp e)
      rw [decide_eq_false h]; simpa using this
  have HE := Aside0.mk heq
  clear hB heq
  go_enter Try.func60, Try.ntmps60
  go_wp2
  go_ret
  exact ⟨by rw [← HE.out]; rfl, HB.out⟩
def mdropF (l0 : List S50) (a1 : ByteArray) : List S50 := l0.filter fun x => !(decide (x.f0 = a1))
set_option maxHeartbeats 1600000 in
set_option maxRecDepth 100000 in
theorem matrix_Drop.at (A0 : Option Addr) (c0 : Nat) (l0 : List S50) (a1 : ByteArray) (w : World) (hr0 : Kd.C k50 w A0 l0.length l0) (hc0 : l0.length ≤ c0) (hl : okM l0) :
    Calls Try.prog 32 #[.slice A0 l0.length c0, .string a1] w fun e w' => ∃ v0_ : Value, e = .returned (v0_) ∧ Kd.V k50 50 w' w.heap.size (fun k_ => w.heap.size ≤ k_) v0_ (mdropF l0 a1) ∧ Below w.heap.size w w' := by
  have HCP := Aside0.mk (fun W (hW : Below w.heap.size w W) => matrix_copied.own A0 c0 l0 W (Kd.C_below hr0 hW) hc0 hl)
  have HB := Aside0.mk (below_alloc (Below.refl w.heap.size w) (.cells #[.string a1] 46))
  have BK := Aside0.mk (blk_new w (.cells #[.string a1] 46))
  clear hr0 hc0 hl
  go_enter Try.func32, Try.ntmps32
  go_wp2_with fail
  refine (HCP.out _ HB.out).mono ?_
  rintro e w1 ⟨v1, rs, rfl, hO, hb1⟩
  have HO := Aside0.mk hO
  have BK1 := Aside0.mk (blk_below BK.out hb1)
  have HB1 := Aside0.mk (below_step HB.out hb1)
  have hsz : (w.alloc (.cells #[.string a1] 46)).heap.size = w.heap.size + 1 := by simp
  have hz1 : w.heap.size + 1 ≤ w1.heap.size := by rw [← hsz]; exact hb1.size
  rw [hsz] at HO
  have HZ := Aside0.mk hz1
  clear hO hb1 hsz hz1 HCP
  go_wp2_with fail
  refine (matd_deletek w1 (w.heap.size + 1) (fun _ => True) v1 rs (.pointer (some ⟨w.heap.size, 0, none⟩)) (fun x => decide (x.f0 = a1)) HO.out.1 HZ.out (fun x W _ hW => matd_pred x w.heap.size a1 W ((hW.block _ (by omega)).trans BK1.out))).mono ?_
  rintro e w2 ⟨v2, rfl, ho2, hb2, hk2⟩
  have hI := F2.filter (p := fun x : RW => !(decide (x.f0 = a1))) (q := fun x : S50 => !(decide (x.f0 = a1))) (fun a b h => by show (!(decide (a.f0 = a1))) = !(decide (b.f0 = a1)); rw [h.1]) (INs.step (INs.bound HO.out.2) (fun k hk hlt => hk2 k hlt hk.1.1))
  have HR := Aside0.mk (Kd.V_mono (lead_view (b := w.heap.size) lead_m ho2 hI (fun k hk => hk.1.2)) (ok' := fun k => w.heap.size ≤ k) (fun k hk => by omega))
  have HB2 := Aside0.mk (HB1.out.trans ⟨hb2.os, hb2.tape, hb2.output, hb2.size, fun k hk => hb2.block k (by omega)⟩)
  clear ho2 hb2 hk2 hI
  go_wp2_with fail
  go_ret
  exact ⟨_, rfl, HR.out, HB2.out⟩
def matrix_Drop.f (l0 : List S50) (a1 : ByteArray) : Option (List S50) := if okM l0 then some (mdropF l0 a1) else none
theorem matrix_Drop.calls (A0 : Option Addr) (c0 : Nat) (l0 : List S50) (a1 : ByteArray) (r : List S50) (w : World) (hr0 : Kd.C k50 w A0 l0.length l0) (hc0 : l0.length ≤ c0) (h : matrix_Drop.f l0 a1 = some r) :
    Calls Try.prog 32 #[.slice A0 l0.length c0, .string a1] w fun e w' => ∃ v0_ : Value, e = .returned (v0_) ∧ Kd.V k50 50 w' w.heap.size (fun k_ => w.heap.size ≤ k_) v0_ r ∧ Below w.heap.size w w' := by
  unfold matrix_Drop.f at h
  by_cases hc : okM l0
  · rw [if_pos hc] at h
    obtain rfl := Option.some.inj h
    exact matrix_Drop.at A0 c0 l0 a1 w hr0 hc0 hc
  · rw [if_neg hc] at h; cases h

/-! ### cenotaphlaw10_MatrixPuts: function 6 -/
theorem zq6_0 {p_ : Prop} (h_ : p_ := by (try simp only [List.map_toArray, List.map_cons, List.map_nil]); first | done | rfl | (simp only [List.length_drop, List.length_take]; rfl)) : p_ := h_
theorem zq6_1 {p_ : Prop} (h_ : p_ := by repeat (first | (with_reducible first | exact HB.out | apply below_alloc | apply pw_below_drewN | apply below_drew1) | exact HB.out)) : p_ := h_
theorem zq6_2 {p_ : Prop} (h_ : p_ := by (with_reducible repeat (first | apply Kd.V_alloc | apply Kd.V_drewN | apply Kd.V_drew)); exact HO428.out) : p_ := h_
theorem zq6_3 {p_ : Prop} (h_ : p_ := by (with_reducible repeat (first | apply Kd.R_alloc | apply Kd.R_drewN | apply Kd.R_drew)); exact HO431.out) : p_ := h_
theorem zq6_4 {p_ : Prop} (h_ : p_ := by (with_reducible repeat (first | apply Kd.N_alloc | apply Kd.N_drewN | apply Kd.N_drew)); exact HO434.out) : p_ := h_
theorem zq6_5 {p_ : Prop} (h_ : p_ := by (with_reducible repeat (first | apply Kd.R_alloc | apply Kd.R_drewN | apply Kd.R_drew)); exact HO437.out) : p_ := h_
theorem zq6_6 {p_ : Prop} (h_ : p_ := by (with_reducible repeat (first | apply Kd.V_alloc | apply Kd.V_drewN | apply Kd.V_drew)); exact HO440.out) : p_ := h_
theorem zq6_7 {p_ : Prop} (h_ : p_ := by (with_reducible repeat (first | apply Kd.N_alloc | apply Kd.N_drewN | apply Kd.N_drew)); exact HO444.out) : p_ := h_
theorem zq6_8 {p_ : Prop} (h_ : p_ := by (with_reducible repeat (first | apply Kd.V_alloc | apply Kd.V_drewN | apply Kd.V_drew)); exact HO447.out) : p_ := h_
theorem zq6_9 {p_ : Prop} (h_ : p_ := by (with_reducible repeat (first | apply Kd.V_alloc | apply Kd.V_drewN | apply Kd.V_drew)); exact HO452.out) : p_ := h_
theorem zq6_10 {p_ : Prop} (h_ : p_ := by (with_reducible repeat (first | apply Kd.N_alloc | apply Kd.N_drewN | apply Kd.N_drew)); exact HO455.out) : p_ := h_
theorem zq6_11 {p_ : Prop} (h_ : p_ := by (with_reducible repeat (first | apply Kd.N_alloc | apply Kd.N_drewN | apply Kd.N_drew)); exact HO458.out) : p_ := h_
theorem zq6_12 {p_ : Prop} (h_ : p_ := by (with_reducible repeat (first | apply Kd.V_alloc | apply Kd.V_drewN | apply Kd.V_drew)); exact HO462.out) : p_ := h_
theorem zq6_13 {p_ : Prop} (h_ : p_ := by (with_reducible repeat (first | apply Kd.R_alloc | apply Kd.R_drewN | apply Kd.R_drew)); exact HO465.out) : p_ := h_
def cenotaphlaw10_MatrixPuts.f (k : Nat) (l0 : List (S25)) (a1 : ByteArray) (l2 : List (S76)) : Option (Bool) := (cenotaphref10_Fix.f k l0).bind fun t426 => ((cenotaphref03_Fix.f k l2).bind fun t429 => ((cenotaphlaw10_To.f k t426).bind fun t432 => ((cenotaphlaw03_To.f k t429).bind fun t435 => ((matrix_Put.f k t432 a1 t435).bind fun t438 => ((cenotaphlaw10_told.f k).bind fun t441 => (if t441 = true then ((cenotaphlaw10_From.f k t438).bind fun t442 => ((cenotaphref10_Put.f k t426 a1 t429).bind fun t445 => ((cenotaphref10_Same.f k t442 t445).bind fun t448 => (if t448 = true then ((matrix_Right.f k t438).bind fun t449 => (if t449 = true then ((matrix_Drop.f t432 a1).bind fun t450 => ((cenotaphlaw10_From.f k t450).bind fun t453 => ((cenotaphref10_Drop.f k t426 a1).bind fun t456 => ((cenotaphref10_Same.f k t453 t456).bind fun t459 => (if t459 = true then ((matrix_Of.f t432 a1).bind fun t460 => ((cenotaphlaw03_From.f k t460).bind fun t463 => ((cenotaphref10_Of.f k t426 a1).bind fun t466 => ((cenotaphref03_Same.f k t463 t466).bind fun t469 => (if t469 = true then ((cenotaphlaw10_From.f k t432).bind fun t470 => ((cenotaphref10_Same.f k t470 t426).bind fun t473 => (some t473))) else (none)))))) else (none)))))) else (none))) else (none))))) else (none)))))))
theorem cenotaphlaw10_MatrixPuts.mono : ∀ a0 a1 a2 k, LeO (cenotaphlaw10_MatrixPuts.f k a0 a1 a2) (cenotaphlaw10_MatrixPuts.f (k + 1) a0 a1 a2) := by
 intro a0 a1 a2 k
 unfold cenotaphlaw10_MatrixPuts.f
 repeat' first
   | (with_reducible exact cenotaphlaw03_From.mono _ _)
   | (with_reducible exact cenotaphlaw03_To.mono _ _)
   | (with_reducible exact cenotaphlaw10_From.mono _ _)
   | (with_reducible exact cenotaphlaw10_To.mono _ _)
   | (with_reducible exact cenotaphlaw10_told.mono _)
   | (with_reducible exact cenotaphref03_Fix.mono _ _)
   | (with_reducible exact cenotaphref03_Same.mono _ _ _)
   | (with_reducible exact cenotaphref10_Drop.mono _ _ _)
   | (with_reducible exact cenotaphref10_Fix.mono _ _)
   | (with_reducible exact cenotaphref10_Of.mono _ _ _)
   | (with_reducible exact cenotaphref10_Put.mono _ _ _ _)
   | (with_reducible exact cenotaphref10_Same.mono _ _ _)
   | (with_reducible exact matrix_Put.mono _ _ _ _)
   | (with_reducible exact matrix_Right.mono _ _)
   | (with_reducible exact LeO.refl _)
   | (with_reducible exact LeO.none _)
   | (with_reducible refine LeO.ite ?_ ?_)
   | (with_reducible refine LeO.bind ?_ (fun _ => ?_))
   | exact cenotaphlaw03_From.mono _ _
   | exact cenotaphlaw03_To.mono _ _
   | exact cenotaphlaw10_From.mono _ _
   | exact cenotaphlaw10_To.mono _ _
   | exact cenotaphlaw10_told.mono _
   | exact cenotaphref03_Fix.mono _ _
   | exact cenotaphref03_Same.mono _ _ _
   | exact cenotaphref10_Drop.mono _ _ _
   | exact cenotaphref10_Fix.mono _ _
   | exact cenotaphref10_Of.mono _ _ _
   | exact cenotaphref10_Put.mono _ _ _ _
   | exact cenotaphref10_Same.mono _ _ _
   | exact matrix_Put.mono _ _ _ _
   | exact matrix_Right.mono _ _
   | exact LeO.none _
   | refine LeO.ite ?_ ?_
   | refine LeO.bind ?_ (fun _ => ?_)
set_option maxHeartbeats 8000000 in
set_option maxRecDepth 100000 in
theorem cenotaphlaw10_MatrixPuts.calls (k : Nat) (A0 : Option Addr) (c0 : Nat) (l0 : List (S25)) (a1 : ByteArray) (A2 : Option Addr) (c2 : Nat) (l2 : List (S76)) (r : Bool) (w : World) (hr0 : Kd.C k25 w A0 l0.length l0) (hc0 : l0.length ≤ c0) (hr2 : Kd.C k76 w A2 l2.length l2) (hc2 : l2.length ≤ c2) (h : cenotaphlaw10_MatrixPuts.f k l0 a1 l2 = some r) :
  Calls Try.prog 6 #[.slice A0 l0.length c0, .string a1, .slice A2 l2.length c2] w fun e w' => e = .returned (.bool r) ∧ Below w.heap.size w w' := by
 have HR0 := Aside0.mk hr0
 have HC0 := Aside0.mk hc0
 clear hr0 hc0
 have HR2 := Aside0.mk hr2
 have HC2 := Aside0.mk hc2
 clear hr2 hc2
 have HB := Aside0.mk (Below.refl w.heap.size w)
 have H : ((cenotaphref10_Fix.f k l0).bind fun t426 => ((cenotaphref03_Fix.f k l2).bind fun t429 => ((cenotaphlaw10_To.f k t426).bind fun t432 => ((cenotaphlaw03_To.f k t429).bind fun t435 => ((matrix_Put.f k t432 a1 t435).bind fun t438 => ((cenotaphlaw10_told.f k).bind fun t441 => (if t441 = true then ((cenotaphlaw10_From.f k t438).bind fun t442 => ((cenotaphref10_Put.f k t426 a1 t429).bind fun t445 => ((cenotaphref10_Same.f k t442 t445).bind fun t448 => (if t448 = true then ((matrix_Right.f k t438).bind fun t449 => (if t449 = true then ((matrix_Drop.f t432 a1).bind fun t450 => ((cenotaphlaw10_From.f k t450).bind fun t453 => ((cenotaphref10_Drop.f k t426 a1).bind fun t456 => ((cenotaphref10_Same.f k t453 t456).bind fun t459 => (if t459 = true then ((matrix_Of.f t432 a1).bind fun t460 => ((cenotaphlaw03_From.f k t460).bind fun t463 => ((cenotaphref10_Of.f k t426 a1).bind fun t466 => ((cenotaphref03_Same.f k t463 t466).bind fun t469 => (if t469 = true then ((cenotaphlaw10_From.f k t432).bind fun t470 => ((cenotaphref10_Same.f k t470 t426).bind fun t473 => (some t473))) else (none)))))) else (none)))))) else (none))) else (none))))) else (none)))))))) = some r := h
 clear h
 replace H := Option.bind_eq_some_iff.mp H
 obtain ⟨t426, A40, H⟩ := H
 replace H : ((cenotaphref03_Fix.f k l2).bind fun t429 => ((cenotaphlaw10_To.f k t426).bind fun t432 => ((cenotaphlaw03_To.f k t429).bind fun t435 => ((matrix_Put.f k t432 a1 t435).bind fun t438 => ((cenotaphlaw10_told.f k).bind fun t441 => (if t441 = true then ((cenotaphlaw10_From.f k t438).bind fun t442 => ((cenotaphref10_Put.f k t426 a1 t429).bind fun t445 => ((cenotaphref10_Same.f k t442 t445).bind fun t448 => (if t448 = true then ((matrix_Right.f k t438).bind fun t449 => (if t449 = true then ((matrix_Drop.f t432 a1).bind fun t450 => ((cenotaphlaw10_From.f k t450).bind fun t453 => ((cenotaphref10_Drop.f k t426 a1).bind fun t456 => ((cenotaphref10_Same.f k t453 t456).bind fun t459 => (if t459 = true then ((matrix_Of.f t432 a1).bind fun t460 => ((cenotaphlaw03_From.f k t460).bind fun t463 => ((cenotaphref10_Of.f k t426 a1).bind fun t466 => ((cenotaphref03_Same.f k t463 t466).bind fun t469 => (if t469 = true then ((cenotaphlaw10_From.f k t432).bind fun t470 => ((cenotaphref10_Same.f k t470 t426).bind fun t473 => (some t473))) else (none)))))) else (none)))))) else (none))) else (none))))) else (none))))))) = some r := H
 have A4 := Aside0.mk A40
 clear A40
 replace H := Option.bind_eq_some_iff.mp H
 obtain ⟨t429, A50, H⟩ := H
 replace H : ((cenotaphlaw10_To.f k t426).bind fun t432 => ((cenotaphlaw03_To.f k t429).bind fun t435 => ((matrix_Put.f k t432 a1 t435).bind fun t438 => ((cenotaphlaw10_told.f k).bind fun t441 => (if t441 = true then ((cenotaphlaw10_From.f k t438).bind fun t442 => ((cenotaphref10_Put.f k t426 a1 t429).bind fun t445 => ((cenotaphref10_Same.f k t442 t445).bind fun t448 => (if t448 = true then ((matrix_Right.f k t438).bind fun t449 => (if t449 = true then ((matrix_Drop.f t432 a1).bind fun t450 => ((cenotaphlaw10_From.f k t450).bind fun t453 => ((cenotaphref10_Drop.f k t426 a1).bind fun t456 => ((cenotaphref10_Same.f k t453 t456).bind fun t459 => (if t459 = true then ((matrix_Of.f t432 a1).bind fun t460 => ((cenotaphlaw03_From.f k t460).bind fun t463 => ((cenotaphref10_Of.f k t426 a1).bind fun t466 => ((cenotaphref03_Same.f k t463 t466).bind fun t469 => (if t469 = true then ((cenotaphlaw10_From.f k t432).bind fun t470 => ((cenotaphref10_Same.f k t470 t426).bind fun t473 => (some t473))) else (none)))))) else (none)))))) else (none))) else (none))))) else (none)))))) = some r := H
 have A5 := Aside0.mk A50
 clear A50
 replace H := Option.bind_eq_some_iff.mp H
 obtain ⟨t432, A60, H⟩ := H
 replace H : ((cenotaphlaw03_To.f k t429).bind fun t435 => ((matrix_Put.f k t432 a1 t435).bind fun t438 => ((cenotaphlaw10_told.f k).bind fun t441 => (if t441 = true then ((cenotaphlaw10_From.f k t438).bind fun t442 => ((cenotaphref10_Put.f k t426 a1 t429).bind fun t445 => ((cenotaphref10_Same.f k t442 t445).bind fun t448 => (if t448 = true then ((matrix_Right.f k t438).bind fun t449 => (if t449 = true then ((matrix_Drop.f t432 a1).bind fun t450 => ((cenotaphlaw10_From.f k t450).bind fun t453 => ((cenotaphref10_Drop.f k t426 a1).bind fun t456 => ((cenotaphref10_Same.f k t453 t456).bind fun t459 => (if t459 = true then ((matrix_Of.f t432 a1).bind fun t460 => ((cenotaphlaw03_From.f k t460).bind fun t463 => ((cenotaphref10_Of.f k t426 a1).bind fun t466 => ((cenotaphref03_Same.f k t463 t466).bind fun t469 => (if t469 = true then ((cenotaphlaw10_From.f k t432).bind fun t470 => ((cenotaphref10_Same.f k t470 t426).bind fun t473 => (some t473))) else (none)))))) else (none)))))) else (none))) else (none))))) else (none))))) = some r := H
 have A6 := Aside0.mk A60
 clear A60
 replace H := Option.bind_eq_some_iff.mp H
 obtain ⟨t435, A70, H⟩ := H
 replace H : ((matrix_Put.f k t432 a1 t435).bind fun t438 => ((cenotaphlaw10_told.f k).bind fun t441 => (if t441 = true then ((cenotaphlaw10_From.f k t438).bind fun t442 => ((cenotaphref10_Put.f k t426 a1 t429).bind fun t445 => ((cenotaphref10_Same.f k t442 t445).bind fun t448 => (if t448 = true then ((matrix_Right.f k t438).bind fun t449 => (if t449 = true then ((matrix_Drop.f t432 a1).bind fun t450 => ((cenotaphlaw10_From.f k t450).bind fun t453 => ((cenotaphref10_Drop.f k t426 a1).bind fun t456 => ((cenotaphref10_Same.f k t453 t456).bind fun t459 => (if t459 = true then ((matrix_Of.f t432 a1).bind fun t460 => ((cenotaphlaw03_From.f k t460).bind fun t463 => ((cenotaphref10_Of.f k t426 a1).bind fun t466 => ((cenotaphref03_Same.f k t463 t466).bind fun t469 => (if t469 = true then ((cenotaphlaw10_From.f k t432).bind fun t470 => ((cenotaphref10_Same.f k t470 t426).bind fun t473 => (some t473))) else (none)))))) else (none)))))) else (none))) else (none))))) else (none)))) = some r := H
 have A7 := Aside0.mk A70
 clear A70
 replace H := Option.bind_eq_some_iff.mp H
 obtain ⟨t438, A80, H⟩ := H
 replace H : ((cenotaphlaw10_told.f k).bind fun t441 => (if t441 = true then ((cenotaphlaw10_From.f k t438).bind fun t442 => ((cenotaphref10_Put.f k t426 a1 t429).bind fun t445 => ((cenotaphref10_Same.f k t442 t445).bind fun t448 => (if t448 = true then ((matrix_Right.f k t438).bind fun t449 => (if t449 = true then ((matrix_Drop.f t432 a1).bind fun t450 => ((cenotaphlaw10_From.f k t450).bind fun t453 => ((cenotaphref10_Drop.f k t426 a1).bind fun t456 => ((cenotaphref10_Same.f k t453 t456).bind fun t459 => (if t459 = true then ((matrix_Of.f t432 a1).bind fun t460 => ((cenotaphlaw03_From.f k t460).bind fun t463 => ((cenotaphref10_Of.f k t426 a1).bind fun t466 => ((cenotaphref03_Same.f k t463 t466).bind fun t469 => (if t469 = true then ((cenotaphlaw10_From.f k t432).bind fun t470 => ((cenotaphref10_Same.f k t470 t426).bind fun t473 => (some t473))) else (none)))))) else (none)))))) else (none))) else (none))))) else (none))) = some r := H
 have A8 := Aside0.mk A80
 clear A80
 replace H := Option.bind_eq_some_iff.mp H
 obtain ⟨t441, A90, H⟩ := H
 replace H : (if t441 = true then ((cenotaphlaw10_From.f k t438).bind fun t442 => ((cenotaphref10_Put.f k t426 a1 t429).bind fun t445 => ((cenotaphref10_Same.f k t442 t445).bind fun t448 => (if t448 = true then ((matrix_Right.f k t438).bind fun t449 => (if t449 = true then ((matrix_Drop.f t432 a1).bind fun t450 => ((cenotaphlaw10_From.f k t450).bind fun t453 => ((cenotaphref10_Drop.f k t426 a1).bind fun t456 => ((cenotaphref10_Same.f k t453 t456).bind fun t459 => (if t459 = true then ((matrix_Of.f t432 a1).bind fun t460 => ((cenotaphlaw03_From.f k t460).bind fun t463 => ((cenotaphref10_Of.f k t426 a1).bind fun t466 => ((cenotaphref03_Same.f k t463 t466).bind fun t469 => (if t469 = true then ((cenotaphlaw10_From.f k t432).bind fun t470 => ((cenotaphref10_Same.f k t470 t426).bind fun t473 => (some t473))) else (none)))))) else (none)))))) else (none))) else (none))))) else (none)) = some r := H
 have A9 := Aside0.mk A90
 clear A90
 by_cases c10 : t441 = true
 ·subst c10
  have H1 : ((cenotaphlaw10_From.f k t438).bind fun t442 => ((cenotaphref10_Put.f k t426 a1 t429).bind fun t445 => ((cenotaphref10_Same.f k t442 t445).bind fun t448 => (if t448 = true then ((matrix_Right.f k t438).bind fun t449 => (if t449 = true then ((matrix_Drop.f t432 a1).bind fun t450 => ((cenotaphlaw10_From.f k t450).bind fun t453 => ((cenotaphref10_Drop.f k t426 a1).bind fun t456 => ((cenotaphref10_Same.f k t453 t456).bind fun t459 => (if t459 = true then ((matrix_Of.f t432 a1).bind fun t460 => ((cenotaphlaw03_From.f k t460).bind fun t463 => ((cenotaphref10_Of.f k t426 a1).bind fun t466 => ((cenotaphref03_Same.f k t463 t466).bind fun t469 => (if t469 = true then ((cenotaphlaw10_From.f k t432).bind fun t470 => ((cenotaphref10_Same.f k t470 t426).bind fun t473 => (some t473))) else (none)))))) else (none)))))) else (none))) else (none))))) = some r := by rw [if_pos rfl] at H; exact H
  clear H
  have H := H1
  clear H1
  replace H := Option.bind_eq_some_iff.mp H
  obtain ⟨t442, A110, H⟩ := H
  replace H : ((cenotaphref10_Put.f k t426 a1 t429).bind fun t445 => ((cenotaphref10_Same.f k t442 t445).bind fun t448 => (if t448 = true then ((matrix_Right.f k t438).bind fun t449 => (if t449 = true then ((matrix_Drop.f t432 a1).bind fun t450 => ((cenotaphlaw10_From.f k t450).bind fun t453 => ((cenotaphref10_Drop.f k t426 a1).bind fun t456 => ((cenotaphref10_Same.f k t453 t456).bind fun t459 => (if t459 = true then ((matrix_Of.f t432 a1).bind fun t460 => ((cenotaphlaw03_From.f k t460).bind fun t463 => ((cenotaphref10_Of.f k t426 a1).bind fun t466 => ((cenotaphref03_Same.f k t463 t466).bind fun t469 => (if t469 = true then ((cenotaphlaw10_From.f k t432).bind fun t470 => ((cenotaphref10_Same.f k t470 t426).bind fun t473 => (some t473))) else (none)))))) else (none)))))) else (none))) else (none)))) = some r := H
  have A11 := Aside0.mk A110
  clear A110
  replace H := Option.bind_eq_some_iff.mp H
  obtain ⟨t445, A120, H⟩ := H
  replace H : ((cenotaphref10_Same.f k t442 t445).bind fun t448 => (if t448 = true then ((matrix_Right.f k t438).bind fun t449 => (if t449 = true then ((matrix_Drop.f t432 a1).bind fun t450 => ((cenotaphlaw10_From.f k t450).bind fun t453 => ((cenotaphref10_Drop.f k t426 a1).bind fun t456 => ((cenotaphref10_Same.f k t453 t456).bind fun t459 => (if t459 = true then ((matrix_Of.f t432 a1).bind fun t460 => ((cenotaphlaw03_From.f k t460).bind fun t463 => ((cenotaphref10_Of.f k t426 a1).bind fun t466 => ((cenotaphref03_Same.f k t463 t466).bind fun t469 => (if t469 = true then ((cenotaphlaw10_From.f k t432).bind fun t470 => ((cenotaphref10_Same.f k t470 t426).bind fun t473 => (some t473))) else (none)))))) else (none)))))) else (none))) else (none))) = some r := H
  have A12 := Aside0.mk A120
  clear A120
  replace H := Option.bind_eq_some_iff.mp H
  obtain ⟨t448, A130, H⟩ := H
  replace H : (if t448 = true then ((matrix_Right.f k t438).bind fun t449 => (if t449 = true then ((matrix_Drop.f t432 a1).bind fun t450 => ((cenotaphlaw10_From.f k t450).bind fun t453 => ((cenotaphref10_Drop.f k t426 a1).bind fun t456 => ((cenotaphref10_Same.f k t453 t456).bind fun t459 => (if t459 = true then ((matrix_Of.f t432 a1).bind fun t460 => ((cenotaphlaw03_From.f k t460).bind fun t463 => ((cenotaphref10_Of.f k t426 a1).bind fun t466 => ((cenotaphref03_Same.f k t463 t466).bind fun t469 => (if t469 = true then ((cenotaphlaw10_From.f k t432).bind fun t470 => ((cenotaphref10_Same.f k t470 t426).bind fun t473 => (some t473))) else (none)))))) else (none)))))) else (none))) else (none)) = some r := H
  have A13 := Aside0.mk A130
  clear A130
  by_cases c14 : t448 = true
  ·subst c14
   have H1 : ((matrix_Right.f k t438).bind fun t449 => (if t449 = true then ((matrix_Drop.f t432 a1).bind fun t450 => ((cenotaphlaw10_From.f k t450).bind fun t453 => ((cenotaphref10_Drop.f k t426 a1).bind fun t456 => ((cenotaphref10_Same.f k t453 t456).bind fun t459 => (if t459 = true then ((matrix_Of.f t432 a1).bind fun t460 => ((cenotaphlaw03_From.f k t460).bind fun t463 => ((cenotaphref10_Of.f k t426 a1).bind fun t466 => ((cenotaphref03_Same.f k t463 t466).bind fun t469 => (if t469 = true then ((cenotaphlaw10_From.f k t432).bind fun t470 => ((cenotaphref10_Same.f k t470 t426).bind fun t473 => (some t473))) else (none)))))) else (none)))))) else (none))) = some r := by rw [if_pos rfl] at H; exact H
   clear H
   have H := H1
   clear H1
   replace H := Option.bind_eq_some_iff.mp H
   obtain ⟨t449, A150, H⟩ := H
   replace H : (if t449 = true then ((matrix_Drop.f t432 a1).bind fun t450 => ((cenotaphlaw10_From.f k t450).bind fun t453 => ((cenotaphref10_Drop.f k t426 a1).bind fun t456 => ((cenotaphref10_Same.f k t453 t456).bind fun t459 => (if t459 = true then ((matrix_Of.f t432 a1).bind fun t460 => ((cenotaphlaw03_From.f k t460).bind fun t463 => ((cenotaphref10_Of.f k t426 a1).bind fun t466 => ((cenotaphref03_Same.f k t463 t466).bind fun t469 => (if t469 = true then ((cenotaphlaw10_From.f k t432).bind fun t470 => ((cenotaphref10_Same.f k t470 t426).bind fun t473 => (some t473))) else (none)))))) else (none)))))) else (none)) = some r := H
   have A15 := Aside0.mk A150
   clear A150
   by_cases c16 : t449 = true
   ·subst c16
    have H1 : ((matrix_Drop.f t432 a1).bind fun t450 => ((cenotaphlaw10_From.f k t450).bind fun t453 => ((cenotaphref10_Drop.f k t426 a1).bind fun t456 => ((cenotaphref10_Same.f k t453 t456).bind fun t459 => (if t459 = true then ((matrix_Of.f t432 a1).bind fun t460 => ((cenotaphlaw03_From.f k t460).bind fun t463 => ((cenotaphref10_Of.f k t426 a1).bind fun t466 => ((cenotaphref03_Same.f k t463 t466).bind fun t469 => (if t469 = true then ((cenotaphlaw10_From.f k t432).bind fun t470 => ((cenotaphref10_Same.f k t470 t426).bind fun t473 => (some t473))) else (none)))))) else (none)))))) = some r := by rw [if_pos rfl] at H; exact H
    clear H
    have H := H1
    clear H1
    replace H := Option.bind_eq_some_iff.mp H
    obtain ⟨t450, A170, H⟩ := H
    replace H : ((cenotaphlaw10_From.f k t450).bind fun t453 => ((cenotaphref10_Drop.f k t426 a1).bind fun t456 => ((cenotaphref10_Same.f k t453 t456).bind fun t459 => (if t459 = true then ((matrix_Of.f t432 a1).bind fun t460 => ((cenotaphlaw03_From.f k t460).bind fun t463 => ((cenotaphref10_Of.f k t426 a1).bind fun t466 => ((cenotaphref03_Same.f k t463 t466).bind fun t469 => (if t469 = true then ((cenotaphlaw10_From.f k t432).bind fun t470 => ((cenotaphref10_Same.f k t470 t426).bind fun t473 => (some t473))) else (none)))))) else (none))))) = some r := H
    have A17 := Aside0.mk A170
    clear A170
    replace H := Option.bind_eq_some_iff.mp H
    obtain ⟨t453, A180, H⟩ := H
    replace H : ((cenotaphref10_Drop.f k t426 a1).bind fun t456 => ((cenotaphref10_Same.f k t453 t456).bind fun t459 => (if t459 = true then ((matrix_Of.f t432 a1).bind fun t460 => ((cenotaphlaw03_From.f k t460).bind fun t463 => ((cenotaphref10_Of.f k t426 a1).bind fun t466 => ((cenotaphref03_Same.f k t463 t466).bind fun t469 => (if t469 = true then ((cenotaphlaw10_From.f k t432).bind fun t470 => ((cenotaphref10_Same.f k t470 t426).bind fun t473 => (some t473))) else (none)))))) else (none)))) = some r := H
    have A18 := Aside0.mk A180
    clear A180
    replace H := Option.bind_eq_some_iff.mp H
    obtain ⟨t456, A190, H⟩ := H
    replace H : ((cenotaphref10_Same.f k t453 t456).bind fun t459 => (if t459 = true then ((matrix_Of.f t432 a1).bind fun t460 => ((cenotaphlaw03_From.f k t460).bind fun t463 => ((cenotaphref10_Of.f k t426 a1).bind fun t466 => ((cenotaphref03_Same.f k t463 t466).bind fun t469 => (if t469 = true then ((cenotaphlaw10_From.f k t432).bind fun t470 => ((cenotaphref10_Same.f k t470 t426).bind fun t473 => (some t473))) else (none)))))) else (none))) = some r := H
    have A19 := Aside0.mk A190
    clear A190
    replace H := Option.bind_eq_some_iff.mp H
    obtain ⟨t459, A200, H⟩ := H
    replace H : (if t459 = true then ((matrix_Of.f t432 a1).bind fun t460 => ((cenotaphlaw03_From.f k t460).bind fun t463 => ((cenotaphref10_Of.f k t426 a1).bind fun t466 => ((cenotaphref03_Same.f k t463 t466).bind fun t469 => (if t469 = true then ((cenotaphlaw10_From.f k t432).bind fun t470 => ((cenotaphref10_Same.f k t470 t426).bind fun t473 => (some t473))) else (none)))))) else (none)) = some r := H
    have A20 := Aside0.mk A200
    clear A200
    by_cases c21 : t459 = true
    ·subst c21
     have H1 : ((matrix_Of.f t432 a1).bind fun t460 => ((cenotaphlaw03_From.f k t460).bind fun t463 => ((cenotaphref10_Of.f k t426 a1).bind fun t466 => ((cenotaphref03_Same.f k t463 t466).bind fun t469 => (if t469 = true then ((cenotaphlaw10_From.f k t432).bind fun t470 => ((cenotaphref10_Same.f k t470 t426).bind fun t473 => (some t473))) else (none)))))) = some r := by rw [if_pos rfl] at H; exact H
     clear H
     have H := H1
     clear H1
     replace H := Option.bind_eq_some_iff.mp H
     obtain ⟨t460, A220, H⟩ := H
     replace H : ((cenotaphlaw03_From.f k t460).bind fun t463 => ((cenotaphref10_Of.f k t426 a1).bind fun t466 => ((cenotaphref03_Same.f k t463 t466).bind fun t469 => (if t469 = true then ((cenotaphlaw10_From.f k t432).bind fun t470 => ((cenotaphref10_Same.f k t470 t426).bind fun t473 => (some t473))) else (none))))) = some r := H
     have A22 := Aside0.mk A220
     clear A220
     replace H := Option.bind_eq_some_iff.mp H
     obtain ⟨t463, A230, H⟩ := H
     replace H : ((cenotaphref10_Of.f k t426 a1).bind fun t466 => ((cenotaphref03_Same.f k t463 t466).bind fun t469 => (if t469 = true then ((cenotaphlaw10_From.f k t432).bind fun t470 => ((cenotaphref10_Same.f k t470 t426).bind fun t473 => (some t473))) else (none)))) = some r := H
     have A23 := Aside0.mk A230
     clear A230
     replace H := Option.bind_eq_some_iff.mp H
     obtain ⟨t466, A240, H⟩ := H
     replace H : ((cenotaphref03_Same.f k t463 t466).bind fun t469 => (if t469 = true then ((cenotaphlaw10_From.f k t432).bind fun t470 => ((cenotaphref10_Same.f k t470 t426).bind fun t473 => (some t473))) else (none))) = some r := H
     have A24 := Aside0.mk A240
     clear A240
     replace H := Option.bind_eq_some_iff.mp H
     obtain ⟨t469, A250, H⟩ := H
     replace H : (if t469 = true then ((cenotaphlaw10_From.f k t432).bind fun t470 => ((cenotaphref10_Same.f k t470 t426).bind fun t473 => (some t473))) else (none)) = some r := H
     have A25 := Aside0.mk A250
     clear A250
     by_cases c26 : t469 = true
     ·subst c26
      have H1 : ((cenotaphlaw10_From.f k t432).bind fun t470 => ((cenotaphref10_Same.f k t470 t426).bind fun t473 => (some t473))) = some r := by rw [if_pos rfl] at H; exact H
      clear H
      have H := H1
      clear H1
      replace H := Option.bind_eq_some_iff.mp H
      obtain ⟨t470, A270, H⟩ := H
      replace H : ((cenotaphref10_Same.f k t470 t426).bind fun t473 => (some t473)) = some r := H
      have A27 := Aside0.mk A270
      clear A270
      replace H := Option.bind_eq_some_iff.mp H
      obtain ⟨t473, A280, H⟩ := H
      replace H : (some t473) = some r := H
      have A28 := Aside0.mk A280
      clear A280
      obtain rfl := Option.some.inj H
      go_enter Try.func6, Try.ntmps6
      go_wp2_with (first | ((with_reducible refine gate_callee (f := 12) rfl ?_); refine goesL_ (some 10) rfl rfl Try.func12 (by kernel_rfl) rfl #[.slice A0 l0.length c0] rfl zq6_0 ?_; (with_reducible refine (cenotaphref10_Fix.calls k _ _ l0 t426 _ ?side1 ?side2 A4.out).mono ?_); (case side1 => repeat (first | exact HR0.out | (with_reducible refine Kd.C_alloc ?_ _) | (with_reducible refine Kd.C_drewN ?_ _) | (with_reducible refine Kd.C_drew ?_))); (case side2 => exact HC0.out); rintro e w29 ⟨v427, rfl, ho0, hb⟩; refine ⟨_, rfl, ?_⟩; have n0_ := Aside0.mk (Kd.V_lower (Kd.V_mono (ok' := fun k_ => True) ho0 (fun k_ hk_ => trivial)) (below_size zq6_1)); have n1_ := Aside0.mk (below_step zq6_1 hb); clear HB; have HO428 := n0_; have HB := n1_; clear n0_ n1_; (try clear hb); (try clear hb2); (try clear hk); (try clear hi); (try clear ho0)) | ((with_reducible refine gate_callee (f := 26) rfl ?_); refine goesL_ (some 12) rfl rfl Try.func26 (by kernel_rfl) rfl #[.slice A2 l2.length c2] rfl zq6_0 ?_; (with_reducible refine (cenotaphref03_Fix.calls k _ _ l2 t429 _ ?side1 ?side2 A5.out).mono ?_); (case side1 => repeat (first | exact (Kd.C_below HR2.out HB.out) | (with_reducible refine Kd.C_alloc ?_ _) | (with_reducible refine Kd.C_drewN ?_ _) | (with_reducible refine Kd.C_drew ?_))); (case side2 => exact HC2.out); rintro e w30 ⟨v430, rfl, ho0, hb⟩; refine ⟨_, rfl, ?_⟩; have n0_ := Aside0.mk (Kd.V_elder' zq6_2 (Kd.R_base ho0) hb); have n1_ := Aside0.mk (Kd.R_lower ho0 (below_size zq6_1)); have n2_ := Aside0.mk (below_step zq6_1 hb); clear HO428; clear HB; have HO428 := n0_; have HO431 := n1_; have HB := n2_; clear n0_ n1_ n2_; (try clear hb); (try clear hb2); (try clear hk); (try clear hi); (try clear ho0); obtain ⟨Ao31, co31, eo31⟩ := Kd.V_slice HO428.out; subst eo31) | ((with_reducible refine gate_callee (f := 10) rfl ?_); refine goesL_ (some 14) rfl rfl Try.func10 (by kernel_rfl) rfl #[.slice Ao31 t426.length co31] rfl zq6_0 ?_; (with_reducible refine (cenotaphlaw10_To.calls k _ _ t426 t432 _ ?side1 ?side2 A6.out).mono ?_); (case side1 => repeat (first | exact (Kd.V_reads' HO428.out).2.2 | (with_reducible refine Kd.C_alloc ?_ _) | (with_reducible refine Kd.C_drewN ?_ _) | (with_reducible refine Kd.C_drew ?_))); (case side2 => exact (Kd.V_reads' HO428.out).2.1); rintro e w32 ⟨v433, rfl, ho0, hb⟩; refine ⟨_, rfl, ?_⟩; have n0_ := Aside0.mk (Kd.V_elder' zq6_2 (by first | exact Kd.N_base ho0 | exact Kd.S_base ho0) hb); have n1_ := Aside0.mk (Kd.R_below zq6_3 hb); have n2_ := Aside0.mk (Kd.N_lower (Kd.N_mono (ok' := fun k_ => some k_ ≠ (v430 : Value).ownBlock) (Kd.S_N (Kd.S_bound ho0)) (fun k_ hk_ => (Kd.fresh' (Kd.R_lt zq6_3) k_ hk_.2.1))) (below_size zq6_1)); have n3_ := Aside0.mk (below_step zq6_1 hb); clear HO428; clear HO431; clear HB; have HO428 := n0_; have HO431 := n1_; have HO434 := n2_; have HB := n3_; clear n0_ n1_ n2_ n3_; (try clear hb); (try clear hb2); (try clear hk); (try clear hi); (try clear ho0); obtain ⟨Ao33, co33, eo33⟩ := Kd.R_slice HO431.out; subst eo33) | ((with_reducible refine gate_callee (f := 28) rfl ?_); refine goesL_ (some 18) rfl rfl Try.func28 (by kernel_rfl) rfl #[.slice Ao33 t429.length co33] rfl zq6_0 ?_; (with_reducible refine (cenotaphlaw03_To.calls k _ _ t429 t435 _ ?side1 ?side2 A7.out).mono ?_); (case side1 => repeat (first | exact (Kd.R_reads' HO431.out).2.2 | (with_reducible refine Kd.C_alloc ?_ _) | (with_reducible refine Kd.C_drewN ?_ _) | (with_reducible refine Kd.C_drew ?_))); (case side2 => exact (Kd.R_reads' HO431.out).2.1); rintro e w34 ⟨v436, rfl, ho0, hb⟩; refine ⟨_, rfl, ?_⟩; have n0_ := Aside0.mk (Kd.V_elder' zq6_2 (Kd.R_base ho0) hb); have n1_ := Aside0.mk (Kd.R_below zq6_3 hb); have n2_ := Aside0.mk (Kd.N_elder' zq6_4 (Kd.R_base ho0) hb); have n3_ := Aside0.mk (Kd.R_lower ho0 (below_size zq6_1)); have n4_ := Aside0.mk (below_step zq6_1 hb); clear HO428; clear HO431; clear HO434; clear HB; have HO428 := n0_; have HO431 := n1_; have HO434 := n2_; have HO437 := n3_; have HB := n4_; clear n0_ n1_ n2_ n3_ n4_; (try clear hb); (try clear hb2); (try clear hk); (try clear hi); (try clear ho0); obtain ⟨Ao35, co35, eo35⟩ := Kd.N_slice HO434.out; subst eo35; obtain ⟨Ao36, co36, eo36⟩ := Kd.R_slice HO437.out; subst eo36) | ((with_reducible refine gate_callee (f := 27) rfl ?_); refine goesL_ (some 19) rfl rfl Try.func27 (by kernel_rfl) rfl #[.slice Ao35 t432.length co35, .string a1, .slice Ao36 t435.length co36] rfl zq6_0 ?_; (with_reducible refine (matrix_Put.calls k _ _ t432 a1 _ _ t435 t438 _ ?side1 ?side2 ?side3 ?side4 A8.out).mono ?_); (case side1 => repeat (first | exact (Kd.N_reads' HO434.out).2.2 | (with_reducible refine Kd.C_alloc ?_ _) | (with_reducible refine Kd.C_drewN ?_ _) | (with_reducible refine Kd.C_drew ?_))); (case side2 => exact (Kd.N_reads' HO434.out).2.1); (case side3 => repeat (first | exact (Kd.R_reads' HO437.out).2.2 | (with_reducible refine Kd.C_alloc ?_ _) | (with_reducible refine Kd.C_drewN ?_ _) | (with_reducible refine Kd.C_drew ?_))); (case side4 => exact (Kd.R_reads' HO437.out).2.1); rintro e w37 ⟨v439, rfl, ho0, hb⟩; refine ⟨_, rfl, ?_⟩; have n0_ := Aside0.mk (Kd.V_below zq6_2 hb); have n1_ := Aside0.mk (Kd.R_below zq6_3 hb); have n2_ := Aside0.mk (Kd.N_below zq6_4 hb); have n3_ := Aside0.mk (Kd.R_below zq6_5 hb); have n4_ := Aside0.mk (Kd.V_lower (Kd.V_mono (ok' := fun k_ => some k_ ≠ (.slice Ao33 t429.length co33 : Value).ownBlock ∧ some k_ ≠ (.slice Ao35 t432.length co35 : Value).ownBlock ∧ some k_ ≠ (.slice Ao36 t435.length co36 : Value).ownBlock) ho0 (fun k_ hk_ => ⟨(Kd.fresh' (Kd.R_lt zq6_3) k_ hk_), (Kd.fresh' (Kd.N_lt zq6_4) k_ hk_), (Kd.fresh' (Kd.R_lt zq6_5) k_ hk_)⟩)) (below_size zq6_1)); have n5_ := Aside0.mk (below_step zq6_1 hb); clear HO428; clear HO431; clear HO434; clear HO437; clear HB; have HO428 := n0_; have HO431 := n1_; have HO434 := n2_; have HO437 := n3_; have HO440 := n4_; have HB := n5_; clear n0_ n1_ n2_ n3_ n4_ n5_; (try clear hb); (try clear hb2); (try clear hk); (try clear hi); (try clear ho0)) | ((with_reducible refine gate_callee (f := 8) rfl ?_); refine goesL_ (some 20) rfl rfl Try.func8 (by kernel_rfl) rfl #[] rfl zq6_0 ?_; (with_reducible refine (cenotaphlaw10_told.calls k  true _ A9.out).mono ?_); rintro e w38 ⟨rfl, hb⟩; refine ⟨_, rfl, ?_⟩; have n0_ := Aside0.mk (Kd.V_below zq6_2 hb); have n1_ := Aside0.mk (Kd.R_below zq6_3 hb); have n2_ := Aside0.mk (Kd.N_below zq6_4 hb); have n3_ := Aside0.mk (Kd.R_below zq6_5 hb); have n4_ := Aside0.mk (Kd.V_below zq6_6 hb); have n5_ := Aside0.mk (below_step zq6_1 hb); clear HO428; clear HO431; clear HO434; clear HO437; clear HO440; clear HB; have HO428 := n0_; have HO431 := n1_; have HO434 := n2_; have HO437 := n3_; have HO440 := n4_; have HB := n5_; clear n0_ n1_ n2_ n3_ n4_ n5_; (try clear hb); (try clear hb2); (try clear hk); (try clear hi); obtain ⟨Ao39, co39, eo39⟩ := Kd.V_slice HO440.out; subst eo39) | (go_at_call 30; (with_reducible refine (cenotaphlaw10_From.calls k _ _ t438 t442 _ ?side1 ?side2 A11.out).mono ?_); (case side1 => repeat (first | exact (Kd.V_reads' HO440.out).2.2 | (with_reducible refine Kd.C_alloc ?_ _) | (with_reducible refine Kd.C_drewN ?_ _) | (with_reducible refine Kd.C_drew ?_))); (case side2 => exact (Kd.V_reads' HO440.out).2.1); rintro e w40 ⟨v443, rfl, ho0, hb⟩; have n0_ := Aside0.mk (Kd.V_elder' zq6_2 (by first | exact Kd.N_base ho0 | exact Kd.S_base ho0) hb); have n1_ := Aside0.mk (Kd.R_below zq6_3 hb); have n2_ := Aside0.mk (Kd.N_elder' zq6_4 (by first | exact Kd.N_base ho0 | exact Kd.S_base ho0) hb); have n3_ := Aside0.mk (Kd.R_below zq6_5 hb); have n4_ := Aside0.mk (Kd.V_elder' zq6_6 (by first | exact Kd.N_base ho0 | exact Kd.S_base ho0) hb); have n5_ := Aside0.mk (Kd.N_lower (Kd.N_mono (ok' := fun k_ => some k_ ≠ (.slice Ao33 t429.length co33 : Value).ownBlock ∧ some k_ ≠ (.slice Ao35 t432.length co35 : Value).ownBlock ∧ some k_ ≠ (.slice Ao36 t435.length co36 : Value).ownBlock) (Kd.S_N (Kd.S_bound ho0)) (fun k_ hk_ => ⟨(Kd.fresh' (Kd.R_lt zq6_3) k_ hk_.2.1), (Kd.fresh' (Kd.N_lt zq6_4) k_ hk_.2.1), (Kd.fresh' (Kd.R_lt zq6_5) k_ hk_.2.1)⟩)) (below_size zq6_1)); have n6_ := Aside0.mk (below_step zq6_1 hb); clear HO428; clear HO431; clear HO434; clear HO437; clear HO440; clear HB; have HO428 := n0_; have HO431 := n1_; have HO434 := n2_; have HO437 := n3_; have HO440 := n4_; have HO444 := n5_; have HB := n6_; clear n0_ n1_ n2_ n3_ n4_ n5_ n6_; (try clear hb); (try clear hb2); (try clear hk); (try clear hi); (try clear ho0)) | (go_at_call 31; (with_reducible refine (cenotaphref10_Put.calls k (fun k_ => ((((True ∧ some k_ ≠ (.slice Ao33 t429.length co33 : Value).ownBlock) ∧ some k_ ≠ (.slice Ao35 t432.length co35 : Value).ownBlock) ∧ some k_ ≠ (.slice Ao36 t435.length co36 : Value).ownBlock) ∧ some k_ ≠ (v443 : Value).ownBlock)) _ _ t426 a1 _ _ t429 t445 _ ?side1 ?side2 ?side3 A12.out).mono ?_); (case side1 => exact HO428.out); (case side2 => repeat (first | exact (Kd.R_reads' HO431.out).2.2 | (with_reducible refine Kd.C_alloc ?_ _) | (with_reducible refine Kd.C_drewN ?_ _) | (with_reducible refine Kd.C_drew ?_))); (case side3 => exact (Kd.R_reads' HO431.out).2.1); rintro e w41 ⟨v446, rfl, ho0, hb⟩; have n0_ := Aside0.mk (Kd.V_below zq6_2 hb); have n1_ := Aside0.mk (Kd.R_below zq6_3 hb); have n2_ := Aside0.mk (Kd.N_below zq6_4 hb); have n3_ := Aside0.mk (Kd.R_below zq6_5 hb); have n4_ := Aside0.mk (Kd.V_below zq6_6 hb); have n5_ := Aside0.mk (Kd.N_below zq6_7 hb); have n6_ := Aside0.mk (Kd.V_lower (Kd.V_mono (ok' := fun k_ => some k_ ≠ (.slice Ao33 t429.length co33 : Value).ownBlock ∧ some k_ ≠ (.slice Ao35 t432.length co35 : Value).ownBlock ∧ some k_ ≠ (.slice Ao36 t435.length co36 : Value).ownBlock ∧ some k_ ≠ (v443 : Value).ownBlock) ho0 (fun k_ hk_ => ⟨Or.elim hk_ (fun hs_ => hs_.1.1.1.2) (fun hn_ => (Kd.fresh' (Kd.R_lt zq6_3) k_ hn_)), Or.elim hk_ (fun hs_ => hs_.1.1.2) (fun hn_ => (Kd.fresh' (Kd.N_lt zq6_4) k_ hn_)), Or.elim hk_ (fun hs_ => hs_.1.2) (fun hn_ => (Kd.fresh' (Kd.R_lt zq6_5) k_ hn_)), Or.elim hk_ (fun hs_ => hs_.2) (fun hn_ => (Kd.fresh' (Kd.N_lt zq6_7) k_ hn_))⟩)) (below_size zq6_1)); have n7_ := Aside0.mk (below_step zq6_1 hb); clear HO428; clear HO431; clear HO434; clear HO437; clear HO440; clear HO444; clear HB; have HO428 := n0_; have HO431 := n1_; have HO434 := n2_; have HO437 := n3_; have HO440 := n4_; have HO444 := n5_; have HO447 := n6_; have HB := n7_; clear n0_ n1_ n2_ n3_ n4_ n5_ n6_ n7_; (try clear hb); (try clear hb2); (try clear hk); (try clear hi); (try clear ho0); obtain ⟨Ao42, co42, eo42⟩ := Kd.N_slice HO444.out; subst eo42; obtain ⟨Ao43, co43, eo43⟩ := Kd.V_slice HO447.out; subst eo43) | (go_at_call 29; (with_reducible refine (cenotaphref10_Same.calls k _ _ t442 _ _ t445 true _ ?side1 ?side2 ?side3 ?side4 A13.out).mono ?_); (case side1 => repeat (first | exact (Kd.N_reads' HO444.out).2.2 | (with_reducible refine Kd.C_alloc ?_ _) | (with_reducible refine Kd.C_drewN ?_ _) | (with_reducible refine Kd.C_drew ?_))); (case side2 => exact (Kd.N_reads' HO444.out).2.1); (case side3 => repeat (first | exact (Kd.V_reads' HO447.out).2.2 | (with_reducible refine Kd.C_alloc ?_ _) | (with_reducible refine Kd.C_drewN ?_ _) | (with_reducible refine Kd.C_drew ?_))); (case side4 => exact (Kd.V_reads' HO447.out).2.1); rintro e w' ⟨rfl, ⟨nd, rfl⟩⟩) | (go_at_call 9; (with_reducible refine (matrix_Right.calls k _ _ t438 true _ ?side1 ?side2 A15.out).mono ?_); (case side1 => repeat (first | exact (Kd.V_reads' HO440.out).2.2 | (with_reducible refine Kd.C_alloc ?_ _) | (with_reducible refine Kd.C_drewN ?_ _) | (with_reducible refine Kd.C_drew ?_))); (case side2 => exact (Kd.V_reads' HO440.out).2.1); rintro e w44 ⟨rfl, hb⟩; have n0_ := Aside0.mk (Kd.V_below zq6_2 hb); have n1_ := Aside0.mk (Kd.R_below zq6_3 hb); have n2_ := Aside0.mk (Kd.N_below zq6_4 hb); have n3_ := Aside0.mk (Kd.R_below zq6_5 hb); have n4_ := Aside0.mk (Kd.V_below zq6_6 hb); have n5_ := Aside0.mk (Kd.N_below zq6_7 hb); have n6_ := Aside0.mk (Kd.V_below zq6_8 hb); have n7_ := Aside0.mk (below_step zq6_1 hb); clear HO428; clear HO431; clear HO434; clear HO437; clear HO440; clear HO444; clear HO447; clear HB; have HO428 := n0_; have HO431 := n1_; have HO434 := n2_; have HO437 := n3_; have HO440 := n4_; have HO444 := n5_; have HO447 := n6_; have HB := n7_; clear n0_ n1_ n2_ n3_ n4_ n5_ n6_ n7_; (try clear hb); (try clear hb2); (try clear hk); (try clear hi)) | (go_at_call 32; (with_reducible refine (matrix_Drop.calls _ _ t432 a1 t450 _ ?side1 ?side2 A17.out).mono ?_); (case side1 => repeat (first | exact (Kd.N_reads' HO434.out).2.2 | (with_reducible refine Kd.C_alloc ?_ _) | (with_reducible refine Kd.C_drewN ?_ _) | (with_reducible refine Kd.C_drew ?_))); (case side2 => exact (Kd.N_reads' HO434.out).2.1); rintro e w45 ⟨v451, rfl, ho0, hb⟩; have n0_ := Aside0.mk (Kd.V_below zq6_2 hb); have n1_ := Aside0.mk (Kd.R_below zq6_3 hb); have n2_ := Aside0.mk (Kd.N_below zq6_4 hb); have n3_ := Aside0.mk (Kd.R_below zq6_5 hb); have n4_ := Aside0.mk (Kd.V_below zq6_6 hb); have n5_ := Aside0.mk (Kd.N_below zq6_7 hb); have n6_ := Aside0.mk (Kd.V_below zq6_8 hb); have n7_ := Aside0.mk (Kd.V_lower (Kd.V_mono (ok' := fun k_ => some k_ ≠ (.slice Ao33 t429.length co33 : Value).ownBlock ∧ some k_ ≠ (.slice Ao35 t432.length co35 : Value).ownBlock ∧ some k_ ≠ (.slice Ao36 t435.length co36 : Value).ownBlock ∧ some k_ ≠ (.slice Ao42 t442.length co42 : Value).ownBlock) ho0 (fun k_ hk_ => ⟨(Kd.fresh' (Kd.R_lt zq6_3) k_ hk_), (Kd.fresh' (Kd.N_lt zq6_4) k_ hk_), (Kd.fresh' (Kd.R_lt zq6_5) k_ hk_), (Kd.fresh' (Kd.N_lt zq6_7) k_ hk_)⟩)) (below_size zq6_1)); have n8_ := Aside0.mk (below_step zq6_1 hb); clear HO428; clear HO431; clear HO434; clear HO437; clear HO440; clear HO444; clear HO447; clear HB; have HO428 := n0_; have HO431 := n1_; have HO434 := n2_; have HO437 := n3_; have HO440 := n4_; have HO444 := n5_; have HO447 := n6_; have HO452 := n7_; have HB := n8_; clear n0_ n1_ n2_ n3_ n4_ n5_ n6_ n7_ n8_; (try clear hb); (try clear hb2); (try clear hk); (try clear hi); (try clear ho0); obtain ⟨Ao46, co46, eo46⟩ := Kd.V_slice HO452.out; subst eo46) | (go_at_call 30; (with_reducible refine (cenotaphlaw10_From.calls k _ _ t450 t453 _ ?side1 ?side2 A18.out).mono ?_); (case side1 => repeat (first | exact (Kd.V_reads' HO452.out).2.2 | (with_reducible refine Kd.C_alloc ?_ _) | (with_reducible refine Kd.C_drewN ?_ _) | (with_reducible refine Kd.C_drew ?_))); (case side2 => exact (Kd.V_reads' HO452.out).2.1); rintro e w47 ⟨v454, rfl, ho0, hb⟩; have n0_ := Aside0.mk (Kd.V_elder' zq6_2 (by first | exact Kd.N_base ho0 | exact Kd.S_base ho0) hb); have n1_ := Aside0.mk (Kd.R_below zq6_3 hb); have n2_ := Aside0.mk (Kd.N_elder' zq6_4 (by first | exact Kd.N_base ho0 | exact Kd.S_base ho0) hb); have n3_ := Aside0.mk (Kd.R_below zq6_5 hb); have n4_ := Aside0.mk (Kd.V_elder' zq6_6 (by first | exact Kd.N_base ho0 | exact Kd.S_base ho0) hb); have n5_ := Aside0.mk (Kd.N_elder' zq6_7 (by first | exact Kd.N_base ho0 | exact Kd.S_base ho0) hb); have n6_ := Aside0.mk (Kd.V_elder' zq6_8 (by first | exact Kd.N_base ho0 | exact Kd.S_base ho0) hb); have n7_ := Aside0.mk (Kd.V_elder' zq6_9 (by first | exact Kd.N_base ho0 | exact Kd.S_base ho0) hb); have n8_ := Aside0.mk (Kd.N_lower (Kd.N_mono (ok' := fun k_ => some k_ ≠ (.slice Ao33 t429.length co33 : Value).ownBlock ∧ some k_ ≠ (.slice Ao35 t432.length co35 : Value).ownBlock ∧ some k_ ≠ (.slice Ao36 t435.length co36 : Value).ownBlock ∧ some k_ ≠ (.slice Ao42 t442.length co42 : Value).ownBlock) (Kd.S_N (Kd.S_bound ho0)) (fun k_ hk_ => ⟨(Kd.fresh' (Kd.R_lt zq6_3) k_ hk_.2.1), (Kd.fresh' (Kd.N_lt zq6_4) k_ hk_.2.1), (Kd.fresh' (Kd.R_lt zq6_5) k_ hk_.2.1), (Kd.fresh' (Kd.N_lt zq6_7) k_ hk_.2.1)⟩)) (below_size zq6_1)); have n9_ := Aside0.mk (below_step zq6_1 hb); clear HO428; clear HO431; clear HO434; clear HO437; clear HO440; clear HO444; clear HO447; clear HO452; clear HB; have HO428 := n0_; have HO431 := n1_; have HO434 := n2_; have HO437 := n3_; have HO440 := n4_; have HO444 := n5_; have HO447 := n6_; have HO452 := n7_; have HO455 := n8_; have HB := n9_; clear n0_ n1_ n2_ n3_ n4_ n5_ n6_ n7_ n8_ n9_; (try clear hb); (try clear hb2); (try clear hk); (try clear hi); (try clear ho0)) | (go_at_call 33; (with_reducible refine (cenotaphref10_Drop.calls k (fun k_ => (((((True ∧ some k_ ≠ (.slice Ao33 t429.length co33 : Value).ownBlock) ∧ some k_ ≠ (.slice Ao35 t432.length co35 : Value).ownBlock) ∧ some k_ ≠ (.slice Ao36 t435.length co36 : Value).ownBlock) ∧ some k_ ≠ (.slice Ao42 t442.length co42 : Value).ownBlock) ∧ some k_ ≠ (v454 : Value).ownBlock)) _ _ t426 a1 t456 _ ?side1 A19.out).mono ?_); (case side1 => exact HO428.out); rintro e w48 ⟨v457, rfl, ho0, hb⟩; have n0_ := Aside0.mk (Kd.V_elder' zq6_2 (by first | exact Kd.N_base ho0 | exact Kd.S_base ho0) hb); have n1_ := Aside0.mk (Kd.R_below zq6_3 hb); have n2_ := Aside0.mk (Kd.N_elder' zq6_4 (by first | exact Kd.N_base ho0 | exact Kd.S_base ho0) hb); have n3_ := Aside0.mk (Kd.R_below zq6_5 hb); have n4_ := Aside0.mk (Kd.V_elder' zq6_6 (by first | exact Kd.N_base ho0 | exact Kd.S_base ho0) hb); have n5_ := Aside0.mk (Kd.N_elder' zq6_7 (by first | exact Kd.N_base ho0 | exact Kd.S_base ho0) hb); have n6_ := Aside0.mk (Kd.V_elder' zq6_8 (by first | exact Kd.N_base ho0 | exact Kd.S_base ho0) hb); have n7_ := Aside0.mk (Kd.V_elder' zq6_9 (by first | exact Kd.N_base ho0 | exact Kd.S_base ho0) hb); have n8_ := Aside0.mk (Kd.N_elder' zq6_10 (by first | exact Kd.N_base ho0 | exact Kd.S_base ho0) hb); have n9_ := Aside0.mk (Kd.N_lower (Kd.N_mono (ok' := fun k_ => some k_ ≠ (.slice Ao33 t429.length co33 : Value).ownBlock ∧ some k_ ≠ (.slice Ao35 t432.length co35 : Value).ownBlock ∧ some k_ ≠ (.slice Ao36 t435.length co36 : Value).ownBlock ∧ some k_ ≠ (.slice Ao42 t442.length co42 : Value).ownBlock ∧ some k_ ≠ (v454 : Value).ownBlock) ho0 (fun k_ hk_ => ⟨Or.elim hk_ (fun hs_ => hs_.1.1.1.1.2) (fun hn_ => (Kd.fresh' (Kd.R_lt zq6_3) k_ hn_)), Or.elim hk_ (fun hs_ => hs_.1.1.1.2) (fun hn_ => (Kd.fresh' (Kd.N_lt zq6_4) k_ hn_)), Or.elim hk_ (fun hs_ => hs_.1.1.2) (fun hn_ => (Kd.fresh' (Kd.R_lt zq6_5) k_ hn_)), Or.elim hk_ (fun hs_ => hs_.1.2) (fun hn_ => (Kd.fresh' (Kd.N_lt zq6_7) k_ hn_)), Or.elim hk_ (fun hs_ => hs_.2) (fun hn_ => (Kd.fresh' (Kd.N_lt zq6_10) k_ hn_))⟩)) (below_size zq6_1)); have n10_ := Aside0.mk (below_step zq6_1 hb); clear HO428; clear HO431; clear HO434; clear HO437; clear HO440; clear HO444; clear HO447; clear HO452; clear HO455; clear HB; have HO428 := n0_; have HO431 := n1_; have HO434 := n2_; have HO437 := n3_; have HO440 := n4_; have HO444 := n5_; have HO447 := n6_; have HO452 := n7_; have HO455 := n8_; have HO458 := n9_; have HB := n10_; clear n0_ n1_ n2_ n3_ n4_ n5_ n6_ n7_ n8_ n9_ n10_; (try clear hb); (try clear hb2); (try clear hk); (try clear hi); (try clear ho0); obtain ⟨Ao49, co49, eo49⟩ := Kd.N_slice HO455.out; subst eo49; obtain ⟨Ao50, co50, eo50⟩ := Kd.N_slice HO458.out; subst eo50) | (go_at_call 29; (with_reducible refine (cenotaphref10_Same.calls k _ _ t453 _ _ t456 true _ ?side1 ?side2 ?side3 ?side4 A20.out).mono ?_); (case side1 => repeat (first | exact (Kd.N_reads' HO455.out).2.2 | (with_reducible refine Kd.C_alloc ?_ _) | (with_reducible refine Kd.C_drewN ?_ _) | (with_reducible refine Kd.C_drew ?_))); (case side2 => exact (Kd.N_reads' HO455.out).2.1); (case side3 => repeat (first | exact (Kd.N_reads' HO458.out).2.2 | (with_reducible refine Kd.C_alloc ?_ _) | (with_reducible refine Kd.C_drewN ?_ _) | (with_reducible refine Kd.C_drew ?_))); (case side4 => exact (Kd.N_reads' HO458.out).2.1); rintro e w' ⟨rfl, ⟨nd, rfl⟩⟩) | (go_at_call 21; (with_reducible refine (matrix_Of.calls _ _ t432 a1 t460 _ ?side1 ?side2 A22.out).mono ?_); (case side1 => repeat (first | exact (Kd.N_reads' HO434.out).2.2 | (with_reducible refine Kd.C_alloc ?_ _) | (with_reducible refine Kd.C_drewN ?_ _) | (with_reducible refine Kd.C_drew ?_))); (case side2 => exact (Kd.N_reads' HO434.out).2.1); rintro e w51 ⟨v461, rfl, ho0, hb⟩; have n0_ := Aside0.mk (Kd.V_below zq6_2 hb); have n1_ := Aside0.mk (Kd.R_below zq6_3 hb); have n2_ := Aside0.mk (Kd.N_below zq6_4 hb); have n3_ := Aside0.mk (Kd.R_below zq6_5 hb); have n4_ := Aside0.mk (Kd.V_below zq6_6 hb); have n5_ := Aside0.mk (Kd.N_below zq6_7 hb); have n6_ := Aside0.mk (Kd.V_below zq6_8 hb); have n7_ := Aside0.mk (Kd.V_below zq6_9 hb); have n8_ := Aside0.mk (Kd.N_below zq6_10 hb); have n9_ := Aside0.mk (Kd.N_below zq6_11 hb); have n10_ := Aside0.mk (Kd.V_lower (Kd.V_mono (ok' := fun k_ => some k_ ≠ (.slice Ao33 t429.length co33 : Value).ownBlock ∧ some k_ ≠ (.slice Ao35 t432.length co35 : Value).ownBlock ∧ some k_ ≠ (.slice Ao36 t435.length co36 : Value).ownBlock ∧ some k_ ≠ (.slice Ao42 t442.length co42 : Value).ownBlock ∧ some k_ ≠ (.slice Ao49 t453.length co49 : Value).ownBlock ∧ some k_ ≠ (.slice Ao50 t456.length co50 : Value).ownBlock) ho0 (fun k_ hk_ => ⟨(Kd.fresh' (Kd.R_lt zq6_3) k_ hk_), (Kd.fresh' (Kd.N_lt zq6_4) k_ hk_), (Kd.fresh' (Kd.R_lt zq6_5) k_ hk_), (Kd.fresh' (Kd.N_lt zq6_7) k_ hk_), (Kd.fresh' (Kd.N_lt zq6_10) k_ hk_), (Kd.fresh' (Kd.N_lt zq6_11) k_ hk_)⟩)) (below_size zq6_1)); have n11_ := Aside0.mk (below_step zq6_1 hb); clear HO428; clear HO431; clear HO434; clear HO437; clear HO440; clear HO444; clear HO447; clear HO452; clear HO455; clear HO458; clear HB; have HO428 := n0_; have HO431 := n1_; have HO434 := n2_; have HO437 := n3_; have HO440 := n4_; have HO444 := n5_; have HO447 := n6_; have HO452 := n7_; have HO455 := n8_; have HO458 := n9_; have HO462 := n10_; have HB := n11_; clear n0_ n1_ n2_ n3_ n4_ n5_ n6_ n7_ n8_ n9_ n10_ n11_; (try clear hb); (try clear hb2); (try clear hk); (try clear hi); (try clear ho0); obtain ⟨Ao52, co52, eo52⟩ := Kd.V_slice HO462.out; subst eo52) | (go_at_call 17; (with_reducible refine (cenotaphlaw03_From.calls k _ _ t460 t463 _ ?side1 ?side2 A23.out).mono ?_); (case side1 => repeat (first | exact (Kd.V_reads' HO462.out).2.2 | (with_reducible refine Kd.C_alloc ?_ _) | (with_reducible refine Kd.C_drewN ?_ _) | (with_reducible refine Kd.C_drew ?_))); (case side2 => exact (Kd.V_reads' HO462.out).2.1); rintro e w53 ⟨v464, rfl, ho0, hb⟩; have n0_ := Aside0.mk (Kd.V_elder' zq6_2 (Kd.R_base ho0) hb); have n1_ := Aside0.mk (Kd.R_elder' zq6_3 (Kd.R_base ho0) hb); have n2_ := Aside0.mk (Kd.N_elder' zq6_4 (Kd.R_base ho0) hb); have n3_ := Aside0.mk (Kd.R_below zq6_5 hb); have n4_ := Aside0.mk (Kd.V_elder' zq6_6 (Kd.R_base ho0) hb); have n5_ := Aside0.mk (Kd.N_elder' zq6_7 (Kd.R_base ho0) hb); have n6_ := Aside0.mk (Kd.V_elder' zq6_8 (Kd.R_base ho0) hb); have n7_ := Aside0.mk (Kd.V_elder' zq6_9 (Kd.R_base ho0) hb); have n8_ := Aside0.mk (Kd.N_elder' zq6_10 (Kd.R_base ho0) hb); have n9_ := Aside0.mk (Kd.N_elder' zq6_11 (Kd.R_base ho0) hb); have n10_ := Aside0.mk (Kd.V_elder' zq6_12 (Kd.R_base ho0) hb); have n11_ := Aside0.mk (Kd.R_lower (Kd.R_new' ho0 (Kd.R_lt zq6_3)) (below_size zq6_1)); have n12_ := Aside0.mk (below_step zq6_1 hb); clear HO428; clear HO431; clear HO434; clear HO437; clear HO440; clear HO444; clear HO447; clear HO452; clear HO455; clear HO458; clear HO462; clear HB; have HO428 := n0_; have HO431 := n1_; have HO434 := n2_; have HO437 := n3_; have HO440 := n4_; have HO444 := n5_; have HO447 := n6_; have HO452 := n7_; have HO455 := n8_; have HO458 := n9_; have HO462 := n10_; have HO465 := n11_; have HB := n12_; clear n0_ n1_ n2_ n3_ n4_ n5_ n6_ n7_ n8_ n9_ n10_ n11_ n12_; (try clear hb); (try clear hb2); (try clear hk); (try clear hi); (try clear ho0)) | (go_at_call 34; (with_reducible refine (cenotaphref10_Of.calls k (fun k_ => (((((((True ∧ some k_ ≠ (.slice Ao33 t429.length co33 : Value).ownBlock) ∧ some k_ ≠ (.slice Ao35 t432.length co35 : Value).ownBlock) ∧ some k_ ≠ (.slice Ao36 t435.length co36 : Value).ownBlock) ∧ some k_ ≠ (.slice Ao42 t442.length co42 : Value).ownBlock) ∧ some k_ ≠ (.slice Ao49 t453.length co49 : Value).ownBlock) ∧ some k_ ≠ (.slice Ao50 t456.length co50 : Value).ownBlock) ∧ some k_ ≠ (v464 : Value).ownBlock)) _ _ t426 a1 t466 _ ?side1 A24.out).mono ?_); (case side1 => exact HO428.out); rintro e w54 ⟨v467, rfl, ho0, hb⟩; have n0_ := Aside0.mk (Kd.V_below zq6_2 hb); have n1_ := Aside0.mk (Kd.R_below zq6_3 hb); have n2_ := Aside0.mk (Kd.N_below zq6_4 hb); have n3_ := Aside0.mk (Kd.R_below zq6_5 hb); have n4_ := Aside0.mk (Kd.V_below zq6_6 hb); have n5_ := Aside0.mk (Kd.N_below zq6_7 hb); have n6_ := Aside0.mk (Kd.V_below zq6_8 hb); have n7_ := Aside0.mk (Kd.V_below zq6_9 hb); have n8_ := Aside0.mk (Kd.N_below zq6_10 hb); have n9_ := Aside0.mk (Kd.N_below zq6_11 hb); have n10_ := Aside0.mk (Kd.V_below zq6_12 hb); have n11_ := Aside0.mk (Kd.R_below zq6_13 hb); have n12_ := Aside0.mk (Kd.V_lower (Kd.V_mono (ok' := fun k_ => some k_ ≠ (.slice Ao33 t429.length co33 : Value).ownBlock ∧ some k_ ≠ (.slice Ao35 t432.length co35 : Value).ownBlock ∧ some k_ ≠ (.slice Ao36 t435.length co36 : Value).ownBlock ∧ some k_ ≠ (.slice Ao42 t442.length co42 : Value).ownBlock ∧ some k_ ≠ (.slice Ao49 t453.length co49 : Value).ownBlock ∧ some k_ ≠ (.slice Ao50 t456.length co50 : Value).ownBlock ∧ some k_ ≠ (v464 : Value).ownBlock) ho0 (fun k_ hk_ => ⟨Or.elim hk_ (fun hs_ => hs_.1.1.1.1.1.1.2) (fun hn_ => (Kd.fresh' (Kd.R_lt zq6_3) k_ hn_)), Or.elim hk_ (fun hs_ => hs_.1.1.1.1.1.2) (fun hn_ => (Kd.fresh' (Kd.N_lt zq6_4) k_ hn_)), Or.elim hk_ (fun hs_ => hs_.1.1.1.1.2) (fun hn_ => (Kd.fresh' (Kd.R_lt zq6_5) k_ hn_)), Or.elim hk_ (fun hs_ => hs_.1.1.1.2) (fun hn_ => (Kd.fresh' (Kd.N_lt zq6_7) k_ hn_)), Or.elim hk_ (fun hs_ => hs_.1.1.2) (fun hn_ => (Kd.fresh' (Kd.N_lt zq6_10) k_ hn_)), Or.elim hk_ (fun hs_ => hs_.1.2) (fun hn_ => (Kd.fresh' (Kd.N_lt zq6_11) k_ hn_)), Or.elim hk_ (fun hs_ => hs_.2) (fun hn_ => (Kd.fresh' (Kd.R_lt zq6_13) k_ hn_))⟩)) (below_size zq6_1)); have n13_ := Aside0.mk (below_step zq6_1 hb); clear HO428; clear HO431; clear HO434; clear HO437; clear HO440; clear HO444; clear HO447; clear HO452; clear HO455; clear HO458; clear HO462; clear HO465; clear HB; have HO428 := n0_; have HO431 := n1_; have HO434 := n2_; have HO437 := n3_; have HO440 := n4_; have HO444 := n5_; have HO447 := n6_; have HO452 := n7_; have HO455 := n8_; have HO458 := n9_; have HO462 := n10_; have HO465 := n11_; have HO468 := n12_; have HB := n13_; clear n0_ n1_ n2_ n3_ n4_ n5_ n6_ n7_ n8_ n9_ n10_ n11_ n12_ n13_; (try clear hb); (try clear hb2); (try clear hk); (try clear hi); (try clear ho0); obtain ⟨Ao55, co55, eo55⟩ := Kd.R_slice HO465.out; subst eo55; obtain ⟨Ao56, co56, eo56⟩ := Kd.V_slice HO468.out; subst eo56) | (go_at_call 16; (with_reducible refine (cenotaphref03_Same.calls k _ _ t463 _ _ t466 true _ ?side1 ?side2 ?side3 ?side4 A25.out).mono ?_); (case side1 => repeat (first | exact (Kd.R_reads' HO465.out).2.2 | (with_reducible refine Kd.C_alloc ?_ _) | (with_reducible refine Kd.C_drewN ?_ _) | (with_reducible refine Kd.C_drew ?_))); (case side2 => exact (Kd.R_reads' HO465.out).2.1); (case side3 => repeat (first | exact (Kd.V_reads' HO468.out).2.2 | (with_reducible refine Kd.C_alloc ?_ _) | (with_reducible refine Kd.C_drewN ?_ _) | (with_reducible refine Kd.C_drew ?_))); (case side4 => exact (Kd.V_reads' HO468.out).2.1); rintro e w' ⟨rfl, ⟨nd, rfl⟩⟩) | (go_at_call 30; (with_reducible refine (cenotaphlaw10_From.calls k _ _ t432 t470 _ ?side1 ?side2 A27.out).mono ?_); (case side1 => repeat (first | exact (Kd.N_reads' HO434.out).2.2 | (with_reducible refine Kd.C_alloc ?_ _) | (with_reducible refine Kd.C_drewN ?_ _) | (with_reducible refine Kd.C_drew ?_))); (case side2 => exact (Kd.N_reads' HO434.out).2.1); rintro e w57 ⟨v471, rfl, ho0, hb⟩; have n0_ := Aside0.mk (Kd.V_elder' zq6_2 (by first | exact Kd.N_base ho0 | exact Kd.S_base ho0) hb); have n1_ := Aside0.mk (Kd.R_below zq6_3 hb); have n2_ := Aside0.mk (Kd.N_elder' zq6_4 (by first | exact Kd.N_base ho0 | exact Kd.S_base ho0) hb); have n3_ := Aside0.mk (Kd.R_below zq6_5 hb); have n4_ := Aside0.mk (Kd.V_elder' zq6_6 (by first | exact Kd.N_base ho0 | exact Kd.S_base ho0) hb); have n5_ := Aside0.mk (Kd.N_elder' zq6_7 (by first | exact Kd.N_base ho0 | exact Kd.S_base ho0) hb); have n6_ := Aside0.mk (Kd.V_elder' zq6_8 (by first | exact Kd.N_base ho0 | exact Kd.S_base ho0) hb); have n7_ := Aside0.mk (Kd.V_elder' zq6_9 (by first | exact Kd.N_base ho0 | exact Kd.S_base ho0) hb); have n8_ := Aside0.mk (Kd.N_elder' zq6_10 (by first | exact Kd.N_base ho0 | exact Kd.S_base ho0) hb); have n9_ := Aside0.mk (Kd.N_elder' zq6_11 (by first | exact Kd.N_base ho0 | exact Kd.S_base ho0) hb); have n10_ := Aside0.mk (Kd.V_elder' zq6_12 (by first | exact Kd.N_base ho0 | exact Kd.S_base ho0) hb); have n11_ := Aside0.mk (Kd.R_below zq6_13 hb); have n12_ := Aside0.mk (Kd.V_elder' (by (with_reducible repeat (first | apply Kd.V_alloc | apply Kd.V_drewN | apply Kd.V_drew)); exact HO468.out) (by first | exact Kd.N_base ho0 | exact Kd.S_base ho0) hb); have n13_ := Aside0.mk (Kd.N_lower (Kd.N_mono (ok' := fun k_ => some k_ ≠ (.slice Ao33 t429.length co33 : Value).ownBlock ∧ some k_ ≠ (.slice Ao35 t432.length co35 : Value).ownBlock ∧ some k_ ≠ (.slice Ao36 t435.length co36 : Value).ownBlock ∧ some k_ ≠ (.slice Ao42 t442.length co42 : Value).ownBlock ∧ some k_ ≠ (.slice Ao49 t453.length co49 : Value).ownBlock ∧ some k_ ≠ (.slice Ao50 t456.length co50 : Value).ownBlock ∧ some k_ ≠ (.slice Ao55 t463.length co55 : Value).ownBlock) (Kd.S_N (Kd.S_bound ho0)) (fun k_ hk_ => ⟨(Kd.fresh' (Kd.R_lt zq6_3) k_ hk_.2.1), (Kd.fresh' (Kd.N_lt zq6_4) k_ hk_.2.1), (Kd.fresh' (Kd.R_lt zq6_5) k_ hk_.2.1), (Kd.fresh' (Kd.N_lt zq6_7) k_ hk_.2.1), (Kd.fresh' (Kd.N_lt zq6_10) k_ hk_.2.1), (Kd.fresh' (Kd.N_lt zq6_11) k_ hk_.2.1), (Kd.fresh' (Kd.R_lt zq6_13) k_ hk_.2.1)⟩)) (below_size zq6_1)); have n14_ := Aside0.mk (below_step zq6_1 hb); clear HO428; clear HO431; clear HO434; clear HO437; clear HO440; clear HO444; clear HO447; clear HO452; clear HO455; clear HO458; clear HO462; clear HO465; clear HO468; clear HB; have HO428 := n0_; have HO431 := n1_; have HO434 := n2_; have HO437 := n3_; have HO440 := n4_; have HO444 := n5_; have HO447 := n6_; have HO452 := n7_; have HO455 := n8_; have HO458 := n9_; have HO462 := n10_; have HO465 := n11_; have HO468 := n12_; have HO472 := n13_; have HB := n14_; clear n0_ n1_ n2_ n3_ n4_ n5_ n6_ n7_ n8_ n9_ n10_ n11_ n12_ n13_ n14_; (try clear hb); (try clear hb2); (try clear hk); (try clear hi); (try clear ho0); obtain ⟨Ao58, co58, eo58⟩ := Kd.N_slice HO472.out; subst eo58) | (go_at_call 29; (with_reducible refine (cenotaphref10_Same.calls k _ _ t470 _ _ t426 t473 _ ?side1 ?side2 ?side3 ?side4 A28.out).mono ?_); (case side1 => repeat (first | exact (Kd.N_reads' HO472.out).2.2 | (with_reducible refine Kd.C_alloc ?_ _) | (with_reducible refine Kd.C_drewN ?_ _) | (with_reducible refine Kd.C_drew ?_))); (case side2 => exact (Kd.N_reads' HO472.out).2.1); (case side3 => repeat (first | exact (Kd.V_reads' HO428.out).2.2 | (with_reducible refine Kd.C_alloc ?_ _) | (with_reducible refine Kd.C_drewN ?_ _) | (with_reducible refine Kd.C_drew ?_))); (case side4 => exact (Kd.V_reads' HO428.out).2.1); rintro e w' ⟨rfl, ⟨nd, rfl⟩⟩))
      go_ret
      exact ⟨by first | rfl | (simp [errW_none, errW_some] <;> rfl) | (simp [*, errW_none, errW_some] <;> rfl), by repeat (first | (with_reducible first | exact HB.out | apply below_alloc | apply pw_below_drewN | apply below_drew1) | exact HB.out)⟩
     ·replace c26 := Bool.eq_false_iff.mpr c26
      subst c26
      have H1 : (none) = some r := by rw [if_neg (show ¬ (false = true) by decide)] at H; exact H
      clear H
      have H := H1
      clear H1
      exact absurd H (by simp)
    ·replace c21 := Bool.eq_false_iff.mpr c21
     subst c21
     have H1 : (none) = some r := by rw [if_neg (show ¬ (false = true) by decide)] at H; exact H
     clear H
     have H := H1
     clear H1
     exact absurd H (by simp)
   ·replace c16 := Bool.eq_false_iff.mpr c16
    subst c16
    have H1 : (none) = some r := by rw [if_neg (show ¬ (false = true) by decide)] at H; exact H
    clear H
    have H := H1
    clear H1
    exact absurd H (by simp)
  ·replace c14 := Bool.eq_false_iff.mpr c14
   subst c14
   have H1 : (none) = some r := by rw [if_neg (show ¬ (false = true) by decide)] at H; exact H
   clear H
   have H := H1
   clear H1
   exact absurd H (by simp)
 ·replace c10 := Bool.eq_false_iff.mpr c10
  subst c10
  have H1 : (none) = some r := by rw [if_neg (show ¬ (false = true) by decide)] at H; exact H
  clear H
  have H := H1
  clear H1
  exact absurd H (by simp)

end Go.Proofs.Ytoodahceejdbcaa.P
