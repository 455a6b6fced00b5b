-- Written by a program of this session (wip/pp.py over the kit's printer, with our own texts put in).
import Derived.Test.YtjdhnnpagaocnaaP0
import Derived.Test.YtjdhnnpagaocnaaP4
import Derived.Test.YtjdhnnpagaocnaaP5
import Derived.Test.YtjdhnnpagaocnaaP6
import Derived.Test.YtjdhnnpagaocnaaP7
import Derived.Test.YtjdhnnpagaocnaaP9
import Derived.Test.YtjdhnnpagaocnaaP10
namespace Go.Proofs.Ytjdhnnpagaocnaa.P
open Go.RowKit Go.Proofs.YtjdhnnpagaocnaaW.PrintWords Go.Proofs.YtjdhnnpagaocnaaW.PrintLast Go.Proofs.YtjdhnnpagaocnaaW.PrintMore
attribute [local go_sem] max2_int min2_int max_two min_two max_three min_three max_four min_four   -- for this text's walks alone
set_option linter.unusedVariables false
set_option linter.unusedSimpArgs false

/-! ### vec_Drop: function 17 -/
set_option maxHeartbeats 1600000 in
set_option maxRecDepth 100000 in
theorem vecd_index (A0 : Option Addr) (c0 : Nat) (l0 : List S47) (cb : Value) (p : S47 → Bool) (w : World) (hr0 : Kd.C k47 w A0 l0.length l0)
    (hp : ∀ (x : S47) (W : World), x ∈ l0 → Below w.heap.size w W → Calls Try.prog 41 #[.agg #[.string x.f0, .int .i64 x.f1], cb] W fun e w' => e = .returned (.bool (p x)) ∧ Below W.heap.size W w') :
    Calls Try.prog 45 #[.slice A0 l0.length c0, .func (.func 41) #[] #[cb]] w fun e w' => e = .returned (.int .i64 (idxI p l0)) ∧ Below w.heap.size w w' := by
  have hlen := hr0.2.1
  have HR0 := Aside0.mk hr0
  have HP := Aside0.mk hp
  clear hr0 hp
  have HF := Aside0.mk (fun i hi hn h => idxI_found p z47 l0 i hi hn h)
  have HN := Aside0.mk (fun hn => idxI_none p z47 l0 hn)
  generalize idxI p l0 = r at *
  generalize hn : l0.length = n at *
  have HL := Aside0.mk hn
  clear hn
  have HB := Aside0.mk (Below.refl w.heap.size w)
  have hut := Try.underlying47
  go_enter Try.func45, Try.ntmps45
  go_wp2
  go_loopw [8] (fun vi wr => ∃ i : Nat, vi = .int .i64 i ∧ i ≤ n ∧ Aside0 (∀ j, j < i → p (l0.getD j z47) = false) ∧ Aside0 (Below w.heap.size w wr)) (fun vi _ => n - (intOf vi).toNat)
  case atStart => exact ⟨0, rfl, Nat.zero_le _, ⟨fun j hj => absurd hj (Nat.not_lt_zero _)⟩, HB⟩
  case round =>
    clear HB
    obtain ⟨i, rfl, hin, HA, HB⟩ := hrel
    by_cases hlt : i < n
    · obtain ⟨ad, hA, hx0, hx1⟩ := at_T47 HR0.out (i : Int) (by omega) (by omega)
      obtain rfl := hA
      have pm := eq_true (show (0 : Int) ≤ (i : Int) by omega)
      have qm := eq_true (show (i : Int) < (n : Int) by omega)
      replace hx0 := (HB.out.cell (World.block_lt_of_cell? w _ hx0)).trans hx0; replace hx1 := (HB.out.cell (World.block_lt_of_cell? w _ hx1)).trans hx1
      have hel : rd_T47 l0 (i : Int) = l0.getD i z47 := rfl
      simp only [Int.toNat_natCast, hel] at hx0 hx1
      have HK := Aside0.mk (HP.out (l0.getD i z47)  wr (by rw [← List.getElem_eq_getD (h := by have := HL.out; omega)]; exact List.getElem_mem _) HB.out)
      by_cases hpx : p (l0.getD i z47) = true
      · have HRES := Aside0.mk (HF.out i (by have := HL.out; omega) HA.out hpx)
        rw [hpx] at HK
        clear hel hpx
        go_wp2_with fail
        refine HK.out.mono ?_
        rintro e w' ⟨rfl, hb1⟩
        have HB1 := Aside0.mk (below_step HB.out hb1)
        clear hb1
        go_wp2_with fail
        go_ret
        exact ⟨by rw [HRES.out]; rfl, HB1.out⟩
      · have hpf : p (l0.getD i z47) = false := by simpa using hpx
        rw [hpf] at HK
        have HPF := Aside0.mk hpf
        clear hel hpx hpf
        go_wp2_with fail
        refine HK.out.mono ?_
        rintro e w' ⟨rfl, hb1⟩
        have HB1 := Aside0.mk (below_step HB.out hb1)
        clear hb1
        go_wp2_with fail
        go_roundw
        case rel => exact ⟨i + 1, by go_num, by omega, ⟨fun j hj => by
          by_cases e : j = i
          · subst e; exact HPF.out
          · exact HA.out j (by omega)⟩, HB1⟩
        case measure => simp [intOf]; omega
    · have hge : decide ((i : Int) < (n : Int)) = false := by simp; omega
      have HRES := Aside0.mk (HN.out (fun j hj => HA.out j (by have := HL.out; omega)))
      go_wp2_with fail
      go_ret
      exact ⟨by rw [HRES.out]; rfl, HB.out⟩

set_option maxHeartbeats 3200000 in
set_option maxRecDepth 100000 in
theorem vecd_delete (w : World) (base : Nat) (ok : Nat → Prop) (v : Value) (l : List S47) (cb : Value) (p : S47 → Bool) (ho : Kd.R k47 47 w base ok v l) (hbase : base ≤ w.heap.size)
    (hp : ∀ (x : S47) (W : World), x ∈ l → Below base w W → Calls Try.prog 41 #[.agg #[.string x.f0, .int .i64 x.f1], cb] W fun e w' => e = .returned (.bool (p x)) ∧ Below W.heap.size W w') :
    Calls Try.prog 40 #[v, .func (.func 41) #[] #[cb]] w fun e w' => ∃ v' : Value, e = .returned v' ∧ Kd.R k47 47 w' base ok v' (l.filter fun x => !p x) ∧ Below base w w' := by
  obtain ⟨A, c, rfl, hlc, hC⟩ := Kd.R_reads ho
  have hix := vecd_index A c l cb p w hC (fun x  W hx hW => hp x  W hx ⟨hW.os, hW.tape, hW.output, by have := hW.size; omega, fun k hk => hW.block k (by omega)⟩)
  have hle := idxP_le p l
  have HIX := Aside0.mk hix
  have HP := Aside0.mk hp
  have HO := Aside0.mk ho
  clear hix hp hC
  obtain ⟨i0, hi0⟩ : ∃ i0, idxP p l = i0 := ⟨_, rfl⟩
  have hut := Try.underlying47
  by_cases hlt : i0 < l.length
  · have hq : idxI p l = (i0 : Int) := by unfold idxI; rw [hi0, if_pos hlt]
    rw [hq] at HIX
    have hq1 : ((i0 : Int) == -1) = false := by rw [beq_eq_false_iff_ne]; omega
    have hne : l ≠ [] := fun e => by rw [e] at hlt; simp at hlt
    obtain ⟨g, cap, cur, ev, hg, hk, hh, h2, h3, h4, hpp⟩ := R_open ho hne
    injection ev with eA _ ec
    subst eA; subst ec
    clear hh h4 hpp ho hq
    have hw1 : IntKind.i64.wrap ((i0 : Int) + 1) = (i0 : Int) + 1 := by
      have : maxLen = 9223372036854775807 := rfl
      rw [IntKind.wrap_i64] <;> omega
    go_enter Try.func40, Try.ntmps40
    go_wp2_with fail
    refine HIX.out.mono ?_
    rintro e w1 ⟨rfl, hb1⟩
    have HO1 := Aside0.mk (Kd.R_below HO.out hb1)
    have HB1 := Aside0.mk (below_then (Below.refl base w) hbase hb1)
    clear hb1 HO HIX
    go_wp2_with fail
    have HS := Aside0.mk (del_start p z47 l (by rw [hi0]; exact hlt))
    rw [hi0] at HS
    generalize hn : l.length = n at *
    have HL := Aside0.mk hn
    clear hn hi0 hq1 hw1
    have hmax : maxLen = 9223372036854775807 := rfl
    go_loopw [5, 6] (fun vi vj wr => ∃ (i j : Nat) (L : List S47), vi = .int .i64 i ∧ vj = .int .i64 j ∧ i < j ∧ j ≤ n ∧ Aside0 (L.length = n) ∧ Aside0 (L.take i = (l.take j).filter (fun x => !p x)) ∧ Aside0 (L.drop j = l.drop j) ∧ Aside0 (Kd.R k47 47 wr base ok (.slice (some ⟨g, 0, none⟩) n c) L) ∧ Aside0 (Below base w wr)) (fun _ vj _ => n - (intOf vj).toNat)
    case atStart => exact ⟨i0, i0 + 1, l, rfl, by go_num, by omega, by omega, HL, HS, ⟨rfl⟩, HO1, HB1⟩
    case round =>
      clear HS HO1 HB1
      obtain ⟨i, j, L, rfl, rfl, hij, hjn, HLL, HT, HD, HO, HB⟩ := hrel
      by_cases hj : j < n
      · have hC := (Kd.R_reads' HO.out).2.2
        obtain ⟨ad, hA, hx0, hx1⟩ := at_T47 hC (j : Int) (by omega) (by have := HLL.out; omega)
        injection hA with hA
        subst hA
        have pm := eq_true (show (0 : Int) ≤ (j : Int) by omega)
        have qm := eq_true (show (j : Int) < (n : Int) by omega)
        have hel : rd_T47 L (j : Int) = l.getD j z47 := drop_get z47 HD.out (by have := HL.out; omega)
        simp only [Int.toNat_natCast, hel, Addr.add_lit, Nat.zero_add] at hx0 hx1
        clear hC
        have HMEM := Aside0.mk (show l.getD j z47 ∈ l by rw [← List.getElem_eq_getD (h := by have := HL.out; omega)]; exact List.getElem_mem _)
        generalize hx : l.getD j z47 = x at hx0 hx1 hel HMEM
        have HX := Aside0.mk hx
        clear hx hel
        go_wp2_with fail
        have HBA := Aside0.mk (HB.out.alloc (by have := below_size' HB.out hbase; omega) (.cells #[.string x.f0, .int .i64 x.f1] 47))
        have HOA := Aside0.mk (Kd.R_below HO.out (below_alloc (Below.refl _ _) (.cells #[.string x.f0, .int .i64 x.f1] 47)))
        have BK := Aside0.mk (blk_new wr (.cells #[.string x.f0, .int .i64 x.f1] 47))
        have HK := Aside0.mk (HP.out x  _ HMEM.out HBA.out)
        by_cases hpx : p x = true
        · rw [hpx] at HK
          have HPX := Aside0.mk hpx
          clear hpx
          refine HK.out.mono ?_
          rintro e w' ⟨rfl, hb1⟩
          have HB1 := Aside0.mk (below_then HBA.out (below_size' HBA.out hbase) hb1)
          have HO1 := Aside0.mk (Kd.R_below HOA.out hb1)
          clear hb1
          go_wp2_with fail
          go_roundw
          case rel => exact ⟨i, j + 1, L, rfl, by go_num, by omega, by omega, HLL, ⟨del_skip p z47 HT.out (by have := HL.out; omega) (by rw [HX.out]; exact HPX.out)⟩, ⟨drop_succ_eq HD.out⟩, HO1, HB1⟩
          case measure => simp [intOf]; omega
        · have hpf : p x = false := by simpa using hpx
          rw [hpf] at HK
          have HPX := Aside0.mk hpf
          clear hpx hpf
          refine HK.out.mono ?_
          rintro e w' ⟨rfl, hb1⟩
          have HB1 := Aside0.mk (below_then HBA.out (below_size' HBA.out hbase) hb1)
          have HO1 := Aside0.mk (Kd.R_below HOA.out hb1)
          have BK1 := Aside0.mk (blk_below BK.out hb1)
          clear hb1
          have hin : i < n := by omega
          have pi := eq_true (show (0 : Int) ≤ (i : Int) by omega)
          have qi := eq_true (show (i : Int) < (n : Int) by omega)
          obtain ⟨gI, capI, curI, evI, _, _, hhI, _, _, _, _⟩ := R_open HO1.out (fun e => by have := HLL.out; rw [e] at this; simp at this; omega)
          injection evI with eA eN eC
          clear eN eC
          injection eA with eA
          injection eA with eA
          subst eA
          obtain ⟨adI, hAI, hy0, hy1⟩ := at_T47 (Kd.R_reads' HO1.out).2.2 (i : Int) (by omega) (by have := HLL.out; omega)
          injection hAI with hAI
          subst hAI
          simp only [Int.toNat_natCast, Addr.add_lit, Nat.zero_add] at hy0 hy1
          have hq0 : w'.cell? ⟨wr.heap.size, 0, none⟩ = some (.string x.f0) := (blk_cell BK1.out 0).trans rfl; have hq1 : w'.cell? ⟨wr.heap.size, 1, none⟩ = some (.int .i64 x.f1) := (blk_cell BK1.out 1).trans rfl
          have hz0 : w'.frozen? ⟨g, i * 2, none⟩ = false := blk_frozen hhI _; have hz1 : w'.frozen? ⟨g, i * 2 + 1, none⟩ = false := blk_frozen hhI _
          have hres := Kd.R_seg (d := k47) (W := w') (okp := fun _ => False) HO1.out (i : Int) (by omega) (by omega) (c := [.string (rd_T47 L (i : Int)).f0, .int .i64 (rd_T47 L (i : Int)).f1]) (seg := [.string x.f0, .int .i64 x.f1]) (j := 0) rfl (fun q u hq => by rw [Int.toNat_natCast]; rcases q with _ | _ | q; (cases hq; exact hy0); (cases hq; exact hy1); (cases hq)) (show 0 + 2 ≤ 2 by decide) (x' := x) (k47_mkM _ _ _ x) (fun _ h => h.elim)
          have HR := Aside0.mk hres.1
          have HG := Aside0.mk (HB1.out.grown hres.2 (below_size' HB1.out hbase) (fun k e => by injection e with e; omega))
          clear hres hhI
          go_wp2_with fail
          go_roundw
          case rel => exact ⟨i + 1, j + 1, L.set i x, by go_num, by go_num, by omega, by omega, ⟨by rw [List.length_set]; exact HLL.out⟩, ⟨by rw [← HX.out]; exact del_keep p z47 HT.out (by have := HL.out; omega) (by have := HLL.out; omega) (by rw [HX.out]; exact HPX.out)⟩, ⟨del_drop x HD.out hij⟩, HR, HG⟩
          case measure => simp [intOf]; omega
      · have hge : decide ((j : Int) < (n : Int)) = false := by simp; omega
        have hjj : j = n := by omega
        obtain ⟨i1, hi1, hz1, hsz1, hby1⟩ := info_parts info47
        obtain ⟨gI, capI, curI, evI, hgI, hkI, hhI, h2I, h3I, h4I, hpI⟩ := R_open HO.out (fun e => by have := HLL.out; rw [e] at this; simp at this; omega)
        injection evI with eA eN eC
        clear eN
        injection eA with eA
        injection eA with eA
        subst eA; subst eC
        rw [HLL.out] at h2I
        have hin : i < n := by omega
        have c1 : ∀ W : World, (Instr.slice 26 (.slice (some ⟨g, 0, none⟩) n c) (some (.int .i64 (i : Int))) none none).run Try.prog W = .ok (.slice (some ⟨g, i * 2, none⟩) (n - i) (c - i)) W := by
          intro W
          rw [cut_from (P := Try.prog) 26 47 .i64 Try.underlying26 hi1 2 hsz1 (some ⟨g, 0, none⟩) n c (i : Int) (by omega) (by omega) W, Int.toNat_natCast, if_neg (by omega), Option.map_some, Addr.add_lit, Nat.zero_add]
        have c2 := cut_to (P := Try.prog) 26 47 .i64 Try.underlying26 hi1 (some ⟨g, 0, none⟩) n c (i : Int) (by omega) (by omega) h2I
        rw [Int.toNat_natCast] at c2
        have hcl := fun ty => run_clear_k (P := Try.prog) wr 26 47 ty _ [.string ⟨#[]⟩, .int .i64 0] Try.underlying26 Try.zeroValue47 rfl (by decide) (by decide) g (i * 2) (n - i) (c - i) (by omega) (fun q hq => by
          have hq' : q < (n - i) * 2 := hq
          rw [blk_cell hhI, Array.getElem?_eq_getElem (by have h4' : curI.size = c * 2 := h4I; omega)]; rfl) (fun q _ => blk_frozen hhI _)
        have hfin := R_cut_clear (d := k47) (i := i) hgI hkI hhI (by rw [HLL.out]; exact h2I) h3I h4I hpI (by rw [HLL.out]; omega) (List.replicate (n - i) ([.string ⟨#[]⟩, .int .i64 0] : List Value)).flatten (by
          have h4' : curI.size = c * 2 := h4I
          have hl : ((List.replicate (n - i) ([.string ⟨#[]⟩, .int .i64 0] : List Value)).flatten).length = (n - i) * 2 := by simp
          rw [hl]
          show i * 2 + _ ≤ _
          omega)
        generalize (List.replicate (n - i) ([.string ⟨#[]⟩, .int .i64 0] : List Value)).flatten = vs at hcl hfin
        have HR := Aside0.mk (show Kd.R k47 47 (wr.setCells g (i * 2) vs) base ok (.slice (some ⟨g, 0, none⟩) i c) (l.filter fun x => !p x) from by
          have h := hfin.1
          rw [HT.out, hjj, List.take_of_length_le (by have := HL.out; omega)] at h
          exact h)
        have HG := Aside0.mk (show Below base w (wr.setCells g (i * 2) vs) from HB.out.grown hfin.2 (below_size' HB.out hbase) (fun k e => by injection e with e; omega))
        clear hfin hhI hpI h4I
        go_wp2
        go_ret
        exact ⟨_, rfl, HR.out, HG.out⟩
  · have hq : idxI p l = -1 := by unfold idxI; rw [hi0, if_neg hlt]
    have HF := Aside0.mk (filter_none p l (by omega))
    rw [hq] at HIX
    clear hq hi0 hlt hle hlc ho
    go_enter Try.func40, Try.ntmps40
    go_wp2_with fail
    refine HIX.out.mono ?_
    rintro e w1 ⟨rfl, hb1⟩
    have HO1 := Aside0.mk (Kd.R_below HO.out hb1)
    have HB1 := Aside0.mk (below_then (Below.refl base w) hbase hb1)
    clear hb1 HO HIX
    go_wp2_with fail
    go_ret
    exact ⟨_, rfl, by rw [HF.out]; exact HO1.out, HB1.out⟩

set_option maxHeartbeats 800000 in
set_option maxRecDepth 100000 in
theorem vecd_pred (x : S47) (B : Nat) (a1 : ByteArray) (W : World) (hB : W.heap[B]? = some (.cells #[.string a1] 31 (0, 0))) :
    Calls Try.prog 41 #[.agg #[.string x.f0, .int .i64 x.f1], .pointer (some ⟨B, 0, none⟩)] W fun e w' => e = .returned (.bool (decide (x.f0 = a1))) ∧ Below W.heap.size W w' := by
  have HB := Aside0.mk (below_alloc (Below.refl W.heap.size W) (.cells #[.string x.f0, .int .i64 x.f1] 47))
  have BK := Aside0.mk (blk_new W (.cells #[.string x.f0, .int .i64 x.f1] 47))
  have BB := Aside0.mk (blk_alloc hB (.cells #[.string x.f0, .int .i64 x.f1] 47))
  have hc0 : (W.alloc (.cells #[.string x.f0, .int .i64 x.f1] 47)).cell? ⟨W.heap.size, 0, none⟩ = some (.string x.f0) := (blk_cell BK.out 0).trans rfl
  have hc1 : (W.alloc (.cells #[.string x.f0, .int .i64 x.f1] 47)).cell? ⟨B, 0, none⟩ = some (.string a1) := (blk_cell BB.out 0).trans rfl
  have hut := Try.underlying47
  have huid := Try.underlying31
  have heq : (x.f0.toList == a1.toList) = decide (x.f0 = a1) := by
    rw [Lib.toList_data, Lib.toList_data]
    by_cases h : x.f0 = a1
    · subst h; simp
    · have : ¬ x.f0.data.toList = a1.data.toList := fun e => h (by apply ByteArray.ext; exact Array.toList_inj.mp e)
      rw [decide_eq_false h]; simpa using this
  have HE := Aside0.mk heq
  clear hB heq
  go_enter Try.func41, Try.ntmps41
  go_wp2
  go_ret
  exact ⟨by rw [← HE.out]; rfl, HB.out⟩
def vec_Drop.f (l0 : List S47) (a1 : ByteArray) : Option (List S47) := if l0.length < 1000000000 then some (l0.filter fun x => !(decide (x.f0 = a1))) else none
set_option maxHeartbeats 800000 in
set_option maxRecDepth 100000 in
theorem vec_Drop.calls (A0 : Option Addr) (c0 : Nat) (l0 : List S47) (a1 : ByteArray) (r : List S47) (w : World) (hr0 : Kd.C k47 w A0 l0.length l0) (hc0 : l0.length ≤ c0) (h : vec_Drop.f l0 a1 = some r) :
    Calls Try.prog 17 #[.slice A0 l0.length c0, .string a1] w fun e w' => ∃ v0_ : Value, e = .returned (v0_) ∧ Kd.R k47 47 w' w.heap.size (fun _ => True) v0_ r ∧ Below w.heap.size w w' := by
  have hlim : l0.length < 1000000000 := by
    by_cases hx : l0.length < 1000000000
    · exact hx
    · rw [vec_Drop.f, if_neg hx] at h; cases h
  have hr : (l0.filter fun x => !(decide (x.f0 = a1))) = r := by rw [vec_Drop.f, if_pos hlim] at h; exact Option.some.inj h
  have HR := Aside0.mk hr
  have HCL := Aside0.mk (fun W (hW : Below w.heap.size w W) => vec_At_38.calls A0 c0 l0 l0 W (Kd.C_below hr0 hW) hc0 (by simp only [vec_At_38.f, Option.bind_some, List.length_nil, List.nil_append]; rw [if_pos (by omega)]))
  have HB := Aside0.mk (below_alloc (Below.refl w.heap.size w) (.cells #[.string a1] 31))
  have BK := Aside0.mk (blk_new w (.cells #[.string a1] 31))
  clear hr h hlim hr0 hc0
  go_enter Try.func17, Try.ntmps17
  go_wp2_with fail
  refine (HCL.out _ HB.out).mono ?_
  rintro e w1 ⟨v1, rfl, ho1, hb1⟩
  have HO := Aside0.mk ho1
  have BK1 := Aside0.mk (blk_below BK.out hb1)
  have HB1 := Aside0.mk (below_step HB.out hb1)
  have hsz : (w.alloc (.cells #[.string a1] 31)).heap.size = w.heap.size + 1 := by simp
  have hz1 : w.heap.size + 1 ≤ w1.heap.size := by rw [← hsz]; exact hb1.size
  rw [hsz] at HO
  have HZ := Aside0.mk hz1
  clear ho1 hb1 hsz hz1 HCL
  go_wp2_with fail
  refine (vecd_delete w1 (w.heap.size + 1) (fun _ => True) v1 l0 (.pointer (some ⟨w.heap.size, 0, none⟩)) (fun x => decide (x.f0 = a1)) HO.out HZ.out (fun x W _ hW => vecd_pred x w.heap.size a1 W ((hW.block _ (by omega)).trans BK1.out))).mono ?_
  rintro e w2 ⟨v2, rfl, ho2, hb2⟩
  have HO2 := Aside0.mk (Kd.R_lower ho2 (show w.heap.size ≤ w.heap.size + 1 by omega))
  have HB2 := Aside0.mk (HB1.out.trans ⟨hb2.os, hb2.tape, hb2.output, hb2.size, fun k hk => hb2.block k (by omega)⟩)
  clear ho2 hb2
  go_wp2_with fail
  go_ret
  exact ⟨_, rfl, by rw [← HR.out]; exact HO2.out, HB2.out⟩

/-! ### cenotaphref03_Set: function 21 -/
theorem zq21_0 {p_ : Prop} (h_ : p_ := by (try simp only [List.map_toArray, List.map_cons, List.map_nil]); first | done | rfl | (simp only [List.length_drop, List.length_take]; rfl)) : p_ := h_
theorem zq21_1 {p_ : Prop} (h_ : p_ := by repeat (first | (with_reducible first | exact HB.out | apply below_alloc | apply pw_below_drewN | apply below_drew1) | exact HB.out)) : p_ := h_
def cenotaphref03_Set.j0 : Nat → List (S33) → ByteArray → Int → Bool → Option ((List (S33)))
 | 0, _, _, _, _ => none
 | k + 1, x0, x1, x2, x13 => if x13 = true then ((some (([] : List (S33)) : List (S33))).bind fun y225 => (if y225.length + x0.length < 5864062014805 then (some (y225 ++ x0)) else (none))) else ((cenotaphref03_Of.f k x0 x1).bind fun t231 => ((cenotaphref03_put.f k x0 x1 (mx t231 (mn x2 1048576))).bind fun t232 => (some t232)))
def cenotaphref03_Set.f (k : Nat) (l0 : List (S33)) (a1 : ByteArray) (a2 : Int) : Option ((List (S33))) := (cenotaphref01_Right.f k a1).bind fun t224 => (if t224 = true then (cenotaphref03_Set.j0 k l0 a1 a2 (decide (a2 < 1))) else (cenotaphref03_Set.j0 k l0 a1 a2 true))
theorem cenotaphref03_Set.mono_l : ∀ k, (∀ y0 y1 y2 y3, LeO (cenotaphref03_Set.j0 k y0 y1 y2 y3) (cenotaphref03_Set.j0 (k + 1) y0 y1 y2 y3))
 | 0 => fun _ _ _ _ r h => by simp [cenotaphref03_Set.j0] at h
 | k + 1 => by
  have ih0 := cenotaphref03_Set.mono_l k
  ·intro y0 y1 y2 y3
   unfold cenotaphref03_Set.j0
   repeat' first
   | (with_reducible exact ih0 _ _ _ _)
   | (with_reducible exact cenotaphref01_Right.mono _ _)
   | (with_reducible exact cenotaphref03_Of.mono _ _ _)
   | (with_reducible exact cenotaphref03_put.mono _ _ _ _)
   | (with_reducible exact LeO.refl _)
   | (with_reducible exact LeO.none _)
   | (with_reducible refine LeO.ite ?_ ?_)
   | (with_reducible refine LeO.bind ?_ (fun _ => ?_))
   | exact ih0 _ _ _ _
   | exact cenotaphref01_Right.mono _ _
   | exact cenotaphref03_Of.mono _ _ _
   | exact cenotaphref03_put.mono _ _ _ _
   | exact LeO.none _
   | refine LeO.ite ?_ ?_
   | refine LeO.bind ?_ (fun _ => ?_)
theorem cenotaphref03_Set.mono : ∀ a0 a1 a2 k, LeO (cenotaphref03_Set.f k a0 a1 a2) (cenotaphref03_Set.f (k + 1) a0 a1 a2) := by
 intro a0 a1 a2 k
 have ih0 := cenotaphref03_Set.mono_l k
 unfold cenotaphref03_Set.f
 repeat' first
   | (with_reducible exact ih0 _ _ _ _)
   | (with_reducible exact cenotaphref01_Right.mono _ _)
   | (with_reducible exact cenotaphref03_Of.mono _ _ _)
   | (with_reducible exact cenotaphref03_put.mono _ _ _ _)
   | (with_reducible exact LeO.refl _)
   | (with_reducible exact LeO.none _)
   | (with_reducible refine LeO.ite ?_ ?_)
   | (with_reducible refine LeO.bind ?_ (fun _ => ?_))
   | exact ih0 _ _ _ _
   | exact cenotaphref01_Right.mono _ _
   | exact cenotaphref03_Of.mono _ _ _
   | exact cenotaphref03_put.mono _ _ _ _
   | exact LeO.none _
   | refine LeO.ite ?_ ?_
   | refine LeO.bind ?_ (fun _ => ?_)
set_option maxHeartbeats 8000000 in
set_option maxRecDepth 100000 in
theorem cenotaphref03_Set.calls (k : Nat) (A0 : Option Addr) (c0 : Nat) (l0 : List (S33)) (a1 : ByteArray) (a2 : Int) (r : List (S33)) (w : World) (hr0 : Kd.C k33 w A0 l0.length l0) (hc0 : l0.length ≤ c0) (h : cenotaphref03_Set.f k l0 a1 a2 = some r) :
  Calls Try.prog 21 #[.slice A0 l0.length c0, .string a1, .int .i64 a2] w fun e w' => ∃ v0_ : Value, e = .returned (v0_) ∧ Kd.R k33 33 w' w.heap.size (fun _ => True) v0_ r ∧ Below w.heap.size w w' := by
 have HR0 := Aside0.mk hr0
 have HC0 := Aside0.mk hc0
 clear hr0 hc0
 have HB := Aside0.mk (Below.refl w.heap.size w)
 have H : ((cenotaphref01_Right.f k a1).bind fun t224 => (if t224 = true then (cenotaphref03_Set.j0 k l0 a1 a2 (decide (a2 < 1))) else (cenotaphref03_Set.j0 k l0 a1 a2 true))) = some r := h
 clear h
 have HC4 := Aside0.mk H
 clear H
 go_enter Try.func21, Try.ntmps21
 go_upto_region 1 with (fail)
 go_cut [13] (fun v13 wc => ∃ (kq : Nat) (x13_3 : Bool), v13 = .bool x13_3 ∧ Aside0 (cenotaphref03_Set.j0 kq l0 a1 a2 x13_3 = some r) ∧ Aside0 (kq ≤ k) ∧ Aside0 (Below w.heap.size w wc))
 case first =>
  have H := HC4.out
  clear HC4
  replace H := Option.bind_eq_some_iff.mp H
  obtain ⟨t224, A50, H⟩ := H
  replace H : (if t224 = true then (cenotaphref03_Set.j0 k l0 a1 a2 (decide (a2 < 1))) else (cenotaphref03_Set.j0 k l0 a1 a2 true)) = some r := H
  have A5 := Aside0.mk A50
  clear A50
  by_cases c6 : t224 = true
  ·subst c6
   have H1 : (cenotaphref03_Set.j0 k l0 a1 a2 (decide (a2 < 1))) = some r := by rw [if_pos rfl] at H; exact H
   clear H
   have H := H1
   clear H1
   have H' := Aside0.mk H
   clear H
   go_wp2_with (first | ((with_reducible refine gate_callee (f := 30) rfl ?_); refine goesL_ (some 8) rfl rfl Try.func30 (by kernel_rfl) rfl #[.string a1] rfl zq21_0 ?_; (with_reducible refine (cenotaphref01_Right.calls k a1 true _ A5.out).mono ?_); rintro e w' ⟨rfl, ⟨nd, rfl⟩⟩; refine ⟨_, rfl, ?_⟩))
   go_meet
   case rel => exact ⟨_, (decide (a2 < 1)), (by first | rfl | (simp; done) | (simp [*]; done)), H', ⟨by first | omega | exact Nat.le_refl _⟩, ⟨by repeat (first | (with_reducible first | exact HB.out | apply below_alloc | apply pw_below_drewN | apply below_drew1) | exact HB.out)⟩⟩
  ·replace c6 := Bool.eq_false_iff.mpr c6
   subst c6
   have H1 : (cenotaphref03_Set.j0 k l0 a1 a2 true) = some r := by rw [if_neg (show ¬ (false = true) by decide)] at H; exact H
   clear H
   have H := H1
   clear H1
   have H' := Aside0.mk H
   clear H
   go_wp2_with (first | ((with_reducible refine gate_callee (f := 30) rfl ?_); refine goesL_ (some 8) rfl rfl Try.func30 (by kernel_rfl) rfl #[.string a1] rfl zq21_0 ?_; (with_reducible refine (cenotaphref01_Right.calls k a1 false _ A5.out).mono ?_); rintro e w' ⟨rfl, ⟨nd, rfl⟩⟩; refine ⟨_, rfl, ?_⟩))
   go_meet
   case rel => exact ⟨_, (true), (by first | rfl | (simp; done) | (simp [*]; done)), H', ⟨by first | omega | exact Nat.le_refl _⟩, ⟨by repeat (first | (with_reducible first | exact HB.out | apply below_alloc | apply pw_below_drewN | apply below_drew1) | exact HB.out)⟩⟩
 case rest =>
  clear HC4
  try clear c2
  try clear p2
  try clear c3
  try clear c6
  obtain ⟨kq, x13_3, rfl, HA, HJ3, HB⟩ := hcut
  cases kq with
  | zero => exact absurd HA.out (by simp [cenotaphref03_Set.j0])
  | succ kj3 =>
   have H := HA.out
   clear HA
   simp only [cenotaphref03_Set.j0] at H
   by_cases c7 : x13_3 = true
   ·subst c7
    have H1 : ((some (([] : List (S33)) : List (S33))).bind fun y225 => (if y225.length + l0.length < 5864062014805 then (some (y225 ++ l0)) else (none))) = some r := by rw [if_pos rfl] at H; exact H
    clear H
    have H := H1
    clear H1
    obtain ⟨y225, hy225⟩ : ∃ y_ : List (S33), y_ = (([] : List (S33))) := ⟨_, rfl⟩
    replace H : (if y225.length + l0.length < 5864062014805 then (some (y225 ++ l0)) else (none)) = some r := by first | (rw [hy225]; with_reducible exact H) | (have H2_ := (Option.bind_some _ _).symm.trans H; rw [hy225]; with_reducible exact H2_) | (have H2_ := (Option.bind_some _ _).symm.trans H; with_reducible exact H2_) | with_reducible exact H | (rw [hy225]; exact H) | exact H
    have Ny225 := Aside0.mk hy225
    clear hy225
    by_cases c8 : y225.length + l0.length < 5864062014805
    ·rw [if_pos c8] at H
     have LMc8 := Aside0.mk c8
     clear c8
     obtain ⟨y228, hy228⟩ : ∃ y_ : List (S33), y_ = (y225 ++ l0) := ⟨_, rfl⟩
     replace H : (some y228) = some r := by first | (rw [hy228]; with_reducible exact H) | (have H2_ := (Option.bind_some _ _).symm.trans H; rw [hy228]; with_reducible exact H2_) | (have H2_ := (Option.bind_some _ _).symm.trans H; with_reducible exact H2_) | with_reducible exact H | (rw [hy228]; exact H) | exact H
     have Ny228 := Aside0.mk hy228
     clear hy228
     obtain rfl := Option.some.inj H
     go_wp2_with (first | ((with_reducible refine gate_dst (N := 14) rfl ?_); refine Kd.R_lit k33 _ 33 ?hg (N := 14) ?hd (xs := ([] : List (S33))) (inner := []) (ok := fun _ => True) (okp := fun _ => True) ?hr ?hp (fun _ hk => hk) trivial (Below.refl _ _) (Nat.le_refl _) (by simp) ?_; (case hd => rfl); (case hg => rfl); (case hr => first | (go_simp; done) | (go_simp; rfl)); (case hp => exact (Reps.none _ _)); intro v226 w9 ho10 hb hg_ hnew_; clear hg_ hnew_; (first | rw [← Ny225.out] at ho10 | (simp only [Int.reduceToNat] at ho10; rw [← Ny225.out] at ho10)); have n0_ := Aside0.mk (Kd.R_lower ho10 (below_size zq21_1)); have n1_ := Aside0.mk (below_step zq21_1 hb); clear HB; have HO227 := n0_; have HB := n1_; clear n0_ n1_; clear hb ho10) | ((with_reducible refine gate_builtin (b := .append) (xs := #[.tmp 14, .tmp 15]) rfl ?_); at_builtin; refine Kd.R_append_rows k33 (w0 := w) w.heap.size rfl (.tmp 14) (.tmp 15) 22 33 (.agg #[(.string ⟨#[]⟩), (.int .i64 0)]) 24 rfl Try.underlying22 info33 rfl (by decide) (by omega) v226 y225 l0 _ _ _ (fun _ => True) (fun _ => False) rfl rfl ?aO ?aR (fun _ _ h => h) (fun _ h => h.elim) ?aF ?aB ?aS ?aL ?_; (case aR => repeat (first | exact (Kd.C_below HR0.out HB.out) | (with_reducible refine Kd.C_alloc ?_ _) | (with_reducible refine Kd.C_drewN ?_ _) | (with_reducible refine Kd.C_drew ?_))); (case aB => exact zq21_1); (case aF => exact (fun _ _ => trivial)); (case aO => exact (by (with_reducible repeat (first | apply Kd.R_alloc | apply Kd.R_drewN | apply Kd.R_drew)); exact HO227.out)); (case aS => exact (below_size zq21_1)); (case aL => have := LMc8.out; omega); intro v229 w11 ho hb hg hat; rw [← Ny228.out] at ho; have n0_ := Aside0.mk (hb); have n1_ := Aside0.mk (ho); clear HB; clear HO227; have HB := n0_; have HO230 := n1_; clear n0_ n1_; clear ho hb hg hat))
     go_ret
     exact ⟨_, by first | rfl | (simp [errW_none, errW_some] <;> rfl) | (simp [*, errW_none, errW_some] <;> rfl), by (with_reducible repeat (first | apply Kd.R_alloc | apply Kd.R_drewN | apply Kd.R_drew)); exact HO230.out, by repeat (first | (with_reducible first | exact HB.out | apply below_alloc | apply pw_below_drewN | apply below_drew1) | exact HB.out)⟩
    ·rw [if_neg c8] at H
     exact absurd H (by simp)
   ·replace c7 := Bool.eq_false_iff.mpr c7
    subst c7
    have H1 : ((cenotaphref03_Of.f kj3 l0 a1).bind fun t231 => ((cenotaphref03_put.f kj3 l0 a1 (mx t231 (mn a2 1048576))).bind fun t232 => (some t232))) = some r := by rw [if_neg (show ¬ (false = true) by decide)] at H; exact H
    clear H
    have H := H1
    clear H1
    replace H := Option.bind_eq_some_iff.mp H
    obtain ⟨t231, A120, H⟩ := H
    replace H : ((cenotaphref03_put.f kj3 l0 a1 (mx t231 (mn a2 1048576))).bind fun t232 => (some t232)) = some r := H
    have A12 := Aside0.mk A120
    clear A120
    obtain ⟨ji13, hji13⟩ : ∃ j_ : Int, (mn a2 1048576) = j_ := ⟨_, rfl⟩
    replace H : ((cenotaphref03_put.f kj3 l0 a1 (mx t231 (ji13))).bind fun t232 => (some t232)) = some r := by first | (rw [hji13] at H; exact H) | (simp only [hji13] at H ⊢; exact H)
    (try rw [hji13] at A12)
    have hji13_ : (if 1048576 < a2 then 1048576 else a2) = ji13 := hji13
    obtain ⟨ji14, hji14⟩ : ∃ j_ : Int, (mx t231 (ji13)) = j_ := ⟨_, rfl⟩
    replace H : ((cenotaphref03_put.f kj3 l0 a1 (ji14)).bind fun t232 => (some t232)) = some r := by first | (rw [hji14] at H; exact H) | (simp only [hji14] at H ⊢; exact H)
    (try rw [hji14] at A12)
    have hji14_ : (if t231 < (ji13) then (ji13) else t231) = ji14 := hji14
    replace H := Option.bind_eq_some_iff.mp H
    obtain ⟨t232, A150, H⟩ := H
    replace H : (some t232) = some r := H
    have A15 := Aside0.mk A150
    clear A150
    obtain rfl := Option.some.inj H
    go_wp2_with (first | ((with_reducible refine gate_callee (f := 18) rfl ?_); refine goesL_ (some 21) rfl rfl Try.func18 (by kernel_rfl) rfl #[.slice A0 l0.length c0, .string a1] rfl zq21_0 ?_; (with_reducible refine (cenotaphref03_Of.calls kj3 _ _ l0 a1 t231 _ ?side1 ?side2 A12.out).mono ?_); (case side1 => repeat (first | exact (Kd.C_below HR0.out HB.out) | (with_reducible refine Kd.C_alloc ?_ _) | (with_reducible refine Kd.C_drewN ?_ _) | (with_reducible refine Kd.C_drew ?_))); (case side2 => exact HC0.out); rintro e w' ⟨rfl, ⟨nd, rfl⟩⟩; refine ⟨_, rfl, ?_⟩) | ((with_reducible refine gate_callee (f := 32) rfl ?_); refine goesL_ (some 25) rfl rfl Try.func32 (by kernel_rfl) rfl #[.slice A0 l0.length c0, .string a1, .int .i64 ji14] rfl (by (try simp only [List.map_toArray, List.map_cons, List.map_nil]); first | done | (simp only [hji14]; rfl) | rfl | (simp only [List.length_drop, List.length_take]; rfl)) ?_; (with_reducible refine (cenotaphref03_put.calls kj3 _ _ l0 a1 ji14 t232 _ ?side1 ?side2 A15.out).mono ?_); (case side1 => repeat (first | exact (Kd.C_below HR0.out zq21_1) | (with_reducible refine Kd.C_alloc ?_ _) | (with_reducible refine Kd.C_drewN ?_ _) | (with_reducible refine Kd.C_drew ?_))); (case side2 => exact HC0.out); rintro e w16 ⟨v233, rfl, ho0, hb⟩; refine ⟨_, rfl, ?_⟩; have n0_ := Aside0.mk (Kd.R_lower ho0 (below_size zq21_1)); have n1_ := Aside0.mk (below_step zq21_1 hb); clear HB; have HO234 := n0_; have HB := n1_; clear n0_ n1_; (try clear hb); (try clear hb2); (try clear hk); (try clear hi); (try clear ho0)))
    go_ret
    exact ⟨_, by first | rfl | (simp [errW_none, errW_some] <;> rfl) | (simp only [← hji13, ← hji14]; first | rfl | (simp [errW_none, errW_some] <;> rfl)) | (simp [*, errW_none, errW_some] <;> rfl), by (with_reducible repeat (first | apply Kd.R_alloc | apply Kd.R_drewN | apply Kd.R_drew)); exact HO234.out, by repeat (first | (with_reducible first | exact HB.out | apply below_alloc | apply pw_below_drewN | apply below_drew1) | exact HB.out)⟩

/-! ### cenotaphlaw03_VecSets: function 5 -/
theorem zq5_0 {p_ : Prop} (h_ : p_ := by (try simp only [List.map_toArray, List.map_cons, List.map_nil]); first | done | rfl | (simp only [List.length_drop, List.length_take]; rfl)) : p_ := h_
theorem zq5_1 {p_ : Prop} (h_ : p_ := by repeat (first | (with_reducible first | exact HB.out | apply below_alloc | apply pw_below_drewN | apply below_drew1) | exact HB.out)) : p_ := h_
theorem zq5_2 {p_ : Prop} (h_ : p_ := by (with_reducible repeat (first | apply Kd.R_alloc | apply Kd.R_drewN | apply Kd.R_drew)); exact HO237.out) : p_ := h_
theorem zq5_3 {p_ : Prop} (h_ : p_ := by (with_reducible repeat (first | apply Kd.R_alloc | apply Kd.R_drewN | apply Kd.R_drew)); exact HO240.out) : p_ := h_
theorem zq5_4 {p_ : Prop} (h_ : p_ := by (with_reducible repeat (first | apply Kd.R_alloc | apply Kd.R_drewN | apply Kd.R_drew)); exact HO243.out) : p_ := h_
theorem zq5_5 {p_ : Prop} (h_ : p_ := by (with_reducible repeat (first | apply Kd.R_alloc | apply Kd.R_drewN | apply Kd.R_drew)); exact HO246.out) : p_ := h_
theorem zq5_6 {p_ : Prop} (h_ : p_ := by (with_reducible repeat (first | apply Kd.R_alloc | apply Kd.R_drewN | apply Kd.R_drew)); exact HO252.out) : p_ := h_
theorem zq5_7 {p_ : Prop} (h_ : p_ := by (with_reducible repeat (first | apply Kd.R_alloc | apply Kd.R_drewN | apply Kd.R_drew)); exact HO255.out) : p_ := h_
theorem zq5_8 {p_ : Prop} (h_ : p_ := by (with_reducible repeat (first | apply Kd.R_alloc | apply Kd.R_drewN | apply Kd.R_drew)); exact HO259.out) : p_ := h_
theorem zq5_9 {p_ : Prop} (h_ : p_ := by (with_reducible repeat (first | apply Kd.R_alloc | apply Kd.R_drewN | apply Kd.R_drew)); exact HO262.out) : p_ := h_
def cenotaphlaw03_VecSets.f (k : Nat) (l0 : List (S33)) (a1 : ByteArray) (a2 : Int) : Option (Bool) := (cenotaphref03_Fix.f k l0).bind fun t235 => ((cenotaphlaw03_To.f k t235).bind fun t238 => ((vec_Set.f t238 a1 a2).bind fun t241 => ((vec_Drop.f t238 a1).bind fun t244 => ((cenotaphlaw03_told.f k).bind fun t247 => (if t247 = true then ((vec_Of.f t238 a1).bind fun t248 => ((cenotaphref03_Of.f k t235 a1).bind fun t249 => (if t248 = t249 then ((cenotaphlaw03_From.f k t241).bind fun t250 => ((cenotaphref03_Set.f k t235 a1 a2).bind fun t253 => ((cenotaphref03_Same.f k t250 t253).bind fun t256 => (if t256 = true then ((cenotaphlaw03_From.f k t244).bind fun t257 => ((cenotaphref03_Drop.f k t235 a1).bind fun t260 => ((cenotaphref03_Same.f k t257 t260).bind fun t263 => (if t263 = true then ((vec_Right.f k t241).bind fun t264 => (if t264 = true then ((vec_Right.f k t244).bind fun t265 => (if t265 = true then ((cenotaphlaw03_From.f k t238).bind fun t266 => ((cenotaphref03_Same.f k t266 t235).bind fun t269 => (some t269))) else (none))) else (none))) else (none))))) else (none))))) else (none)))) else (none))))))
theorem cenotaphlaw03_VecSets.mono : ∀ a0 a1 a2 k, LeO (cenotaphlaw03_VecSets.f k a0 a1 a2) (cenotaphlaw03_VecSets.f (k + 1) a0 a1 a2) := by
 intro a0 a1 a2 k
 unfold cenotaphlaw03_VecSets.f
 repeat' first
   | (with_reducible exact cenotaphlaw03_From.mono _ _)
   | (with_reducible exact cenotaphlaw03_To.mono _ _)
   | (with_reducible exact cenotaphlaw03_told.mono _)
   | (with_reducible exact cenotaphref03_Drop.mono _ _ _)
   | (with_reducible exact cenotaphref03_Fix.mono _ _)
   | (with_reducible exact cenotaphref03_Of.mono _ _ _)
   | (with_reducible exact cenotaphref03_Same.mono _ _ _)
   | (with_reducible exact cenotaphref03_Set.mono _ _ _ _)
   | (with_reducible exact vec_Right.mono _ _)
   | (with_reducible exact LeO.refl _)
   | (with_reducible exact LeO.none _)
   | (with_reducible refine LeO.ite ?_ ?_)
   | (with_reducible refine LeO.bind ?_ (fun _ => ?_))
   | exact cenotaphlaw03_From.mono _ _
   | exact cenotaphlaw03_To.mono _ _
   | exact cenotaphlaw03_told.mono _
   | exact cenotaphref03_Drop.mono _ _ _
   | exact cenotaphref03_Fix.mono _ _
   | exact cenotaphref03_Of.mono _ _ _
   | exact cenotaphref03_Same.mono _ _ _
   | exact cenotaphref03_Set.mono _ _ _ _
   | exact vec_Right.mono _ _
   | exact LeO.none _
   | refine LeO.ite ?_ ?_
   | refine LeO.bind ?_ (fun _ => ?_)
set_option maxHeartbeats 8000000 in
set_option maxRecDepth 100000 in
theorem cenotaphlaw03_VecSets.calls (k : Nat) (A0 : Option Addr) (c0 : Nat) (l0 : List (S33)) (a1 : ByteArray) (a2 : Int) (r : Bool) (w : World) (hr0 : Kd.C k33 w A0 l0.length l0) (hc0 : l0.length ≤ c0) (h : cenotaphlaw03_VecSets.f k l0 a1 a2 = some r) :
  Calls Try.prog 5 #[.slice A0 l0.length c0, .string a1, .int .i64 a2] w fun e w' => e = .returned (.bool r) ∧ Below w.heap.size w w' := by
 have HR0 := Aside0.mk hr0
 have HC0 := Aside0.mk hc0
 clear hr0 hc0
 have HB := Aside0.mk (Below.refl w.heap.size w)
 have H : ((cenotaphref03_Fix.f k l0).bind fun t235 => ((cenotaphlaw03_To.f k t235).bind fun t238 => ((vec_Set.f t238 a1 a2).bind fun t241 => ((vec_Drop.f t238 a1).bind fun t244 => ((cenotaphlaw03_told.f k).bind fun t247 => (if t247 = true then ((vec_Of.f t238 a1).bind fun t248 => ((cenotaphref03_Of.f k t235 a1).bind fun t249 => (if t248 = t249 then ((cenotaphlaw03_From.f k t241).bind fun t250 => ((cenotaphref03_Set.f k t235 a1 a2).bind fun t253 => ((cenotaphref03_Same.f k t250 t253).bind fun t256 => (if t256 = true then ((cenotaphlaw03_From.f k t244).bind fun t257 => ((cenotaphref03_Drop.f k t235 a1).bind fun t260 => ((cenotaphref03_Same.f k t257 t260).bind fun t263 => (if t263 = true then ((vec_Right.f k t241).bind fun t264 => (if t264 = true then ((vec_Right.f k t244).bind fun t265 => (if t265 = true then ((cenotaphlaw03_From.f k t238).bind fun t266 => ((cenotaphref03_Same.f k t266 t235).bind fun t269 => (some t269))) else (none))) else (none))) else (none))))) else (none))))) else (none)))) else (none))))))) = some r := h
 clear h
 replace H := Option.bind_eq_some_iff.mp H
 obtain ⟨t235, A40, H⟩ := H
 replace H : ((cenotaphlaw03_To.f k t235).bind fun t238 => ((vec_Set.f t238 a1 a2).bind fun t241 => ((vec_Drop.f t238 a1).bind fun t244 => ((cenotaphlaw03_told.f k).bind fun t247 => (if t247 = true then ((vec_Of.f t238 a1).bind fun t248 => ((cenotaphref03_Of.f k t235 a1).bind fun t249 => (if t248 = t249 then ((cenotaphlaw03_From.f k t241).bind fun t250 => ((cenotaphref03_Set.f k t235 a1 a2).bind fun t253 => ((cenotaphref03_Same.f k t250 t253).bind fun t256 => (if t256 = true then ((cenotaphlaw03_From.f k t244).bind fun t257 => ((cenotaphref03_Drop.f k t235 a1).bind fun t260 => ((cenotaphref03_Same.f k t257 t260).bind fun t263 => (if t263 = true then ((vec_Right.f k t241).bind fun t264 => (if t264 = true then ((vec_Right.f k t244).bind fun t265 => (if t265 = true then ((cenotaphlaw03_From.f k t238).bind fun t266 => ((cenotaphref03_Same.f k t266 t235).bind fun t269 => (some t269))) else (none))) else (none))) else (none))))) else (none))))) else (none)))) else (none)))))) = some r := H
 have A4 := Aside0.mk A40
 clear A40
 replace H := Option.bind_eq_some_iff.mp H
 obtain ⟨t238, A50, H⟩ := H
 replace H : ((vec_Set.f t238 a1 a2).bind fun t241 => ((vec_Drop.f t238 a1).bind fun t244 => ((cenotaphlaw03_told.f k).bind fun t247 => (if t247 = true then ((vec_Of.f t238 a1).bind fun t248 => ((cenotaphref03_Of.f k t235 a1).bind fun t249 => (if t248 = t249 then ((cenotaphlaw03_From.f k t241).bind fun t250 => ((cenotaphref03_Set.f k t235 a1 a2).bind fun t253 => ((cenotaphref03_Same.f k t250 t253).bind fun t256 => (if t256 = true then ((cenotaphlaw03_From.f k t244).bind fun t257 => ((cenotaphref03_Drop.f k t235 a1).bind fun t260 => ((cenotaphref03_Same.f k t257 t260).bind fun t263 => (if t263 = true then ((vec_Right.f k t241).bind fun t264 => (if t264 = true then ((vec_Right.f k t244).bind fun t265 => (if t265 = true then ((cenotaphlaw03_From.f k t238).bind fun t266 => ((cenotaphref03_Same.f k t266 t235).bind fun t269 => (some t269))) else (none))) else (none))) else (none))))) else (none))))) else (none)))) else (none))))) = some r := H
 have A5 := Aside0.mk A50
 clear A50
 replace H := Option.bind_eq_some_iff.mp H
 obtain ⟨t241, A60, H⟩ := H
 replace H : ((vec_Drop.f t238 a1).bind fun t244 => ((cenotaphlaw03_told.f k).bind fun t247 => (if t247 = true then ((vec_Of.f t238 a1).bind fun t248 => ((cenotaphref03_Of.f k t235 a1).bind fun t249 => (if t248 = t249 then ((cenotaphlaw03_From.f k t241).bind fun t250 => ((cenotaphref03_Set.f k t235 a1 a2).bind fun t253 => ((cenotaphref03_Same.f k t250 t253).bind fun t256 => (if t256 = true then ((cenotaphlaw03_From.f k t244).bind fun t257 => ((cenotaphref03_Drop.f k t235 a1).bind fun t260 => ((cenotaphref03_Same.f k t257 t260).bind fun t263 => (if t263 = true then ((vec_Right.f k t241).bind fun t264 => (if t264 = true then ((vec_Right.f k t244).bind fun t265 => (if t265 = true then ((cenotaphlaw03_From.f k t238).bind fun t266 => ((cenotaphref03_Same.f k t266 t235).bind fun t269 => (some t269))) else (none))) else (none))) else (none))))) else (none))))) else (none)))) else (none)))) = some r := H
 have A6 := Aside0.mk A60
 clear A60
 replace H := Option.bind_eq_some_iff.mp H
 obtain ⟨t244, A70, H⟩ := H
 replace H : ((cenotaphlaw03_told.f k).bind fun t247 => (if t247 = true then ((vec_Of.f t238 a1).bind fun t248 => ((cenotaphref03_Of.f k t235 a1).bind fun t249 => (if t248 = t249 then ((cenotaphlaw03_From.f k t241).bind fun t250 => ((cenotaphref03_Set.f k t235 a1 a2).bind fun t253 => ((cenotaphref03_Same.f k t250 t253).bind fun t256 => (if t256 = true then ((cenotaphlaw03_From.f k t244).bind fun t257 => ((cenotaphref03_Drop.f k t235 a1).bind fun t260 => ((cenotaphref03_Same.f k t257 t260).bind fun t263 => (if t263 = true then ((vec_Right.f k t241).bind fun t264 => (if t264 = true then ((vec_Right.f k t244).bind fun t265 => (if t265 = true then ((cenotaphlaw03_From.f k t238).bind fun t266 => ((cenotaphref03_Same.f k t266 t235).bind fun t269 => (some t269))) else (none))) else (none))) else (none))))) else (none))))) else (none)))) else (none))) = some r := H
 have A7 := Aside0.mk A70
 clear A70
 replace H := Option.bind_eq_some_iff.mp H
 obtain ⟨t247, A80, H⟩ := H
 replace H : (if t247 = true then ((vec_Of.f t238 a1).bind fun t248 => ((cenotaphref03_Of.f k t235 a1).bind fun t249 => (if t248 = t249 then ((cenotaphlaw03_From.f k t241).bind fun t250 => ((cenotaphref03_Set.f k t235 a1 a2).bind fun t253 => ((cenotaphref03_Same.f k t250 t253).bind fun t256 => (if t256 = true then ((cenotaphlaw03_From.f k t244).bind fun t257 => ((cenotaphref03_Drop.f k t235 a1).bind fun t260 => ((cenotaphref03_Same.f k t257 t260).bind fun t263 => (if t263 = true then ((vec_Right.f k t241).bind fun t264 => (if t264 = true then ((vec_Right.f k t244).bind fun t265 => (if t265 = true then ((cenotaphlaw03_From.f k t238).bind fun t266 => ((cenotaphref03_Same.f k t266 t235).bind fun t269 => (some t269))) else (none))) else (none))) else (none))))) else (none))))) else (none)))) else (none)) = some r := H
 have A8 := Aside0.mk A80
 clear A80
 by_cases c9 : t247 = true
 ·subst c9
  have H1 : ((vec_Of.f t238 a1).bind fun t248 => ((cenotaphref03_Of.f k t235 a1).bind fun t249 => (if t248 = t249 then ((cenotaphlaw03_From.f k t241).bind fun t250 => ((cenotaphref03_Set.f k t235 a1 a2).bind fun t253 => ((cenotaphref03_Same.f k t250 t253).bind fun t256 => (if t256 = true then ((cenotaphlaw03_From.f k t244).bind fun t257 => ((cenotaphref03_Drop.f k t235 a1).bind fun t260 => ((cenotaphref03_Same.f k t257 t260).bind fun t263 => (if t263 = true then ((vec_Right.f k t241).bind fun t264 => (if t264 = true then ((vec_Right.f k t244).bind fun t265 => (if t265 = true then ((cenotaphlaw03_From.f k t238).bind fun t266 => ((cenotaphref03_Same.f k t266 t235).bind fun t269 => (some t269))) else (none))) else (none))) else (none))))) else (none))))) else (none)))) = some r := by rw [if_pos rfl] at H; exact H
  clear H
  have H := H1
  clear H1
  replace H := Option.bind_eq_some_iff.mp H
  obtain ⟨t248, A100, H⟩ := H
  replace H : ((cenotaphref03_Of.f k t235 a1).bind fun t249 => (if t248 = t249 then ((cenotaphlaw03_From.f k t241).bind fun t250 => ((cenotaphref03_Set.f k t235 a1 a2).bind fun t253 => ((cenotaphref03_Same.f k t250 t253).bind fun t256 => (if t256 = true then ((cenotaphlaw03_From.f k t244).bind fun t257 => ((cenotaphref03_Drop.f k t235 a1).bind fun t260 => ((cenotaphref03_Same.f k t257 t260).bind fun t263 => (if t263 = true then ((vec_Right.f k t241).bind fun t264 => (if t264 = true then ((vec_Right.f k t244).bind fun t265 => (if t265 = true then ((cenotaphlaw03_From.f k t238).bind fun t266 => ((cenotaphref03_Same.f k t266 t235).bind fun t269 => (some t269))) else (none))) else (none))) else (none))))) else (none))))) else (none))) = some r := H
  have A10 := Aside0.mk A100
  clear A100
  replace H := Option.bind_eq_some_iff.mp H
  obtain ⟨t249, A110, H⟩ := H
  replace H : (if t248 = t249 then ((cenotaphlaw03_From.f k t241).bind fun t250 => ((cenotaphref03_Set.f k t235 a1 a2).bind fun t253 => ((cenotaphref03_Same.f k t250 t253).bind fun t256 => (if t256 = true then ((cenotaphlaw03_From.f k t244).bind fun t257 => ((cenotaphref03_Drop.f k t235 a1).bind fun t260 => ((cenotaphref03_Same.f k t257 t260).bind fun t263 => (if t263 = true then ((vec_Right.f k t241).bind fun t264 => (if t264 = true then ((vec_Right.f k t244).bind fun t265 => (if t265 = true then ((cenotaphlaw03_From.f k t238).bind fun t266 => ((cenotaphref03_Same.f k t266 t235).bind fun t269 => (some t269))) else (none))) else (none))) else (none))))) else (none))))) else (none)) = some r := H
  have A11 := Aside0.mk A110
  clear A110
  by_cases c12 : t248 = t249
  ·rw [if_pos c12] at H
   have c12b0 : (t248 == t249) = true := beq_iff_eq.mpr c12
   have c12b1 : (t248 != t249) = false := bne_eq_false_iff_eq.mpr c12
   clear c12
   replace H := Option.bind_eq_some_iff.mp H
   obtain ⟨t250, A130, H⟩ := H
   replace H : ((cenotaphref03_Set.f k t235 a1 a2).bind fun t253 => ((cenotaphref03_Same.f k t250 t253).bind fun t256 => (if t256 = true then ((cenotaphlaw03_From.f k t244).bind fun t257 => ((cenotaphref03_Drop.f k t235 a1).bind fun t260 => ((cenotaphref03_Same.f k t257 t260).bind fun t263 => (if t263 = true then ((vec_Right.f k t241).bind fun t264 => (if t264 = true then ((vec_Right.f k t244).bind fun t265 => (if t265 = true then ((cenotaphlaw03_From.f k t238).bind fun t266 => ((cenotaphref03_Same.f k t266 t235).bind fun t269 => (some t269))) else (none))) else (none))) else (none))))) else (none)))) = some r := H
   have A13 := Aside0.mk A130
   clear A130
   replace H := Option.bind_eq_some_iff.mp H
   obtain ⟨t253, A140, H⟩ := H
   replace H : ((cenotaphref03_Same.f k t250 t253).bind fun t256 => (if t256 = true then ((cenotaphlaw03_From.f k t244).bind fun t257 => ((cenotaphref03_Drop.f k t235 a1).bind fun t260 => ((cenotaphref03_Same.f k t257 t260).bind fun t263 => (if t263 = true then ((vec_Right.f k t241).bind fun t264 => (if t264 = true then ((vec_Right.f k t244).bind fun t265 => (if t265 = true then ((cenotaphlaw03_From.f k t238).bind fun t266 => ((cenotaphref03_Same.f k t266 t235).bind fun t269 => (some t269))) else (none))) else (none))) else (none))))) else (none))) = some r := H
   have A14 := Aside0.mk A140
   clear A140
   replace H := Option.bind_eq_some_iff.mp H
   obtain ⟨t256, A150, H⟩ := H
   replace H : (if t256 = true then ((cenotaphlaw03_From.f k t244).bind fun t257 => ((cenotaphref03_Drop.f k t235 a1).bind fun t260 => ((cenotaphref03_Same.f k t257 t260).bind fun t263 => (if t263 = true then ((vec_Right.f k t241).bind fun t264 => (if t264 = true then ((vec_Right.f k t244).bind fun t265 => (if t265 = true then ((cenotaphlaw03_From.f k t238).bind fun t266 => ((cenotaphref03_Same.f k t266 t235).bind fun t269 => (some t269))) else (none))) else (none))) else (none))))) else (none)) = some r := H
   have A15 := Aside0.mk A150
   clear A150
   by_cases c16 : t256 = true
   ·subst c16
    have H1 : ((cenotaphlaw03_From.f k t244).bind fun t257 => ((cenotaphref03_Drop.f k t235 a1).bind fun t260 => ((cenotaphref03_Same.f k t257 t260).bind fun t263 => (if t263 = true then ((vec_Right.f k t241).bind fun t264 => (if t264 = true then ((vec_Right.f k t244).bind fun t265 => (if t265 = true then ((cenotaphlaw03_From.f k t238).bind fun t266 => ((cenotaphref03_Same.f k t266 t235).bind fun t269 => (some t269))) else (none))) else (none))) else (none))))) = some r := by rw [if_pos rfl] at H; exact H
    clear H
    have H := H1
    clear H1
    replace H := Option.bind_eq_some_iff.mp H
    obtain ⟨t257, A170, H⟩ := H
    replace H : ((cenotaphref03_Drop.f k t235 a1).bind fun t260 => ((cenotaphref03_Same.f k t257 t260).bind fun t263 => (if t263 = true then ((vec_Right.f k t241).bind fun t264 => (if t264 = true then ((vec_Right.f k t244).bind fun t265 => (if t265 = true then ((cenotaphlaw03_From.f k t238).bind fun t266 => ((cenotaphref03_Same.f k t266 t235).bind fun t269 => (some t269))) else (none))) else (none))) else (none)))) = some r := H
    have A17 := Aside0.mk A170
    clear A170
    replace H := Option.bind_eq_some_iff.mp H
    obtain ⟨t260, A180, H⟩ := H
    replace H : ((cenotaphref03_Same.f k t257 t260).bind fun t263 => (if t263 = true then ((vec_Right.f k t241).bind fun t264 => (if t264 = true then ((vec_Right.f k t244).bind fun t265 => (if t265 = true then ((cenotaphlaw03_From.f k t238).bind fun t266 => ((cenotaphref03_Same.f k t266 t235).bind fun t269 => (some t269))) else (none))) else (none))) else (none))) = some r := H
    have A18 := Aside0.mk A180
    clear A180
    replace H := Option.bind_eq_some_iff.mp H
    obtain ⟨t263, A190, H⟩ := H
    replace H : (if t263 = true then ((vec_Right.f k t241).bind fun t264 => (if t264 = true then ((vec_Right.f k t244).bind fun t265 => (if t265 = true then ((cenotaphlaw03_From.f k t238).bind fun t266 => ((cenotaphref03_Same.f k t266 t235).bind fun t269 => (some t269))) else (none))) else (none))) else (none)) = some r := H
    have A19 := Aside0.mk A190
    clear A190
    by_cases c20 : t263 = true
    ·subst c20
     have H1 : ((vec_Right.f k t241).bind fun t264 => (if t264 = true then ((vec_Right.f k t244).bind fun t265 => (if t265 = true then ((cenotaphlaw03_From.f k t238).bind fun t266 => ((cenotaphref03_Same.f k t266 t235).bind fun t269 => (some t269))) else (none))) else (none))) = some r := by rw [if_pos rfl] at H; exact H
     clear H
     have H := H1
     clear H1
     replace H := Option.bind_eq_some_iff.mp H
     obtain ⟨t264, A210, H⟩ := H
     replace H : (if t264 = true then ((vec_Right.f k t244).bind fun t265 => (if t265 = true then ((cenotaphlaw03_From.f k t238).bind fun t266 => ((cenotaphref03_Same.f k t266 t235).bind fun t269 => (some t269))) else (none))) else (none)) = some r := H
     have A21 := Aside0.mk A210
     clear A210
     by_cases c22 : t264 = true
     ·subst c22
      have H1 : ((vec_Right.f k t244).bind fun t265 => (if t265 = true then ((cenotaphlaw03_From.f k t238).bind fun t266 => ((cenotaphref03_Same.f k t266 t235).bind fun t269 => (some t269))) else (none))) = some r := by rw [if_pos rfl] at H; exact H
      clear H
      have H := H1
      clear H1
      replace H := Option.bind_eq_some_iff.mp H
      obtain ⟨t265, A230, H⟩ := H
      replace H : (if t265 = true then ((cenotaphlaw03_From.f k t238).bind fun t266 => ((cenotaphref03_Same.f k t266 t235).bind fun t269 => (some t269))) else (none)) = some r := H
      have A23 := Aside0.mk A230
      clear A230
      by_cases c24 : t265 = true
      ·subst c24
       have H1 : ((cenotaphlaw03_From.f k t238).bind fun t266 => ((cenotaphref03_Same.f k t266 t235).bind fun t269 => (some t269))) = some r := by rw [if_pos rfl] at H; exact H
       clear H
       have H := H1
       clear H1
       replace H := Option.bind_eq_some_iff.mp H
       obtain ⟨t266, A250, H⟩ := H
       replace H : ((cenotaphref03_Same.f k t266 t235).bind fun t269 => (some t269)) = some r := H
       have A25 := Aside0.mk A250
       clear A250
       replace H := Option.bind_eq_some_iff.mp H
       obtain ⟨t269, A260, H⟩ := H
       replace H : (some t269) = some r := H
       have A26 := Aside0.mk A260
       clear A260
       obtain rfl := Option.some.inj H
       go_enter Try.func5, Try.ntmps5
       go_wp2_with (first | ((with_reducible refine gate_callee (f := 12) rfl ?_); refine goesL_ (some 11) rfl rfl Try.func12 (by kernel_rfl) rfl #[.slice A0 l0.length c0] rfl zq5_0 ?_; (with_reducible refine (cenotaphref03_Fix.calls k _ _ l0 t235 _ ?side1 ?side2 A4.out).mono ?_); (case side1 => repeat (first | exact HR0.out | (with_reducible refine Kd.C_alloc ?_ _) | (with_reducible refine Kd.C_drewN ?_ _) | (with_reducible refine Kd.C_drew ?_))); (case side2 => exact HC0.out); rintro e w27 ⟨v236, rfl, ho0, hb⟩; refine ⟨_, rfl, ?_⟩; have n0_ := Aside0.mk (Kd.R_lower ho0 (below_size zq5_1)); have n1_ := Aside0.mk (below_step zq5_1 hb); clear HB; have HO237 := n0_; have HB := n1_; clear n0_ n1_; (try clear hb); (try clear hb2); (try clear hk); (try clear hi); (try clear ho0); obtain ⟨Ao28, co28, eo28⟩ := Kd.R_slice HO237.out; subst eo28) | ((with_reducible refine gate_callee (f := 10) rfl ?_); refine goesL_ (some 13) rfl rfl Try.func10 (by kernel_rfl) rfl #[.slice Ao28 t235.length co28] rfl zq5_0 ?_; (with_reducible refine (cenotaphlaw03_To.calls k _ _ t235 t238 _ ?side1 ?side2 A5.out).mono ?_); (case side1 => repeat (first | exact (Kd.R_reads' HO237.out).2.2 | (with_reducible refine Kd.C_alloc ?_ _) | (with_reducible refine Kd.C_drewN ?_ _) | (with_reducible refine Kd.C_drew ?_))); (case side2 => exact (Kd.R_reads' HO237.out).2.1); rintro e w29 ⟨v239, rfl, ho0, hb⟩; refine ⟨_, rfl, ?_⟩; have n0_ := Aside0.mk (Kd.R_below zq5_2 hb); have n1_ := Aside0.mk (Kd.R_lower ho0 (below_size zq5_1)); have n2_ := Aside0.mk (below_step zq5_1 hb); clear HO237; clear HB; have HO237 := n0_; have HO240 := n1_; have HB := n2_; clear n0_ n1_ n2_; (try clear hb); (try clear hb2); (try clear hk); (try clear hi); (try clear ho0); obtain ⟨Ao30, co30, eo30⟩ := Kd.R_slice HO240.out; subst eo30) | ((with_reducible refine gate_callee (f := 16) rfl ?_); refine goesL_ (some 17) rfl rfl Try.func16 (by kernel_rfl) rfl #[.slice Ao30 t238.length co30, .string a1, .int .i64 a2] rfl zq5_0 ?_; (with_reducible refine (vec_Set.calls _ _ t238 a1 a2 t241 _ ?side1 ?side2 A6.out).mono ?_); (case side1 => repeat (first | exact (Kd.R_reads' HO240.out).2.2 | (with_reducible refine Kd.C_alloc ?_ _) | (with_reducible refine Kd.C_drewN ?_ _) | (with_reducible refine Kd.C_drew ?_))); (case side2 => exact (Kd.R_reads' HO240.out).2.1); rintro e w31 ⟨v242, rfl, ho0, hb⟩; refine ⟨_, rfl, ?_⟩; have n0_ := Aside0.mk (Kd.R_below zq5_2 hb); have n1_ := Aside0.mk (Kd.R_elder' zq5_3 (Kd.R_base ho0) hb); have n2_ := Aside0.mk (Kd.R_lower (Kd.R_new' ho0 (Kd.R_lt zq5_3)) (below_size zq5_1)); have n3_ := Aside0.mk (below_step zq5_1 hb); clear HO237; clear HO240; clear HB; have HO237 := n0_; have HO240 := n1_; have HO243 := n2_; have HB := n3_; clear n0_ n1_ n2_ n3_; (try clear hb); (try clear hb2); (try clear hk); (try clear hi); (try clear ho0)) | ((with_reducible refine gate_callee (f := 17) rfl ?_); refine goesL_ (some 20) rfl rfl Try.func17 (by kernel_rfl) rfl #[.slice Ao30 t238.length co30, .string a1] rfl zq5_0 ?_; (with_reducible refine (vec_Drop.calls _ _ t238 a1 t244 _ ?side1 ?side2 A7.out).mono ?_); (case side1 => repeat (first | exact (Kd.R_reads' HO240.out).2.2 | (with_reducible refine Kd.C_alloc ?_ _) | (with_reducible refine Kd.C_drewN ?_ _) | (with_reducible refine Kd.C_drew ?_))); (case side2 => exact (Kd.R_reads' HO240.out).2.1); rintro e w32 ⟨v245, rfl, ho0, hb⟩; refine ⟨_, rfl, ?_⟩; have n0_ := Aside0.mk (Kd.R_below zq5_2 hb); have n1_ := Aside0.mk (Kd.R_elder' zq5_3 (Kd.R_base ho0) hb); have n2_ := Aside0.mk (Kd.R_elder' zq5_4 (Kd.R_base ho0) hb); have n3_ := Aside0.mk (Kd.R_lower (Kd.R_new' (Kd.R_new' ho0 (Kd.R_lt zq5_3)) (Kd.R_lt zq5_4)) (below_size zq5_1)); have n4_ := Aside0.mk (below_step zq5_1 hb); clear HO237; clear HO240; clear HO243; clear HB; have HO237 := n0_; have HO240 := n1_; have HO243 := n2_; have HO246 := n3_; have HB := n4_; clear n0_ n1_ n2_ n3_ n4_; (try clear hb); (try clear hb2); (try clear hk); (try clear hi); (try clear ho0)) | ((with_reducible refine gate_callee (f := 8) rfl ?_); refine goesL_ (some 21) rfl rfl Try.func8 (by kernel_rfl) rfl #[] rfl zq5_0 ?_; (with_reducible refine (cenotaphlaw03_told.calls k  true _ A8.out).mono ?_); rintro e w33 ⟨rfl, hb⟩; refine ⟨_, rfl, ?_⟩; have n0_ := Aside0.mk (Kd.R_below zq5_2 hb); have n1_ := Aside0.mk (Kd.R_below zq5_3 hb); have n2_ := Aside0.mk (Kd.R_below zq5_4 hb); have n3_ := Aside0.mk (Kd.R_below zq5_5 hb); have n4_ := Aside0.mk (below_step zq5_1 hb); clear HO237; clear HO240; clear HO243; clear HO246; clear HB; have HO237 := n0_; have HO240 := n1_; have HO243 := n2_; have HO246 := n3_; have HB := n4_; clear n0_ n1_ n2_ n3_ n4_; (try clear hb); (try clear hb2); (try clear hk); (try clear hi)) | (go_at_call 13; (with_reducible refine (vec_Of.calls _ _ t238 a1 t248 _ ?side1 ?side2 A10.out).mono ?_); (case side1 => repeat (first | exact (Kd.R_reads' HO240.out).2.2 | (with_reducible refine Kd.C_alloc ?_ _) | (with_reducible refine Kd.C_drewN ?_ _) | (with_reducible refine Kd.C_drew ?_))); (case side2 => exact (Kd.R_reads' HO240.out).2.1); rintro e w34 ⟨rfl, hb⟩; have n0_ := Aside0.mk (Kd.R_below zq5_2 hb); have n1_ := Aside0.mk (Kd.R_below zq5_3 hb); have n2_ := Aside0.mk (Kd.R_below zq5_4 hb); have n3_ := Aside0.mk (Kd.R_below zq5_5 hb); have n4_ := Aside0.mk (below_step zq5_1 hb); clear HO237; clear HO240; clear HO243; clear HO246; clear HB; have HO237 := n0_; have HO240 := n1_; have HO243 := n2_; have HO246 := n3_; have HB := n4_; clear n0_ n1_ n2_ n3_ n4_; (try clear hb); (try clear hb2); (try clear hk); (try clear hi)) | (go_at_call 18; (with_reducible refine (cenotaphref03_Of.calls k _ _ t235 a1 t249 _ ?side1 ?side2 A11.out).mono ?_); (case side1 => repeat (first | exact (Kd.R_reads' HO237.out).2.2 | (with_reducible refine Kd.C_alloc ?_ _) | (with_reducible refine Kd.C_drewN ?_ _) | (with_reducible refine Kd.C_drew ?_))); (case side2 => exact (Kd.R_reads' HO237.out).2.1); rintro e w' ⟨rfl, ⟨nd, rfl⟩⟩; obtain ⟨Ao35, co35, eo35⟩ := Kd.R_slice HO243.out; subst eo35) | (go_at_call 20; (with_reducible refine (cenotaphlaw03_From.calls k _ _ t241 t250 _ ?side1 ?side2 A13.out).mono ?_); (case side1 => repeat (first | exact (Kd.R_reads' HO243.out).2.2 | (with_reducible refine Kd.C_alloc ?_ _) | (with_reducible refine Kd.C_drewN ?_ _) | (with_reducible refine Kd.C_drew ?_))); (case side2 => exact (Kd.R_reads' HO243.out).2.1); rintro e w36 ⟨v251, rfl, ho0, hb⟩; have n0_ := Aside0.mk (Kd.R_elder' zq5_2 (Kd.R_base ho0) hb); have n1_ := Aside0.mk (Kd.R_below zq5_3 hb); have n2_ := Aside0.mk (Kd.R_below zq5_4 hb); have n3_ := Aside0.mk (Kd.R_below zq5_5 hb); have n4_ := Aside0.mk (Kd.R_lower (Kd.R_new' ho0 (Kd.R_lt zq5_2)) (below_size zq5_1)); have n5_ := Aside0.mk (below_step zq5_1 hb); clear HO237; clear HO240; clear HO243; clear HO246; clear HB; have HO237 := n0_; have HO240 := n1_; have HO243 := n2_; have HO246 := n3_; have HO252 := n4_; have HB := n5_; clear n0_ n1_ n2_ n3_ n4_ n5_; (try clear hb); (try clear hb2); (try clear hk); (try clear hi); (try clear ho0)) | (go_at_call 21; (with_reducible refine (cenotaphref03_Set.calls k _ _ t235 a1 a2 t253 _ ?side1 ?side2 A14.out).mono ?_); (case side1 => repeat (first | exact (Kd.R_reads' HO237.out).2.2 | (with_reducible refine Kd.C_alloc ?_ _) | (with_reducible refine Kd.C_drewN ?_ _) | (with_reducible refine Kd.C_drew ?_))); (case side2 => exact (Kd.R_reads' HO237.out).2.1); rintro e w37 ⟨v254, rfl, ho0, hb⟩; have n0_ := Aside0.mk (Kd.R_elder' zq5_2 (Kd.R_base ho0) hb); have n1_ := Aside0.mk (Kd.R_below zq5_3 hb); have n2_ := Aside0.mk (Kd.R_below zq5_4 hb); have n3_ := Aside0.mk (Kd.R_below zq5_5 hb); have n4_ := Aside0.mk (Kd.R_elder' zq5_6 (Kd.R_base ho0) hb); have n5_ := Aside0.mk (Kd.R_lower (Kd.R_new' (Kd.R_new' ho0 (Kd.R_lt zq5_2)) (Kd.R_lt zq5_6)) (below_size zq5_1)); have n6_ := Aside0.mk (below_step zq5_1 hb); clear HO237; clear HO240; clear HO243; clear HO246; clear HO252; clear HB; have HO237 := n0_; have HO240 := n1_; have HO243 := n2_; have HO246 := n3_; have HO252 := n4_; have HO255 := n5_; have HB := n6_; clear n0_ n1_ n2_ n3_ n4_ n5_ n6_; (try clear hb); (try clear hb2); (try clear hk); (try clear hi); (try clear ho0); obtain ⟨Ao38, co38, eo38⟩ := Kd.R_slice HO252.out; subst eo38; obtain ⟨Ao39, co39, eo39⟩ := Kd.R_slice HO255.out; subst eo39) | (go_at_call 19; (with_reducible refine (cenotaphref03_Same.calls k _ _ t250 _ _ t253 true _ ?side1 ?side2 ?side3 ?side4 A15.out).mono ?_); (case side1 => repeat (first | exact (Kd.R_reads' HO252.out).2.2 | (with_reducible refine Kd.C_alloc ?_ _) | (with_reducible refine Kd.C_drewN ?_ _) | (with_reducible refine Kd.C_drew ?_))); (case side2 => exact (Kd.R_reads' HO252.out).2.1); (case side3 => repeat (first | exact (Kd.R_reads' HO255.out).2.2 | (with_reducible refine Kd.C_alloc ?_ _) | (with_reducible refine Kd.C_drewN ?_ _) | (with_reducible refine Kd.C_drew ?_))); (case side4 => exact (Kd.R_reads' HO255.out).2.1); rintro e w' ⟨rfl, ⟨nd, rfl⟩⟩; obtain ⟨Ao40, co40, eo40⟩ := Kd.R_slice HO246.out; subst eo40) | (go_at_call 20; (with_reducible refine (cenotaphlaw03_From.calls k _ _ t244 t257 _ ?side1 ?side2 A17.out).mono ?_); (case side1 => repeat (first | exact (Kd.R_reads' HO246.out).2.2 | (with_reducible refine Kd.C_alloc ?_ _) | (with_reducible refine Kd.C_drewN ?_ _) | (with_reducible refine Kd.C_drew ?_))); (case side2 => exact (Kd.R_reads' HO246.out).2.1); rintro e w41 ⟨v258, rfl, ho0, hb⟩; have n0_ := Aside0.mk (Kd.R_elder' zq5_2 (Kd.R_base ho0) hb); have n1_ := Aside0.mk (Kd.R_below zq5_3 hb); have n2_ := Aside0.mk (Kd.R_below zq5_4 hb); have n3_ := Aside0.mk (Kd.R_below zq5_5 hb); have n4_ := Aside0.mk (Kd.R_elder' zq5_6 (Kd.R_base ho0) hb); have n5_ := Aside0.mk (Kd.R_elder' zq5_7 (Kd.R_base ho0) hb); have n6_ := Aside0.mk (Kd.R_lower (Kd.R_new' (Kd.R_new' (Kd.R_new' ho0 (Kd.R_lt zq5_2)) (Kd.R_lt zq5_6)) (Kd.R_lt zq5_7)) (below_size zq5_1)); have n7_ := Aside0.mk (below_step zq5_1 hb); clear HO237; clear HO240; clear HO243; clear HO246; clear HO252; clear HO255; clear HB; have HO237 := n0_; have HO240 := n1_; have HO243 := n2_; have HO246 := n3_; have HO252 := n4_; have HO255 := n5_; have HO259 := n6_; have HB := n7_; clear n0_ n1_ n2_ n3_ n4_ n5_ n6_ n7_; (try clear hb); (try clear hb2); (try clear hk); (try clear hi); (try clear ho0)) | (go_at_call 22; (with_reducible refine (cenotaphref03_Drop.calls k _ _ t235 a1 t260 _ ?side1 ?side2 A18.out).mono ?_); (case side1 => repeat (first | exact (Kd.R_reads' HO237.out).2.2 | (with_reducible refine Kd.C_alloc ?_ _) | (with_reducible refine Kd.C_drewN ?_ _) | (with_reducible refine Kd.C_drew ?_))); (case side2 => exact (Kd.R_reads' HO237.out).2.1); rintro e w42 ⟨v261, rfl, ho0, hb⟩; have n0_ := Aside0.mk (Kd.R_elder' zq5_2 (Kd.R_base ho0) hb); have n1_ := Aside0.mk (Kd.R_below zq5_3 hb); have n2_ := Aside0.mk (Kd.R_below zq5_4 hb); have n3_ := Aside0.mk (Kd.R_below zq5_5 hb); have n4_ := Aside0.mk (Kd.R_elder' zq5_6 (Kd.R_base ho0) hb); have n5_ := Aside0.mk (Kd.R_elder' zq5_7 (Kd.R_base ho0) hb); have n6_ := Aside0.mk (Kd.R_elder' zq5_8 (Kd.R_base ho0) hb); have n7_ := Aside0.mk (Kd.R_lower (Kd.R_new' (Kd.R_new' (Kd.R_new' (Kd.R_new' ho0 (Kd.R_lt zq5_2)) (Kd.R_lt zq5_6)) (Kd.R_lt zq5_7)) (Kd.R_lt zq5_8)) (below_size zq5_1)); have n8_ := Aside0.mk (below_step zq5_1 hb); clear HO237; clear HO240; clear HO243; clear HO246; clear HO252; clear HO255; clear HO259; clear HB; have HO237 := n0_; have HO240 := n1_; have HO243 := n2_; have HO246 := n3_; have HO252 := n4_; have HO255 := n5_; have HO259 := n6_; have HO262 := n7_; have HB := n8_; clear n0_ n1_ n2_ n3_ n4_ n5_ n6_ n7_ n8_; (try clear hb); (try clear hb2); (try clear hk); (try clear hi); (try clear ho0); obtain ⟨Ao43, co43, eo43⟩ := Kd.R_slice HO259.out; subst eo43; obtain ⟨Ao44, co44, eo44⟩ := Kd.R_slice HO262.out; subst eo44) | (go_at_call 19; (with_reducible refine (cenotaphref03_Same.calls k _ _ t257 _ _ t260 true _ ?side1 ?side2 ?side3 ?side4 A19.out).mono ?_); (case side1 => repeat (first | exact (Kd.R_reads' HO259.out).2.2 | (with_reducible refine Kd.C_alloc ?_ _) | (with_reducible refine Kd.C_drewN ?_ _) | (with_reducible refine Kd.C_drew ?_))); (case side2 => exact (Kd.R_reads' HO259.out).2.1); (case side3 => repeat (first | exact (Kd.R_reads' HO262.out).2.2 | (with_reducible refine Kd.C_alloc ?_ _) | (with_reducible refine Kd.C_drewN ?_ _) | (with_reducible refine Kd.C_drew ?_))); (case side4 => exact (Kd.R_reads' HO262.out).2.1); rintro e w' ⟨rfl, ⟨nd, rfl⟩⟩) | (go_at_call 9; (with_reducible refine (vec_Right.calls k _ _ t241 true _ ?side1 ?side2 A21.out).mono ?_); (case side1 => repeat (first | exact (Kd.R_reads' HO243.out).2.2 | (with_reducible refine Kd.C_alloc ?_ _) | (with_reducible refine Kd.C_drewN ?_ _) | (with_reducible refine Kd.C_drew ?_))); (case side2 => exact (Kd.R_reads' HO243.out).2.1); rintro e w45 ⟨rfl, hb⟩; have n0_ := Aside0.mk (Kd.R_below zq5_2 hb); have n1_ := Aside0.mk (Kd.R_below zq5_3 hb); have n2_ := Aside0.mk (Kd.R_below zq5_4 hb); have n3_ := Aside0.mk (Kd.R_below zq5_5 hb); have n4_ := Aside0.mk (Kd.R_below zq5_6 hb); have n5_ := Aside0.mk (Kd.R_below zq5_7 hb); have n6_ := Aside0.mk (Kd.R_below zq5_8 hb); have n7_ := Aside0.mk (Kd.R_below zq5_9 hb); have n8_ := Aside0.mk (below_step zq5_1 hb); clear HO237; clear HO240; clear HO243; clear HO246; clear HO252; clear HO255; clear HO259; clear HO262; clear HB; have HO237 := n0_; have HO240 := n1_; have HO243 := n2_; have HO246 := n3_; have HO252 := n4_; have HO255 := n5_; have HO259 := n6_; have HO262 := n7_; have HB := n8_; clear n0_ n1_ n2_ n3_ n4_ n5_ n6_ n7_ n8_; (try clear hb); (try clear hb2); (try clear hk); (try clear hi)) | (go_at_call 9; (with_reducible refine (vec_Right.calls k _ _ t244 true _ ?side1 ?side2 A23.out).mono ?_); (case side1 => repeat (first | exact (Kd.R_reads' HO246.out).2.2 | (with_reducible refine Kd.C_alloc ?_ _) | (with_reducible refine Kd.C_drewN ?_ _) | (with_reducible refine Kd.C_drew ?_))); (case side2 => exact (Kd.R_reads' HO246.out).2.1); rintro e w46 ⟨rfl, hb⟩; have n0_ := Aside0.mk (Kd.R_below zq5_2 hb); have n1_ := Aside0.mk (Kd.R_below zq5_3 hb); have n2_ := Aside0.mk (Kd.R_below zq5_4 hb); have n3_ := Aside0.mk (Kd.R_below zq5_5 hb); have n4_ := Aside0.mk (Kd.R_below zq5_6 hb); have n5_ := Aside0.mk (Kd.R_below zq5_7 hb); have n6_ := Aside0.mk (Kd.R_below zq5_8 hb); have n7_ := Aside0.mk (Kd.R_below zq5_9 hb); have n8_ := Aside0.mk (below_step zq5_1 hb); clear HO237; clear HO240; clear HO243; clear HO246; clear HO252; clear HO255; clear HO259; clear HO262; clear HB; have HO237 := n0_; have HO240 := n1_; have HO243 := n2_; have HO246 := n3_; have HO252 := n4_; have HO255 := n5_; have HO259 := n6_; have HO262 := n7_; have HB := n8_; clear n0_ n1_ n2_ n3_ n4_ n5_ n6_ n7_ n8_; (try clear hb); (try clear hb2); (try clear hk); (try clear hi)) | (go_at_call 20; (with_reducible refine (cenotaphlaw03_From.calls k _ _ t238 t266 _ ?side1 ?side2 A25.out).mono ?_); (case side1 => repeat (first | exact (Kd.R_reads' HO240.out).2.2 | (with_reducible refine Kd.C_alloc ?_ _) | (with_reducible refine Kd.C_drewN ?_ _) | (with_reducible refine Kd.C_drew ?_))); (case side2 => exact (Kd.R_reads' HO240.out).2.1); rintro e w47 ⟨v267, rfl, ho0, hb⟩; have n0_ := Aside0.mk (Kd.R_elder' zq5_2 (Kd.R_base ho0) hb); have n1_ := Aside0.mk (Kd.R_below zq5_3 hb); have n2_ := Aside0.mk (Kd.R_below zq5_4 hb); have n3_ := Aside0.mk (Kd.R_below zq5_5 hb); have n4_ := Aside0.mk (Kd.R_elder' zq5_6 (Kd.R_base ho0) hb); have n5_ := Aside0.mk (Kd.R_elder' zq5_7 (Kd.R_base ho0) hb); have n6_ := Aside0.mk (Kd.R_elder' zq5_8 (Kd.R_base ho0) hb); have n7_ := Aside0.mk (Kd.R_elder' zq5_9 (Kd.R_base ho0) hb); have n8_ := Aside0.mk (Kd.R_lower (Kd.R_new' (Kd.R_new' (Kd.R_new' (Kd.R_new' (Kd.R_new' ho0 (Kd.R_lt zq5_2)) (Kd.R_lt zq5_6)) (Kd.R_lt zq5_7)) (Kd.R_lt zq5_8)) (Kd.R_lt zq5_9)) (below_size zq5_1)); have n9_ := Aside0.mk (below_step zq5_1 hb); clear HO237; clear HO240; clear HO243; clear HO246; clear HO252; clear HO255; clear HO259; clear HO262; clear HB; have HO237 := n0_; have HO240 := n1_; have HO243 := n2_; have HO246 := n3_; have HO252 := n4_; have HO255 := n5_; have HO259 := n6_; have HO262 := n7_; have HO268 := n8_; have HB := n9_; clear n0_ n1_ n2_ n3_ n4_ n5_ n6_ n7_ n8_ n9_; (try clear hb); (try clear hb2); (try clear hk); (try clear hi); (try clear ho0); obtain ⟨Ao48, co48, eo48⟩ := Kd.R_slice HO268.out; subst eo48) | (go_at_call 19; (with_reducible refine (cenotaphref03_Same.calls k _ _ t266 _ _ t235 t269 _ ?side1 ?side2 ?side3 ?side4 A26.out).mono ?_); (case side1 => repeat (first | exact (Kd.R_reads' HO268.out).2.2 | (with_reducible refine Kd.C_alloc ?_ _) | (with_reducible refine Kd.C_drewN ?_ _) | (with_reducible refine Kd.C_drew ?_))); (case side2 => exact (Kd.R_reads' HO268.out).2.1); (case side3 => repeat (first | exact (Kd.R_reads' HO237.out).2.2 | (with_reducible refine Kd.C_alloc ?_ _) | (with_reducible refine Kd.C_drewN ?_ _) | (with_reducible refine Kd.C_drew ?_))); (case side4 => exact (Kd.R_reads' HO237.out).2.1); rintro e w' ⟨rfl, ⟨nd, rfl⟩⟩))
       go_ret
       exact ⟨by first | rfl | (simp [errW_none, errW_some] <;> rfl) | (simp [*, errW_none, errW_some] <;> rfl), by repeat (first | (with_reducible first | exact HB.out | apply below_alloc | apply pw_below_drewN | apply below_drew1) | exact HB.out)⟩
      ·replace c24 := Bool.eq_false_iff.mpr c24
       subst c24
       have H1 : (none) = some r := by rw [if_neg (show ¬ (false = true) by decide)] at H; exact H
       clear H
       have H := H1
       clear H1
       exact absurd H (by simp)
     ·replace c22 := Bool.eq_false_iff.mpr c22
      subst c22
      have H1 : (none) = some r := by rw [if_neg (show ¬ (false = true) by decide)] at H; exact H
      clear H
      have H := H1
      clear H1
      exact absurd H (by simp)
    ·replace c20 := Bool.eq_false_iff.mpr c20
     subst c20
     have H1 : (none) = some r := by rw [if_neg (show ¬ (false = true) by decide)] at H; exact H
     clear H
     have H := H1
     clear H1
     exact absurd H (by simp)
   ·replace c16 := Bool.eq_false_iff.mpr c16
    subst c16
    have H1 : (none) = some r := by rw [if_neg (show ¬ (false = true) by decide)] at H; exact H
    clear H
    have H := H1
    clear H1
    exact absurd H (by simp)
  ·rw [if_neg c12] at H
   exact absurd H (by simp)
 ·replace c9 := Bool.eq_false_iff.mpr c9
  subst c9
  have H1 : (none) = some r := by rw [if_neg (show ¬ (false = true) by decide)] at H; exact H
  clear H
  have H := H1
  clear H1
  exact absurd H (by simp)

end Go.Proofs.Ytjdhnnpagaocnaa.P
