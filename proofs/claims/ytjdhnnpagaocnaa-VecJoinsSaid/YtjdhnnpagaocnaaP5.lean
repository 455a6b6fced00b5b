-- Written by a program of this session (wip/pp.py over the kit's printer, with our own texts put in).
import Derived.Test.YtjdhnnpagaocnaaP0
import Derived.Test.YtjdhnnpagaocnaaP3
namespace Go.Proofs.Ytjdhnnpagaocnaa.P
open Go.RowKit Go.Proofs.YtjdhnnpagaocnaaW.PrintWords Go.Proofs.YtjdhnnpagaocnaaW.PrintLast Go.Proofs.YtjdhnnpagaocnaaW.PrintMore
attribute [local go_sem] max2_int min2_int max_two min_two max_three min_three max_four min_four   -- for this text's walks alone
set_option linter.unusedVariables false
set_option linter.unusedSimpArgs false

/-! ### vec_find: function 34 -/
set_option maxHeartbeats 1600000 in
set_option maxRecDepth 100000 in
theorem vecf_bsearch (A0 : Option Addr) (c0 : Nat) (l0 : List S47) (a1 : ByteArray) (w : World) (hr0 : Kd.C k47 w A0 l0.length l0) (hlim : l0.length ≤ 140737488355328) :
    Calls Try.prog 44 #[.slice A0 l0.length c0, .agg #[.string a1, .int .i64 0], .func (.func 29) #[] #[]] w fun e w' => e = .returned (.tuple #[.int .i64 (bsN (fun i => cmpB (l0.getD i z47).f0 a1) l0.length : Nat), .bool (bsB (fun i => cmpB (l0.getD i z47).f0 a1) l0.length)]) ∧ Below w.heap.size w w' := by
  have hlen := hr0.2.1
  have HR0 := Aside0.mk hr0
  clear hr0
  generalize hc : (fun i => cmpB (l0.getD i z47).f0 a1) = c
  have HCC := Aside0.mk (show ∀ i, cmpB (l0.getD i z47).f0 a1 = c i from fun i => by rw [← hc])
  clear hc
  generalize hn : l0.length = n at *
  have HR := Aside0.mk (show bsN c n = bsI c (n + 1) 0 n from rfl)
  clear hn
  have HB := Aside0.mk (below_alloc (Below.refl w.heap.size w) (.cells #[.string a1, .int .i64 0] 47))
  have BK := Aside0.mk (blk_new w (.cells #[.string a1, .int .i64 0] 47))
  have hut := Try.underlying47
  go_enter Try.func44, Try.ntmps44
  go_wp2
  go_loopw [9, 10, 11] (fun vi vj _ wr => ∃ i j fu : Nat, vi = .int .i64 i ∧ vj = .int .i64 j ∧ i ≤ j ∧ j ≤ n ∧ j - i < fu ∧ Aside0 (bsI c fu i j = bsN c n) ∧ Aside0 (Below w.heap.size w wr) ∧ Aside0 (wr.heap[w.heap.size]? = some (.cells #[.string a1, .int .i64 0] 47 (0, 0)))) (fun vi vj _ _ => ((intOf vj).toNat - (intOf vi).toNat))
  case atStart => exact ⟨0, n, n + 1, rfl, rfl, Nat.zero_le _, Nat.le_refl _, by omega, ⟨HR.out.symm⟩, HB, BK⟩
  case round =>
    clear HB BK
    obtain ⟨i, j, fu, rfl, rfl, hij, hjn, hfu, HI, HB, BK⟩ := hrel
    by_cases hlt : i < j
    · obtain ⟨ad, hA, hx0, hx1⟩ := at_T47 HR0.out (((i : Int) + (j : Int)) / 2) (by omega) (by omega)
      obtain rfl := hA
      have hw0 := hx0; have hw1 := hx1; replace hx0 := (HB.out.cell (World.block_lt_of_cell? w _ hx0)).trans hx0; replace hx1 := (HB.out.cell (World.block_lt_of_cell? w _ hx1)).trans hx1
      have hm : (((i : Int) + (j : Int)) / 2).toNat = (i + j) / 2 := by omega
      have e2 : cmpB (l0.getD (((i : Int) + (j : Int)) / 2).toNat z47).f0 a1 = c ((i + j) / 2) := by rw [hm]; exact HCC.out _
      have pm := eq_true (show (0 : Int) ≤ ((i : Int) + (j : Int)) / 2 by omega)
      have qm := eq_true (show ((i : Int) + (j : Int)) / 2 < (n : Int) by omega)
      clear hm
      have hub : bsI c (fu - 1 + 1) i j = if c ((i + j) / 2) < 0 then bsI c (fu - 1) ((i + j) / 2 + 1) j else bsI c (fu - 1) i ((i + j) / 2) := by
        simp only [bsI]; rw [if_pos hlt]
      have HU := Aside0.mk hub
      have hcalls := fun W => vec_order.calls (rd_T47 l0 (((i : Int) + (j : Int)) / 2)).f0 (rd_T47 l0 (((i : Int) + (j : Int)) / 2)).f1 a1 0 (c ((i + j) / 2)) W (by rw [← e2]; rfl)
      clear hub e2
      have HK := Aside0.mk hcalls
      clear hcalls
      have hfu1 : fu - 1 + 1 = fu := by omega
      have HF := Aside0.mk hfu1
      clear hfu1
      by_cases hneg : c ((i + j) / 2) < 0
      · have HN := Aside0.mk hneg
        have hdn : decide (c ((i + j) / 2) < 0) = true := decide_eq_true hneg
        generalize hq : c ((i + j) / 2) = q at hdn HK hneg
        have HQ := Aside0.mk hq
        clear hq
        go_wp2_with fail
        refine start_ (n := 8) (S := fun w' => w'.cell? (ad.add ((((i : Int) + (j : Int)) / 2).toNat * 2)) = some (.string (rd_T47 l0 (((i : Int) + (j : Int)) / 2)).f0) ∧ w'.cell? ⟨(ad.add ((((i : Int) + (j : Int)) / 2).toNat * 2)).block, (ad.add ((((i : Int) + (j : Int)) / 2).toNat * 2)).off + 1, none⟩ = some (.int .i64 (rd_T47 l0 (((i : Int) + (j : Int)) / 2)).f1) ∧ w'.cell? ⟨w.heap.size, 0, none⟩ = some (.string a1) ∧ w'.cell? ⟨w.heap.size, 1, none⟩ = some (.int .i64 0)) (ds := []) #[false, false, false, false, false, false, false, false] (by kernel_rfl) rfl rfl ⟨hx0, hx1, (blk_cell (blk_drew BK.out) 0).trans rfl, (blk_cell (blk_drew BK.out) 1).trans rfl⟩ (fun hHeld => ?_)
        refine pure_ (i := 0) (N := some 24) (v := ?_) (a' := ?_) #[true, false, false, false, false, false, false, false] rfl rfl (by kernel_rfl) (fun _ _ _ h => h) (Or.inl ⟨by rfl, ?_⟩) ?_ ?_
        rotate_left
        · intro w'
          go_simp
          with_reducible rfl
        rotate_left
        · simp only [Act.put, List.setIfInBounds_toArray, List.set_cons_zero, List.set_cons_succ, i64_w, i32_w]
          rfl
        refine pure_ (i := 1) (N := some 25) (v := ?_) (a' := ?_) #[true, true, false, false, false, false, false, false] rfl rfl (by kernel_rfl) (fun _ _ _ h => h) (Or.inl ⟨by rfl, ?_⟩) ?_ ?_
        rotate_left
        · intro w'
          go_simp
          with_reducible rfl
        rotate_left
        · simp only [Act.put, List.setIfInBounds_toArray, List.set_cons_zero, List.set_cons_succ, i64_w, i32_w]
          rfl
        refine pure_ (i := 2) (N := some 26) (v := ?_) (a' := ?_) #[true, true, true, false, false, false, false, false] rfl rfl (by kernel_rfl) (fun _ _ _ h => h) (Or.inl ⟨by rfl, ?_⟩) ?_ ?_
        rotate_left
        · intro w'
          go_simp
          with_reducible rfl
        rotate_left
        · simp only [Act.put, List.setIfInBounds_toArray, List.set_cons_zero, List.set_cons_succ, i64_w, i32_w]
          rfl
        refine pure_ (i := 3) (N := some 27) (v := ?_) (a' := ?_) #[true, true, true, true, false, false, false, false] rfl rfl (by kernel_rfl) (fun _ _ _ h => h) (Or.inl ⟨by rfl, ?_⟩) ?_ ?_
        rotate_left
        · intro w'
          go_simp
          with_reducible rfl
        rotate_left
        · simp only [Act.put, List.setIfInBounds_toArray, List.set_cons_zero, List.set_cons_succ, i64_w, i32_w]
          rfl
        refine take_ (i := 4) (N := some 28) (v := ?_) (a' := ?_) #[true, true, true, true, true, false, false, false] rfl rfl (by kernel_rfl) (fun _ _ _ h => h) (Or.inl ⟨by rfl, ?_⟩) hHeld ?_ ?_
        rotate_left
        · rintro w' ⟨s0, s1, s2, s3⟩
          go_simp
          with_reducible rfl
        rotate_left
        · simp only [Act.put, List.setIfInBounds_toArray, List.set_cons_zero, List.set_cons_succ, i64_w, i32_w]
          rfl
        refine take_ (i := 5) (N := some 29) (v := ?_) (a' := ?_) #[true, true, true, true, true, true, false, false] rfl rfl (by kernel_rfl) (fun _ _ _ h => h) (Or.inl ⟨by rfl, ?_⟩) hHeld ?_ ?_
        rotate_left
        · rintro w' ⟨s0, s1, s2, s3⟩
          go_simp
          with_reducible rfl
        rotate_left
        · simp only [Act.put, List.setIfInBounds_toArray, List.set_cons_zero, List.set_cons_succ, i64_w, i32_w]
          rfl
        refine one_ (i := 6) (N := some 30) #[true, true, true, true, true, true, true, false] rfl rfl (by kernel_rfl) (by decide) (fun K hK => ?_)
        refine goesV_ Try.func29 (by kernel_rfl) rfl #[.agg #[.string (rd_T47 l0 (((i : Int) + (j : Int)) / 2)).f0, .int .i64 (rd_T47 l0 (((i : Int) + (j : Int)) / 2)).f1], .agg #[.string a1, .int .i64 0]] (by rfl) rfl rfl rfl (by (try simp only [List.map_toArray, List.map_cons, List.map_nil]); first | done | rfl) ?_
        refine (HK.out _).mono ?_
        rintro e w' ⟨rfl, hb1⟩
        refine ⟨_, rfl, ?_⟩
        have HB1 := Aside0.mk (below_step (below_drew1 HB.out) hb1)
        have BK1 := Aside0.mk (blk_below (blk_drew BK.out) hb1)
        clear hb1
        refine hK.out _ _ ⟨(HB1.out.cell (World.block_lt_of_cell? w _ hw0)).trans hw0, (HB1.out.cell (World.block_lt_of_cell? w _ hw1)).trans hw1, (blk_cell BK1.out 0).trans rfl, (blk_cell BK1.out 1).trans rfl⟩ (fun hHeld => ?_)
        clear hK K
        refine norm_ (a' := ?_) ?_ ?_
        rotate_left
        · show Act.put _ (some 30) _ = _
          simp only [Act.put, List.setIfInBounds_toArray, List.set_cons_zero, List.set_cons_succ, i64_w, i32_w]
          rfl
        refine pure_ (i := 7) (N := some 31) (v := ?_) (a' := ?_) #[true, true, true, true, true, true, true, true] rfl rfl (by kernel_rfl) (fun _ _ _ h => h) (Or.inl ⟨by rfl, ?_⟩) ?_ ?_
        rotate_left
        · intro w'
          go_simp
          with_reducible rfl
        rotate_left
        · simp only [Act.put, List.setIfInBounds_toArray, List.set_cons_zero, List.set_cons_succ, i64_w, i32_w]
          rfl
        refine done_ (by kernel_rfl) ?_
        go_wp2_with fail
        go_roundw
        case rel => exact ⟨(i + j) / 2 + 1, j, fu - 1, by go_num, rfl, by omega, hjn, by omega, ⟨by have := HU.out; rw [HF.out, HI.out, if_pos HN.out] at this; exact this.symm⟩, HB1, BK1⟩
        case measure => simp [intOf]; omega
      · have HN := Aside0.mk hneg
        have hdn : decide (c ((i + j) / 2) < 0) = false := decide_eq_false hneg
        generalize hq : c ((i + j) / 2) = q at hdn HK hneg
        have HQ := Aside0.mk hq
        clear hq
        go_wp2_with fail
        refine start_ (n := 8) (S := fun w' => w'.cell? (ad.add ((((i : Int) + (j : Int)) / 2).toNat * 2)) = some (.string (rd_T47 l0 (((i : Int) + (j : Int)) / 2)).f0) ∧ w'.cell? ⟨(ad.add ((((i : Int) + (j : Int)) / 2).toNat * 2)).block, (ad.add ((((i : Int) + (j : Int)) / 2).toNat * 2)).off + 1, none⟩ = some (.int .i64 (rd_T47 l0 (((i : Int) + (j : Int)) / 2)).f1) ∧ w'.cell? ⟨w.heap.size, 0, none⟩ = some (.string a1) ∧ w'.cell? ⟨w.heap.size, 1, none⟩ = some (.int .i64 0)) (ds := []) #[false, false, false, false, false, false, false, false] (by kernel_rfl) rfl rfl ⟨hx0, hx1, (blk_cell (blk_drew BK.out) 0).trans rfl, (blk_cell (blk_drew BK.out) 1).trans rfl⟩ (fun hHeld => ?_)
        refine pure_ (i := 0) (N := some 24) (v := ?_) (a' := ?_) #[true, false, false, false, false, false, false, false] rfl rfl (by kernel_rfl) (fun _ _ _ h => h) (Or.inl ⟨by rfl, ?_⟩) ?_ ?_
        rotate_left
        · intro w'
          go_simp
          with_reducible rfl
        rotate_left
        · simp only [Act.put, List.setIfInBounds_toArray, List.set_cons_zero, List.set_cons_succ, i64_w, i32_w]
          rfl
        refine pure_ (i := 1) (N := some 25) (v := ?_) (a' := ?_) #[true, true, false, false, false, false, false, false] rfl rfl (by kernel_rfl) (fun _ _ _ h => h) (Or.inl ⟨by rfl, ?_⟩) ?_ ?_
        rotate_left
        · intro w'
          go_simp
          with_reducible rfl
        rotate_left
        · simp only [Act.put, List.setIfInBounds_toArray, List.set_cons_zero, List.set_cons_succ, i64_w, i32_w]
          rfl
        refine pure_ (i := 2) (N := some 26) (v := ?_) (a' := ?_) #[true, true, true, false, false, false, false, false] rfl rfl (by kernel_rfl) (fun _ _ _ h => h) (Or.inl ⟨by rfl, ?_⟩) ?_ ?_
        rotate_left
        · intro w'
          go_simp
          with_reducible rfl
        rotate_left
        · simp only [Act.put, List.setIfInBounds_toArray, List.set_cons_zero, List.set_cons_succ, i64_w, i32_w]
          rfl
        refine pure_ (i := 3) (N := some 27) (v := ?_) (a' := ?_) #[true, true, true, true, false, false, false, false] rfl rfl (by kernel_rfl) (fun _ _ _ h => h) (Or.inl ⟨by rfl, ?_⟩) ?_ ?_
        rotate_left
        · intro w'
          go_simp
          with_reducible rfl
        rotate_left
        · simp only [Act.put, List.setIfInBounds_toArray, List.set_cons_zero, List.set_cons_succ, i64_w, i32_w]
          rfl
        refine take_ (i := 4) (N := some 28) (v := ?_) (a' := ?_) #[true, true, true, true, true, false, false, false] rfl rfl (by kernel_rfl) (fun _ _ _ h => h) (Or.inl ⟨by rfl, ?_⟩) hHeld ?_ ?_
        rotate_left
        · rintro w' ⟨s0, s1, s2, s3⟩
          go_simp
          with_reducible rfl
        rotate_left
        · simp only [Act.put, List.setIfInBounds_toArray, List.set_cons_zero, List.set_cons_succ, i64_w, i32_w]
          rfl
        refine take_ (i := 5) (N := some 29) (v := ?_) (a' := ?_) #[true, true, true, true, true, true, false, false] rfl rfl (by kernel_rfl) (fun _ _ _ h => h) (Or.inl ⟨by rfl, ?_⟩) hHeld ?_ ?_
        rotate_left
        · rintro w' ⟨s0, s1, s2, s3⟩
          go_simp
          with_reducible rfl
        rotate_left
        · simp only [Act.put, List.setIfInBounds_toArray, List.set_cons_zero, List.set_cons_succ, i64_w, i32_w]
          rfl
        refine one_ (i := 6) (N := some 30) #[true, true, true, true, true, true, true, false] rfl rfl (by kernel_rfl) (by decide) (fun K hK => ?_)
        refine goesV_ Try.func29 (by kernel_rfl) rfl #[.agg #[.string (rd_T47 l0 (((i : Int) + (j : Int)) / 2)).f0, .int .i64 (rd_T47 l0 (((i : Int) + (j : Int)) / 2)).f1], .agg #[.string a1, .int .i64 0]] (by rfl) rfl rfl rfl (by (try simp only [List.map_toArray, List.map_cons, List.map_nil]); first | done | rfl) ?_
        refine (HK.out _).mono ?_
        rintro e w' ⟨rfl, hb1⟩
        refine ⟨_, rfl, ?_⟩
        have HB1 := Aside0.mk (below_step (below_drew1 HB.out) hb1)
        have BK1 := Aside0.mk (blk_below (blk_drew BK.out) hb1)
        clear hb1
        refine hK.out _ _ ⟨(HB1.out.cell (World.block_lt_of_cell? w _ hw0)).trans hw0, (HB1.out.cell (World.block_lt_of_cell? w _ hw1)).trans hw1, (blk_cell BK1.out 0).trans rfl, (blk_cell BK1.out 1).trans rfl⟩ (fun hHeld => ?_)
        clear hK K
        refine norm_ (a' := ?_) ?_ ?_
        rotate_left
        · show Act.put _ (some 30) _ = _
          simp only [Act.put, List.setIfInBounds_toArray, List.set_cons_zero, List.set_cons_succ, i64_w, i32_w]
          rfl
        refine pure_ (i := 7) (N := some 31) (v := ?_) (a' := ?_) #[true, true, true, true, true, true, true, true] rfl rfl (by kernel_rfl) (fun _ _ _ h => h) (Or.inl ⟨by rfl, ?_⟩) ?_ ?_
        rotate_left
        · intro w'
          go_simp
          with_reducible rfl
        rotate_left
        · simp only [Act.put, List.setIfInBounds_toArray, List.set_cons_zero, List.set_cons_succ, i64_w, i32_w]
          rfl
        refine done_ (by kernel_rfl) ?_
        go_wp2_with fail
        go_roundw
        case rel => exact ⟨i, (i + j) / 2, fu - 1, rfl, by go_num, by omega, by omega, by omega, ⟨by have := HU.out; rw [HF.out, HI.out, if_neg (by have := HN.out; omega)] at this; exact this.symm⟩, HB1, BK1⟩
        case measure => simp [intOf]; omega
    · have hres : bsN c n = i := by
        rw [← HI.out]
        obtain ⟨f, rfl⟩ : ∃ f, fu = f + 1 := ⟨fu - 1, by omega⟩
        simp only [bsI]; rw [if_neg hlt]
      have HRS := Aside0.mk hres
      clear hres
      have hge : decide ((i : Int) < (j : Int)) = false := by simp; omega
      by_cases hin : i < n
      · obtain ⟨ad, hA, hx0, hx1⟩ := at_T47 HR0.out (i : Int) (by omega) (by omega)
        obtain rfl := hA
        have pm := eq_true (show (0 : Int) ≤ (i : Int) by omega)
        have qm := eq_true (show (i : Int) < (n : Int) by omega)
        have hw0 := hx0; have hw1 := hx1; replace hx0 := (HB.out.cell (World.block_lt_of_cell? w _ hx0)).trans hx0; replace hx1 := (HB.out.cell (World.block_lt_of_cell? w _ hx1)).trans hx1
        have hcalls := fun W => vec_order.calls (rd_T47 l0 (i : Int)).f0 (rd_T47 l0 (i : Int)).f1 a1 0 (c i) W (by rw [← HCC.out i]; rfl)
        have HK := Aside0.mk hcalls
        clear hcalls
        have hbb : bsB c n = decide (c i = 0) := by unfold bsB; rw [HRS.out, decide_eq_true hin, Bool.true_and]
        have HBB := Aside0.mk hbb
        clear hbb
        have hin2 : decide ((i : Int) < (n : Int)) = true := by simp; omega
        generalize hq : c i = q at HK HBB
        have HQ := Aside0.mk hq
        clear hq
        go_wp2_with fail
        refine start_ (n := 16) (S := fun w' => w'.cell? (ad.add (i * 2)) = some (.string (rd_T47 l0 (i : Int)).f0) ∧ w'.cell? ⟨(ad.add (i * 2)).block, (ad.add (i * 2)).off + 1, none⟩ = some (.int .i64 (rd_T47 l0 (i : Int)).f1) ∧ w'.cell? ⟨w.heap.size, 0, none⟩ = some (.string a1) ∧ w'.cell? ⟨w.heap.size, 1, none⟩ = some (.int .i64 0)) (ds := []) #[false, false, false, false, false, false, false, false, false, false, false, false, false, false, false, false] (by kernel_rfl) rfl rfl ⟨hx0, hx1, (blk_cell (blk_drew BK.out) 0).trans rfl, (blk_cell (blk_drew BK.out) 1).trans rfl⟩ (fun hHeld => ?_)
        refine pure_ (i := 0) (N := some 35) (v := ?_) (a' := ?_) #[true, false, false, false, false, false, false, false, false, false, false, false, false, false, false, false] rfl rfl (by kernel_rfl) (fun _ _ _ h => h) (Or.inl ⟨by rfl, ?_⟩) ?_ ?_
        rotate_left
        · intro w'
          go_simp
          with_reducible rfl
        rotate_left
        · simp only [Act.put, List.setIfInBounds_toArray, List.set_cons_zero, List.set_cons_succ, i64_w, i32_w]
          rfl
        refine pure_ (i := 1) (N := some 36) (v := ?_) (a' := ?_) #[true, true, false, false, false, false, false, false, false, false, false, false, false, false, false, false] rfl rfl (by kernel_rfl) (fun _ _ _ h => h) (Or.inl ⟨by rfl, ?_⟩) ?_ ?_
        rotate_left
        · intro w'
          go_simp
          with_reducible rfl
        rotate_left
        · simp only [Act.put, List.setIfInBounds_toArray, List.set_cons_zero, List.set_cons_succ, i64_w, i32_w]
          rfl
        refine pure_ (i := 2) (N := some 37) (v := ?_) (a' := ?_) #[true, true, true, false, false, false, false, false, false, false, false, false, false, false, false, false] rfl rfl (by kernel_rfl) (fun _ _ _ h => h) (Or.inl ⟨by rfl, ?_⟩) ?_ ?_
        rotate_left
        · intro w'
          go_simp
          with_reducible rfl
        rotate_left
        · simp only [Act.put, List.setIfInBounds_toArray, List.set_cons_zero, List.set_cons_succ, i64_w, i32_w]
          rfl
        refine pure_ (i := 3) (N := some 38) (v := ?_) (a' := ?_) #[true, true, true, true, false, false, false, false, false, false, false, false, false, false, false, false] rfl rfl (by kernel_rfl) (fun _ _ _ h => h) (Or.inl ⟨by rfl, ?_⟩) ?_ ?_
        rotate_left
        · intro w'
          go_simp
          with_reducible rfl
        rotate_left
        · simp only [Act.put, List.setIfInBounds_toArray, List.set_cons_zero, List.set_cons_succ, i64_w, i32_w]
          rfl
        refine pure_ (i := 4) (N := some 39) (v := ?_) (a' := ?_) #[true, true, true, true, true, false, false, false, false, false, false, false, false, false, false, false] rfl rfl (by kernel_rfl) (fun _ _ _ h => h) (Or.inl ⟨by rfl, ?_⟩) ?_ ?_
        rotate_left
        · intro w'
          go_simp
          with_reducible rfl
        rotate_left
        · simp only [Act.put, List.setIfInBounds_toArray, List.set_cons_zero, List.set_cons_succ, i64_w, i32_w]
          rfl
        refine pure_ (i := 5) (N := some 40) (v := ?_) (a' := ?_) #[true, true, true, true, true, true, false, false, false, false, false, false, false, false, false, false] rfl rfl (by kernel_rfl) (fun _ _ _ h => h) (Or.inl ⟨by rfl, ?_⟩) ?_ ?_
        rotate_left
        · intro w'
          go_simp
          with_reducible rfl
        rotate_left
        · simp only [Act.put, List.setIfInBounds_toArray, List.set_cons_zero, List.set_cons_succ, i64_w, i32_w]
          rfl
        refine pure_ (i := 6) (N := some 41) (v := ?_) (a' := ?_) #[true, true, true, true, true, true, true, false, false, false, false, false, false, false, false, false] rfl rfl (by kernel_rfl) (fun _ _ _ h => h) (Or.inl ⟨by rfl, ?_⟩) ?_ ?_
        rotate_left
        · intro w'
          go_simp
          with_reducible rfl
        rotate_left
        · simp only [Act.put, List.setIfInBounds_toArray, List.set_cons_zero, List.set_cons_succ, i64_w, i32_w]
          rfl
        refine pure_ (i := 7) (N := some 42) (v := ?_) (a' := ?_) #[true, true, true, true, true, true, true, true, false, false, false, false, false, false, false, false] rfl rfl (by kernel_rfl) (fun _ _ _ h => h) (Or.inl ⟨by rfl, ?_⟩) ?_ ?_
        rotate_left
        · intro w'
          go_simp
          with_reducible rfl
        rotate_left
        · simp only [Act.put, List.setIfInBounds_toArray, List.set_cons_zero, List.set_cons_succ, i64_w, i32_w]
          rfl
        refine pure_ (i := 8) (N := some 43) (v := ?_) (a' := ?_) #[true, true, true, true, true, true, true, true, true, false, false, false, false, false, false, false] rfl rfl (by kernel_rfl) (fun _ _ _ h => h) (Or.inl ⟨by rfl, ?_⟩) ?_ ?_
        rotate_left
        · intro w'
          go_simp
          with_reducible rfl
        rotate_left
        · simp only [Act.put, List.setIfInBounds_toArray, List.set_cons_zero, List.set_cons_succ, i64_w, i32_w]
          rfl
        refine take_ (i := 9) (N := some 44) (v := ?_) (a' := ?_) #[true, true, true, true, true, true, true, true, true, true, false, false, false, false, false, false] rfl rfl (by kernel_rfl) (fun _ _ _ h => h) (Or.inl ⟨by rfl, ?_⟩) hHeld ?_ ?_
        rotate_left
        · rintro w' ⟨s0, s1, s2, s3⟩
          go_simp
          with_reducible rfl
        rotate_left
        · simp only [Act.put, List.setIfInBounds_toArray, List.set_cons_zero, List.set_cons_succ, i64_w, i32_w]
          rfl
        refine take_ (i := 10) (N := some 45) (v := ?_) (a' := ?_) #[true, true, true, true, true, true, true, true, true, true, true, false, false, false, false, false] rfl rfl (by kernel_rfl) (fun _ _ _ h => h) (Or.inl ⟨by rfl, ?_⟩) hHeld ?_ ?_
        rotate_left
        · rintro w' ⟨s0, s1, s2, s3⟩
          go_simp
          with_reducible rfl
        rotate_left
        · simp only [Act.put, List.setIfInBounds_toArray, List.set_cons_zero, List.set_cons_succ, i64_w, i32_w]
          rfl
        refine one_ (i := 11) (N := some 46) #[true, true, true, true, true, true, true, true, true, true, true, true, false, false, false, false] rfl rfl (by kernel_rfl) (by decide) (fun K hK => ?_)
        refine goesV_ Try.func29 (by kernel_rfl) rfl #[.agg #[.string (rd_T47 l0 (i : Int)).f0, .int .i64 (rd_T47 l0 (i : Int)).f1], .agg #[.string a1, .int .i64 0]] (by rfl) rfl rfl rfl (by (try simp only [List.map_toArray, List.map_cons, List.map_nil]); first | done | rfl) ?_
        refine (HK.out _).mono ?_
        rintro e w' ⟨rfl, hb1⟩
        refine ⟨_, rfl, ?_⟩
        have HB1 := Aside0.mk (below_step (below_drew1 HB.out) hb1)
        have BK1 := Aside0.mk (blk_below (blk_drew BK.out) hb1)
        clear hb1
        refine hK.out _ _ ⟨(HB1.out.cell (World.block_lt_of_cell? w _ hw0)).trans hw0, (HB1.out.cell (World.block_lt_of_cell? w _ hw1)).trans hw1, (blk_cell BK1.out 0).trans rfl, (blk_cell BK1.out 1).trans rfl⟩ (fun hHeld => ?_)
        clear hK K
        refine norm_ (a' := ?_) ?_ ?_
        rotate_left
        · show Act.put _ (some 46) _ = _
          simp only [Act.put, List.setIfInBounds_toArray, List.set_cons_zero, List.set_cons_succ, i64_w, i32_w]
          rfl
        refine pure_ (i := 12) (N := some 47) (v := ?_) (a' := ?_) #[true, true, true, true, true, true, true, true, true, true, true, true, true, false, false, false] rfl rfl (by kernel_rfl) (fun _ _ _ h => h) (Or.inl ⟨by rfl, ?_⟩) ?_ ?_
        rotate_left
        · intro w'
          go_simp
          with_reducible rfl
        rotate_left
        · simp only [Act.put, List.setIfInBounds_toArray, List.set_cons_zero, List.set_cons_succ, i64_w, i32_w]
          rfl
        refine pure_ (i := 13) (N := some 48) (v := ?_) (a' := ?_) #[true, true, true, true, true, true, true, true, true, true, true, true, true, true, false, false] rfl rfl (by kernel_rfl) (fun _ _ _ h => h) (Or.inl ⟨by rfl, ?_⟩) ?_ ?_
        rotate_left
        · intro w'
          go_simp
          with_reducible rfl
        rotate_left
        · simp only [Act.put, List.setIfInBounds_toArray, List.set_cons_zero, List.set_cons_succ, i64_w, i32_w]
          rfl
        refine pure_ (i := 14) (N := some 6) (v := ?_) (a' := ?_) #[true, true, true, true, true, true, true, true, true, true, true, true, true, true, true, false] rfl rfl (by kernel_rfl) (fun _ _ _ h => h) (Or.inl ⟨by rfl, ?_⟩) ?_ ?_
        rotate_left
        · intro w'
          go_simp
          with_reducible rfl
        rotate_left
        · simp only [Act.put, List.setIfInBounds_toArray, List.set_cons_zero, List.set_cons_succ, i64_w, i32_w]
          rfl
        refine pure_ (i := 15) (N := some 7) (v := ?_) (a' := ?_) #[true, true, true, true, true, true, true, true, true, true, true, true, true, true, true, true] rfl rfl (by kernel_rfl) (fun _ _ _ h => h) (Or.inl ⟨by rfl, ?_⟩) ?_ ?_
        rotate_left
        · intro w'
          go_simp
          with_reducible rfl
        rotate_left
        · simp only [Act.put, List.setIfInBounds_toArray, List.set_cons_zero, List.set_cons_succ, i64_w, i32_w]
          rfl
        refine done_ (by kernel_rfl) ?_
        go_wp2_with fail
        go_ret2
        exact ⟨by rw [HRS.out, HBB.out]; rfl, HB1.out⟩
      · have hbb : bsB c n = false := by unfold bsB; rw [HRS.out, decide_eq_false hin, Bool.false_and]
        have HBB := Aside0.mk hbb
        clear hbb
        have hin2 : decide ((i : Int) < (n : Int)) = false := by simp; omega
        go_wp2_with fail
        go_quiet (fail)
        try go_wp2
        go_ret2
        exact ⟨by rw [HRS.out, HBB.out]; rfl, pw_below_drewN HB.out _⟩

def vec_find.f (l0 : List S47) (a1 : ByteArray) : Option (Int × Bool) := if l0.length < 8796093022208 then some ((bsN (fun i => cmpB (l0.getD i z47).f0 a1) l0.length : Nat), bsB (fun i => cmpB (l0.getD i z47).f0 a1) l0.length) else none
set_option maxHeartbeats 800000 in
set_option maxRecDepth 100000 in
theorem vec_find.calls (A0 : Option Addr) (c0 : Nat) (l0 : List S47) (a1 : ByteArray) (r1 : Int) (r2 : Bool) (w : World) (hr0 : Kd.C k47 w A0 l0.length l0) (hc0 : l0.length ≤ c0) (h : vec_find.f l0 a1 = some (r1, r2)) :
    Calls Try.prog 34 #[.slice A0 l0.length c0, .string a1] w fun e w' => e = .returned (.tuple #[.int .i64 r1, .bool r2]) ∧ Below w.heap.size w w' := by
  have hlim : l0.length < 8796093022208 := by
    by_cases hx : l0.length < 8796093022208
    · exact hx
    · rw [vec_find.f, if_neg hx] at h; cases h
  have hr : (((bsN (fun i => cmpB (l0.getD i z47).f0 a1) l0.length : Nat) : Int), bsB (fun i => cmpB (l0.getD i z47).f0 a1) l0.length) = (r1, r2) := by rw [vec_find.f, if_pos hlim] at h; exact Option.some.inj h
  obtain ⟨e1, e2⟩ := Prod.mk.inj hr
  have HB := Aside0.mk (Below.refl w.heap.size w)
  have hc := fun (W : World) (hW : Below w.heap.size w W) => vecf_bsearch A0 c0 l0 a1 W (Kd.C_below hr0 hW) (by omega)
  rw [e1, e2] at hc
  have HC := Aside0.mk hc
  clear hc h hr hlim hr0 e1 e2
  have hut := Try.underlying47
  go_enter Try.func34, Try.ntmps34
  go_wp2_with fail
  refine (HC.out _ (by repeat (first | (with_reducible first | exact HB.out | apply below_alloc | apply pw_below_drewN | apply below_drew1) | exact HB.out))).mono ?_
  rintro e w' ⟨rfl, hb⟩
  have HB1 := Aside0.mk (below_step HB.out hb)
  clear hb
  go_wp2_with fail
  go_ret2
  exact ⟨rfl, HB1.out⟩

/-! ### vec_Of: function 13 -/
def vec_Of.f (l0 : List (S47)) (a1 : ByteArray) : Option (Int) := (vec_find.f l0 a1).bind fun bt111 => (if bt111.2 = true then (if 0 ≤ bt111.1 then (if bt111.1 < (l0.length : Int) then (some ((rd_T47 l0 bt111.1).f1)) else (none)) else (none)) else (some 0))
set_option maxHeartbeats 8000000 in
set_option maxRecDepth 100000 in
theorem vec_Of.calls (A0 : Option Addr) (c0 : Nat) (l0 : List (S47)) (a1 : ByteArray) (r : Int) (w : World) (hr0 : Kd.C k47 w A0 l0.length l0) (hc0 : l0.length ≤ c0) (h : vec_Of.f l0 a1 = some r) :
    Calls Try.prog 13 #[.slice A0 l0.length c0, .string a1] w fun e w' => e = .returned (.int .i64 r) ∧ Below w.heap.size w w' := by
  have HR0 := Aside0.mk hr0
  have HC0 := Aside0.mk hc0
  clear hr0 hc0
  have HB := Aside0.mk (Below.refl w.heap.size w)
  have H : ((vec_find.f l0 a1).bind fun bt111 => (if bt111.2 = true then (if 0 ≤ bt111.1 then (if bt111.1 < (l0.length : Int) then (some ((rd_T47 l0 bt111.1).f1)) else (none)) else (none)) else (some 0))) = some r := h
  clear h
  replace H := Option.bind_eq_some_iff.mp H
  obtain ⟨⟨t111, t112⟩, A30, H⟩ := H
  replace H : (if t112 = true then (if 0 ≤ t111 then (if t111 < (l0.length : Int) then (some ((rd_T47 l0 t111).f1)) else (none)) else (none)) else (some 0)) = some r := H
  have A3 := Aside0.mk A30
  clear A30
  by_cases c4 : t112 = true
  · subst c4
    have H1 : (if 0 ≤ t111 then (if t111 < (l0.length : Int) then (some ((rd_T47 l0 t111).f1)) else (none)) else (none)) = some r := by rw [if_pos rfl] at H; exact H
    clear H
    have H := H1
    clear H1
    by_cases c5 : 0 ≤ t111
    · rw [if_pos c5] at H
      have c5b0 : decide (0 ≤ t111) = true := decide_eq_true c5
      clear c5
      by_cases c6 : t111 < (l0.length : Int)
      · rw [if_pos c6] at H
        have c6b0 : decide (t111 < (l0.length : Int)) = true := decide_eq_true c6
        clear c6
        obtain rfl := Option.some.inj H
        go_enter Try.func13, Try.ntmps13
        go_wp2_with (first | ((with_reducible refine gate_callee (f := 34) rfl ?_); refine goesL_ (some 10) rfl rfl Try.func34 (by kernel_rfl) rfl #[.slice A0 l0.length c0, .string a1] rfl (by (try simp only [List.map_toArray, List.map_cons, List.map_nil]); first | done | rfl | (simp only [List.length_drop, List.length_take]; rfl)) ?_; (with_reducible refine (vec_find.calls _ _ l0 a1 t111 true _ ?side1 ?side2 A3.out).mono ?_); (case side1 => repeat (first | exact HR0.out | (with_reducible refine Kd.C_alloc ?_ _) | (with_reducible refine Kd.C_drewN ?_ _) | (with_reducible refine Kd.C_drew ?_))); (case side2 => exact HC0.out); rintro e w7 ⟨rfl, hb⟩; refine ⟨_, rfl, ?_⟩; have n0_ := Aside0.mk (below_step (by repeat (first | (with_reducible first | exact HB.out | apply below_alloc | apply pw_below_drewN | apply below_drew1) | exact HB.out)) hb); clear HB; have HB := n0_; clear n0_; (try clear hb); (try clear hb2); (try clear hk); (try clear hi); have p113 : 0 ≤ (t111 : Int) := of_decide_eq_true (by first | (with_reducible assumption) | assumption); have q113 : t111 < (l0.length : Int) := of_decide_eq_true (by first | (with_reducible assumption) | assumption); obtain ⟨ad113, e113, hx113_0, hx113_1⟩ := at_T47 HR0.out t111 p113 q113; cases e113; replace hx113_0 := (HB.out.cell (World.block_lt_of_cell? w _ hx113_0)).trans hx113_0; replace hx113_1 := (HB.out.cell (World.block_lt_of_cell? w _ hx113_1)).trans hx113_1; replace p113 := eq_true p113; replace q113 := eq_true q113))
        go_ret
        exact ⟨by first | rfl | (simp [errW_none, errW_some] <;> rfl) | (simp [*, errW_none, errW_some] <;> rfl), by repeat (first | (with_reducible first | exact HB.out | apply below_alloc | apply pw_below_drewN | apply below_drew1) | exact HB.out)⟩
      · rw [if_neg c6] at H
        exact absurd H (by simp)
    · rw [if_neg c5] at H
      exact absurd H (by simp)
  · replace c4 := Bool.eq_false_iff.mpr c4
    subst c4
    have H1 : (some 0) = some r := by rw [if_neg (show ¬ (false = true) by decide)] at H; exact H
    clear H
    have H := H1
    clear H1
    obtain rfl := Option.some.inj H
    go_enter Try.func13, Try.ntmps13
    go_wp2_with (first | ((with_reducible refine gate_callee (f := 34) rfl ?_); refine goesL_ (some 10) rfl rfl Try.func34 (by kernel_rfl) rfl #[.slice A0 l0.length c0, .string a1] rfl (by (try simp only [List.map_toArray, List.map_cons, List.map_nil]); first | done | rfl | (simp only [List.length_drop, List.length_take]; rfl)) ?_; (with_reducible refine (vec_find.calls _ _ l0 a1 t111 false _ ?side1 ?side2 A3.out).mono ?_); (case side1 => repeat (first | exact HR0.out | (with_reducible refine Kd.C_alloc ?_ _) | (with_reducible refine Kd.C_drewN ?_ _) | (with_reducible refine Kd.C_drew ?_))); (case side2 => exact HC0.out); rintro e w8 ⟨rfl, hb⟩; refine ⟨_, rfl, ?_⟩; have n0_ := Aside0.mk (below_step (by repeat (first | (with_reducible first | exact HB.out | apply below_alloc | apply pw_below_drewN | apply below_drew1) | exact HB.out)) hb); clear HB; have HB := n0_; clear n0_; (try clear hb); (try clear hb2); (try clear hk); (try clear hi)))
    go_ret
    exact ⟨by first | rfl | (simp [errW_none, errW_some] <;> rfl) | (simp [*, errW_none, errW_some] <;> rfl), by repeat (first | (with_reducible first | exact HB.out | apply below_alloc | apply pw_below_drewN | apply below_drew1) | exact HB.out)⟩

/-! ### vec_Within: function 15 -/
set_option maxHeartbeats 1600000 in
set_option maxRecDepth 100000 in
theorem vecw_index (A0 : Option Addr) (c0 : Nat) (l0 : List S47) (cb : Value) (p : S47 → Bool) (w : World) (hr0 : Kd.C k47 w A0 l0.length l0)
    (hp : ∀ (x : S47) (W : World), x ∈ l0 → Below w.heap.size w W → Calls Try.prog 37 #[.agg #[.string x.f0, .int .i64 x.f1], cb] W fun e w' => e = .returned (.bool (p x)) ∧ Below W.heap.size W w') :
    Calls Try.prog 45 #[.slice A0 l0.length c0, .func (.func 37) #[] #[cb]] w fun e w' => e = .returned (.int .i64 (idxI p l0)) ∧ Below w.heap.size w w' := by
  have hlen := hr0.2.1
  have HR0 := Aside0.mk hr0
  have HP := Aside0.mk hp
  clear hr0 hp
  have HF := Aside0.mk (fun i hi hn h => idxI_found p z47 l0 i hi hn h)
  have HN := Aside0.mk (fun hn => idxI_none p z47 l0 hn)
  generalize idxI p l0 = r at *
  generalize hn : l0.length = n at *
  have HL := Aside0.mk hn
  clear hn
  have HB := Aside0.mk (Below.refl w.heap.size w)
  have hut := Try.underlying47
  go_enter Try.func45, Try.ntmps45
  go_wp2
  go_loopw [8] (fun vi wr => ∃ i : Nat, vi = .int .i64 i ∧ i ≤ n ∧ Aside0 (∀ j, j < i → p (l0.getD j z47) = false) ∧ Aside0 (Below w.heap.size w wr)) (fun vi _ => n - (intOf vi).toNat)
  case atStart => exact ⟨0, rfl, Nat.zero_le _, ⟨fun j hj => absurd hj (Nat.not_lt_zero _)⟩, HB⟩
  case round =>
    clear HB
    obtain ⟨i, rfl, hin, HA, HB⟩ := hrel
    by_cases hlt : i < n
    · obtain ⟨ad, hA, hx0, hx1⟩ := at_T47 HR0.out (i : Int) (by omega) (by omega)
      obtain rfl := hA
      have pm := eq_true (show (0 : Int) ≤ (i : Int) by omega)
      have qm := eq_true (show (i : Int) < (n : Int) by omega)
      replace hx0 := (HB.out.cell (World.block_lt_of_cell? w _ hx0)).trans hx0; replace hx1 := (HB.out.cell (World.block_lt_of_cell? w _ hx1)).trans hx1
      have hel : rd_T47 l0 (i : Int) = l0.getD i z47 := rfl
      simp only [Int.toNat_natCast, hel] at hx0 hx1
      have HK := Aside0.mk (HP.out (l0.getD i z47)  wr (by rw [← List.getElem_eq_getD (h := by have := HL.out; omega)]; exact List.getElem_mem _) HB.out)
      by_cases hpx : p (l0.getD i z47) = true
      · have HRES := Aside0.mk (HF.out i (by have := HL.out; omega) HA.out hpx)
        rw [hpx] at HK
        clear hel hpx
        go_wp2_with fail
        refine HK.out.mono ?_
        rintro e w' ⟨rfl, hb1⟩
        have HB1 := Aside0.mk (below_step HB.out hb1)
        clear hb1
        go_wp2_with fail
        go_ret
        exact ⟨by rw [HRES.out]; rfl, HB1.out⟩
      · have hpf : p (l0.getD i z47) = false := by simpa using hpx
        rw [hpf] at HK
        have HPF := Aside0.mk hpf
        clear hel hpx hpf
        go_wp2_with fail
        refine HK.out.mono ?_
        rintro e w' ⟨rfl, hb1⟩
        have HB1 := Aside0.mk (below_step HB.out hb1)
        clear hb1
        go_wp2_with fail
        go_roundw
        case rel => exact ⟨i + 1, by go_num, by omega, ⟨fun j hj => by
          by_cases e : j = i
          · subst e; exact HPF.out
          · exact HA.out j (by omega)⟩, HB1⟩
        case measure => simp [intOf]; omega
    · have hge : decide ((i : Int) < (n : Int)) = false := by simp; omega
      have HRES := Aside0.mk (HN.out (fun j hj => HA.out j (by have := HL.out; omega)))
      go_wp2_with fail
      go_ret
      exact ⟨by rw [HRES.out]; rfl, HB.out⟩

set_option maxHeartbeats 800000 in
set_option maxRecDepth 100000 in
theorem vecw_contains (A0 : Option Addr) (n c0 : Nat) (fv : Value) (q : Int) (w : World) (h : Calls Try.prog 45 #[.slice A0 n c0, fv] w fun e w' => e = .returned (.int .i64 q) ∧ Below w.heap.size w w') :
    Calls Try.prog 36 #[.slice A0 n c0, fv] w fun e w' => e = .returned (.bool (decide (q ≥ 0))) ∧ Below w.heap.size w w' := by
  have H := Aside0.mk h
  clear h
  go_enter Try.func36, Try.ntmps36
  go_wp2_with fail
  refine H.out.mono ?_
  rintro e w' ⟨rfl, hb⟩
  have HB := Aside0.mk hb
  clear hb
  go_wp2_with fail
  go_ret
  exact ⟨rfl, HB.out⟩

set_option maxHeartbeats 800000 in
set_option maxRecDepth 100000 in
theorem vecw_pred (x : S47) (B : Nat) (A1 : Option Addr) (c1 : Nat) (l1 : List S47) (n : Int) (W : World) (hB : W.heap[B]? = some (.cells #[.slice A1 l1.length c1] 26 (0, 0))) (hr1 : Kd.C k47 W A1 l1.length l1) (hc1 : l1.length ≤ c1) (hof : vec_Of.f l1 x.f0 = some n) :
    Calls Try.prog 37 #[.agg #[.string x.f0, .int .i64 x.f1], .pointer (some ⟨B, 0, none⟩)] W fun e w' => e = .returned (.bool (decide (x.f1 > n))) ∧ Below W.heap.size W w' := by
  have HOF := Aside0.mk (fun w (hw : Below W.heap.size W w) => vec_Of.calls A1 c1 l1 x.f0 n w (Kd.C_below hr1 hw) hc1 hof)
  have HB := Aside0.mk (Below.refl W.heap.size W)
  have hc : W.cell? ⟨B, 0, none⟩ = some (.slice A1 l1.length c1) := (blk_cell hB 0).trans rfl
  have HBB := Aside0.mk (blk_lt hB)
  have hut := Try.underlying47
  have hBk := hB
  clear hB hr1 hof
  go_enter Try.func37, Try.ntmps37
  go_wp2_with fail
  have HBK := Aside0.mk hBk
  have BK := Aside0.mk (blk_drew (blk_new W (.cells #[.string x.f0, .int .i64 x.f1] 47)))
  have BB := Aside0.mk (blk_drew (blk_alloc HBK.out (.cells #[.string x.f0, .int .i64 x.f1] 47)))
  have HW := Aside0.mk (below_drew1 (below_alloc HB.out (.cells #[.string x.f0, .int .i64 x.f1] 47)))
  refine start_ (n := 8) (S := fun w' => w'.cell? ⟨W.heap.size, 0, none⟩ = some (.string x.f0) ∧ w'.cell? ⟨W.heap.size, 1, none⟩ = some (.int .i64 x.f1) ∧ w'.cell? ⟨B, 0, none⟩ = some (.slice A1 l1.length c1)) (ds := []) #[false, false, false, false, false, false, false, false] (by kernel_rfl) rfl rfl ⟨(blk_cell BK.out 0).trans rfl, (blk_cell BK.out 1).trans rfl, (blk_cell BB.out 0).trans rfl⟩ (fun hHeld => ?_)
  refine pure_ (i := 0) (N := some 4) (v := ?_) (a' := ?_) #[true, false, false, false, false, false, false, false] rfl rfl (by kernel_rfl) (fun _ _ _ h => h) (Or.inl ⟨by rfl, ?_⟩) ?_ ?_
  rotate_left
  · intro w'
    go_simp
    with_reducible rfl
  rotate_left
  · simp only [Act.put, List.setIfInBounds_toArray, List.set_cons_zero, List.set_cons_succ, i64_w, i32_w]
    rfl
  refine take_ (i := 1) (N := some 5) (v := ?_) (a' := ?_) #[true, true, false, false, false, false, false, false] rfl rfl (by kernel_rfl) (fun _ _ _ h => h) (Or.inl ⟨by rfl, ?_⟩) hHeld ?_ ?_
  rotate_left
  · rintro w' ⟨s0, s1, s2⟩
    go_simp
    with_reducible rfl
  rotate_left
  · simp only [Act.put, List.setIfInBounds_toArray, List.set_cons_zero, List.set_cons_succ, i64_w, i32_w]
    rfl
  refine take_ (i := 2) (N := some 6) (v := ?_) (a' := ?_) #[true, true, true, false, false, false, false, false] rfl rfl (by kernel_rfl) (fun _ _ _ h => h) (Or.inl ⟨by rfl, ?_⟩) hHeld ?_ ?_
  rotate_left
  · rintro w' ⟨s0, s1, s2⟩
    go_simp
    with_reducible rfl
  rotate_left
  · simp only [Act.put, List.setIfInBounds_toArray, List.set_cons_zero, List.set_cons_succ, i64_w, i32_w]
    rfl
  refine pure_ (i := 3) (N := some 7) (v := ?_) (a' := ?_) #[true, true, true, true, false, false, false, false] rfl rfl (by kernel_rfl) (fun _ _ _ h => h) (Or.inl ⟨by rfl, ?_⟩) ?_ ?_
  rotate_left
  · intro w'
    go_simp
    with_reducible rfl
  rotate_left
  · simp only [Act.put, List.setIfInBounds_toArray, List.set_cons_zero, List.set_cons_succ, i64_w, i32_w]
    rfl
  refine take_ (i := 4) (N := some 8) (v := ?_) (a' := ?_) #[true, true, true, true, true, false, false, false] rfl rfl (by kernel_rfl) (fun _ _ _ h => h) (Or.inl ⟨by rfl, ?_⟩) hHeld ?_ ?_
  rotate_left
  · rintro w' ⟨s0, s1, s2⟩
    go_simp
    with_reducible rfl
  rotate_left
  · simp only [Act.put, List.setIfInBounds_toArray, List.set_cons_zero, List.set_cons_succ, i64_w, i32_w]
    rfl
  refine one_ (i := 5) (N := some 9) #[true, true, true, true, true, true, false, false] rfl rfl (by kernel_rfl) (by decide) (fun K hK => ?_)
  refine goes_ Try.func13 (by kernel_rfl) rfl #[.slice A1 l1.length c1, .string x.f0] (by rfl) rfl rfl (by (try simp only [List.map_toArray, List.map_cons, List.map_nil]); first | done | rfl) ?_
  refine (HOF.out _ HW.out).mono ?_
  rintro e w' ⟨rfl, hb1⟩
  refine ⟨_, rfl, ?_⟩
  have HB1 := Aside0.mk (below_step HW.out hb1)
  have BK1 := Aside0.mk (blk_below BK.out hb1)
  have BB1 := Aside0.mk (blk_below BB.out hb1)
  clear hb1
  refine hK.out _ _ ⟨(blk_cell BK1.out 0).trans rfl, (blk_cell BK1.out 1).trans rfl, (blk_cell BB1.out 0).trans rfl⟩ (fun hHeld => ?_)
  clear hK K
  refine norm_ (a' := ?_) ?_ ?_
  rotate_left
  · show Act.put _ (some 9) _ = _
    simp only [Act.put, List.setIfInBounds_toArray, List.set_cons_zero, List.set_cons_succ, i64_w, i32_w]
    rfl
  refine pure_ (i := 6) (N := some 10) (v := ?_) (a' := ?_) #[true, true, true, true, true, true, true, false] rfl rfl (by kernel_rfl) (fun _ _ _ h => h) (Or.inl ⟨by rfl, ?_⟩) ?_ ?_
  rotate_left
  · intro w'
    go_simp
    with_reducible rfl
  rotate_left
  · simp only [Act.put, List.setIfInBounds_toArray, List.set_cons_zero, List.set_cons_succ, i64_w, i32_w]
    rfl
  refine pure_ (i := 7) (N := some 3) (v := ?_) (a' := ?_) #[true, true, true, true, true, true, true, true] rfl rfl (by kernel_rfl) (fun _ _ _ h => h) (Or.inl ⟨by rfl, ?_⟩) ?_ ?_
  rotate_left
  · intro w'
    go_simp
    with_reducible rfl
  rotate_left
  · simp only [Act.put, List.setIfInBounds_toArray, List.set_cons_zero, List.set_cons_succ, i64_w, i32_w]
    rfl
  refine done_ (by kernel_rfl) ?_
  go_wp2_with fail
  go_ret
  exact ⟨rfl, HB1.out⟩
def vec_Within.f (l0 : List S47) (l1 : List S47) : Option Bool := if (l0.all fun x => (vec_Of.f l1 x.f0).isSome) = true then some (!(l0.any fun x => decide (x.f1 > (vec_Of.f l1 x.f0).getD 0))) else none
set_option maxHeartbeats 800000 in
set_option maxRecDepth 100000 in
theorem vec_Within.calls (A0 : Option Addr) (c0 : Nat) (l0 : List S47) (A1 : Option Addr) (c1 : Nat) (l1 : List S47) (r : Bool) (w : World) (hr0 : Kd.C k47 w A0 l0.length l0) (hc0 : l0.length ≤ c0) (hr1 : Kd.C k47 w A1 l1.length l1) (hc1 : l1.length ≤ c1) (h : vec_Within.f l0 l1 = some r) :
    Calls Try.prog 15 #[.slice A0 l0.length c0, .slice A1 l1.length c1] w fun e w' => e = .returned (.bool r) ∧ Below w.heap.size w w' := by
  have hall : ∀ x ∈ l0, (vec_Of.f l1 x.f0).isSome = true := by
    by_cases hx : (l0.all fun x => (vec_Of.f l1 x.f0).isSome) = true
    · exact List.all_eq_true.mp hx
    · rw [vec_Within.f, if_neg hx] at h; cases h
  have hr : (!(l0.any fun x => decide (x.f1 > (vec_Of.f l1 x.f0).getD 0))) = r := by
    rw [vec_Within.f, if_pos (List.all_eq_true.mpr hall)] at h; exact Option.some.inj h
  rw [← idxI_any] at hr
  have hix := fun (W : World) (hW : Below w.heap.size w W) (hb : W.heap[w.heap.size]? = some (.cells #[.slice A1 l1.length c1] 26 (0, 0))) => vecw_index A0 c0 l0 (.pointer (some ⟨w.heap.size, 0, none⟩)) (fun x => decide (x.f1 > (vec_Of.f l1 x.f0).getD 0)) W (Kd.C_below hr0 hW) (fun x W2 hx hW2 => by
    obtain ⟨n, hn⟩ := Option.isSome_iff_exists.mp (hall x hx)
    have := vecw_pred x w.heap.size A1 c1 l1 n W2 (blk_below hb hW2) (Kd.C_below (Kd.C_below hr1 hW) hW2) hc1 hn
    rw [hn]; exact this)
  generalize idxI (fun x => decide (x.f1 > (vec_Of.f l1 x.f0).getD 0)) l0 = q at hr hix
  have HR := Aside0.mk hr
  have HIX := Aside0.mk hix
  have HB := Aside0.mk (Below.refl w.heap.size w)
  clear hr hix hr0 hr1 h hall
  go_enter Try.func15, Try.ntmps15
  go_wp2_with fail
  refine (vecw_contains A0 l0.length c0 _ q _ (HIX.out _ (below_alloc HB.out _) (blk_new w _))).mono ?_
  rintro e w' ⟨rfl, hb⟩
  have HB1 := Aside0.mk (below_step (below_alloc HB.out _) hb)
  clear hb
  go_wp2_with fail
  go_ret
  exact ⟨by rw [← HR.out]; rfl, HB1.out⟩

/-! ### vec_At_38: function 38 -/
def vec_At_38.f (l0 : List (S47)) : Option ((List (S47))) := (some (([] : List (S47)) : List (S47))).bind fun y114 => (if y114.length + l0.length < 5864062014805 then (some (y114 ++ l0)) else (none))
set_option maxHeartbeats 8000000 in
set_option maxRecDepth 100000 in
theorem vec_At_38.calls_some (ad0 : Addr) (c0 : Nat) (l0 : List (S47)) (r : List (S47)) (w : World) (hr0 : Kd.C k47 w (some ad0) l0.length l0) (hc0 : l0.length ≤ c0) (h : vec_At_38.f l0 = some r) :
    Calls Try.prog 38 #[.slice (some ad0) l0.length c0] w fun e w' => ∃ v0_ : Value, e = .returned (v0_) ∧ Kd.R k47 47 w' w.heap.size (fun _ => True) v0_ r ∧ Below w.heap.size w w' := by
  have HR0 := Aside0.mk hr0
  have HC0 := Aside0.mk hc0
  clear hr0 hc0
  have HB := Aside0.mk (Below.refl w.heap.size w)
  have H : ((some (([] : List (S47)) : List (S47))).bind fun y114 => (if y114.length + l0.length < 5864062014805 then (some (y114 ++ l0)) else (none))) = some r := h
  clear h
  obtain ⟨y114, hy114⟩ : ∃ y_ : List (S47), y_ = (([] : List (S47))) := ⟨_, rfl⟩
  replace H : (if y114.length + l0.length < 5864062014805 then (some (y114 ++ l0)) else (none)) = some r := by first | (rw [hy114]; with_reducible exact H) | (have H2_ := (Option.bind_some _ _).symm.trans H; rw [hy114]; with_reducible exact H2_) | (have H2_ := (Option.bind_some _ _).symm.trans H; with_reducible exact H2_) | with_reducible exact H | (rw [hy114]; exact H) | exact H
  have Ny114 := Aside0.mk hy114
  clear hy114
  by_cases c2 : y114.length + l0.length < 5864062014805
  · rw [if_pos c2] at H
    have LMc2 := Aside0.mk c2
    clear c2
    obtain ⟨y117, hy117⟩ : ∃ y_ : List (S47), y_ = (y114 ++ l0) := ⟨_, rfl⟩
    replace H : (some y117) = some r := by first | (rw [hy117]; with_reducible exact H) | (have H2_ := (Option.bind_some _ _).symm.trans H; rw [hy117]; with_reducible exact H2_) | (have H2_ := (Option.bind_some _ _).symm.trans H; with_reducible exact H2_) | with_reducible exact H | (rw [hy117]; exact H) | exact H
    have Ny117 := Aside0.mk hy117
    clear hy117
    obtain rfl := Option.some.inj H
    have hnq_ : ∀ W : World, (binOp .eql 26 (.slice (some ad0) l0.length c0) (.slice none 0 0)).run Try.prog W = .ok (.bool ((some ad0) : Option Addr).isNone) W := fun W => by first | exact Lib.run_eql_slice_nil W 26 47 _ _ _ 0 0 Try.underlying26 | exact Lib.run_eql_slice_nil W 26 47 _ _ _ Try.underlying26
    go_enter Try.func38, Try.ntmps38
    go_wp2_with (first | ((with_reducible refine gate_dst (N := 5) rfl ?_); refine Kd.R_lit k47 _ 47 ?hg (N := 5) ?hd (xs := ([] : List (S47))) (inner := []) (ok := fun _ => True) (okp := fun _ => True) ?hr ?hp (fun _ hk => hk) trivial (Below.refl _ _) (Nat.le_refl _) (by simp) ?_; (case hd => rfl); (case hg => rfl); (case hr => first | (go_simp; done) | (go_simp; rfl)); (case hp => exact (Reps.none _ _)); intro v115 w3 ho4 hb hg_ hnew_; clear hg_ hnew_; (first | rw [← Ny114.out] at ho4 | (simp only [Int.reduceToNat] at ho4; rw [← Ny114.out] at ho4)); have n0_ := Aside0.mk (Kd.R_lower ho4 (below_size (by repeat (first | (with_reducible first | exact HB.out | apply below_alloc | apply pw_below_drewN | apply below_drew1) | exact HB.out)))); have n1_ := Aside0.mk (below_step (by repeat (first | (with_reducible first | exact HB.out | apply below_alloc | apply pw_below_drewN | apply below_drew1) | exact HB.out)) hb); clear HB; have HO116 := n0_; have HB := n1_; clear n0_ n1_; clear hb ho4) | ((with_reducible refine gate_builtin (b := .append) (xs := #[.tmp 5, .tmp 6]) rfl ?_); at_builtin; refine Kd.R_append_rows k47 (w0 := w) w.heap.size rfl (.tmp 5) (.tmp 6) 26 47 (.agg #[(.string ⟨#[]⟩), (.int .i64 0)]) 24 rfl Try.underlying26 info47 rfl (by decide) (by omega) v115 y114 l0 _ _ _ (fun _ => True) (fun _ => False) rfl rfl ?aO ?aR (fun _ _ h => h) (fun _ h => h.elim) ?aF ?aB ?aS ?aL ?_; (case aR => repeat (first | exact (Kd.C_below HR0.out HB.out) | (with_reducible refine Kd.C_alloc ?_ _) | (with_reducible refine Kd.C_drewN ?_ _) | (with_reducible refine Kd.C_drew ?_))); (case aB => exact (by repeat (first | (with_reducible first | exact HB.out | apply below_alloc | apply pw_below_drewN | apply below_drew1) | exact HB.out))); (case aF => exact (fun _ _ => trivial)); (case aO => exact (by (with_reducible repeat (first | apply Kd.R_alloc | apply Kd.R_drewN | apply Kd.R_drew)); exact HO116.out)); (case aS => exact (below_size (by repeat (first | (with_reducible first | exact HB.out | apply below_alloc | apply pw_below_drewN | apply below_drew1) | exact HB.out)))); (case aL => have := LMc2.out; omega); intro v118 w5 ho hb hg hat; rw [← Ny117.out] at ho; have n0_ := Aside0.mk (hb); have n1_ := Aside0.mk (ho); clear HB; clear HO116; have HB := n0_; have HO119 := n1_; clear n0_ n1_; clear ho hb hg hat))
    go_ret
    exact ⟨_, by first | rfl | (simp [errW_none, errW_some] <;> rfl) | (simp [*, errW_none, errW_some] <;> rfl), by (with_reducible repeat (first | apply Kd.R_alloc | apply Kd.R_drewN | apply Kd.R_drew)); exact HO119.out, by repeat (first | (with_reducible first | exact HB.out | apply below_alloc | apply pw_below_drewN | apply below_drew1) | exact HB.out)⟩
  · rw [if_neg c2] at H
    exact absurd H (by simp)

set_option maxHeartbeats 8000000 in
set_option maxRecDepth 100000 in
theorem vec_At_38.calls (A0 : Option Addr) (c0 : Nat) (l0 : List (S47)) (r : List (S47)) (w : World) (hr0 : Kd.C k47 w A0 l0.length l0) (hc0 : l0.length ≤ c0) (h : vec_At_38.f l0 = some r) :
    Calls Try.prog 38 #[.slice A0 l0.length c0] w fun e w' => ∃ v0_ : Value, e = .returned (v0_) ∧ Kd.R k47 47 w' w.heap.size (fun _ => True) v0_ r ∧ Below w.heap.size w w' := by
  cases A0 with
  | some ad0 => exact vec_At_38.calls_some ad0 c0 l0 r w hr0 hc0 h
  | none =>
    have hl : l0 = [] := by
      cases l0 with
      | nil => rfl
      | cons x t => obtain ⟨ad, e, _⟩ := hr0.2.2 (by simp); cases e
    subst hl
    have hr : r = [] := by simpa [vec_At_38.f] using h.symm
    subst hr
    clear h hr0
    have hnq_ : ∀ W : World, (binOp .eql 26 (.slice none 0 c0) (.slice none 0 0)).run Try.prog W = .ok (.bool (none : Option Addr).isNone) W := fun W => by first | exact Lib.run_eql_slice_nil W 26 47 _ _ _ 0 0 Try.underlying26 | exact Lib.run_eql_slice_nil W 26 47 _ _ _ Try.underlying26
    simp only [List.length_nil]
    go_enter Try.func38, Try.ntmps38
    go_wp2
    go_ret
    exact ⟨_, rfl, Kd.R_nil _ _ _ _ _, Below.refl _ _⟩

/-! ### vec_Set: function 16 -/
theorem vecs_hov (w : World) (vb b off lb cb m vc : Nat) (tA tB : TypeId) (kA kB : Nat) (hvb : vb ≠ b) (hsa : w.shape? vb = some (tA, kA)) (hsb : w.shape? b = some (tB, kB)) (hkB : kB ≠ 0) (hfa : w.frozen? ⟨vb, 0, none⟩ = false) (hfe : w.frozen? ⟨vb, kA, none⟩ = false) :
    (callFunc 46 #[.slice (some ⟨vb, 0, none⟩) m vc, .slice (some ⟨b, off, none⟩) lb cb]).run Try.prog w = .ok (.value (.bool false)) w := by
  rw [run_callFunc_extern Try.func46 (by kernel_rfl) (by kernel_rfl) (by kernel_rfl) (e := Extern.SlicesOverlaps.overlaps #[25, 25] #[4]) (by kernel_rfl),
    Lib.run_overlaps_apart w 25 4 47 Try.underlying25 2 (fun w => by obtain ⟨i0, hi, h0, h1, h2⟩ := info_parts info47; simp [sizeOf, typeInfo, hi, h1]) ⟨vb, 0, none⟩ ⟨b, off, none⟩ m vc lb cb hvb tA tB kA kB hsa hsb hkB hfa hfe]
  rfl
set_option maxHeartbeats 4000000 in
set_option maxRecDepth 100000 in
theorem vecs_insert_room (w : World) (base : Nat) (ok okp : Nat → Prop) (g cap : Nat) (cur : Array Value) (l : List S47) (i : Nat) (x : S47) (cs : List Value) (vb : Nat) (tv : TypeId)
    (hg : base ≤ g) (hk : ok g) (hh : w.heap[g]? = some (.cells cur 47 (0, 0))) (hc : l.length + 1 ≤ cap) (h3 : cap ≤ maxLen) (h4 : cur.size = cap * 2) (hp : Reps (Kd.M k47 w base (fun k => ok k ∧ k ≠ g)) 2 l (cur.toList.take (l.length * 2)))
    (hi : i < l.length) (hx : Kd.M k47 w base okp x cs) (hokp : ∀ k, okp k → ok k ∧ k ≠ g) (hv : w.heap[vb]? = some (.cells cs.toArray tv (0, 0))) (hvb : vb ≠ g) :
    Calls Try.prog 39 #[.slice (some ⟨g, 0, none⟩) l.length cap, .int .i64 i, .slice (some ⟨vb, 0, none⟩) 1 1] w fun e w' => ∃ v' : Value, e = .returned v' ∧ Kd.R k47 47 w' base ok v' (l.take i ++ x :: l.drop i) ∧ w.grownBy w' (some g) := by
  obtain ⟨i0, hi0, hz0, hsz0, hby0⟩ := info_parts info47
  have hR : Kd.R k47 47 ((w.drew.setCells g ((i + 1) * 2) ((cur.toList.take (l.length * 2)).drop (i * 2))).setCells g (i * 2) cs) base ok (.slice (some ⟨g, 0, none⟩) (l.length + 1) cap) (l.take i ++ x :: l.drop i) ∧ w.grownBy ((w.drew.setCells g ((i + 1) * 2) ((cur.toList.take (l.length * 2)).drop (i * 2))).setCells g (i * 2) cs) (some g) := R_insert_room (d := k47) (e := 47) hg hk hh hc h3 h4 hp (Nat.le_of_lt hi) hx hokp 1
  have hcl : cs.length = 2 := (Kd.K_len k47 (Kd.K_of_M k47 hx))
  have h1v : ∀ u ∈ cs, u.oneCell' = true := Kd.K_one k47 (Kd.K_of_M k47 hx)
  have h1c := cells_one (d := k47) hp (by decide : 0 < 2)
  have hil : (cur.toList.take (l.length * 2)).length = l.length * 2 := hp.1
  generalize hinner : cur.toList.take (l.length * 2) = inner at hR h1c hil
  have hM : maxLen = 9223372036854775807 := rfl
  have hm0 : cap ≤ 9223372036854775807 := by rw [← hM]; exact h3
  have hcell : ∀ j u, inner[j]? = some u → w.cell? ⟨g, j, none⟩ = some u := fun j u hj => by
    rw [blk_cell hh j, ← Array.getElem?_toList]
    rw [← hinner, List.getElem?_take] at hj
    split at hj
    · exact hj
    · cases hj
  have hsp : ∀ j, j < cap * 2 → (w.cell? ⟨g, j, none⟩).isSome = true := fun j hj => by
    rw [blk_cell hh j, Array.getElem?_eq_getElem (by omega)]; rfl
  have hfz : ∀ j, w.frozen? ⟨g, j, none⟩ = false := fun j => blk_frozen hh j
  have hvs : ∀ j u, cs[j]? = some u → w.cell? ⟨vb, j, none⟩ = some u := fun j u hj => by
    rw [blk_cell hv j]; simpa using hj
  have hsa : w.shape? vb = some (tv, cs.length) := by simp [World.shape?, hv]
  have hsb : w.shape? g = some (47, cap * 2) := by simp [World.shape?, hh, h4]
  have hov : ∀ W lb cb, (∀ k, W.heap[k]? = w.heap[k]?) → (callFunc 46 #[.slice (some ⟨vb, 0, none⟩) 1 1, .slice (some ⟨g, (i + 1) * 2, none⟩) lb cb]).run Try.prog W = .ok (.value (.bool false)) W := fun W lb cb hW =>
    vecs_hov W vb g ((i + 1) * 2) lb cb 1 1 tv 47 cs.length (cap * 2) hvb (by unfold World.shape? at hsa ⊢; rw [hW]; exact hsa) (by unfold World.shape? at hsb ⊢; rw [hW]; exact hsb) (by omega) (by unfold World.frozen?; simp [hW, hv]) (by unfold World.frozen?; simp [hW, hv])
  have hdl : (inner.drop (i * 2)).length = (l.length - i) * 2 := by rw [List.length_drop, hil, Nat.sub_mul]
  have hsz : (Try.prog.info? 47).map (·.size) = some 2 := by rw [hi0]; simp [hsz0]
  have hcp1 : ∀ (W : World), (∀ a, W.cell? a = w.cell? a) → (∀ a, W.frozen? a = w.frozen? a) → ∀ ty dc sc, (Builtin.copy_ #[26, 26] ty #[.slice (some ⟨g, (i + 1) * 2, none⟩) (l.length - i) dc, .slice (some ⟨g, i * 2, none⟩) (l.length + 1 - i) sc]).run Try.prog W = .ok (goInt (l.length - i : Nat)) (W.setCells g ((i + 1) * 2) (inner.drop (i * 2))) := fun W hW hF ty dc sc => by
    have := run_copy_k (P := Try.prog) W 26 26 ty 47 2 g ((i + 1) * 2) (l.length - i) dc ⟨g, i * 2, none⟩ (l.length + 1 - i) sc (inner.drop (i * 2)) Try.underlying26 hsz (by rw [hdl]; congr 1; simp only [Nat.min_def]; split <;> omega)
      (fun j u hj => by rw [Addr.add_lit, hW]; exact hcell _ u (by rwa [List.getElem?_drop] at hj))
      (fun j hj => by rw [hW]; exact hsp _ (by omega)) (fun j hj => by rw [hF]; exact hfz _) (fun u hu => h1c u (List.mem_of_mem_drop hu))
    rw [this]
    congr 2
    simp only [Nat.min_def]; split <;> omega
  have hcp2 : ∀ (W : World), (∀ a, W.cell? a = (w.setCells g ((i + 1) * 2) (inner.drop (i * 2))).cell? a) → (∀ a, W.frozen? a = w.frozen? a) → ∀ ty dc sc, (Builtin.copy_ #[26, 25] ty #[.slice (some ⟨g, i * 2, none⟩) (l.length + 1 - i) dc, .slice (some ⟨vb, 0, none⟩) 1 sc]).run Try.prog W = .ok (goInt (1 : Nat)) (W.setCells g (i * 2) cs) := fun W hW hF ty dc sc => by
    have := run_copy_k (P := Try.prog) W 26 25 ty 47 2 g (i * 2) (l.length + 1 - i) dc ⟨vb, 0, none⟩ 1 sc cs Try.underlying26 hsz (by rw [hcl]; simp only [Nat.min_def]; split <;> omega)
      (fun j u hj => by rw [Addr.add_lit, Nat.zero_add, hW, World.cell?_setCells_out _ _ _ _ _ (fun h _ => absurd h hvb)]; exact hvs _ u hj)
      (fun j hj => by
        rw [hW]
        by_cases hin : (i + 1) * 2 ≤ i * 2 + j
        · omega
        · rw [World.cell?_setCells_out _ _ _ _ _ (fun _ _ => Or.inl (by show i * 2 + j < (i + 1) * 2; omega))]
          exact hsp _ (by omega))
      (fun j hj => by rw [hF]; exact hfz _) h1v
    rw [this]
    congr 2
    simp only [Nat.min_def]; split <;> omega
  have e1 : ((i : Int) + 1) = ((i + 1 : Nat) : Int) := by omega
  have hw1 : IntKind.i64.wrap ((i : Int) + 1) = (i : Int) + 1 := by rw [IntKind.wrap_i64]; omega
  have hw2 : IntKind.i64.wrap ((l.length : Int) + 1) = (l.length : Int) + 1 := by rw [IntKind.wrap_i64]; omega
  have c1 := cut_from (P := Try.prog) 26 47 .i64 Try.underlying26 hi0 2 hsz0 (some ⟨g, 0, none⟩) l.length cap (i : Int) (by omega) (by omega)
  have c2 : ∀ W : World, (Instr.slice 26 (.slice (some ⟨g, 0, none⟩) l.length cap) none (some (.int .i64 ((l.length : Int) + 1))) none).run Try.prog W = .ok (.slice (some ⟨g, 0, none⟩) (l.length + 1) cap) W := by
    intro W
    have hel : (Try.prog).elem 26 = 47 := by simp [Program.elem, Try.underlying26]
    rw [run_slice_h W 26 (some ⟨g, 0, none⟩) l.length cap (by rw [hel]; exact Try.underlying26) .i64 ((l.length : Int) + 1) (by omega) (by omega), hel]
    simp [sizeOf, typeInfo, hi0, sliced, Result.andThen, Addr.add]
  have c3 : ∀ W : World, (Instr.slice 26 (.slice (some ⟨g, 0, none⟩) (l.length + 1) cap) (some (.int .i64 ((i : Int) + 1))) none none).run Try.prog W = .ok (.slice (some ⟨g, (i + 1) * 2, none⟩) (l.length - i) (cap - (i + 1))) W := by
    intro W
    rw [e1, cut_from (P := Try.prog) 26 47 .i64 Try.underlying26 hi0 2 hsz0 (some ⟨g, 0, none⟩) (l.length + 1) cap ((i + 1 : Nat) : Int) (by omega) (by omega) W, Int.toNat_natCast, if_neg (by omega), Option.map_some, Addr.add_lit, Nat.zero_add, show l.length + 1 - (i + 1) = l.length - i by omega]
  have c4 : ∀ W : World, (Instr.slice 26 (.slice (some ⟨g, 0, none⟩) (l.length + 1) cap) (some (.int .i64 (i : Int))) none none).run Try.prog W = .ok (.slice (some ⟨g, i * 2, none⟩) (l.length + 1 - i) (cap - i)) W := by
    intro W
    rw [cut_from (P := Try.prog) 26 47 .i64 Try.underlying26 hi0 2 hsz0 (some ⟨g, 0, none⟩) (l.length + 1) cap (i : Int) (by omega) (by omega) W, Int.toNat_natCast, if_neg (by omega), Option.map_some, Addr.add_lit, Nat.zero_add]
  have hb1 : decide ((1 : Int) = 0) = false := rfl
  have hb2 : decide ((i : Int) = (l.length : Int)) = false := by simp; omega
  have hb3 : decide ((cap : Int) < (l.length : Int) + 1) = false := by simp; omega
  have hovw := fun lb cb => hov w lb cb (fun _ => rfl)
  have HR := Aside0.mk hR
  clear hR hov e1
  go_enter Try.func39, Try.ntmps39
  go_wp2_with (simp only [hovw])
  have hc1 := hcp1 w.drew (fun _ => rfl) (fun _ => rfl) 3 (cap - (i + 1)) (cap - i)
  have hc2 := hcp2 (w.drew.setCells g ((i + 1) * 2) (inner.drop (i * 2))) (fun _ => by rw [← drew_setCells]; rfl) (fun _ => World.frozen?_setCells _ _ _ _ _) 3 (cap - i) 1
  have mixed : (Try.prog).follows .mixedOrders = true := rfl
  go_region_law_o (refine step_copy_runI rfl _ _ 26 26 rfl (.slice (some ⟨g, (i + 1) * 2, none⟩) (l.length - i) (cap - (i + 1))) (.slice (some ⟨g, i * 2, none⟩) (l.length + 1 - i) (cap - i)) (by simp [Act.eval, Act.put]) (by simp [Act.eval, Act.put]) hc1 ?_)
  clear hc1
  go_wp2_with (at_builtin; refine wpList_copy_runI _ rfl _ _ 26 25 rfl _ _ rfl rfl hc2 ?_)
  go_ret
  exact ⟨_, rfl, HR.out.1, HR.out.2⟩
set_option maxHeartbeats 4000000 in
set_option maxRecDepth 100000 in
theorem vecs_insert_grow (w : World) (base : Nat) (ok okp : Nat → Prop) (g cap : Nat) (cur : Array Value) (l : List S47) (i : Nat) (x : S47) (cs : List Value) (vb : Nat) (tv : TypeId)
    (hbase : base ≤ w.heap.size) (hfresh : ∀ k, w.heap.size ≤ k → ok k) (hh : w.heap[g]? = some (.cells cur 47 (0, 0))) (hnc : l.length ≤ cap) (hc : cap < l.length + 1) (h4 : cur.size = cap * 2) (hp : Reps (Kd.M k47 w base (fun k => ok k ∧ k ≠ g)) 2 l (cur.toList.take (l.length * 2)))
    (hi : i < l.length) (hx : Kd.M k47 w base okp x cs) (hokp : ∀ k, okp k → ok k ∧ k ≠ g) (hv : w.heap[vb]? = some (.cells cs.toArray tv (0, 0))) (hvb : vb ≠ g) (hbig : (l.length + 1) * 24 ≤ 140737488355328) :
    Calls Try.prog 39 #[.slice (some ⟨g, 0, none⟩) l.length cap, .int .i64 i, .slice (some ⟨vb, 0, none⟩) 1 1] w fun e w' => ∃ v' : Value, e = .returned v' ∧ Kd.R k47 47 w' base ok v' (l.take i ++ x :: l.drop i) ∧ w.grownBy w' none := by
  obtain ⟨i0, hi0, hz0, hsz0, hby0⟩ := info_parts info47
  have hcl : cs.length = 2 := (Kd.K_len k47 (Kd.K_of_M k47 hx))
  have h1v : ∀ u ∈ cs, u.oneCell' = true := Kd.K_one k47 (Kd.K_of_M k47 hx)
  have h1c := cells_one (d := k47) hp (by decide : 0 < 2)
  have hil : (cur.toList.take (l.length * 2)).length = l.length * 2 := hp.1
  generalize hinner : cur.toList.take (l.length * 2) = inner at hp h1c hil
  have hcell : ∀ j u, inner[j]? = some u → w.cell? ⟨g, j, none⟩ = some u := fun j u hj => by
    rw [blk_cell hh j, ← Array.getElem?_toList]
    rw [← hinner, List.getElem?_take] at hj
    split at hj
    · exact hj
    · cases hj
  have hvs : ∀ j u, cs[j]? = some u → w.cell? ⟨vb, j, none⟩ = some u := fun j u hj => by
    rw [blk_cell hv j]; simpa using hj
  have hgw : g < w.heap.size := blk_lt hh
  have hvw : vb < w.heap.size := blk_lt hv
  have hsz : (Try.prog.info? 47).map (·.size) = some 2 := by rw [hi0]; simp [hsz0]
  have hdl : (inner.drop (i * 2)).length = (l.length - i) * 2 := by rw [List.length_drop, hil, Nat.sub_mul]
  have hik : i + (l.length + 1 - i) = l.length + 1 := by omega
  have hkk : (l.length : Int) + 1 - (i : Int) = ((l.length + 1 - i : Nat) : Int) := by omega
  have hold : (Builtin.firstCells i0.size i (.slice (some ⟨g, 0, none⟩) i cap)).run Try.prog w.drew = .ok (inner.take (i * 2)).toArray w.drew := by
    rw [hsz0]
    exact run_firstCells_some w.drew 2 i ⟨g, 0, none⟩ i cap (inner.take (i * 2)) (by rw [List.length_take, hil]; omega) (fun j v hj => by
      rw [Addr.add_lit, Nat.zero_add]
      rw [List.getElem?_take] at hj
      split at hj
      · exact hcell j v hj
      · cases hj)
  have hrz := Lib.run_append_grow_zeros (P := Try.prog) w 26 3 26 47 i0 _ .i64 .i64 Try.underlying26 Try.underlying3 hi0 hz0 (some ⟨g, 0, none⟩) i cap (inner.take (i * 2)) hold (l.length + 1 - i) (by omega) (by omega) (by omega) (by omega) (by rw [hby0]; omega) (by rw [hby0, hik]; exact growslice_fits hc hbig)
  rw [hik, ← hkk] at hrz
  have hGn : l.length + 1 ≤ grownCap w (l.length + 1) cap 47 := grownCap_ge w _ _ _
  have hG63 : grownCap w (l.length + 1) cap 47 ≤ maxLen := grownCap_le_maxLen w (l.length + 1) cap 47 (by unfold maxLen; omega)
  generalize grownCap w (l.length + 1) cap 47 = G at hrz hGn hG63
  generalize hROW : (inner.take (i * 2)).toArray ++ Builtin.zeroCells _ (l.length + 1 - i) ++ Builtin.zeroCells _ (G - (l.length + 1)) = ROW at hrz
  have hRl : ROW.size = G * 2 := by
    rw [← hROW]
    simp [Builtin.zeroCells, Value.cells, hil]
    omega
  have hrow : ROW.toList.take (i * 2) = inner.take (i * 2) := by
    rw [← hROW]
    simp only [Array.toList_append, List.append_assoc]
    rw [List.take_append_of_le_length (by rw [List.length_take, hil]; omega), List.take_take, Nat.min_self]
  have hR : Kd.R k47 47 (((w.alloc (.cells ROW 47)).drew.setCells w.heap.size (i * 2) cs).drew.setCells w.heap.size ((i + 1) * 2) (inner.drop (i * 2))) base ok (.slice (some ⟨w.heap.size, 0, none⟩) (l.length + 1) G) (l.take i ++ x :: l.drop i) ∧ w.grownBy (((w.alloc (.cells ROW 47)).drew.setCells w.heap.size (i * 2) cs).drew.setCells w.heap.size ((i + 1) * 2) (inner.drop (i * 2))) none :=
    R_insert_grow (d := k47) (e := 47) hbase hfresh hGn hG63 hRl (hp.imp_ fun _ _ hq => Kd.M_mono k47 (fun k hk => hk.1) hq) hrow (Nat.le_of_lt hi) (Kd.M_mono k47 (fun k hk => (hokp k hk).1) hx) 1 1
  have HR := Aside0.mk hR
  clear hR hROW hrow hp hx hokp hold
  obtain ⟨W1, hW1⟩ : ∃ W1, W1 = (w.alloc (.cells ROW 47)).drew := ⟨_, rfl⟩
  have hN : ∀ j, j < (l.length + 1) * 2 → (W1.cell? ⟨w.heap.size, j, none⟩).isSome = true := fun j hj => by
    rw [hW1]
    show ((w.alloc (.cells ROW 47)).cell? ⟨w.heap.size, j, none⟩).isSome = true
    rw [blk_cell (blk_new w (.cells ROW 47)) j, Array.getElem?_eq_getElem (by omega)]; rfl
  have hNf : ∀ j, W1.frozen? ⟨w.heap.size, j, none⟩ = false := fun j => by rw [hW1]; exact blk_frozen (blk_new w (.cells ROW 47)) j
  have hOb : ∀ j u, w.cell? ⟨g, j, none⟩ = some u → W1.cell? ⟨g, j, none⟩ = some u := fun j u h => by
    rw [hW1]; exact (((Below.refl w.heap.size w).alloc (Nat.le_refl _) (.cells ROW 47)).cell (p := ⟨g, j, none⟩) hgw).trans h
  have hOv : ∀ j u, w.cell? ⟨vb, j, none⟩ = some u → W1.cell? ⟨vb, j, none⟩ = some u := fun j u h => by
    rw [hW1]; exact (((Below.refl w.heap.size w).alloc (Nat.le_refl _) (.cells ROW 47)).cell (p := ⟨vb, j, none⟩) hvw).trans h
  have hcpA : ∀ (W : World), (∀ a, W.cell? a = W1.cell? a) → (∀ a, W.frozen? a = W1.frozen? a) → ∀ ty dc sc, (Builtin.copy_ #[26, 25] ty #[.slice (some ⟨w.heap.size, i * 2, none⟩) (l.length + 1 - i) dc, .slice (some ⟨vb, 0, none⟩) 1 sc]).run Try.prog W = .ok (goInt (1 : Nat)) (W.setCells w.heap.size (i * 2) cs) := fun W hW hF ty dc sc => by
    have := run_copy_k (P := Try.prog) W 26 25 ty 47 2 w.heap.size (i * 2) (l.length + 1 - i) dc ⟨vb, 0, none⟩ 1 sc cs Try.underlying26 hsz (by rw [hcl]; simp only [Nat.min_def]; split <;> omega)
      (fun j u hj => by rw [Addr.add_lit, Nat.zero_add, hW]; exact hOv _ u (hvs _ u hj))
      (fun j hj => by rw [hW]; exact hN _ (by omega)) (fun j hj => by rw [hF]; exact hNf _) h1v
    rw [this]
    congr 2
    simp only [Nat.min_def]; split <;> omega
  have hgN : g ≠ w.heap.size := by omega
  have hcpB : ∀ (W : World), (∀ a, W.cell? a = (W1.setCells w.heap.size (i * 2) cs).cell? a) → (∀ a, W.frozen? a = W1.frozen? a) → ∀ ty dc sc, (Builtin.copy_ #[26, 26] ty #[.slice (some ⟨w.heap.size, (i + 1) * 2, none⟩) (l.length - i) dc, .slice (some ⟨g, i * 2, none⟩) (l.length - i) sc]).run Try.prog W = .ok (goInt (l.length - i : Nat)) (W.setCells w.heap.size ((i + 1) * 2) (inner.drop (i * 2))) := fun W hW hF ty dc sc => by
    have := run_copy_k (P := Try.prog) W 26 26 ty 47 2 w.heap.size ((i + 1) * 2) (l.length - i) dc ⟨g, i * 2, none⟩ (l.length - i) sc (inner.drop (i * 2)) Try.underlying26 hsz (by rw [hdl]; simp)
      (fun j u hj => by
        rw [Addr.add_lit, hW, World.cell?_setCells_out _ _ _ _ _ (fun h _ => absurd h hgN)]
        exact hOb _ u (hcell _ u (by rwa [List.getElem?_drop] at hj)))
      (fun j hj => by rw [hW]; exact isSome_setCells _ _ _ _ (fun t ht => hN _ (by omega)) _ (hN _ (by omega)))
      (fun j hj => by rw [hF]; exact hNf _) (fun u hu => h1c u (List.mem_of_mem_drop hu))
    rw [this]
    congr 2
    simp
  have hw1 : IntKind.i64.wrap ((i : Int) + 1) = (i : Int) + 1 := by rw [IntKind.wrap_i64]; omega
  have hw2 : IntKind.i64.wrap ((l.length : Int) + 1) = (l.length : Int) + 1 := by rw [IntKind.wrap_i64]; omega
  have hw3 : IntKind.i64.wrap ((l.length : Int) + 1 - (i : Int)) = (l.length : Int) + 1 - (i : Int) := by rw [IntKind.wrap_i64]; omega
  have c1 : ∀ W : World, (Instr.slice 26 (.slice (some ⟨g, 0, none⟩) l.length cap) (some (.int .i64 (i : Int))) none none).run Try.prog W = .ok (.slice (some ⟨g, i * 2, none⟩) (l.length - i) (cap - i)) W := by
    intro W
    rw [cut_from (P := Try.prog) 26 47 .i64 Try.underlying26 hi0 2 hsz0 (some ⟨g, 0, none⟩) l.length cap (i : Int) (by omega) (by omega) W, Int.toNat_natCast, if_neg (by omega), Option.map_some, Addr.add_lit, Nat.zero_add]
  have c2 := cut_to (P := Try.prog) 26 47 .i64 Try.underlying26 hi0 (some ⟨g, 0, none⟩) l.length cap (i : Int) (by omega) (by omega) (by omega)
  rw [Int.toNat_natCast] at c2
  have c3 : ∀ W : World, (Instr.slice 26 (.slice (some ⟨w.heap.size, 0, none⟩) (l.length + 1) G) (some (.int .i64 (i : Int))) none none).run Try.prog W = .ok (.slice (some ⟨w.heap.size, i * 2, none⟩) (l.length + 1 - i) (G - i)) W := by
    intro W
    rw [cut_from (P := Try.prog) 26 47 .i64 Try.underlying26 hi0 2 hsz0 (some ⟨w.heap.size, 0, none⟩) (l.length + 1) G (i : Int) (by omega) (by omega) W, Int.toNat_natCast, if_neg (by omega), Option.map_some, Addr.add_lit, Nat.zero_add]
  have c4 : ∀ W : World, (Instr.slice 26 (.slice (some ⟨w.heap.size, 0, none⟩) (l.length + 1) G) (some (.int .i64 ((i : Int) + 1))) none none).run Try.prog W = .ok (.slice (some ⟨w.heap.size, (i + 1) * 2, none⟩) (l.length - i) (G - (i + 1))) W := by
    intro W
    rw [show ((i : Int) + 1) = ((i + 1 : Nat) : Int) by omega, cut_from (P := Try.prog) 26 47 .i64 Try.underlying26 hi0 2 hsz0 (some ⟨w.heap.size, 0, none⟩) (l.length + 1) G ((i + 1 : Nat) : Int) (by omega) (by omega) W, Int.toNat_natCast, if_neg (by omega), Option.map_some, Addr.add_lit, Nat.zero_add, show l.length + 1 - (i + 1) = l.length - i by omega]
  have hb1 : decide ((1 : Int) = 0) = false := rfl
  have hb2 : decide ((i : Int) = (l.length : Int)) = false := by simp; omega
  have hb3 : decide ((cap : Int) < (l.length : Int) + 1) = true := by simp; omega
  have ha := hcpA W1 (fun _ => rfl) (fun _ => rfl) 3 (G - i) 1
  have hb := hcpB ((W1.setCells w.heap.size (i * 2) cs).drew) (fun _ => rfl) (fun _ => World.frozen?_setCells _ _ _ _ _) 3 (G - (i + 1)) (cap - i)
  subst hW1
  have mixed : (Try.prog).follows .mixedOrders = true := rfl
  clear hcpA hcpB hOb hOv hN hNf hcell hvs h1c h1v hkk hik hdl hil hcl
  go_enter Try.func39, Try.ntmps39
  go_wp2_with (first
    | (at_builtin; refine Lib.wpList_append_run _ rfl _ _ _ _ rfl _ _ rfl rfl _ _ hrz ?_)
    | (at_builtin; refine wpList_copy_runI _ rfl _ _ 26 25 rfl _ _ rfl rfl ha ?_))
  go_region_law_o (refine step_copy_runI rfl _ _ 26 26 rfl (.slice (some ⟨w.heap.size, (i + 1) * 2, none⟩) (l.length - i) (G - (i + 1))) (.slice (some ⟨g, i * 2, none⟩) (l.length - i) (cap - i)) (by simp [Act.eval, Act.put]) (by simp [Act.eval, Act.put]) hb ?_)
  go_wp2
  go_ret
  exact ⟨_, rfl, HR.out.1, HR.out.2⟩
set_option maxHeartbeats 4000000 in
set_option maxRecDepth 100000 in
theorem vecs_insert_end (w : World) (base : Nat) (ok okp : Nat → Prop) (A : Option Addr) (cap : Nat) (l : List S47) (x : S47) (cs : List Value) (vb : Nat) (tv : TypeId)
    (hbase : base ≤ w.heap.size) (hfresh : ∀ k, w.heap.size ≤ k → ok k) (ho : Kd.R k47 47 w base ok (.slice A l.length cap) l)
    (hx : Kd.M k47 w base okp x cs) (hokp : ∀ k, okp k → ok k ∧ some k ≠ (Value.slice A l.length cap).ownBlock) (hv : w.heap[vb]? = some (.cells cs.toArray tv (0, 0))) (hbig : (l.length + 1) * 24 ≤ 140737488355328) :
    Calls Try.prog 39 #[.slice A l.length cap, .int .i64 (l.length : Int), .slice (some ⟨vb, 0, none⟩) 1 1] w fun e w' => ∃ v' : Value, e = .returned v' ∧ Kd.R k47 47 w' base ok v' (l ++ [x]) ∧ Below base w w' := by
  obtain ⟨i0, hi0, hz0, hsz0, hby0⟩ := info_parts info47
  have hcl : cs.length = 2 := (Kd.K_len k47 (Kd.K_of_M k47 hx))
  obtain ⟨v1, w1, hrun, hR1, hg1⟩ := R_append_one_run (P := Try.prog) k47 26 25 26 47 47 i0 _ 24 Try.underlying26 Try.underlying25 hi0 hz0 hsz0 hby0 rfl (by decide) (by decide) ho hx hokp hfresh (a := ⟨vb, 0, none⟩) (fun j u hj => by rw [Addr.add_lit, Nat.zero_add, blk_cell hv]; simpa using hj) 1 hbase hbig
  have hB : Below base w w1 := (Below.refl base w).grown hg1 hbase (Kd.R_base ho)
  obtain ⟨cc, hcut⟩ : ∃ cc : Option Addr, ∀ W : World, (Instr.slice 26 (.slice A l.length cap) (some (.int .i64 (l.length : Int))) none none).run Try.prog W = .ok (.slice cc (l.length - l.length) (cap - l.length)) W := by
    exact ⟨_, cut_from (P := Try.prog) 26 47 .i64 Try.underlying26 hi0 2 hsz0 A l.length cap (l.length : Int) (by omega) (by omega)⟩
  rw [Nat.sub_self] at hcut
  have hb1 : decide ((1 : Int) = 0) = false := rfl
  have HR := Aside0.mk hR1
  have HB := Aside0.mk hB
  have HN := Aside0.mk hrun
  clear ho hx hokp hv hcl hR1 hB hg1 hrun hz0 hi0
  go_enter Try.func39, Try.ntmps39
  go_wp2_with (at_builtin; refine Lib.wpList_append_run _ rfl _ _ _ _ rfl _ _ rfl rfl _ _ HN.out ?_)
  go_ret
  exact ⟨_, rfl, HR.out, HB.out⟩
theorem vecs_insert (w : World) (base : Nat) (ok okp : Nat → Prop) (v : Value) (l : List S47) (i : Nat) (x : S47) (cs : List Value) (vb : Nat) (tv : TypeId)
    (ho : Kd.R k47 47 w base ok v l) (hi : i ≤ l.length) (hbase : base ≤ w.heap.size) (hfresh : ∀ k, w.heap.size ≤ k → ok k) (hx : Kd.M k47 w base okp x cs) (hokp : ∀ k, okp k → ok k ∧ some k ≠ v.ownBlock) (hv : w.heap[vb]? = some (.cells cs.toArray tv (0, 0))) (hvb : some vb ≠ v.ownBlock) (hbig : (l.length + 1) * 24 ≤ 140737488355328) :
    Calls Try.prog 39 #[v, .int .i64 i, .slice (some ⟨vb, 0, none⟩) 1 1] w fun e w' => ∃ v' : Value, e = .returned v' ∧ Kd.R k47 47 w' base ok v' (l.take i ++ x :: l.drop i) ∧ Below base w w' := by
  by_cases he : i = l.length
  · obtain ⟨A, c, rfl⟩ := Kd.R_slice ho
    subst he
    rw [List.take_of_length_le (Nat.le_refl _), List.drop_of_length_le (Nat.le_refl _)]
    exact vecs_insert_end w base ok okp A c l x cs vb tv hbase hfresh ho hx hokp hv hbig
  · have hlt : i < l.length := by omega
    obtain ⟨g, cap, cur, rfl, hg, hk, hh, h2, h3, h4, hp⟩ := R_open ho (fun e => by rw [e] at hlt; simp at hlt)
    have hokp' : ∀ k, okp k → ok k ∧ k ≠ g := fun k hk => ⟨(hokp k hk).1, fun e => (hokp k hk).2 (by rw [e]; rfl)⟩
    have hvb' : vb ≠ g := fun e => hvb (by rw [e]; rfl)
    by_cases hc : l.length + 1 ≤ cap
    · refine (vecs_insert_room w base ok okp g cap cur l i x cs vb tv hg hk hh hc h3 h4 hp hlt hx hokp' hv hvb').mono ?_
      rintro e w' ⟨v', rfl, hR, hG⟩
      exact ⟨v', rfl, hR, (Below.refl base w).grown hG hbase (fun k e => by injection e with e; omega)⟩
    · refine (vecs_insert_grow w base ok okp g cap cur l i x cs vb tv hbase hfresh hh h2 (by omega) h4 hp hlt hx hokp' hv hvb' hbig).mono ?_
      rintro e w' ⟨v', rfl, hR, hG⟩
      exact ⟨v', rfl, hR, (Below.refl base w).grown hG hbase (fun k e => by cases e)⟩

def vec_Set.v (l0 : List S47) (a1 : ByteArray) (a2 : Int) : List S47 :=
  if rightB a1 = true ∧ 1 ≤ a2 then
    (if bsB (fun i => cmpB (l0.getD i z47).f0 a1) l0.length = true
      then l0.set (bsN (fun i => cmpB (l0.getD i z47).f0 a1) l0.length) ⟨(l0.getD (bsN (fun i => cmpB (l0.getD i z47).f0 a1) l0.length) z47).f0, mx (l0.getD (bsN (fun i => cmpB (l0.getD i z47).f0 a1) l0.length) z47).f1 (mn a2 1048576)⟩
      else l0.take (bsN (fun i => cmpB (l0.getD i z47).f0 a1) l0.length) ++ ⟨a1, mn a2 1048576⟩ :: l0.drop (bsN (fun i => cmpB (l0.getD i z47).f0 a1) l0.length))
  else l0
def vec_Set.f (l0 : List S47) (a1 : ByteArray) (a2 : Int) : Option (List S47) := if l0.length < 1000000000 then some (vec_Set.v l0 a1 a2) else none
set_option maxHeartbeats 1600000 in
set_option maxRecDepth 100000 in
theorem vec_Set.calls (A0 : Option Addr) (c0 : Nat) (l0 : List S47) (a1 : ByteArray) (a2 : Int) (r : List S47) (w : World) (hr0 : Kd.C k47 w A0 l0.length l0) (hc0 : l0.length ≤ c0) (h : vec_Set.f l0 a1 a2 = some r) :
    Calls Try.prog 16 #[.slice A0 l0.length c0, .string a1, .int .i64 a2] w fun e w' => ∃ v0_ : Value, e = .returned (v0_) ∧ Kd.R k47 47 w' w.heap.size (fun _ => True) v0_ r ∧ Below w.heap.size w w' := by
  --WALK
  have hlim : l0.length < 1000000000 := by
    by_cases hx : l0.length < 1000000000
    · exact hx
    · rw [vec_Set.f, if_neg hx] at h; cases h
  have hr : vec_Set.v l0 a1 a2 = r := by rw [vec_Set.f, if_pos hlim] at h; exact Option.some.inj h
  have HCL := Aside0.mk (vec_At_38.calls A0 c0 l0 l0 w hr0 hc0 (by simp only [vec_At_38.f, Option.bind_some, List.length_nil, List.nil_append]; rw [if_pos (by omega)]))
  have HLIM := Aside0.mk hlim
  obtain ⟨i, hi⟩ : ∃ i : Nat, bsN (fun i => cmpB (l0.getD i z47).f0 a1) l0.length = i := ⟨_, rfl⟩
  obtain ⟨b, hbb⟩ : ∃ b : Bool, bsB (fun i => cmpB (l0.getD i z47).f0 a1) l0.length = b := ⟨_, rfl⟩
  have hile : i ≤ l0.length := by rw [← hi]; exact bsI_le _ _ _ _ (Nat.zero_le _)
  have hilt : b = true → i < l0.length := fun h => by
    rw [h] at hbb
    unfold bsB at hbb
    rw [Bool.and_eq_true, decide_eq_true_eq] at hbb
    rw [← hi]; exact hbb.1
  have hfind : vec_find.f l0 a1 = some ((i : Int), b) := by rw [vec_find.f, if_pos (by omega), hi, hbb]
  have hval : rightB a1 = true → ¬ a2 < 1 → r = if b = true then l0.set i ⟨(l0.getD i z47).f0, mx (l0.getD i z47).f1 (mn a2 1048576)⟩ else l0.take i ++ ⟨a1, mn a2 1048576⟩ :: l0.drop i := fun h1 h2 => by
    rw [← hr, vec_Set.v, if_pos ⟨h1, by omega⟩, hi, hbb]
  have HV := Aside0.mk hr
  have HVAL := Aside0.mk hval
  have HFIND := Aside0.mk hfind
  have HLE := Aside0.mk hile
  have HLT := Aside0.mk hilt
  clear hr h hlim hr0 hc0 hi hbb hfind hval hile hilt
  go_enter Try.func16, Try.ntmps16
  go_wp2_with fail
  refine HCL.out.mono ?_
  rintro e w1 ⟨v1, rfl, ho1, hb1⟩
  obtain ⟨A1, c1, rfl, hc1, hr1⟩ := Kd.R_reads ho1
  have HO := Aside0.mk ho1
  have HB := Aside0.mk hb1
  have HC1 := Aside0.mk hc1
  clear ho1 hb1 hc1 hr1 HCL
  go_wp2_with fail
  refine (id_Right.calls a1 (rightB a1) w1 rfl).mono ?_
  rintro e w2 ⟨rfl, hb2⟩
  replace HO := Aside0.mk (Kd.R_below HO.out hb2)
  replace HB := Aside0.mk (below_then HB.out HB.out.size hb2)
  clear hb2
  by_cases hR : rightB a1 = true
  · have HRR := Aside0.mk hR
    by_cases hn : a2 < 1
    · have hv : r = l0 := by rw [← HV.out, vec_Set.v, if_neg (by omega)]
      have HR := Aside0.mk hv
      have hnb : decide (a2 < 1) = true := decide_eq_true hn
      generalize rightB a1 = b1 at hR
      subst hR
      clear hn hv
      go_wp2_with fail
      go_ret
      exact ⟨_, rfl, by rw [HR.out]; exact HO.out, HB.out⟩
    · have hnb : decide (a2 < 1) = false := decide_eq_false hn
      have hv := HVAL.out hR (by omega)
      have HR := Aside0.mk hv
      generalize rightB a1 = b1 at hR
      subst hR
      clear hn hv
      by_cases hq : (1048576 : Int) < a2
      · have HM := Aside0.mk (show mn a2 1048576 = 1048576 from if_pos hq)
        have hqb := eq_true hq
        clear hq
        go_wp2_with fail
        refine (vec_find.calls A1 c1 l0 a1 (i : Int) b w2 (Kd.R_reads' HO.out).2.2 HC1.out HFIND.out).mono ?_
        rintro e w3 ⟨rfl, hb3⟩
        replace HO := Aside0.mk (Kd.R_below HO.out hb3)
        replace HB := Aside0.mk (below_then HB.out HB.out.size hb3)
        clear hb3
        cases b with
        | false =>
          go_wp2_with fail
          refine (vecs_insert _ w.heap.size (fun _ => True) (fun _ => False) (.slice A1 l0.length c1) l0 i ⟨a1, 1048576⟩ [.string a1, .int .i64 1048576] w3.heap.size _ (Kd.R_below HO.out (below_alloc (Below.refl _ _) _)) HLE.out ?_ (fun _ _ => trivial) (k47_mkM _ _ _ ⟨a1, 1048576⟩) (fun _ h => h.elim) (blk_new w3 _) ?_ (by have := HLIM.out; omega)).mono ?_
          · exact Nat.le_trans (below_size HB.out) (by simp)
          · intro e; have := Kd.R_lt HO.out _ e.symm; omega
          rintro e w4 ⟨v4, rfl, hR4, hB4⟩
          have HO4 := Aside0.mk hR4
          have HB4 := Aside0.mk ((below_alloc HB.out _).trans hB4)
          clear hR4 hB4
          go_wp2_with fail
          go_ret
          exact ⟨_, rfl, by rw [HR.out, if_neg (by simp), HM.out]; exact HO4.out, HB4.out⟩
        | true =>
          have hlt := HLT.out rfl
          obtain ⟨g, cap, cur, ev, hg, _, hh, _, _, hcs, hp⟩ := R_open HO.out (fun e => by rw [e] at hlt; simp at hlt)
          injection ev with eA _ ec
          subst eA; subst ec
          have pm := eq_true (show (0 : Int) ≤ (i : Int) by omega)
          have qm := eq_true (show (i : Int) < (l0.length : Int) by omega)
          obtain ⟨ad, hA, hx0, hx1⟩ := at_T47 (Kd.R_reads' HO.out).2.2 (i : Int) (by omega) (by omega)
          injection hA with hA
          subst hA
          have hn1 : rd_T47 l0 (i : Int) = l0.getD i z47 := rfl
          rw [hn1] at hx0 hx1
          generalize hel : l0.getD i z47 = el at hx0 hx1 HR
          have hy0 : w3.cell? ⟨g, i * 2, none⟩ = some (.string el.f0) := by rw [← hx0, Int.toNat_natCast, Addr.add_lit, Nat.zero_add]
          have hy1 : w3.cell? ⟨g, i * 2 + 1, none⟩ = some (.int .i64 el.f1) := by rw [← hx1, Int.toNat_natCast, Addr.add_lit, Nat.zero_add]
          have hz1 : w3.frozen? ⟨g, i * 2 + 1, none⟩ = false := blk_frozen hh _
          have hset : ∀ m : Int, Kd.R k47 47 (w3.setCell ⟨g, i * 2 + 1, none⟩ (.int .i64 m)) w.heap.size (fun _ => True) (.slice (some ⟨g, 0, none⟩) l0.length c1) (l0.set i ⟨el.f0, m⟩) ∧ Below w.heap.size w (w3.setCell ⟨g, i * 2 + 1, none⟩ (.int .i64 m)) := fun m => by
            have h := (Kd.R_seg (d := k47) (W := w3) (okp := fun _ => False) HO.out (i : Int) (by omega) (by omega) (c := [.string el.f0, .int .i64 el.f1]) (seg := [.int .i64 m]) (j := 1) rfl (fun j u hj => by
              rcases j with _ | _ | j
              · cases hj; rw [Int.toNat_natCast]; exact hy0
              · cases hj; rw [Int.toNat_natCast]; exact hy1
              · cases hj) (show 1 + 1 ≤ 2 by decide) (x' := ⟨el.f0, m⟩) (k47_mkM _ _ _ ⟨el.f0, m⟩) (fun _ h => h.elim)).1
            exact ⟨h, below_set HB.out hg⟩
          have HS := Aside0.mk hset
          clear hset hx0 hx1 hp hcs hg hel
          by_cases hmx : el.f1 < 1048576
          · have hmb := eq_true hmx
            have HX := Aside0.mk (show mx el.f1 1048576 = 1048576 from if_pos hmx)
            clear hmx
            go_wp2_with fail
            go_ret
            exact ⟨_, rfl, by have h_ := HR.out; (first | rw [if_pos rfl] at h_ | skip); rw [HM.out, HX.out] at h_; rw [h_]; exact (HS.out _).1, (HS.out _).2⟩
          · have hmb := eq_false hmx
            have HX := Aside0.mk (show mx el.f1 1048576 = el.f1 from if_neg hmx)
            clear hmx
            go_wp2_with fail
            go_ret
            exact ⟨_, rfl, by have h_ := HR.out; (first | rw [if_pos rfl] at h_ | skip); rw [HM.out, HX.out] at h_; rw [h_]; exact (HS.out _).1, (HS.out _).2⟩
      · have HM := Aside0.mk (show mn a2 1048576 = a2 from if_neg hq)
        have hqb := eq_false hq
        clear hq
        go_wp2_with fail
        refine (vec_find.calls A1 c1 l0 a1 (i : Int) b w2 (Kd.R_reads' HO.out).2.2 HC1.out HFIND.out).mono ?_
        rintro e w3 ⟨rfl, hb3⟩
        replace HO := Aside0.mk (Kd.R_below HO.out hb3)
        replace HB := Aside0.mk (below_then HB.out HB.out.size hb3)
        clear hb3
        cases b with
        | false =>
          go_wp2_with fail
          refine (vecs_insert _ w.heap.size (fun _ => True) (fun _ => False) (.slice A1 l0.length c1) l0 i ⟨a1, a2⟩ [.string a1, .int .i64 a2] w3.heap.size _ (Kd.R_below HO.out (below_alloc (Below.refl _ _) _)) HLE.out ?_ (fun _ _ => trivial) (k47_mkM _ _ _ ⟨a1, a2⟩) (fun _ h => h.elim) (blk_new w3 _) ?_ (by have := HLIM.out; omega)).mono ?_
          · exact Nat.le_trans (below_size HB.out) (by simp)
          · intro e; have := Kd.R_lt HO.out _ e.symm; omega
          rintro e w4 ⟨v4, rfl, hR4, hB4⟩
          have HO4 := Aside0.mk hR4
          have HB4 := Aside0.mk ((below_alloc HB.out _).trans hB4)
          clear hR4 hB4
          go_wp2_with fail
          go_ret
          exact ⟨_, rfl, by rw [HR.out, if_neg (by simp), HM.out]; exact HO4.out, HB4.out⟩
        | true =>
          have hlt := HLT.out rfl
          obtain ⟨g, cap, cur, ev, hg, _, hh, _, _, hcs, hp⟩ := R_open HO.out (fun e => by rw [e] at hlt; simp at hlt)
          injection ev with eA _ ec
          subst eA; subst ec
          have pm := eq_true (show (0 : Int) ≤ (i : Int) by omega)
          have qm := eq_true (show (i : Int) < (l0.length : Int) by omega)
          obtain ⟨ad, hA, hx0, hx1⟩ := at_T47 (Kd.R_reads' HO.out).2.2 (i : Int) (by omega) (by omega)
          injection hA with hA
          subst hA
          have hn1 : rd_T47 l0 (i : Int) = l0.getD i z47 := rfl
          rw [hn1] at hx0 hx1
          generalize hel : l0.getD i z47 = el at hx0 hx1 HR
          have hy0 : w3.cell? ⟨g, i * 2, none⟩ = some (.string el.f0) := by rw [← hx0, Int.toNat_natCast, Addr.add_lit, Nat.zero_add]
          have hy1 : w3.cell? ⟨g, i * 2 + 1, none⟩ = some (.int .i64 el.f1) := by rw [← hx1, Int.toNat_natCast, Addr.add_lit, Nat.zero_add]
          have hz1 : w3.frozen? ⟨g, i * 2 + 1, none⟩ = false := blk_frozen hh _
          have hset : ∀ m : Int, Kd.R k47 47 (w3.setCell ⟨g, i * 2 + 1, none⟩ (.int .i64 m)) w.heap.size (fun _ => True) (.slice (some ⟨g, 0, none⟩) l0.length c1) (l0.set i ⟨el.f0, m⟩) ∧ Below w.heap.size w (w3.setCell ⟨g, i * 2 + 1, none⟩ (.int .i64 m)) := fun m => by
            have h := (Kd.R_seg (d := k47) (W := w3) (okp := fun _ => False) HO.out (i : Int) (by omega) (by omega) (c := [.string el.f0, .int .i64 el.f1]) (seg := [.int .i64 m]) (j := 1) rfl (fun j u hj => by
              rcases j with _ | _ | j
              · cases hj; rw [Int.toNat_natCast]; exact hy0
              · cases hj; rw [Int.toNat_natCast]; exact hy1
              · cases hj) (show 1 + 1 ≤ 2 by decide) (x' := ⟨el.f0, m⟩) (k47_mkM _ _ _ ⟨el.f0, m⟩) (fun _ h => h.elim)).1
            exact ⟨h, below_set HB.out hg⟩
          have HS := Aside0.mk hset
          clear hset hx0 hx1 hp hcs hg hel
          by_cases hmx : el.f1 < a2
          · have hmb := eq_true hmx
            have HX := Aside0.mk (show mx el.f1 a2 = a2 from if_pos hmx)
            clear hmx
            go_wp2_with fail
            go_ret
            exact ⟨_, rfl, by have h_ := HR.out; (first | rw [if_pos rfl] at h_ | skip); rw [HM.out, HX.out] at h_; rw [h_]; exact (HS.out _).1, (HS.out _).2⟩
          · have hmb := eq_false hmx
            have HX := Aside0.mk (show mx el.f1 a2 = el.f1 from if_neg hmx)
            clear hmx
            go_wp2_with fail
            go_ret
            exact ⟨_, rfl, by have h_ := HR.out; (first | rw [if_pos rfl] at h_ | skip); rw [HM.out, HX.out] at h_; rw [h_]; exact (HS.out _).1, (HS.out _).2⟩
  · have hv : r = l0 := by rw [← HV.out, vec_Set.v, if_neg (fun h => hR h.1)]
    have HR := Aside0.mk hv
    have hR' : rightB a1 = false := by simpa using hR
    clear hR
    generalize rightB a1 = b1 at hR'
    subst hR'
    clear hv
    go_wp2_with fail
    go_ret
    exact ⟨_, rfl, by rw [HR.out]; exact HO.out, HB.out⟩

/-! ### vec_Meet: function 24 -/
theorem zq24_0 {p_ : Prop} (h_ : p_ := by rw [hg]; exact (below_size (by repeat (first | (with_reducible first | exact HB.out | apply below_alloc | apply pw_below_drewN | apply below_drew1) | exact HB.out)))) : p_ := h_
theorem zq24_1 {p_ : Prop} (h_ : p_ := by repeat (first | (with_reducible first | exact HB.out | apply below_alloc | apply pw_below_drewN | apply below_drew1 | refine below_set ?_ GE121.out) | exact HB.out)) : p_ := h_
theorem zq24_2 {p_ : Prop} (h_ : p_ := by (with_reducible repeat (first | refine blk_drewN ?_ _ | refine blk_drew ?_ | refine blk_alloc ?_ _)); exact BK121.out) : p_ := h_
theorem zq24_3 {p_ : Prop} (h_ : p_ := by (with_reducible repeat (first | apply Kd.R_alloc | apply Kd.R_drewN | apply Kd.R_drew)); exact HO_5.out) : p_ := h_
theorem zq24_4 {p_ : Prop} (h_ : p_ := by first | (with_reducible assumption) | assumption) : p_ := h_
theorem zq24_5 {p_ : Prop} (h_ : p_ := by first | rfl | (simp; done) | (simp [*]; done)) : p_ := h_
def vec_Meet.l0 : Nat → List (S47) → List (S47) → List (S47) → Int → Int → Option ((List (S47)))
 | 0, _, _, _, _, _ => none
 | k + 1, x1, x5, x9, x10, x11 => if x11 < x10 then (if 0 ≤ x11 then (if x11 < (x9.length : Int) then ((vec_Of.f x1 ((rd_T47 x9 x11).f0)).bind fun t122 => (if (mn ((rd_T47 x9 x11).f1) t122) > 0 then (if x5.length < 5864062014805 then (vec_Meet.l0 k x1 (x5 ++ [(⟨(rd_T47 x9 x11).f0, mn ((rd_T47 x9 x11).f1) t122⟩ : S47)]) x9 x10 (wrap64 (x11 + 1))) else (none)) else (vec_Meet.l0 k x1 x5 x9 x10 (wrap64 (x11 + 1))))) else (none)) else (none)) else (some x5)
def vec_Meet.f (k : Nat) (l0 : List (S47)) (l1 : List (S47)) : Option ((List (S47))) := vec_Meet.l0 k l1 ([] : List (S47)) l0 (l0.length : Int) 0
theorem vec_Meet.mono_l : ∀ k, (∀ y0 y1 y2 y3 y4, LeO (vec_Meet.l0 k y0 y1 y2 y3 y4) (vec_Meet.l0 (k + 1) y0 y1 y2 y3 y4))
 | 0 => fun _ _ _ _ _ r h => by simp [vec_Meet.l0] at h
 | k + 1 => by
  have ih0 := vec_Meet.mono_l k
  ·intro y0 y1 y2 y3 y4
   unfold vec_Meet.l0
   repeat' first
   | (with_reducible exact ih0 _ _ _ _ _)
   | (with_reducible exact LeO.refl _)
   | (with_reducible exact LeO.none _)
   | (with_reducible refine LeO.ite ?_ ?_)
   | (with_reducible refine LeO.bind ?_ (fun _ => ?_))
   | exact ih0 _ _ _ _ _
   | exact LeO.none _
   | refine LeO.ite ?_ ?_
   | refine LeO.bind ?_ (fun _ => ?_)
theorem vec_Meet.mono : ∀ a0 a1 k, LeO (vec_Meet.f k a0 a1) (vec_Meet.f (k + 1) a0 a1) := by
 intro a0 a1 k
 have ih0 := vec_Meet.mono_l k
 unfold vec_Meet.f
 repeat' first
   | (with_reducible exact ih0 _ _ _ _ _)
   | (with_reducible exact LeO.refl _)
   | (with_reducible exact LeO.none _)
   | (with_reducible refine LeO.ite ?_ ?_)
   | (with_reducible refine LeO.bind ?_ (fun _ => ?_))
   | exact ih0 _ _ _ _ _
   | exact LeO.none _
   | refine LeO.ite ?_ ?_
   | refine LeO.bind ?_ (fun _ => ?_)
def vec_Meet.T5 : Bool × List (List Nat × List Nat) := (true, [([], []), ([0], [0]), ([], []), ([], []), ([3], [3]), ([2, 4], [2, 4]), ([1, 5], [1, 5]), ([6, 5, 0, 1, 2, 3, 4, 5, 6], [6])])
def vec_Meet.B5 : List Nat := [0, 1, 0, 0, 8, 28, 63, 127]
theorem vec_Meet.tab5 : rtab .any (opsOf Try.f24 5) = vec_Meet.T5 := by kernel_rfl
theorem vec_Meet.bits5 : waitsOk vec_Meet.T5.2 vec_Meet.B5 = true := by kernel_rfl
set_option maxHeartbeats 8000000 in
set_option maxRecDepth 100000 in
theorem vec_Meet.calls (k : Nat) (A0 : Option Addr) (c0 : Nat) (l0 : List (S47)) (A1 : Option Addr) (c1 : Nat) (l1 : List (S47)) (r : List (S47)) (w : World) (hr0 : Kd.C k47 w A0 l0.length l0) (hc0 : l0.length ≤ c0) (hr1 : Kd.C k47 w A1 l1.length l1) (hc1 : l1.length ≤ c1) (h : vec_Meet.f k l0 l1 = some r) :
  Calls Try.prog 24 #[.slice A0 l0.length c0, .slice A1 l1.length c1] w fun e w' => ∃ v0_ : Value, e = .returned (v0_) ∧ Kd.R k47 47 w' w.heap.size (fun _ => True) v0_ r ∧ Below w.heap.size w w' := by
 have hu47 := Try.underlying47
 have HR0 := Aside0.mk hr0
 have HC0 := Aside0.mk hc0
 clear hr0 hc0
 have HR1 := Aside0.mk hr1
 have HC1 := Aside0.mk hc1
 clear hr1 hc1
 have HB := Aside0.mk (Below.refl w.heap.size w)
 have H : (vec_Meet.l0 k l1 ([] : List (S47)) l0 (l0.length : Int) 0) = some r := h
 clear h
 have H' := Aside0.mk H
 clear H
 go_enter Try.func24, Try.ntmps24
 go_wp2
 go_loopg [5, 11] k (fun kq v5 v11 w' => ∃ (x5_1 : List (S47)) (x11_1 : Int), v11 = .int .i64 x11_1 ∧ Aside0 (vec_Meet.l0 kq l1 x5_1 l0 (l0.length : Int) x11_1 = some r) ∧ Aside0 (kq ≤ k) ∧ Aside0 (Kd.R k47 47 w' w.heap.size (fun _ => True) v5 x5_1) ∧ Aside0 (Below w.heap.size w w'))
 case atStart => exact ⟨(([] : List (S47))), (0), zq24_5, H', ⟨Nat.le_refl _⟩, ⟨by first | exact Kd.R_nil _ _ _ _ _ | exact Kd.N_nil _ _ _ _ _ | exact Kd.V_nil _ _ _ _ _ | exact Kd.Q_nil _ _ _ _ _ | exact Kd.S_nil _ _ _ _ _⟩, ⟨by repeat (first | (with_reducible first | exact HB.out | apply below_alloc | apply pw_below_drewN | apply below_drew1) | exact HB.out)⟩⟩
 case round =>
  clear H'
  try clear c1
  try clear c2
  try clear p2
  obtain ⟨x5_1, x11_1, rfl, HA, HK1, HO_5, HB⟩ := hrel
  cases gk with
  | zero => exact absurd HA.out (by simp [vec_Meet.l0])
  | succ k1 =>
   have H := HA.out
   clear HA
   simp only [vec_Meet.l0] at H
   by_cases c3 : x11_1 < (l0.length : Int)
   ·rw [if_pos c3] at H
    have c3b0 : decide (x11_1 < (l0.length : Int)) = true := decide_eq_true c3
    clear c3
    by_cases c4 : 0 ≤ x11_1
    ·rw [if_pos c4] at H
     have c4b0 : decide (0 ≤ x11_1) = true := decide_eq_true c4
     clear c4
     by_cases c5 : x11_1 < (l0.length : Int)
     ·rw [if_pos c5] at H
      have c5b0 : decide (x11_1 < (l0.length : Int)) = true := decide_eq_true c5
      clear c5
      replace H := Option.bind_eq_some_iff.mp H
      obtain ⟨t122, A60, H⟩ := H
      replace H : (if (mn ((rd_T47 l0 x11_1).f1) t122) > 0 then (if x5_1.length < 5864062014805 then (vec_Meet.l0 k1 l1 (x5_1 ++ [(⟨(rd_T47 l0 x11_1).f0, mn ((rd_T47 l0 x11_1).f1) t122⟩ : S47)]) l0 (l0.length : Int) (wrap64 (x11_1 + 1))) else (none)) else (vec_Meet.l0 k1 l1 x5_1 l0 (l0.length : Int) (wrap64 (x11_1 + 1)))) = some r := H
      have A6 := Aside0.mk A60
      clear A60
      obtain ⟨ji7, hji7⟩ : ∃ j_ : Int, (mn ((rd_T47 l0 x11_1).f1) t122) = j_ := ⟨_, rfl⟩
      replace H : (if (ji7) > 0 then (if x5_1.length < 5864062014805 then (vec_Meet.l0 k1 l1 (x5_1 ++ [(⟨(rd_T47 l0 x11_1).f0, ji7⟩ : S47)]) l0 (l0.length : Int) (wrap64 (x11_1 + 1))) else (none)) else (vec_Meet.l0 k1 l1 x5_1 l0 (l0.length : Int) (wrap64 (x11_1 + 1)))) = some r := by first | (rw [hji7] at H; exact H) | (simp only [hji7] at H ⊢; exact H)
      (try rw [hji7] at A6)
      have hji7_ : (if t122 < ((rd_T47 l0 x11_1).f1) then t122 else ((rd_T47 l0 x11_1).f1)) = ji7 := hji7
      by_cases c8 : (ji7) > 0
      ·rw [if_pos c8] at H
       have c8b0 : decide (0 < (ji7)) = true := decide_eq_true c8
       clear c8
       by_cases c9 : x5_1.length < 5864062014805
       ·rw [if_pos c9] at H
        have LMc9 := Aside0.mk c9
        clear c9
        obtain ⟨y123, hy123⟩ : ∃ y_ : List (S47), y_ = (x5_1 ++ [(⟨(rd_T47 l0 x11_1).f0, ji7⟩ : S47)]) := ⟨_, rfl⟩
        replace H : (vec_Meet.l0 k1 l1 y123 l0 (l0.length : Int) (wrap64 (x11_1 + 1))) = some r := by first | (rw [hy123]; with_reducible exact H) | (have H2_ := (Option.bind_some _ _).symm.trans H; rw [hy123]; with_reducible exact H2_) | (have H2_ := (Option.bind_some _ _).symm.trans H; with_reducible exact H2_) | with_reducible exact H | (rw [hy123]; exact H) | exact H
        have Ny123 := Aside0.mk hy123
        clear hy123
        have H' := Aside0.mk H
        clear H
        have p120 : 0 ≤ (x11_1 : Int) := of_decide_eq_true zq24_4
        have q120 : x11_1 < (l0.length : Int) := of_decide_eq_true zq24_4
        obtain ⟨ad120, e120, hx120_0, hx120_1⟩ := at_T47 HR0.out x11_1 p120 q120
        cases e120
        replace hx120_0 := (HB.out.cell (World.block_lt_of_cell? w _ hx120_0)).trans hx120_0
        replace hx120_1 := (HB.out.cell (World.block_lt_of_cell? w _ hx120_1)).trans hx120_1
        replace p120 := eq_true p120
        replace q120 := eq_true q120
        try go_wp2_with (first | ((with_reducible refine gate_dst (N := 7) rfl ?_); refine box_event ?hg (N := 7) ?hd (cs := #[.string (⟨#[]⟩ : ByteArray), .int .i64 0]) (t := 47) ?hr ?_; (case hd => rfl); (case hg => rfl); (case hr => first | (go_simp; done) | (go_simp; rfl)); intro gb121 hg w10 hbox hb; have n0_ := Aside0.mk (Kd.R_below (Kd.R_elderB zq24_3 gb121 (Nat.le_of_eq hg.symm)) hb); have n1_ := Aside0.mk (below_step (by repeat (first | (with_reducible first | exact HB.out | apply below_alloc | apply pw_below_drewN | apply below_drew1) | exact HB.out)) hb); have n2_ := Aside0.mk (hbox); have n3_ := Aside0.mk ((zq24_0 : w.heap.size ≤ gb121)); have n4_ := Aside0.mk ((zq24_0 : w.heap.size ≤ gb121)); clear HO_5; clear HB; have HO_5 := n0_; have HB := n1_; have BK121 := n2_; have GW121 := n3_; have GE121 := n4_; clear n0_ n1_ n2_ n3_ n4_; clear hb hbox hg; have hcz11_0 : w10.cell? ⟨gb121, 0, none⟩ = some (.string (⟨#[]⟩ : ByteArray)) := (blk_cell BK121.out 0).trans rfl; have hcz11_1 : w10.cell? ⟨gb121, 1, none⟩ = some (.int .i64 0) := (blk_cell BK121.out 1).trans rfl; have hfz11_0 := blk_frozen BK121.out 0; have hfz11_1 := blk_frozen BK121.out 1))
        have n0_ : Aside0 (Kd.R k47 47 ((w10.setCell ⟨gb121, 0, none⟩ (.string ((rd_T47 l0 x11_1).f0))).setCell ⟨gb121, 1, none⟩ (.int .i64 ((rd_T47 l0 x11_1).f1))) w.heap.size (fun k_ => k_ ≠ gb121) u5 x5_1) := ⟨by (with_reducible repeat (first | apply Kd.R_alloc | apply Kd.R_drewN | apply Kd.R_drew)); exact Kd.R_mono (Kd.R_far (p := ⟨gb121, 1, none⟩) (Kd.R_far (p := ⟨gb121, 0, none⟩) (Kd.R_mono HO_5.out (fun k_ hk => (⟨hk, hk.2⟩ : _ ∧ k_ ≠ gb121))) (fun _ hk => hk.2) (.string ((rd_T47 l0 x11_1).f0))) (fun _ hk => hk.2) (.int .i64 ((rd_T47 l0 x11_1).f1))) (fun _ hk => hk.1.2)⟩
        have n1_ : Aside0 (((w10.setCell ⟨gb121, 0, none⟩ (.string ((rd_T47 l0 x11_1).f0))).setCell ⟨gb121, 1, none⟩ (.int .i64 ((rd_T47 l0 x11_1).f1))).heap[gb121]? = some (.cells #[.string ((rd_T47 l0 x11_1).f0), .int .i64 ((rd_T47 l0 x11_1).f1)] 47 (0, 0))) := ⟨by (with_reducible repeat (first | refine blk_drewN ?_ _ | refine blk_drew ?_ | refine blk_alloc ?_ _)); refine blk_put (cs := #[.string ((rd_T47 l0 x11_1).f0), .int .i64 0]) ?_ 1 _ rfl; (with_reducible repeat (first | refine blk_drewN ?_ _ | refine blk_drew ?_ | refine blk_alloc ?_ _)); refine blk_put (cs := #[.string (⟨#[]⟩ : ByteArray), .int .i64 0]) ?_ 0 _ rfl; (with_reducible repeat (first | refine blk_drewN ?_ _ | refine blk_drew ?_ | refine blk_alloc ?_ _)); exact BK121.out⟩
        have n2_ : Aside0 (Below w.heap.size w ((w10.setCell ⟨gb121, 0, none⟩ (.string ((rd_T47 l0 x11_1).f0))).setCell ⟨gb121, 1, none⟩ (.int .i64 ((rd_T47 l0 x11_1).f1)))) := ⟨by repeat (first | (with_reducible first | exact HB.out | apply below_alloc | apply pw_below_drewN | apply below_drew1 | refine below_set ?_ GE121.out) | exact HB.out)⟩
        (try clear HO_5)
        (try clear BK121)
        (try clear HB)
        generalize ((w10.setCell ⟨gb121, 0, none⟩ (.string ((rd_T47 l0 x11_1).f0))).setCell ⟨gb121, 1, none⟩ (.int .i64 ((rd_T47 l0 x11_1).f1))) = w12 at n0_ n1_ n2_ ⊢
        have HO_5 := n0_
        have BK121 := n1_
        have HB := n2_
        clear n0_ n1_ n2_
        replace HO_5 := Aside0.mk (Kd.R_drew HO_5.out)
        replace BK121 := Aside0.mk (blk_drew BK121.out)
        replace HB := Aside0.mk (below_drew1 HB.out)
        refine start_ (n := 8) (S := fun w' => w'.cell? ⟨gb121, 0, none⟩ = some (.string ((rd_T47 l0 x11_1).f0)) ∧ w'.cell? ⟨gb121, 1, none⟩ = some (.int .i64 ((rd_T47 l0 x11_1).f1))) (ds := []) #[false, false, false, false, false, false, false, false] (by kernel_rfl) rfl rfl ⟨(blk_cell BK121.out 0).trans rfl, (blk_cell BK121.out 1).trans rfl⟩ (fun hHeld => ?_); refine with_tabW vec_Meet.tab5 vec_Meet.bits5 (fun HT_ HW_ => ?_)
        generalize w12.drew = w13 at HO_5 BK121 HB hHeld ⊢
        refine pure_ (i := 0) (N := some 15) (v := ?_) (a' := ?_) #[true, false, false, false, false, false, false, false] rfl rfl (any_of HT_.out (by kernel_rfl)) (fun _ _ _ h => h) (Or.inl ⟨by rfl, ?_⟩) ?_ ?_
        rotate_left
        ·intro w'
         go_simp
         with_reducible rfl
        rotate_left
        ·simp only [Act.put, List.setIfInBounds_toArray, List.set_cons_zero, List.set_cons_succ, i64_w, i32_w]
         rfl
        refine pure_ (i := 2) (N := some 17) (v := ?_) (a' := ?_) #[true, false, true, false, false, false, false, false] rfl rfl (any_of HT_.out (by kernel_rfl)) (fun _ _ _ h => h) (Or.inl ⟨by rfl, ?_⟩) ?_ ?_
        rotate_left
        ·intro w'
         go_simp
         with_reducible rfl
        rotate_left
        ·simp only [Act.put, List.setIfInBounds_toArray, List.set_cons_zero, List.set_cons_succ, i64_w, i32_w]
         rfl
        refine pure_ (i := 3) (N := some 18) (v := ?_) (a' := ?_) #[true, false, true, true, false, false, false, false] rfl rfl (any_of HT_.out (by kernel_rfl)) (fun _ _ _ h => h) (Or.inl ⟨by rfl, ?_⟩) ?_ ?_
        rotate_left
        ·intro w'
         go_simp
         with_reducible rfl
        rotate_left
        ·simp only [Act.put, List.setIfInBounds_toArray, List.set_cons_zero, List.set_cons_succ, i64_w, i32_w]
         rfl
        refine take_ (i := 1) (N := some 16) (v := ?_) (a' := ?_) #[true, true, true, true, false, false, false, false] rfl rfl (take_ofW HT_.out HW_.out (by kernel_rfl)) (fun _ _ _ h => h) (Or.inl ⟨by rfl, ?_⟩) hHeld ?_ ?_
        rotate_left
        ·rintro w' ⟨s0, s1⟩
         go_simp
         with_reducible rfl
        rotate_left
        ·simp only [Act.put, List.setIfInBounds_toArray, List.set_cons_zero, List.set_cons_succ, i64_w, i32_w]
         rfl
        refine take_ (i := 4) (N := some 19) (v := ?_) (a' := ?_) #[true, true, true, true, true, false, false, false] rfl rfl (take_ofW HT_.out HW_.out (by kernel_rfl)) (fun _ _ _ h => h) (Or.inl ⟨by rfl, ?_⟩) hHeld ?_ ?_
        rotate_left
        ·rintro w' ⟨s0, s1⟩
         go_simp
         with_reducible rfl
        rotate_left
        ·simp only [Act.put, List.setIfInBounds_toArray, List.set_cons_zero, List.set_cons_succ, i64_w, i32_w]
         rfl
        refine one_ (i := 5) (N := some 20) #[true, true, true, true, true, true, false, false] rfl rfl (one_of HT_.out (by kernel_rfl)) (by decide) (fun K hK => ?_)
        refine goes_ Try.func13 (by kernel_rfl) rfl #[.slice A1 l1.length c1, .string ((rd_T47 l0 x11_1).f0)] (by rfl) rfl rfl (by (try simp only [List.map_toArray, List.map_cons, List.map_nil]); first | done | rfl | (simp only [List.length_drop, List.length_take]; rfl)) ?_
        with_reducible refine (vec_Of.calls _ _ l1 ((rd_T47 l0 x11_1).f0) t122 _ ?side1 ?side2 A6.out).mono ?_
        (case side1 => repeat (first | exact (Kd.C_below HR1.out HB.out) | (with_reducible refine Kd.C_alloc ?_ _) | (with_reducible refine Kd.C_drewN ?_ _) | (with_reducible refine Kd.C_drew ?_)))
        (case side2 => exact HC1.out)
        rintro e w14 ⟨rfl, hb⟩
        refine ⟨_, rfl, ?_⟩
        replace HO_5 := Aside0.mk (Kd.R_below zq24_3 hb)
        replace BK121 := Aside0.mk (blk_below (g := gb121) (o := .cells #[.string ((rd_T47 l0 x11_1).f0), .int .i64 ((rd_T47 l0 x11_1).f1)] 47 (0, 0)) zq24_2 hb)
        replace HB := Aside0.mk (below_step zq24_1 hb)
        (try clear hb)
        (try clear hb2)
        (try clear hk)
        (try clear hi)
        refine hK.out _ _ ⟨(blk_cell BK121.out 0).trans rfl, (blk_cell BK121.out 1).trans rfl⟩ (fun hHeld => ?_)
        clear hK K
        refine norm_ (a' := ?_) ?_ ?_
        rotate_left
        ·show Act.put _ (some 20) _ = _
         simp only [Act.put, List.setIfInBounds_toArray, List.set_cons_zero, List.set_cons_succ, i64_w, i32_w]
         rfl
        refine pure_ (i := 6) (N := some 21) (v := ?_) (a' := ?_) #[true, true, true, true, true, true, true, false] rfl rfl (any_of HT_.out (by kernel_rfl)) (fun _ _ _ h => h) (Or.inl ⟨by rfl, ?_⟩) ?_ ?_
        rotate_left
        ·intro w'
         go_simp
         with_reducible rfl
        rotate_left
        ·simp only [Act.put, List.setIfInBounds_toArray, List.set_cons_zero, List.set_cons_succ, i64_w, i32_w]
         rfl
        refine pure_ (i := 7) (N := some 8) (v := ?_) (a' := ?_) #[true, true, true, true, true, true, true, true] rfl rfl (any_of HT_.out (by kernel_rfl)) (fun _ _ _ h => h) (Or.inl ⟨by rfl, ?_⟩) ?_ ?_
        rotate_left
        ·intro w'
         go_simp
         with_reducible rfl
        rotate_left
        ·simp only [Act.put, List.setIfInBounds_toArray, List.set_cons_zero, List.set_cons_succ, i64_w, i32_w]
         rfl
        refine done_ (done_of HT_.out (by kernel_rfl)) ?_
        have hcz15_0 : w14.cell? ⟨gb121, 0, none⟩ = some (.string ((rd_T47 l0 x11_1).f0)) := (blk_cell BK121.out 0).trans rfl
        have hcz15_1 : w14.cell? ⟨gb121, 1, none⟩ = some (.int .i64 ((rd_T47 l0 x11_1).f1)) := (blk_cell BK121.out 1).trans rfl
        have hfz15_0 := blk_frozen BK121.out 0
        have hfz15_1 := blk_frozen BK121.out 1
        try go_wp2_with (first | ((with_reducible refine gate_builtin (b := .append) (xs := #[.tmp 24, .tmp 29]) rfl ?_); at_builtin; refine Kd.R_append k47 (w0 := w) w.heap.size rfl (.tmp 24) (.tmp 29) 26 47 (.agg #[(.string ⟨#[]⟩), (.int .i64 0)]) 24 rfl Try.underlying26 info47 rfl (by decide) (by omega) u5 x5_1 (⟨(rd_T47 l0 x11_1).f0, ji7⟩ : S47) [.string ((rd_T47 l0 x11_1).f0), .int .i64 ji7] (fun k_ => k_ ≠ gb121) (fun _ => False) rfl rfl ?aP (fun _ hk => hk.elim) ?aF ?aO ?aB ?aS ?aL ?_; (case aP => exact k47_mkM _ _ _ (⟨(rd_T47 l0 x11_1).f0, ji7⟩ : S47)); (case aB => exact zq24_1); (case aF => exact (fun k_ hk => Kd.freshB (g := gb121) (o := .cells #[.string ((rd_T47 l0 x11_1).f0), .int .i64 ((rd_T47 l0 x11_1).f1)] 47 (0, 0)) zq24_2 k_ hk)); (case aO => exact zq24_3); (case aS => exact (below_size zq24_1)); (case aL => have := LMc9.out; omega); intro v124 w16 ho hb hg hat; rw [← Ny123.out] at ho; have n0_ := Aside0.mk (blk_grown (g := gb121) (o := .cells #[.string ((rd_T47 l0 x11_1).f0), .int .i64 ((rd_T47 l0 x11_1).f1)] 47 (0, 0)) zq24_2 hg (Kd.R_away HO_5.out (fun _ hk => hk))); have n1_ := Aside0.mk (hb); have n2_ := Aside0.mk (ho); clear BK121; clear HB; clear HO_5; have BK121 := n0_; have HB := n1_; have HO125 := n2_; clear n0_ n1_ n2_; clear ho hb hg hat))
        go_roundg k1
        case measure => have := HK1.out; omega
        case rel => exact ⟨(y123), (wrap64 (x11_1 + 1)), zq24_5, H', ⟨by have := HK1.out; omega⟩, ⟨by (with_reducible repeat (first | apply Kd.R_alloc | apply Kd.R_drewN | apply Kd.R_drew)); exact Kd.R_mono HO125.out (fun _ hk => trivial)⟩, ⟨by repeat (first | (with_reducible first | exact HB.out | apply below_alloc | apply pw_below_drewN | apply below_drew1 | refine below_set ?_ GE121.out) | exact HB.out)⟩⟩
       ·rw [if_neg c9] at H
        exact absurd H (by simp)
      ·rw [if_neg c8] at H
       have c8b0 : decide (0 < (ji7)) = false := decide_eq_false c8
       clear c8
       have H' := Aside0.mk H
       clear H
       have p120 : 0 ≤ (x11_1 : Int) := of_decide_eq_true zq24_4
       have q120 : x11_1 < (l0.length : Int) := of_decide_eq_true zq24_4
       obtain ⟨ad120, e120, hx120_0, hx120_1⟩ := at_T47 HR0.out x11_1 p120 q120
       cases e120
       replace hx120_0 := (HB.out.cell (World.block_lt_of_cell? w _ hx120_0)).trans hx120_0
       replace hx120_1 := (HB.out.cell (World.block_lt_of_cell? w _ hx120_1)).trans hx120_1
       replace p120 := eq_true p120
       replace q120 := eq_true q120
       try go_wp2_with (first | ((with_reducible refine gate_dst (N := 7) rfl ?_); refine box_event ?hg (N := 7) ?hd (cs := #[.string (⟨#[]⟩ : ByteArray), .int .i64 0]) (t := 47) ?hr ?_; (case hd => rfl); (case hg => rfl); (case hr => first | (go_simp; done) | (go_simp; rfl)); intro gb121 hg w17 hbox hb; have n0_ := Aside0.mk (Kd.R_below (Kd.R_elderB zq24_3 gb121 (Nat.le_of_eq hg.symm)) hb); have n1_ := Aside0.mk (below_step (by repeat (first | (with_reducible first | exact HB.out | apply below_alloc | apply pw_below_drewN | apply below_drew1) | exact HB.out)) hb); have n2_ := Aside0.mk (hbox); have n3_ := Aside0.mk ((zq24_0 : w.heap.size ≤ gb121)); have n4_ := Aside0.mk ((zq24_0 : w.heap.size ≤ gb121)); clear HO_5; clear HB; have HO_5 := n0_; have HB := n1_; have BK121 := n2_; have GW121 := n3_; have GE121 := n4_; clear n0_ n1_ n2_ n3_ n4_; clear hb hbox hg; have hcz18_0 : w17.cell? ⟨gb121, 0, none⟩ = some (.string (⟨#[]⟩ : ByteArray)) := (blk_cell BK121.out 0).trans rfl; have hcz18_1 : w17.cell? ⟨gb121, 1, none⟩ = some (.int .i64 0) := (blk_cell BK121.out 1).trans rfl; have hfz18_0 := blk_frozen BK121.out 0; have hfz18_1 := blk_frozen BK121.out 1))
       have n0_ : Aside0 (Kd.R k47 47 ((w17.setCell ⟨gb121, 0, none⟩ (.string ((rd_T47 l0 x11_1).f0))).setCell ⟨gb121, 1, none⟩ (.int .i64 ((rd_T47 l0 x11_1).f1))) w.heap.size (fun k_ => k_ ≠ gb121) u5 x5_1) := ⟨by (with_reducible repeat (first | apply Kd.R_alloc | apply Kd.R_drewN | apply Kd.R_drew)); exact Kd.R_mono (Kd.R_far (p := ⟨gb121, 1, none⟩) (Kd.R_far (p := ⟨gb121, 0, none⟩) (Kd.R_mono HO_5.out (fun k_ hk => (⟨hk, hk.2⟩ : _ ∧ k_ ≠ gb121))) (fun _ hk => hk.2) (.string ((rd_T47 l0 x11_1).f0))) (fun _ hk => hk.2) (.int .i64 ((rd_T47 l0 x11_1).f1))) (fun _ hk => hk.1.2)⟩
       have n1_ : Aside0 (((w17.setCell ⟨gb121, 0, none⟩ (.string ((rd_T47 l0 x11_1).f0))).setCell ⟨gb121, 1, none⟩ (.int .i64 ((rd_T47 l0 x11_1).f1))).heap[gb121]? = some (.cells #[.string ((rd_T47 l0 x11_1).f0), .int .i64 ((rd_T47 l0 x11_1).f1)] 47 (0, 0))) := ⟨by (with_reducible repeat (first | refine blk_drewN ?_ _ | refine blk_drew ?_ | refine blk_alloc ?_ _)); refine blk_put (cs := #[.string ((rd_T47 l0 x11_1).f0), .int .i64 0]) ?_ 1 _ rfl; (with_reducible repeat (first | refine blk_drewN ?_ _ | refine blk_drew ?_ | refine blk_alloc ?_ _)); refine blk_put (cs := #[.string (⟨#[]⟩ : ByteArray), .int .i64 0]) ?_ 0 _ rfl; (with_reducible repeat (first | refine blk_drewN ?_ _ | refine blk_drew ?_ | refine blk_alloc ?_ _)); exact BK121.out⟩
       have n2_ : Aside0 (Below w.heap.size w ((w17.setCell ⟨gb121, 0, none⟩ (.string ((rd_T47 l0 x11_1).f0))).setCell ⟨gb121, 1, none⟩ (.int .i64 ((rd_T47 l0 x11_1).f1)))) := ⟨by repeat (first | (with_reducible first | exact HB.out | apply below_alloc | apply pw_below_drewN | apply below_drew1 | refine below_set ?_ GE121.out) | exact HB.out)⟩
       (try clear HO_5)
       (try clear BK121)
       (try clear HB)
       generalize ((w17.setCell ⟨gb121, 0, none⟩ (.string ((rd_T47 l0 x11_1).f0))).setCell ⟨gb121, 1, none⟩ (.int .i64 ((rd_T47 l0 x11_1).f1))) = w19 at n0_ n1_ n2_ ⊢
       have HO_5 := n0_
       have BK121 := n1_
       have HB := n2_
       clear n0_ n1_ n2_
       replace HO_5 := Aside0.mk (Kd.R_drew HO_5.out)
       replace BK121 := Aside0.mk (blk_drew BK121.out)
       replace HB := Aside0.mk (below_drew1 HB.out)
       refine start_ (n := 8) (S := fun w' => w'.cell? ⟨gb121, 0, none⟩ = some (.string ((rd_T47 l0 x11_1).f0)) ∧ w'.cell? ⟨gb121, 1, none⟩ = some (.int .i64 ((rd_T47 l0 x11_1).f1))) (ds := []) #[false, false, false, false, false, false, false, false] (by kernel_rfl) rfl rfl ⟨(blk_cell BK121.out 0).trans rfl, (blk_cell BK121.out 1).trans rfl⟩ (fun hHeld => ?_); refine with_tabW vec_Meet.tab5 vec_Meet.bits5 (fun HT_ HW_ => ?_)
       generalize w19.drew = w20 at HO_5 BK121 HB hHeld ⊢
       refine pure_ (i := 0) (N := some 15) (v := ?_) (a' := ?_) #[true, false, false, false, false, false, false, false] rfl rfl (any_of HT_.out (by kernel_rfl)) (fun _ _ _ h => h) (Or.inl ⟨by rfl, ?_⟩) ?_ ?_
       rotate_left
       ·intro w'
        go_simp
        with_reducible rfl
       rotate_left
       ·simp only [Act.put, List.setIfInBounds_toArray, List.set_cons_zero, List.set_cons_succ, i64_w, i32_w]
        rfl
       refine pure_ (i := 2) (N := some 17) (v := ?_) (a' := ?_) #[true, false, true, false, false, false, false, false] rfl rfl (any_of HT_.out (by kernel_rfl)) (fun _ _ _ h => h) (Or.inl ⟨by rfl, ?_⟩) ?_ ?_
       rotate_left
       ·intro w'
        go_simp
        with_reducible rfl
       rotate_left
       ·simp only [Act.put, List.setIfInBounds_toArray, List.set_cons_zero, List.set_cons_succ, i64_w, i32_w]
        rfl
       refine pure_ (i := 3) (N := some 18) (v := ?_) (a' := ?_) #[true, false, true, true, false, false, false, false] rfl rfl (any_of HT_.out (by kernel_rfl)) (fun _ _ _ h => h) (Or.inl ⟨by rfl, ?_⟩) ?_ ?_
       rotate_left
       ·intro w'
        go_simp
        with_reducible rfl
       rotate_left
       ·simp only [Act.put, List.setIfInBounds_toArray, List.set_cons_zero, List.set_cons_succ, i64_w, i32_w]
        rfl
       refine take_ (i := 1) (N := some 16) (v := ?_) (a' := ?_) #[true, true, true, true, false, false, false, false] rfl rfl (take_ofW HT_.out HW_.out (by kernel_rfl)) (fun _ _ _ h => h) (Or.inl ⟨by rfl, ?_⟩) hHeld ?_ ?_
       rotate_left
       ·rintro w' ⟨s0, s1⟩
        go_simp
        with_reducible rfl
       rotate_left
       ·simp only [Act.put, List.setIfInBounds_toArray, List.set_cons_zero, List.set_cons_succ, i64_w, i32_w]
        rfl
       refine take_ (i := 4) (N := some 19) (v := ?_) (a' := ?_) #[true, true, true, true, true, false, false, false] rfl rfl (take_ofW HT_.out HW_.out (by kernel_rfl)) (fun _ _ _ h => h) (Or.inl ⟨by rfl, ?_⟩) hHeld ?_ ?_
       rotate_left
       ·rintro w' ⟨s0, s1⟩
        go_simp
        with_reducible rfl
       rotate_left
       ·simp only [Act.put, List.setIfInBounds_toArray, List.set_cons_zero, List.set_cons_succ, i64_w, i32_w]
        rfl
       refine one_ (i := 5) (N := some 20) #[true, true, true, true, true, true, false, false] rfl rfl (one_of HT_.out (by kernel_rfl)) (by decide) (fun K hK => ?_)
       refine goes_ Try.func13 (by kernel_rfl) rfl #[.slice A1 l1.length c1, .string ((rd_T47 l0 x11_1).f0)] (by rfl) rfl rfl (by (try simp only [List.map_toArray, List.map_cons, List.map_nil]); first | done | rfl | (simp only [List.length_drop, List.length_take]; rfl)) ?_
       with_reducible refine (vec_Of.calls _ _ l1 ((rd_T47 l0 x11_1).f0) t122 _ ?side1 ?side2 A6.out).mono ?_
       (case side1 => repeat (first | exact (Kd.C_below HR1.out HB.out) | (with_reducible refine Kd.C_alloc ?_ _) | (with_reducible refine Kd.C_drewN ?_ _) | (with_reducible refine Kd.C_drew ?_)))
       (case side2 => exact HC1.out)
       rintro e w21 ⟨rfl, hb⟩
       refine ⟨_, rfl, ?_⟩
       replace HO_5 := Aside0.mk (Kd.R_below zq24_3 hb)
       replace BK121 := Aside0.mk (blk_below (g := gb121) (o := .cells #[.string ((rd_T47 l0 x11_1).f0), .int .i64 ((rd_T47 l0 x11_1).f1)] 47 (0, 0)) zq24_2 hb)
       replace HB := Aside0.mk (below_step zq24_1 hb)
       (try clear hb)
       (try clear hb2)
       (try clear hk)
       (try clear hi)
       refine hK.out _ _ ⟨(blk_cell BK121.out 0).trans rfl, (blk_cell BK121.out 1).trans rfl⟩ (fun hHeld => ?_)
       clear hK K
       refine norm_ (a' := ?_) ?_ ?_
       rotate_left
       ·show Act.put _ (some 20) _ = _
        simp only [Act.put, List.setIfInBounds_toArray, List.set_cons_zero, List.set_cons_succ, i64_w, i32_w]
        rfl
       refine pure_ (i := 6) (N := some 21) (v := ?_) (a' := ?_) #[true, true, true, true, true, true, true, false] rfl rfl (any_of HT_.out (by kernel_rfl)) (fun _ _ _ h => h) (Or.inl ⟨by rfl, ?_⟩) ?_ ?_
       rotate_left
       ·intro w'
        go_simp
        with_reducible rfl
       rotate_left
       ·simp only [Act.put, List.setIfInBounds_toArray, List.set_cons_zero, List.set_cons_succ, i64_w, i32_w]
        rfl
       refine pure_ (i := 7) (N := some 8) (v := ?_) (a' := ?_) #[true, true, true, true, true, true, true, true] rfl rfl (any_of HT_.out (by kernel_rfl)) (fun _ _ _ h => h) (Or.inl ⟨by rfl, ?_⟩) ?_ ?_
       rotate_left
       ·intro w'
        go_simp
        with_reducible rfl
       rotate_left
       ·simp only [Act.put, List.setIfInBounds_toArray, List.set_cons_zero, List.set_cons_succ, i64_w, i32_w]
        rfl
       refine done_ (done_of HT_.out (by kernel_rfl)) ?_
       try go_wp2
       go_roundg k1
       case measure => have := HK1.out; omega
       case rel => exact ⟨(x5_1), (wrap64 (x11_1 + 1)), zq24_5, H', ⟨by have := HK1.out; omega⟩, ⟨by (with_reducible repeat (first | apply Kd.R_alloc | apply Kd.R_drewN | apply Kd.R_drew)); exact Kd.R_mono HO_5.out (fun _ hk => trivial)⟩, ⟨by repeat (first | (with_reducible first | exact HB.out | apply below_alloc | apply pw_below_drewN | apply below_drew1 | refine below_set ?_ GE121.out) | exact HB.out)⟩⟩
     ·rw [if_neg c5] at H
      exact absurd H (by simp)
    ·rw [if_neg c4] at H
     exact absurd H (by simp)
   ·rw [if_neg c3] at H
    have c3b0 : decide (x11_1 < (l0.length : Int)) = false := decide_eq_false c3
    clear c3
    obtain rfl := Option.some.inj H
    go_wp2
    go_ret
    exact ⟨_, by first | rfl | (simp [errW_none, errW_some] <;> rfl) | (simp [*, errW_none, errW_some] <;> rfl), by (with_reducible repeat (first | apply Kd.R_alloc | apply Kd.R_drewN | apply Kd.R_drew)); exact HO_5.out, by repeat (first | (with_reducible first | exact HB.out | apply below_alloc | apply pw_below_drewN | apply below_drew1) | exact HB.out)⟩

end Go.Proofs.Ytjdhnnpagaocnaa.P
