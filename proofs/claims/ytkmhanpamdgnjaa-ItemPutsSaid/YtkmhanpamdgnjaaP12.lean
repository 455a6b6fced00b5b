-- Written by a program of this session (wip/pp.py over the kit's printer, with our own texts put in).
import Derived.Test.YtkmhanpamdgnjaaP0
import Derived.Test.YtkmhanpamdgnjaaP3
import Derived.Test.YtkmhanpamdgnjaaP4
namespace Go.Proofs.Ytkmhanpamdgnjaa.P
open Go.RowKit Go.Proofs.YtkmhanpamdgnjaaW.PrintWords Go.Proofs.YtkmhanpamdgnjaaW.PrintLast Go.Proofs.YtkmhanpamdgnjaaW.PrintMore
attribute [local go_sem] max2_int min2_int max_two min_two max_three min_three max_four min_four   -- for this text's walks alone
set_option linter.unusedVariables false
set_option linter.unusedSimpArgs false

/-! ### cenotaphlaw07_ItemPuts: function 8 -/
attribute [local go_sem] run_store_complex
def fixS (k : Nat) (x : S46) : Option It := fixI k x.f0 x.f1.f0 x.f1.f1 x.f1.f2 x.f2 x.f3.f0 x.f3.f1 x.f4 x.f5
def cenotaphlaw07_ItemPuts.l2 (k : Nat) (l : List S46) (b : List Int) : Nat → Nat → Int → Int → Option Bool
  | 0, _, _, _ => none
  | m + 1, i, a, e => if i < l.length ∧ i < 20 then (itTake k b a e).bind fun J => if J.2.1 = true ∧ J.1.ok then (fixS k (rd_T46 l (i : Int))).bind fun X => if J.1.eq X = true then cenotaphlaw07_ItemPuts.l2 k l b m (i + 1) J.2.2.1 J.2.2.2 else none else none
    else if (if e = 0 ∧ a < (b.length : Int) then (3 : Int) else e) = 0 then some true else none
def cenotaphlaw07_ItemPuts.l1 (k : Nat) (l : List S46) : Nat → Nat → List Int → Option Bool
  | 0, _, _ => none
  | m + 1, i, b => if i < l.length ∧ i < 20 then (fixS k (rd_T46 l (i : Int))).bind fun X => if X.ok then (itPut k b X).bind fun b' => cenotaphlaw07_ItemPuts.l1 k l m (i + 1) b' else none
    else if b.length < 8796093022208 then cenotaphlaw07_ItemPuts.l2 k l b 21 0 0 0 else none
def cenotaphlaw07_ItemPuts.f (k : Nat) (l0 : List S46) : Option Bool := cenotaphlaw07_ItemPuts.l1 k l0 21 0 []
theorem cell_keep {w W : World} {a : Addr} {v : Value} (h : w.cell? a = some v) (hb : Below w.heap.size w W) : W.cell? a = some v := (hb.cell (World.block_lt_of_cell? w _ h)).trans h
set_option maxHeartbeats 8000000 in
set_option maxRecDepth 100000 in
theorem cenotaphlaw07_ItemPuts.calls (k : Nat) (A0 : Option Addr) (c0 : Nat) (l0 : List S46) (r : Bool) (w : World) (hr0 : Kd.C k46 w A0 l0.length l0) (hc0 : l0.length ≤ c0) (h : cenotaphlaw07_ItemPuts.f k l0 = some r) :
    Calls Try.prog 8 #[.slice A0 l0.length c0] w fun e w' => e = .returned (.bool r) ∧ Below w.heap.size w w' := by
  have HR0 := Aside0.mk hr0
  have HN0 := Aside0.mk hr0.2.1
  clear hr0
  have HB := Aside0.mk (Below.refl w.heap.size w)
  have H := Aside0.mk (show cenotaphlaw07_ItemPuts.l1 k l0 21 0 [] = some r from h)
  clear h
  have hu := Try.underlying46
  have hu2 := Try.underlying40
  go_enter Try.func8, Try.ntmps8
  go_upto_block 0 with fail
  go_cut [3] (fun v3 wc => ∃ (A : Option Addr) (c : Nat) (b : List Int), v3 = .slice A b.length c ∧ Aside0 (b.length ≤ c ∧ Kd.C (Kd.int .u8) wc A b.length b) ∧ Aside0 ((if b.length < 8796093022208 then cenotaphlaw07_ItemPuts.l2 k l0 b 21 0 0 0 else none) = some r) ∧ Aside0 (Below w.heap.size w wc))
  case first =>
    go_wp2_with fail
    go_loopg [3, 4] 21 (fun m v3 v4 w' => ∃ (A : Option Addr) (c : Nat) (b : List Int) (i : Nat), v3 = .slice A b.length c ∧ v4 = .int .i64 (i : Int) ∧ Aside0 (b.length ≤ c ∧ Kd.C (Kd.int .u8) w' A b.length b) ∧ Aside0 (cenotaphlaw07_ItemPuts.l1 k l0 m i b = some r) ∧ Aside0 (Below w.heap.size w w'))
    case atStart => exact ⟨none, 0, [], 0, rfl, rfl, ⟨Nat.le_refl _, Kd.C_nil _ _⟩, H, HB⟩
    case round =>
      clear H HB
      obtain ⟨A, c, b, i, rfl, rfl, HC, HA, HB⟩ := hrel
      cases gk with
      | zero => exact absurd HA.out (by simp [cenotaphlaw07_ItemPuts.l1])
      | succ m1 =>
        have H := HA.out
        clear HA
        rw [cenotaphlaw07_ItemPuts.l1] at H
        by_cases hc : i < l0.length ∧ i < 20
        · obtain ⟨h1, h2⟩ := hc
          rw [if_pos ⟨h1, h2⟩] at H
          have e1 : decide ((i : Int) < (l0.length : Int)) = true := decide_eq_true (by omega)
          have e2 : decide ((i : Int) < 20) = true := decide_eq_true (by omega)
          obtain ⟨ad, ea, x0, x1, x2, x3, x4, x5, x6, x7, x8⟩ := at_T46 HR0.out (i : Int) (by omega) (by omega)
          cases ea
          rw [Int.toNat_natCast] at x0 x1 x2 x3 x4 x5 x6 x7 x8
          replace x0 := cell_keep x0 HB.out
          replace x1 := cell_keep x1 HB.out
          replace x2 := cell_keep x2 HB.out
          replace x3 := cell_keep x3 HB.out
          replace x4 := cell_keep x4 HB.out
          replace x5 := cell_keep x5 HB.out
          replace x6 := cell_keep x6 HB.out
          replace x7 := cell_keep x7 HB.out
          replace x8 := cell_keep x8 HB.out
          have p1 := eq_true (show (0 : Int) ≤ (i : Int) by omega)
          have p2 := eq_true (show (i : Int) < (l0.length : Int) by omega)
          obtain ⟨X, hX, h3⟩ := Option.bind_eq_some_iff.mp H
          by_cases hok : X.ok
          rotate_left
          · rw [if_neg hok] at h3; cases h3
          rw [if_pos hok] at h3
          obtain ⟨b', hb', h4⟩ := Option.bind_eq_some_iff.mp h3
          generalize rd_T46 l0 (i : Int) = x at hX x0 x1 x2 x3 x4 x5 x6 x7 x8
          have HX := Aside0.mk (fun (W : World) => fixI.calls k x.f0 x.f1.f0 x.f1.f1 x.f1.f2 x.f2 x.f3.f0 x.f3.f1 x.f4 x.f5 X W hX)
          have HP := Aside0.mk (fun (W : World) (hc : Kd.C (Kd.int .u8) W A b.length b) => it_put k A c b X b' W hc HC.out.1 hok.1 hok.2 hb')
          have HTX := Aside0.mk (fun (W : World) => it_to X.k X.i X.q X.s X.d X.x X.y X.t X.h W)
          have HL := Aside0.mk h4
          clear H hX h3 hok hb' h4
          go_wp2_with fail
          refine (HX.out _).mono ?_
          rintro e w1 ⟨rfl, hb⟩
          replace HC := Aside0.mk (And.intro HC.out.1 (Kd.C_below HC.out.2 hb))
          replace HB := Aside0.mk (below_step HB.out hb)
          clear hb HX x0 x1 x2 x3 x4 x5 x6 x7 x8
          go_wp2_with fail
          refine (HTX.out _).mono ?_
          rintro e w2 ⟨rfl, hb⟩
          replace HC := Aside0.mk (And.intro HC.out.1 (Kd.C_below HC.out.2 hb))
          replace HB := Aside0.mk (below_step HB.out hb)
          clear hb HTX
          go_wp2_with fail
          refine (HP.out _ HC.out.2).mono ?_
          rintro e w3 ⟨A1, c1, rfl, hl1, hC1, hb⟩
          replace HB := Aside0.mk (below_step HB.out hb)
          clear HP HC
          have HC := Aside0.mk (And.intro hl1 hC1)
          clear hb hl1 hC1
          have hw : wrap64 ((i : Int) + 1) = ((i + 1 : Nat) : Int) := by rw [Go.Proofs.Ytkmhanpamdgnjaa.Pure.wrap_id (by omega) (by omega)]; omega
          go_wp2_with fail
          go_roundg m1
          case measure => omega
          case rel => exact ⟨A1, c1, b', i + 1, rfl, by simp, HC, HL, HB⟩
        · rw [if_neg hc] at H
          have HL := Aside0.mk H
          clear H
          by_cases h1 : i < l0.length
          · have e1 : decide ((i : Int) < (l0.length : Int)) = true := decide_eq_true (by omega)
            have e2 : decide ((i : Int) < 20) = false := decide_eq_false (by omega)
            go_wp2_with fail
            go_meet
            case rel => exact ⟨A, c, b, rfl, HC, HL, HB⟩
          · have e1 : decide ((i : Int) < (l0.length : Int)) = false := decide_eq_false (by omega)
            go_wp2_with fail
            go_meet
            case rel => exact ⟨A, c, b, rfl, HC, HL, HB⟩
  case rest =>
    clear H HB
    obtain ⟨A, c, b, rfl, HC, H, HB⟩ := hcut
    by_cases hbl : b.length < 8796093022208
    rotate_left
    · exfalso
      have h4 := (if_neg hbl).symm.trans H.out
      cases h4
    replace H := Aside0.mk ((if_pos hbl).symm.trans H.out)
    go_wp2_with fail
    refine (rd_read A c b wc HC.out.2 HC.out.1 hbl).mono ?_
    rintro e w1 ⟨g, rfl, hi, hge, hb⟩
    have HI := Aside0.mk hi
    have HGE := Aside0.mk (Nat.le_trans HB.out.size hge)
    replace HB := Aside0.mk (below_step HB.out hb)
    clear hi hge hb HC
    go_upto_block 2 with fail
    go_cut [] (fun wc => ∃ (a e : Int), RD 69 wc g b a e ∧ Aside0 ((if (if e = 0 ∧ a < (b.length : Int) then (3 : Int) else e) = 0 then some true else none) = some r) ∧ Aside0 (Below w.heap.size w wc))
    case first =>
      go_wp2_with fail
      go_loopg [6] 21 (fun m v6 w' => ∃ (a e : Int) (i : Nat), v6 = .int .i64 (i : Int) ∧ RD 69 w' g b a e ∧ Aside0 (cenotaphlaw07_ItemPuts.l2 k l0 b m i a e = some r) ∧ Aside0 (Below w.heap.size w w'))
      case atStart => exact ⟨0, 0, 0, rfl, HI.out, H, HB⟩
      case round =>
        clear H HB HI
        obtain ⟨a, e, i, rfl, HI, HA, HB⟩ := hrel
        replace HI := Aside0.mk HI
        cases gk with
        | zero => exact absurd HA.out (by simp [cenotaphlaw07_ItemPuts.l2])
        | succ m1 =>
          have H := HA.out
          clear HA
          rw [cenotaphlaw07_ItemPuts.l2] at H
          by_cases hc : i < l0.length ∧ i < 20
          · obtain ⟨h1, h2⟩ := hc
            rw [if_pos ⟨h1, h2⟩] at H
            have e1 : decide ((i : Int) < (l0.length : Int)) = true := decide_eq_true (by omega)
            have e2 : decide ((i : Int) < 20) = true := decide_eq_true (by omega)
            obtain ⟨ad, ea, x0, x1, x2, x3, x4, x5, x6, x7, x8⟩ := at_T46 HR0.out (i : Int) (by omega) (by omega)
            cases ea
            rw [Int.toNat_natCast] at x0 x1 x2 x3 x4 x5 x6 x7 x8
            have p1 := eq_true (show (0 : Int) ≤ (i : Int) by omega)
            have p2 := eq_true (show (i : Int) < (l0.length : Int) by omega)
            obtain ⟨⟨J, ok, a', e'⟩, hJ, h3⟩ := Option.bind_eq_some_iff.mp H
            dsimp only at h3
            by_cases hok : ok = true ∧ J.ok
            rotate_left
            · rw [if_neg hok] at h3; cases h3
            rw [if_pos hok] at h3
            obtain ⟨rfl, hjo⟩ := hok
            obtain ⟨X, hX, h4⟩ := Option.bind_eq_some_iff.mp h3
            by_cases heq : J.eq X = true
            rotate_left
            · rw [if_neg heq] at h4; cases h4
            rw [if_pos heq] at h4
            generalize rd_T46 l0 (i : Int) = x at hX x0 x1 x2 x3 x4 x5 x6 x7 x8
            have HX := Aside0.mk (fun (W : World) => fixI.calls k x.f0 x.f1.f0 x.f1.f1 x.f1.f2 x.f2 x.f3.f0 x.f3.f1 x.f4 x.f5 X W hX)
            have HEL := Aside0.mk (fun (w' : World) (hb : Below w.heap.size w w') => (show w'.cell? (ad.add (i * 9)) = some (.int .i64 x.f0) ∧ w'.cell? ⟨(ad.add (i * 9)).block, (ad.add (i * 9)).off + 1, none⟩ = some (.string x.f1.f0) ∧ w'.cell? ⟨(ad.add (i * 9)).block, (ad.add (i * 9)).off + 2, none⟩ = some (.int .i64 x.f1.f1) ∧ w'.cell? ⟨(ad.add (i * 9)).block, (ad.add (i * 9)).off + 3, none⟩ = some (.int .i64 x.f1.f2) ∧ w'.cell? ⟨(ad.add (i * 9)).block, (ad.add (i * 9)).off + 4, none⟩ = some (.bool x.f2) ∧ w'.cell? ⟨(ad.add (i * 9)).block, (ad.add (i * 9)).off + 5, none⟩ = some (.int .i64 x.f3.f0) ∧ w'.cell? ⟨(ad.add (i * 9)).block, (ad.add (i * 9)).off + 6, none⟩ = some (.int .i64 x.f3.f1) ∧ w'.cell? ⟨(ad.add (i * 9)).block, (ad.add (i * 9)).off + 7, none⟩ = some (.string x.f4) ∧ w'.cell? ⟨(ad.add (i * 9)).block, (ad.add (i * 9)).off + 8, none⟩ = some (.bool x.f5) from ⟨cell_keep x0 hb, cell_keep x1 hb, cell_keep x2 hb, cell_keep x3 hb, cell_keep x4 hb, cell_keep x5 hb, cell_keep x6 hb, cell_keep x7 hb, cell_keep x8 hb⟩))
            have HT := Aside0.mk (it_take k g b a e J true a' e' wr HI.out hJ)
            have HF := Aside0.mk (fun (W : World) => it_from J.k J.i J.q J.s J.d J.x J.y J.t J.h W hjo.1 hjo.2)
            have hne := fun (W : World) => neq_ref J X W
            rw [heq, show (!true) = false from rfl] at hne
            have HNE := Aside0.mk hne
            have HL := Aside0.mk h4
            clear H hX h3 hjo hJ h4 heq hne x0 x1 x2 x3 x4 x5 x6 x7 x8
            go_wp2_with fail
            refine HT.out.mono ?_
            rintro ev w2 ⟨rfl, hi, hb, hk⟩
            replace HB := Aside0.mk (hb w HGE.out HB.out)
            replace HI := Aside0.mk hi
            clear hi hb hk HT
            go_upto_region 11 with fail
            have BY := Aside0.mk (blk_new w2 (.cells #[.int .i64 J.k, .string J.i, .int .i64 J.q, .int .i64 J.s, .bool J.d, .complex .f64 (fl J.x) (fl J.y), .string J.t, .bool J.h] 40))
            replace HI := Aside0.mk (HI.out.below (below_alloc (Below.refl _ _) (.cells #[.int .i64 J.k, .string J.i, .int .i64 J.q, .int .i64 J.s, .bool J.d, .complex .f64 (fl J.x) (fl J.y), .string J.t, .bool J.h] 40)))
            replace HB := Aside0.mk (below_alloc HB.out (.cells #[.int .i64 J.k, .string J.i, .int .i64 J.q, .int .i64 J.s, .bool J.d, .complex .f64 (fl J.x) (fl J.y), .string J.t, .bool J.h] 40))
            generalize w2.alloc _ = w3 at BY HI HB ⊢
            generalize w2.heap.size = gy at BY ⊢
            refine start_ (n := 12) (S := fun w' => w'.cell? ⟨gy, 0, none⟩ = some (.int .i64 J.k) ∧ w'.cell? ⟨gy, 1, none⟩ = some (.string J.i) ∧ w'.cell? ⟨gy, 2, none⟩ = some (.int .i64 J.q) ∧ w'.cell? ⟨gy, 3, none⟩ = some (.int .i64 J.s) ∧ w'.cell? ⟨gy, 4, none⟩ = some (.bool J.d) ∧ w'.cell? ⟨gy, 5, none⟩ = some (.complex .f64 (fl J.x) (fl J.y)) ∧ w'.cell? ⟨gy, 6, none⟩ = some (.string J.t) ∧ w'.cell? ⟨gy, 7, none⟩ = some (.bool J.h) ∧ w'.cell? (ad.add (i * 9)) = some (.int .i64 x.f0) ∧ w'.cell? ⟨(ad.add (i * 9)).block, (ad.add (i * 9)).off + 1, none⟩ = some (.string x.f1.f0) ∧ w'.cell? ⟨(ad.add (i * 9)).block, (ad.add (i * 9)).off + 2, none⟩ = some (.int .i64 x.f1.f1) ∧ w'.cell? ⟨(ad.add (i * 9)).block, (ad.add (i * 9)).off + 3, none⟩ = some (.int .i64 x.f1.f2) ∧ w'.cell? ⟨(ad.add (i * 9)).block, (ad.add (i * 9)).off + 4, none⟩ = some (.bool x.f2) ∧ w'.cell? ⟨(ad.add (i * 9)).block, (ad.add (i * 9)).off + 5, none⟩ = some (.int .i64 x.f3.f0) ∧ w'.cell? ⟨(ad.add (i * 9)).block, (ad.add (i * 9)).off + 6, none⟩ = some (.int .i64 x.f3.f1) ∧ w'.cell? ⟨(ad.add (i * 9)).block, (ad.add (i * 9)).off + 7, none⟩ = some (.string x.f4) ∧ w'.cell? ⟨(ad.add (i * 9)).block, (ad.add (i * 9)).off + 8, none⟩ = some (.bool x.f5)) (ds := []) #[false, false, false, false, false, false, false, false, false, false, false, false] (by kernel_rfl) rfl rfl (and8 (it_cells (blk_drew BY.out)) (HEL.out _ (below_drew1 HB.out))) (fun hHeld => ?_)
            replace BY := Aside0.mk (blk_drew BY.out)
            replace HI := Aside0.mk (HI.out.below (below_drew1 (Below.refl _ _)))
            replace HB := Aside0.mk (below_drew1 HB.out)
            generalize w3.drew = w4 at BY HI HB hHeld ⊢
            have hne := HNE.out
            refine pure_ (i := 0) (N := some 44) (v := ?_) (a' := ?_) #[true, false, false, false, false, false, false, false, false, false, false, false] rfl rfl (by kernel_rfl) (fun _ _ _ h => h) (Or.inl ⟨by rfl, ?_⟩) ?_ ?_
            rotate_left
            · intro w'
              go_simp
              with_reducible rfl
            rotate_left
            · simp only [Act.put, List.setIfInBounds_toArray, List.set_cons_zero, List.set_cons_succ, i64_w, i32_w]
              rfl
            refine pure_ (i := 1) (N := some 45) (v := ?_) (a' := ?_) #[true, true, false, false, false, false, false, false, false, false, false, false] rfl rfl (by kernel_rfl) (fun _ _ _ h => h) (Or.inl ⟨by rfl, ?_⟩) ?_ ?_
            rotate_left
            · intro w'
              go_simp
              with_reducible rfl
            rotate_left
            · simp only [Act.put, List.setIfInBounds_toArray, List.set_cons_zero, List.set_cons_succ, i64_w, i32_w]
              rfl
            refine pure_ (i := 2) (N := some 46) (v := ?_) (a' := ?_) #[true, true, true, false, false, false, false, false, false, false, false, false] rfl rfl (by kernel_rfl) (fun _ _ _ h => h) (Or.inl ⟨by rfl, ?_⟩) ?_ ?_
            rotate_left
            · intro w'
              go_simp
              with_reducible rfl
            rotate_left
            · simp only [Act.put, List.setIfInBounds_toArray, List.set_cons_zero, List.set_cons_succ, i64_w, i32_w]
              rfl
            refine take_ (i := 3) (N := some 47) (v := ?_) (a' := ?_) #[true, true, true, true, false, false, false, false, false, false, false, false] rfl rfl (by kernel_rfl) (fun _ _ _ h => h) (Or.inl ⟨by rfl, ?_⟩) hHeld ?_ ?_
            rotate_left
            · rintro w' ⟨s0, s1, s2, s3, s4, s5, s6, s7, s8, s9, s10, s11, s12, s13, s14, s15, s16⟩
              go_simp
              with_reducible rfl
            rotate_left
            · simp only [Act.put, List.setIfInBounds_toArray, List.set_cons_zero, List.set_cons_succ, i64_w, i32_w]
              rfl
            refine pure_ (i := 5) (N := some 49) (v := ?_) (a' := ?_) #[true, true, true, true, false, true, false, false, false, false, false, false] rfl rfl (by kernel_rfl) (fun _ _ _ h => h) (Or.inl ⟨by rfl, ?_⟩) ?_ ?_
            rotate_left
            · intro w'
              go_simp
              with_reducible rfl
            rotate_left
            · simp only [Act.put, List.setIfInBounds_toArray, List.set_cons_zero, List.set_cons_succ, i64_w, i32_w]
              rfl
            refine pure_ (i := 6) (N := some 50) (v := ?_) (a' := ?_) #[true, true, true, true, false, true, true, false, false, false, false, false] rfl rfl (by kernel_rfl) (fun _ _ _ h => h) (Or.inl ⟨by rfl, ?_⟩) ?_ ?_
            rotate_left
            · intro w'
              go_simp
              with_reducible rfl
            rotate_left
            · simp only [Act.put, List.setIfInBounds_toArray, List.set_cons_zero, List.set_cons_succ, i64_w, i32_w]
              rfl
            refine pure_ (i := 7) (N := some 51) (v := ?_) (a' := ?_) #[true, true, true, true, false, true, true, true, false, false, false, false] rfl rfl (by kernel_rfl) (fun _ _ _ h => h) (Or.inl ⟨by rfl, ?_⟩) ?_ ?_
            rotate_left
            · intro w'
              go_simp
              with_reducible rfl
            rotate_left
            · simp only [Act.put, List.setIfInBounds_toArray, List.set_cons_zero, List.set_cons_succ, i64_w, i32_w]
              rfl
            refine take_ (i := 8) (N := some 52) (v := ?_) (a' := ?_) #[true, true, true, true, false, true, true, true, true, false, false, false] rfl rfl (by kernel_rfl) (fun _ _ _ h => h) (Or.inl ⟨by rfl, ?_⟩) hHeld ?_ ?_
            rotate_left
            · rintro w' ⟨s0, s1, s2, s3, s4, s5, s6, s7, s8, s9, s10, s11, s12, s13, s14, s15, s16⟩
              go_simp
              with_reducible rfl
            rotate_left
            · simp only [Act.put, List.setIfInBounds_toArray, List.set_cons_zero, List.set_cons_succ, i64_w, i32_w]
              rfl
            refine one_ (i := 4) (N := some 48) #[true, true, true, true, true, true, true, true, true, false, false, false] rfl rfl (by kernel_rfl) (by decide) (fun K hK => ?_)
            refine goes_ Try.func16 (by kernel_rfl) rfl #[.agg #[.int .i64 J.k, .string J.i, .int .i64 J.q, .int .i64 J.s, .bool J.d, .complex .f64 (fl J.x) (fl J.y), .string J.t, .bool J.h]] (by rfl) rfl rfl (by (try simp only [List.map_toArray, List.map_cons, List.map_nil]); first | done | rfl) ?_
            refine (HF.out w4).mono ?_
            rintro ev w5 ⟨rfl, hb⟩
            refine ⟨_, rfl, ?_⟩
            replace BY := Aside0.mk (blk_below BY.out hb)
            replace HI := Aside0.mk (HI.out.below hb)
            replace HB := Aside0.mk (below_step HB.out hb)
            clear hb
            refine hK.out _ _ (and8 (it_cells BY.out) (HEL.out _ HB.out)) (fun hHeld => ?_)
            clear hK K
            refine norm_ (a' := ?_) ?_ ?_
            rotate_left
            · show Act.put _ (some 48) _ = _
              simp only [Act.put, List.setIfInBounds_toArray, List.set_cons_zero, List.set_cons_succ, i64_w, i32_w]
              rfl
            refine one_ (i := 9) (N := some 53) #[true, true, true, true, true, true, true, true, true, true, false, false] rfl rfl (by kernel_rfl) (by decide) (fun K hK => ?_)
            refine goes_ Try.func20 (by kernel_rfl) rfl #[.agg #[.int .i64 x.f0, .string x.f1.f0, .int .i64 x.f1.f1, .int .i64 x.f1.f2, .bool x.f2, .int .i64 x.f3.f0, .int .i64 x.f3.f1, .string x.f4, .bool x.f5]] (by rfl) rfl rfl (by (try simp only [List.map_toArray, List.map_cons, List.map_nil]); first | done | rfl) ?_
            refine (HX.out w5).mono ?_
            rintro ev w6 ⟨rfl, hb⟩
            refine ⟨_, rfl, ?_⟩
            replace BY := Aside0.mk (blk_below BY.out hb)
            replace HI := Aside0.mk (HI.out.below hb)
            replace HB := Aside0.mk (below_step HB.out hb)
            clear hb
            refine hK.out _ _ (and8 (it_cells BY.out) (HEL.out _ HB.out)) (fun hHeld => ?_)
            clear hK K
            refine norm_ (a' := ?_) ?_ ?_
            rotate_left
            · show Act.put _ (some 53) _ = _
              simp only [Act.put, List.setIfInBounds_toArray, List.set_cons_zero, List.set_cons_succ, i64_w, i32_w]
              rfl
            refine pure_ (i := 10) (N := some 54) (v := ?_) (a' := ?_) #[true, true, true, true, true, true, true, true, true, true, true, false] rfl rfl (by kernel_rfl) (fun _ _ _ h => h) (Or.inl ⟨by rfl, ?_⟩) ?_ ?_
            rotate_left
            · intro w'
              go_simp
              with_reducible rfl
            rotate_left
            · simp only [Act.put, List.setIfInBounds_toArray, List.set_cons_zero, List.set_cons_succ, i64_w, i32_w]
              rfl
            refine pure_ (i := 11) (N := some 55) (v := ?_) (a' := ?_) #[true, true, true, true, true, true, true, true, true, true, true, true] rfl rfl (by kernel_rfl) (fun _ _ _ h => h) (Or.inl ⟨by rfl, ?_⟩) ?_ ?_
            rotate_left
            · intro w'
              go_simp
              with_reducible rfl
            rotate_left
            · simp only [Act.put, List.setIfInBounds_toArray, List.set_cons_zero, List.set_cons_succ, i64_w, i32_w]
              rfl
            refine done_ (by kernel_rfl) ?_
            have hw : wrap64 ((i : Int) + 1) = ((i + 1 : Nat) : Int) := by rw [Go.Proofs.Ytkmhanpamdgnjaa.Pure.wrap_id (by omega) (by omega)]; omega
            clear hne hHeld
            go_wp2_with fail
            go_roundg m1
            case measure => omega
            case rel => exact ⟨a', e', i + 1, by simp, HI.out, HL, HB⟩
          · rw [if_neg hc] at H
            have HL := Aside0.mk H
            clear H
            by_cases h1 : i < l0.length
            · have e1 : decide ((i : Int) < (l0.length : Int)) = true := decide_eq_true (by omega)
              have e2 : decide ((i : Int) < 20) = false := decide_eq_false (by omega)
              go_wp2_with fail
              go_meet
              case rel => exact ⟨a, e, HI.out, HL, HB⟩
            · have e1 : decide ((i : Int) < (l0.length : Int)) = false := decide_eq_false (by omega)
              go_wp2_with fail
              go_meet
              case rel => exact ⟨a, e, HI.out, HL, HB⟩
    case rest =>
      clear H HB HI
      obtain ⟨a, e, HI, H, HB⟩ := hcut
      replace HI := Aside0.mk HI
      by_cases hz : (if e = 0 ∧ a < (b.length : Int) then (3 : Int) else e) = 0
      rotate_left
      · have h4 := (if_neg hz).symm.trans H.out
        cases h4
      obtain rfl := Option.some.inj ((if_pos hz).symm.trans H.out)
      clear H
      go_wp2_with fail
      refine (cenotaphlaw07_told.calls true wc rfl).mono ?_
      rintro ev w2 ⟨rfl, hb⟩
      replace HI := Aside0.mk (HI.out.below hb)
      replace HB := Aside0.mk (below_step HB.out hb)
      clear hb
      have hre := rd_end g b a e w2 HI.out
      rw [hz] at hre
      clear hz
      go_wp2_with fail
      refine hre.mono ?_
      clear hre
      rintro ev w3 ⟨rfl, hi, hb, hk⟩
      replace HB := Aside0.mk (hb w HGE.out HB.out)
      clear hi hb hk
      go_wp2_with fail
      go_ret
      exact ⟨rfl, HB.out⟩

end Go.Proofs.Ytkmhanpamdgnjaa.P
