/- WireReads: of all bytes, whatever is taken of them, one behind the other, is told, and what is wrong first; what is handed in stays. No condition beyond the statement's own. -/
import Derived.Test.YtgkcdmhndplejaaWire1
import Derived.Test.YtgkcdmhndplejaaP3
import Derived.Test.YtgkcdmhndplejaaGoalWireReads
namespace Go.Proofs.Ytgkcdmhndplejaa.Pure
open Go.RowKit Go.Proofs.Ytgkcdmhndplejaa Go.Proofs.Ytgkcdmhndplejaa.P Go.Proofs.YtgkcdmhndplejaaW.PrintWords Go.Proofs.YtgkcdmhndplejaaW.PrintLast
set_option linter.unusedVariables false
/-- Both Nums tell the same, and stay within the bytes. -/
theorem both_num (L : List Int) (hb : ∀ x ∈ L, 0 ≤ x ∧ x < 256) (hl : L.length ≤ 300) (a e m : Int) (ha : 0 ≤ a) (hal : a ≤ L.length) : ∃ t, wire_Reader_Num.f 100 L a e m = some t ∧ cenotaphref06_Reader_Num.f 100 L a e m = some t ∧ 0 ≤ t.1 ∧ 0 ≤ t.2.1 ∧ t.2.1 ≤ L.length := by
  by_cases he : e = 0
  · subst he
    obtain ⟨d, hd, hd2⟩ := dig_some L hb a ha 9 0 0 (by omega) (by omega) (by omega) (by omega) (by decide)
    have hd3 : d.2.2 = 0 → 0 ≤ d.1 ∧ 0 ≤ d.2.1 ∧ d.2.1 ≤ 9 ∧ a + d.2.1 ≤ L.length := by
      intro h0
      obtain ⟨x, x1, x2, x3, x4, x5, x6, x7⟩ := hd2 h0
      have h1 : d.1 = x := by rw [x1]; simp
      have hdl : ∀ (m : Nat) (y : Int), y < 128 ^ m → 0 < m → (enc m y).length ≤ m := by
        intro m
        induction m with
        | zero => intro y _ h; omega
        | succ m ih =>
          intro y hy _
          by_cases h0 : m = 0
          · subst h0
            rw [enc_small _ _ (by have : y < 128 := hy; omega)]; simp
          · rw [enc]
            split
            · rw [List.length_cons]
              have := ih (y / 128) (div_small m y hy) (by omega)
              omega
            · simp
      have := hdl 9 x x3 (by omega)
      omega
    refine ⟨numR a m d, num_eq L a m ha (by omega) 100 (by omega) d hd (fun h => ⟨(hd3 h).2.1, (hd3 h).2.2.1⟩), rnum_eq L hb (by omega) a m ha hal 100 (by omega) d hd, ?_⟩
    rw [numR]
    by_cases h0 : d.2.2 = 0
    · obtain ⟨h1, h2, h3, h4⟩ := hd3 h0
      rw [if_pos h0]
      split
      · exact ⟨by dsimp only; omega, ha, hal⟩
      · exact ⟨h1, by dsimp only; omega, h4⟩
    · rw [if_neg h0]
      exact ⟨by dsimp only; omega, ha, hal⟩
  · exact ⟨_, num_err L a e m he 100, rnum_err L a e m he 100, by dsimp only; omega, ha, hal⟩
theorem both_text (L : List Int) (hb : ∀ x ∈ L, 0 ≤ x ∧ x < 256) (hl : L.length ≤ 300) (a e m : Int) (ha : 0 ≤ a) (hal : a ≤ L.length) : ∃ t, wire_Reader_Text.f 100 L a e m = some t ∧ cenotaphref06_Reader_Text.f 100 L a e m = some t ∧ 0 ≤ t.2.1 ∧ t.2.1 ≤ L.length := by
  obtain ⟨t, h1, h2, h3, h4, h5⟩ := both_num L hb hl a e m ha hal
  rw [wire_Reader_Text.f, cenotaphref06_Reader_Text.f, h1, h2, Option.bind_some]
  by_cases he : t.2.2 = 0
  · rw [if_neg (by simp [he]), if_pos ⟨h3, h4, h5⟩]
    by_cases hg : t.1 > (L.length : Int) - t.2.1
    · rw [if_pos hg]
      exact ⟨_, rfl, rfl, h4, h5⟩
    · rw [if_neg hg]
      exact ⟨_, rfl, rfl, by dsimp only; omega, by dsimp only; omega⟩
  · rw [if_pos he]
    exact ⟨_, rfl, rfl, h4, h5⟩
theorem reads_loop (L : List Int) (hb : ∀ x ∈ L, 0 ≤ x ∧ x < 256) (hl : L.length ≤ 300) (l : List S31) : ∀ (m i : Nat) (a e : Int), 61 ≤ m + i → 0 < m → 0 ≤ a → a ≤ L.length → cenotaphlaw06_WireReads.l0 100 L l m i a e a e = some true
  | 0, i, a, e, hi, hm, ha, hal => absurd hm (by omega)
  | m + 1, i, a, e, hi, hm, ha, hal => by
    rw [cenotaphlaw06_WireReads.l0]
    by_cases hc : i < l.length ∧ i < 60
    · rw [if_pos hc]
      have chk : ∀ (a e : Int) (c : Option Bool), cenotaphlaw06_WireReads.chk L a e a e c = c := by
        intro a e c
        rw [cenotaphlaw06_WireReads.chk, if_pos rfl, if_pos rfl]
      by_cases h0 : (rd_T31 l (i : Int)).f0 = true
      · rw [if_pos h0]
        obtain ⟨t, h1, h2, h3, h4⟩ := both_text L hb hl a e (rd_T31 l (i : Int)).f1 ha hal
        rw [h1, h2, Option.bind_some, Option.bind_some, if_pos rfl, chk]
        exact reads_loop L hb hl l m (i + 1) _ _ (by omega) (by omega) h3 h4
      · rw [if_neg h0]
        obtain ⟨t, h1, h2, h3, h4, h5⟩ := both_num L hb hl a e (rd_T31 l (i : Int)).f1 ha hal
        rw [h1, h2, Option.bind_some, Option.bind_some, if_pos rfl, chk]
        exact reads_loop L hb hl l m (i + 1) _ _ (by omega) (by omega) h4 h5
    · rw [if_neg hc]
theorem WireReads : cenotaphlaw06_WireReads.Pure := by
  intro l0 l1 _ hb0 _ _
  refine ⟨100, ?_⟩
  have hb : ∀ x ∈ l0.take 300, 0 ≤ x ∧ x < 256 := fun x hx => wf_u8 (hb0 x (List.mem_of_mem_take hx))
  rw [cenotaphlaw06_WireReads.f]
  exact reads_loop _ hb (by rw [List.length_take]; omega) l1 61 0 0 0 (by omega) (by omega) (by omega) (by omega)
end Go.Proofs.Ytgkcdmhndplejaa.Pure
