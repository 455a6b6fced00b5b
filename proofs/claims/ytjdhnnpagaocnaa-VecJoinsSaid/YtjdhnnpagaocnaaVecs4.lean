import Derived.Test.YtjdhnnpagaocnaaVecs2
import Derived.Test.YtjdhnnpagaocnaaVecs3
import Derived.Test.YtjdhnnpagaocnaaP5
import Derived.Test.YtjdhnnpagaocnaaP6
/- What the laws on Vecs share: the told sum, and the words there. -/
namespace Go.Proofs.Ytjdhnnpagaocnaa.Pure
open Go.RowKit Go.Proofs.Ytjdhnnpagaocnaa Go.Proofs.Ytjdhnnpagaocnaa.P Go.Proofs.YtjdhnnpagaocnaaW.PrintWords Go.Proofs.YtjdhnnpagaocnaaW.PrintLast
set_option linter.unusedVariables false
set_option linter.unusedSimpArgs false
theorem told_meet : vec_Meet.f 3 [⟨⟨#[48]⟩, 3⟩, ⟨⟨#[48, 49]⟩, 2⟩] [⟨⟨#[48]⟩, 1⟩] = some [⟨⟨#[48]⟩, 1⟩] := by
  simp only [vec_Meet.f, vec_Meet.l0, wrap64]
  rfl
theorem told_right : vec_Right.f 3 [⟨⟨#[48]⟩, 3⟩, ⟨⟨#[48, 49]⟩, 2⟩] = some true := by
  simp only [vec_Right.f, vec_Right.l0, wrap64]
  rfl
theorem told20 : cenotaphlaw03_told.f 20 = some true := by
  have m := at_rounds (fun k => vec_Meet.mono _ _ k) (show 3 ≤ 20 by decide) told_meet
  have r := at_rounds (fun k => vec_Right.mono _ k) (show 3 ≤ 20 by decide) told_right
  simp only [cenotaphlaw03_told.f, Lib.toList_data]
  rw [show vec_Set.f [] ⟨#[48, 49]⟩ 2 = some [⟨⟨#[48, 49]⟩, 2⟩] from rfl, Option.bind_some, show vec_Set.f [⟨⟨#[48, 49]⟩, 2⟩] ⟨#[48]⟩ 3 = some [⟨⟨#[48]⟩, 3⟩, ⟨⟨#[48, 49]⟩, 2⟩] from rfl, Option.bind_some, show vec_Set.f [] ⟨#[48]⟩ 1 = some [⟨⟨#[48]⟩, 1⟩] from rfl, Option.bind_some, m, Option.bind_some, show vec_Within.f [⟨⟨#[48]⟩, 1⟩] [⟨⟨#[48]⟩, 3⟩, ⟨⟨#[48, 49]⟩, 2⟩] = some true from rfl, show vec_Within.f [⟨⟨#[48]⟩, 3⟩, ⟨⟨#[48, 49]⟩, 2⟩] [⟨⟨#[48]⟩, 1⟩] = some false from rfl, r]
  rfl
theorem told_ok3 (k : Nat) (hk : 20 ≤ k) : cenotaphlaw03_told.f k = some true := at_rounds (fun k => cenotaphlaw03_told.mono k) hk told20
theorem to_loop3 (l : List SR) (hl : l.length < 1000000) (d : Nat) : ∀ (k n : Nat) (acc : List SA), l.length - n = d → n ≤ l.length → acc.length + d < 1000000 → d < k → cenotaphlaw03_To.l0 k l acc (n : Int) = some (acc ++ convV sR sA (l.drop n)) := by
  induction d with
  | zero =>
    intro k n acc hd hn ha hk
    obtain ⟨k, rfl⟩ : ∃ m, k = m + 1 := ⟨k - 1, by omega⟩
    simp only [cenotaphlaw03_To.l0]
    rw [if_neg (by omega), List.drop_eq_nil_of_le (by omega)]; simp [convV]
  | succ d ih =>
    intro k n acc hd hn ha hk
    obtain ⟨k, rfl⟩ : ∃ m, k = m + 1 := ⟨k - 1, by omega⟩
    simp only [cenotaphlaw03_To.l0]
    rw [if_pos (by omega), if_pos (by omega), if_pos (by omega), rdR, wrap_nat (by omega), ih k (n + 1) _ (by omega) (by omega) (by simp; omega) (by omega), drop_getD l z33 n (by omega), List.append_assoc]
    rfl
theorem to3 (l : List SR) (hl : l.length < 100000) (k : Nat) (hk : l.length < k) : cenotaphlaw03_To.f k l = some (convV sR sA l) := by
  have := to_loop3 l (by omega) l.length k 0 [] (by omega) (by omega) (by simp; omega) hk
  simpa [cenotaphlaw03_To.f] using this
end Go.Proofs.Ytjdhnnpagaocnaa.Pure
