import Derived.Test.YtloeealbggobjaaVecsT
import Derived.Test.YtloeealbggobjaaOrdB
import Derived.Test.YtloeealbggobjaaP4
import Derived.Test.YtloeealbggobjaaP5
/- Certificates: who is gone, with how many events, and who is left, in plain words. -/
namespace Go.Proofs.Ytloeealbggobjaa.Pure
open Go.RowKit Go.Proofs.Ytloeealbggobjaa Go.Proofs.Ytloeealbggobjaa.P Go.Proofs.YtloeealbggobjaaW.PrintWords Go.Proofs.YtloeealbggobjaaW.PrintLast
set_option linter.unusedVariables false
set_option linter.unusedSimpArgs false
theorem gone_ok {l : List SA} (h : PV sA l) (hl : l.length < 1000000000) (a : ByteArray) : cert_Gone.f l a = some (decide (ofV sA l a > 0)) := by
  unfold cert_Gone.f
  rw [vec_of h hl, Option.bind_some]
theorem last_ok {l : List SA} (h : OkV sA l) (hl : l.length < 1000000000) (a : ByteArray) : cert_Last.f l a = some (max 0 (ofV sA l a - 1)) := by
  have h0 := h.toPV.nonneg a; have h1 := h.le_of a
  unfold cert_Last.f
  rw [vec_of h.toPV hl, Option.bind_some, wrap_id (by omega) (by omega), mx_max]
theorem put_ok {l : List SA} (h : PV sA l) (hl : l.length < 1000000000) (a : ByteArray) (n : Int) : cert_Put.f l a n = some (setV sA l a (1 + max 0 (min n 1048575))) := by
  unfold cert_Put.f
  rw [mx_max, mn_min, vec_set h hl, Option.bind_some]
theorem unionB_id {l : List ByteArray} (h : l.Pairwise ltB) : unionB (l ++ []) = l :=
  ssort_unique toB (unionB_sorted _) h fun x => by rw [mem_unionB, List.append_nil]
theorem unionB_length (l : List ByteArray) : (unionB l).length ≤ l.length := by
  unfold unionB Lib.compactUpTo
  rw [List.length_map]
  refine Nat.le_trans (List.length_filter_le _ _) ?_
  simp [sortB]
theorem live_ok {x : List SA} (h : PV sA x) (hl : x.length < 1000000000) {l : List ByteArray} (hs : l.Pairwise ltB) (h0 : l.length < 8796093022208) : cert_Live.f l x = some (l.filter fun a => !(decide (ofV sA x a > 0))) := by
  unfold cert_Live.f id_Union.f
  rw [if_pos (by simp; omega), Option.bind_some, unionB_id hs, if_pos (List.all_eq_true.mpr fun a _ => by rw [gone_ok h hl]; rfl)]
  simp only [gone_ok h hl, Option.getD_some]
theorem told9 : cenotaphlaw09_told.f = some true := by
  have hs : ([⟨#[48]⟩, ⟨#[48, 49]⟩, ⟨#[48, 50]⟩] : List ByteArray).Pairwise ltB := by decide
  have hp : PV sA [⟨⟨#[48, 49]⟩, 1⟩] := setV_PV (s := sA) PV.nil ⟨#[48, 49]⟩ 1
  have okp : OkV sA [⟨⟨#[48, 49]⟩, 1⟩] := setV_ok (s := sA) OkV.nil ⟨#[48, 49]⟩ 1
  have okq : OkV sA [⟨⟨#[48, 49]⟩, 6⟩] := setV_ok (s := sA) okp ⟨#[48, 49]⟩ 6
  have e1 : cert_Put.f ([] : List SA) (⟨#[48, 49]⟩ : ByteArray) 0 = some [⟨⟨#[48, 49]⟩, 1⟩] := rfl
  unfold cenotaphlaw09_told.f
  rw [e1, Option.bind_some, live_ok hp (by decide) hs (by decide), Option.bind_some]
  have e2 : ([⟨#[48]⟩, ⟨#[48, 49]⟩, ⟨#[48, 50]⟩] : List ByteArray).filter (fun a => !(decide (ofV sA [⟨⟨#[48, 49]⟩, 1⟩] a > 0))) = [⟨#[48]⟩, ⟨#[48, 50]⟩] := by decide
  rw [e2, gone_ok hp (by decide), show decide (ofV sA [⟨⟨#[48, 49]⟩, 1⟩] ⟨#[48, 49]⟩ > 0) = true from by decide, Option.bind_some, if_pos rfl,
    last_ok okp (by decide), show max 0 (ofV sA [⟨⟨#[48, 49]⟩, 1⟩] ⟨#[48, 49]⟩ - 1) = 0 from by decide, Option.bind_some, if_pos rfl, gone_ok hp (by decide), show decide (ofV sA [⟨⟨#[48, 49]⟩, 1⟩] ⟨#[48]⟩ > 0) = false from by decide, Option.bind_some, if_neg (by simp), if_pos (by rfl), if_pos (by decide),
    if_pos (by rw [Lib.toList_data]; rfl), show cert_Put.f [⟨⟨#[48, 49]⟩, 1⟩] ⟨#[48, 49]⟩ 5 = some [⟨⟨#[48, 49]⟩, 6⟩] from rfl, Option.bind_some, last_ok okq (by decide), show max 0 (ofV sA [⟨⟨#[48, 49]⟩, 6⟩] ⟨#[48, 49]⟩ - 1) = 5 from by decide, Option.bind_some]
  rfl
end Go.Proofs.Ytloeealbggobjaa.Pure
