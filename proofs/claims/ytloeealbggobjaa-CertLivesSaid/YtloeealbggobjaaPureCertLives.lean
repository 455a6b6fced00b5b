/- CertLives: of all members and lists those are told of whom there is none; with more certificates there are no more. No condition beyond the statement's own. -/
import Derived.Test.YtloeealbggobjaaCert1
import Derived.Test.YtloeealbggobjaaIds5
import Derived.Test.YtloeealbggobjaaVecs8
import Derived.Test.YtloeealbggobjaaVecsJ
import Derived.Test.YtloeealbggobjaaP8
import Derived.Test.YtloeealbggobjaaP12
import Derived.Test.YtloeealbggobjaaP6
import Derived.Test.YtloeealbggobjaaP13
import Derived.Test.YtloeealbggobjaaGoalCertLives
namespace Go.Proofs.Ytloeealbggobjaa.Pure
open Go.RowKit Go.Proofs.Ytloeealbggobjaa Go.Proofs.Ytloeealbggobjaa.P Go.Proofs.YtloeealbggobjaaW.PrintWords Go.Proofs.YtloeealbggobjaaW.PrintLast
set_option linter.unusedVariables false
set_option linter.unusedSimpArgs false
theorem to_loop (l : List ByteArray) (hl : l.length < 8796093022208) (d : Nat) : ∀ (k n : Nat), l.length - n = d → n ≤ l.length → d < k → cenotaphlaw01_To.l0 k l (l.take n) (n : Int) = some l := by
  induction d with
  | zero =>
    intro k n hd hn hk
    obtain ⟨k, rfl⟩ : ∃ m, k = m + 1 := ⟨k - 1, by omega⟩
    simp only [cenotaphlaw01_To.l0]; rw [if_neg (by omega), List.take_of_length_le (by omega)]
  | succ d ih =>
    intro k n hd hn hk
    obtain ⟨k, rfl⟩ : ∃ m, k = m + 1 := ⟨k - 1, by omega⟩
    simp only [cenotaphlaw01_To.l0]
    rw [if_pos (by omega), if_pos (by omega), if_pos (by rw [List.length_take]; omega), rd_nat, take_succ_getD _ _ _ (by omega), wrap_id (by omega) (by omega)]
    exact ih k (n + 1) (by omega) (by omega) (by omega)
theorem from_loop (l : List ByteArray) (hl : l.length < 8796093022208) (d : Nat) : ∀ (k n : Nat), l.length - n = d → n ≤ l.length → d < k → cenotaphlaw01_From.l0 k l (l.take n) (n : Int) = some l := by
  induction d with
  | zero =>
    intro k n hd hn hk
    obtain ⟨k, rfl⟩ : ∃ m, k = m + 1 := ⟨k - 1, by omega⟩
    simp only [cenotaphlaw01_From.l0]; rw [if_neg (by omega), List.take_of_length_le (by omega)]
  | succ d ih =>
    intro k n hd hn hk
    obtain ⟨k, rfl⟩ : ∃ m, k = m + 1 := ⟨k - 1, by omega⟩
    simp only [cenotaphlaw01_From.l0]
    rw [if_pos (by omega), if_pos (by omega), if_pos (by rw [List.length_take]; omega), rd_nat, take_succ_getD _ _ _ (by omega), wrap_id (by omega) (by omega)]
    exact ih k (n + 1) (by omega) (by omega) (by omega)
theorem to_ok (l : List ByteArray) (hl : l.length < 8796093022208) (k : Nat) (hk : l.length < k) : cenotaphlaw01_To.f k l = some l := to_loop l hl l.length k 0 (by omega) (by omega) hk
theorem from_ok (l : List ByteArray) (hl : l.length < 8796093022208) (k : Nat) (hk : l.length < k) : cenotaphlaw01_From.f k l = some l := from_loop l hl l.length k 0 (by omega) (by omega) hk
theorem merge_ok {a b : List SA} (ha : OkV sA a) (hb : OkV sA b) (h1 : a.length < 100000) (h2 : b.length < 100000) (k : Nat) (hk : b.length < k) :
    ∃ r, cert_Merge.f k a b = some r ∧ OkV sA r ∧ (∀ i, ofV sA r i = max (ofV sA a i) (ofV sA b i)) ∧ r.length ≤ a.length + b.length := by
  obtain ⟨r, e, h⟩ := vec_join ha hb h1 h2 k hk
  exact ⟨r, by unfold cert_Merge.f; rw [e, Option.bind_some], h⟩
theorem rgone_ok (l : List SR) (hl : l.length < 1000000) (a : ByteArray) (k : Nat) (hk : l.length < k) : cenotaphref09_Gone.f k l a = some (decide (ofV sR l a > 0)) := by
  unfold cenotaphref09_Gone.f
  rw [ref_of l a hl k hk, Option.bind_some]
/-- Those of whom there is none. -/
def leftB (g : ByteArray → Int) (l : List ByteArray) : List ByteArray := l.filter fun a => !(decide (g a > 0))
theorem leftB_sorted (g : ByteArray → Int) {l : List ByteArray} (h : l.Pairwise ltB) : (leftB g l).Pairwise ltB := List.Pairwise.sublist List.filter_sublist h
theorem rlive_loop (v : List SR) (hv : v.length < 1000000) (l : List ByteArray) (hl : l.length ≤ 1000) (r : List ByteArray) (K : Nat) (hr : ∀ k, K ≤ k → cenotaphref01_Union.f k (leftB (ofV sR v) l) [] = some r) (d : Nat) :
    ∀ (n k : Nat) (acc : List ByteArray), l.length - n = d → n ≤ l.length → acc = leftB (ofV sR v) (l.take n) → v.length + d + K < k → cenotaphref09_Live.l0 k l v acc (n : Int) = some r := by
  induction d with
  | zero =>
    intro n k acc hd hn ha hk
    obtain ⟨k, rfl⟩ : ∃ m, k = m + 1 := ⟨k - 1, by omega⟩
    rw [List.take_of_length_le (by omega)] at ha
    subst ha
    simp only [cenotaphref09_Live.l0]
    rw [if_neg (by omega), hr k (by omega), Option.bind_some]
  | succ d ih =>
    intro n k acc hd hn ha hk
    obtain ⟨k, rfl⟩ : ∃ m, k = m + 1 := ⟨k - 1, by omega⟩
    have hal : acc.length ≤ 1000 := by
      rw [ha]
      refine Nat.le_trans (List.length_filter_le _ _) ?_
      rw [List.length_take]; omega
    have ht := take_succ_getD l ByteArray.empty n (by omega)
    have hf : leftB (ofV sR v) (l.take (n + 1)) = acc ++ leftB (ofV sR v) [l.getD n ByteArray.empty] := by
      rw [← ht, ha]; unfold leftB; rw [List.filter_append]
    simp only [cenotaphref09_Live.l0]
    rw [if_pos (by omega), if_pos (by omega), rd_nat, rgone_ok v hv _ k (by omega), Option.bind_some, wrap_id (by omega) (by omega)]
    by_cases hg : ofV sR v (l.getD n ByteArray.empty) > 0
    · rw [decide_eq_true hg, if_pos rfl]
      refine ih (n + 1) k _ (by omega) (by omega) ?_ (by omega)
      rw [hf]; unfold leftB; rw [List.filter_cons_of_neg (by simpa using hg)]; simp
    · rw [decide_eq_false hg, if_neg (by simp), if_pos (by omega)]
      refine ih (n + 1) k _ (by omega) (by omega) ?_ (by omega)
      rw [hf]; unfold leftB; rw [List.filter_cons_of_pos (by simpa using hg)]; simp
theorem rlive_ok {v : List SR} (hv : v.length < 1000000) {l : List ByteArray} (hl : l.length ≤ 1000) (hs : l.Pairwise ltB) (hm : SmallB l) : ∃ K, ∀ k, K ≤ k → cenotaphref09_Live.f k l v = some (leftB (ofV sR v) l) := by
  have hsm : SmallB (leftB (ofV sR v) l) := fun x hx => hm x (List.mem_filter.mp hx).1
  have hle : (leftB (ofV sR v) l).length ≤ 1000 := Nat.le_trans (List.length_filter_le _ _) hl
  obtain ⟨K, hK⟩ := ref_union (leftB (ofV sR v) l) [] hsm (fun x hx => absurd hx List.not_mem_nil) (by simp; omega)
  rw [unionB_id (leftB_sorted _ hs)] at hK
  dsimp only at hK
  refine ⟨v.length + l.length + K + 1, fun k hk => ?_⟩
  have := rlive_loop v hv l hl _ K hK l.length 0 k [] (by omega) (by omega) rfl (by omega)
  simpa [cenotaphref09_Live.f] using this
theorem lives_loop (M : List ByteArray) (a b : List SR) (x y : List ByteArray) (hx : x.length < 1000) (hy : y.length < 1000) (hin : ∀ z ∈ y, z ∈ x) (K : Nat) (hK : ∀ k, K ≤ k → cenotaphlaw09_CertLives.l0 (k + 1) M a b x y (y.length : Int) = some true) (d : Nat) :
    ∀ (n k : Nat), y.length - n = d → n ≤ y.length → 1000 + d + K < k → cenotaphlaw09_CertLives.l0 k M a b x y (n : Int) = some true := by
  induction d with
  | zero =>
    intro n k hd hn hk
    obtain ⟨k, rfl⟩ : ∃ m, k = m + 1 := ⟨k - 1, by omega⟩
    have : n = y.length := by omega
    subst this
    exact hK k (by omega)
  | succ d ih =>
    intro n k hd hn hk
    obtain ⟨k, rfl⟩ : ∃ m, k = m + 1 := ⟨k - 1, by omega⟩
    obtain ⟨c, hc, hci⟩ := ref_has x (y.getD n ByteArray.empty) (by omega) k (by omega)
    have ht : c = true := hci.mpr (hin _ (getD_mem (by omega) _))
    simp only [cenotaphlaw09_CertLives.l0]
    rw [if_pos (by omega), if_pos (by omega), rd_nat, hc, Option.bind_some, if_pos ht, wrap_id (by omega) (by omega)]
    exact ih (n + 1) k (by omega) (by omega) (by omega)
theorem CertLives : cenotaphlaw09_CertLives.Pure := by
  intro l0 l1 l2 hl0 hw0 hl1 hw1 hl2 hw2
  have hM : maxLen ≤ 9223372036854775807 := by decide
  have e : mn (l0.length : Int) 20 = ((min l0.length 20 : Nat) : Int) := mn_nat _ 20
  have hle : (l0.take (min l0.length 20)).length ≤ 20 := by rw [List.length_take]; omega
  have hsm : SmallB (l0.take (min l0.length 20)) := fun z hz => Nat.le_trans (hw0 z (List.mem_of_mem_take hz)) hM
  obtain ⟨K1, h1⟩ := ref_union (l0.take (min l0.length 20)) [] hsm (fun x hx => absurd hx List.not_mem_nil) (by simp; omega)
  have hMl := unionB_length (l0.take (min l0.length 20) ++ [])
  rw [List.append_nil] at hMl
  have hMs := unionB_sorted (l0.take (min l0.length 20) ++ [])
  have hMm : SmallB (unionB (l0.take (min l0.length 20) ++ [])) := fun z hz => hsm z (by rw [mem_unionB, List.append_nil] at hz; exact hz)
  rw [List.append_nil] at h1 hMs hMm
  generalize unionB (l0.take (min l0.length 20)) = M at h1 hMl hMs hMm
  dsimp only at h1
  obtain ⟨a, ha, oka, hal⟩ := ref_fix3 l1 50000 (by omega)
  obtain ⟨b, hb, okb, hbl⟩ := ref_fix3 l2 50000 (by omega)
  have okx := convV_ok sR sA oka
  have oky := convV_ok sR sA okb
  have hxl := convV_length sR sA a
  have hyl := convV_length sR sA b
  have ox := fun i => ofV_conv sR sA i a
  have oy := fun i => ofV_conv sR sA i b
  obtain ⟨rj0, erj0, pj0, oj0, lrj0⟩ := ref_join oka okb (by omega) (by omega) 50000 (by omega)
  obtain ⟨K2, h2⟩ := rlive_ok (v := a) (by omega) (by omega : M.length ≤ 1000) hMs hMm
  obtain ⟨K3, h3⟩ := rlive_ok (v := rj0) (by omega) (by omega : M.length ≤ 1000) hMs hMm
  have fa := fun k (hk : 50000 ≤ k) => at_rounds (fun k => cenotaphref03_Fix.mono l1 k) hk ha
  have fb := fun k (hk : 50000 ≤ k) => at_rounds (fun k => cenotaphref03_Fix.mono l2 k) hk hb
  have fj := fun k (hk : 50000 ≤ k) => at_rounds (fun k => cenotaphref03_Join.mono a b k) hk erj0
  refine ⟨K1 + K2 + K3 + 60000, ?_⟩
  generalize hkk : K1 + K2 + K3 + 60000 = k
  unfold cenotaphlaw09_CertLives.f
  rw [e, if_pos (by omega), if_pos (by omega), Int.toNat_natCast, h1 k (by omega), Option.bind_some, fa k (by omega), Option.bind_some, fb k (by omega), Option.bind_some, to_ok M (by omega) k (by omega), Option.bind_some, to3 a (by omega) _ (by omega), Option.bind_some]
  generalize hX : convV sR sA a = x at okx hxl ox ⊢
  rw [live_ok okx.toPV (by omega) hMs (by omega), Option.bind_some]
  have ex : (M.filter fun z => !(decide (ofV sA x z > 0))) = leftB (ofV sR a) M := by unfold leftB; congr 1; funext z; rw [ox]
  rw [ex]
  have l2' : (leftB (ofV sR a) M).length ≤ 20 := Nat.le_trans (List.length_filter_le _ _) (by omega)
  have l3' : (leftB (ofV sR rj0) M).length ≤ 20 := Nat.le_trans (List.length_filter_le _ _) (by omega)
  rw [from_ok _ (by omega) k (by omega), Option.bind_some, Option.bind_some, to3 b (by omega) _ (by omega), Option.bind_some]
  generalize convV sR sA b = y at oky hyl oy ⊢
  obtain ⟨j, ej, okj, oj, ljl⟩ := merge_ok okx oky (by omega) (by omega) k (by omega)
  rw [Option.bind_some, ej, Option.bind_some, live_ok okj.toPV (by omega) hMs (by omega), Option.bind_some]
  have ey : (M.filter fun z => !(decide (ofV sA j z > 0))) = leftB (ofV sR rj0) M := by unfold leftB; congr 1; funext z; rw [oj, oj0, ox, oy]
  rw [ey, from_ok _ (by omega) k (by omega), Option.bind_some]
  refine lives_loop M a b _ _ (by omega) (by omega) (fun z hz => ?_) (K1 + K2 + K3 + 50000) (fun q hq => ?_) _ 0 k rfl (by omega) (by omega)
  · unfold leftB at hz ⊢
    rw [List.mem_filter] at hz ⊢
    refine ⟨hz.1, ?_⟩
    have := hz.2
    rw [Bool.not_eq_true', decide_eq_false_iff_not, oj0] at this
    rw [Bool.not_eq_true', decide_eq_false_iff_not]
    omega
  · simp only [cenotaphlaw09_CertLives.l0]
    rw [if_neg (by omega), told9, Option.bind_some, if_pos rfl, h2 q (by omega), Option.bind_some, ref_same _ (by omega) q (by omega), Option.bind_some, if_pos rfl, fj q (by omega), Option.bind_some, h3 q (by omega), Option.bind_some, ref_same _ (by omega) q (by omega), Option.bind_some]
end Go.Proofs.Ytloeealbggobjaa.Pure
