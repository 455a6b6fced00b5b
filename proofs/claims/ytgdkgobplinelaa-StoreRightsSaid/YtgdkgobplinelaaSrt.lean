import Derived.Test.YtgdkgobplinelaaBase
import Derived.Lib.SlicesCompact
/- Lists in strict order: what tells two of them apart, how one grows by an element that sinks from its end, and how one is searched. No program in sight. -/
namespace Go.Proofs.Ytgdkgobplinelaa
variable {α : Type}
/-- A strict total order. -/
structure TO (lt : α → α → Prop) : Prop where
  irrefl : ∀ x, ¬ lt x x
  trans : ∀ x y z, lt x y → lt y z → lt x z
  tri : ∀ x y, x = y ∨ lt x y ∨ lt y x
theorem TO.asymm {lt : α → α → Prop} (h : TO lt) {x y : α} (h1 : lt x y) (h2 : lt y x) : False := h.irrefl _ (h.trans _ _ _ h1 h2)
/-- An element sinks from the end to its place: the part ahead of it comes backwards. -/
def sinkR (gt : α → α → Bool) (v : α) : List α → List α → List α
  | [], q => v :: q
  | u :: p, q => if gt u v = true then sinkR gt v p (u :: q) else (u :: p).reverse ++ v :: q
def sink (gt : α → α → Bool) (v : α) (l : List α) : List α := sinkR gt v l.reverse []
theorem sinkR_perm (gt : α → α → Bool) (v : α) : ∀ p q, (sinkR gt v p q).Perm (v :: (p.reverse ++ q))
  | [], q => by simp [sinkR]
  | u :: p, q => by
    unfold sinkR
    split
    · refine (sinkR_perm gt v p (u :: q)).trans ?_
      simp
    · exact List.perm_middle
theorem sink_perm (gt : α → α → Bool) (v : α) (l : List α) : (sink gt v l).Perm (v :: l) := by
  have := sinkR_perm gt v l.reverse []
  simpa [sink] using this
theorem mem_sink {gt : α → α → Bool} {v : α} {l : List α} {x : α} : x ∈ sink gt v l ↔ x = v ∨ x ∈ l := by
  rw [(sink_perm gt v l).mem_iff, List.mem_cons]
theorem sink_length (gt : α → α → Bool) (v : α) (l : List α) : (sink gt v l).length = l.length + 1 := by
  rw [(sink_perm gt v l).length_eq, List.length_cons]
end Go.Proofs.Ytgdkgobplinelaa
