import Derived.Test.YtgdkgobplinelaaBase
import Derived.Test.YtgdkgobplinelaaWLast
import Derived.Test.YtgdkgobplinelaaLeadT
import Derived.Test.YtgdkgobplinelaaCx
/- An item's cells, as values, as they lie, and put one by one. No program in sight. -/
namespace Go.Proofs.Ytgdkgobplinelaa
open Go.RowKit Go.Proofs.YtgdkgobplinelaaW.PrintWords Go.Proofs.YtgdkgobplinelaaW.PrintLast
set_option linter.unusedVariables false
abbrev itC (k : Int) (i : ByteArray) (q s : Int) (d : Bool) (x y : Int) (t : ByteArray) (h : Bool) : Array Value := #[.int .i64 k, .string i, .int .i64 q, .int .i64 s, .bool d, .complex .f64 (fl x) (fl y), .string t, .bool h]
theorem it_cells {w : World} {g : Nat} {k : Int} {i : ByteArray} {q s : Int} {d : Bool} {x y : Nat} {t : ByteArray} {h : Bool} {T : TypeId} (b : w.heap[g]? = some (.cells #[.int .i64 k, .string i, .int .i64 q, .int .i64 s, .bool d, .complex .f64 x y, .string t, .bool h] T (0, 0))) :
    w.cell? ⟨g, 0, none⟩ = some (.int .i64 k) ∧ w.cell? ⟨g, 1, none⟩ = some (.string i) ∧ w.cell? ⟨g, 2, none⟩ = some (.int .i64 q) ∧ w.cell? ⟨g, 3, none⟩ = some (.int .i64 s) ∧ w.cell? ⟨g, 4, none⟩ = some (.bool d) ∧ w.cell? ⟨g, 5, none⟩ = some (.complex .f64 x y) ∧ w.cell? ⟨g, 6, none⟩ = some (.string t) ∧ w.cell? ⟨g, 7, none⟩ = some (.bool h) :=
  ⟨(blk_cell b 0).trans rfl, (blk_cell b 1).trans rfl, (blk_cell b 2).trans rfl, (blk_cell b 3).trans rfl, (blk_cell b 4).trans rfl, (blk_cell b 5).trans rfl, (blk_cell b 6).trans rfl, (blk_cell b 7).trans rfl⟩
theorem ta_cells {W : World} {g : Nat} {k : Int} {i : ByteArray} {q s : Int} {d : Bool} {x y : Int} {t : ByteArray} {h : Bool} {T : TypeId} (b : W.heap[g]? = some (.cells #[.int .i64 k, .string i, .int .i64 q, .int .i64 s, .bool d, .int .i64 x, .int .i64 y, .string t, .bool h] T (0, 0))) :
    W.cell? ⟨g, 0, none⟩ = some (.int .i64 k) ∧ W.cell? ⟨g, 1, none⟩ = some (.string i) ∧ W.cell? ⟨g, 2, none⟩ = some (.int .i64 q) ∧ W.cell? ⟨g, 3, none⟩ = some (.int .i64 s) ∧ W.cell? ⟨g, 4, none⟩ = some (.bool d) ∧ W.cell? ⟨g, 5, none⟩ = some (.int .i64 x) ∧ W.cell? ⟨g, 6, none⟩ = some (.int .i64 y) ∧ W.cell? ⟨g, 7, none⟩ = some (.string t) ∧ W.cell? ⟨g, 8, none⟩ = some (.bool h) :=
  ⟨(blk_cell b 0).trans rfl, (blk_cell b 1).trans rfl, (blk_cell b 2).trans rfl, (blk_cell b 3).trans rfl, (blk_cell b 4).trans rfl, (blk_cell b 5).trans rfl, (blk_cell b 6).trans rfl, (blk_cell b 7).trans rfl, (blk_cell b 8).trans rfl⟩
theorem below_new {w : World} (o o' : Obj) : Below w.heap.size w ((w.alloc o).alloc o') := below_alloc (below_alloc (Below.refl _ _) _) _
/-- The document's item, as cells. -/
abbrev rfC (k : Int) (i : ByteArray) (q s : Int) (d : Bool) (x y : Int) (t : ByteArray) (h : Bool) : Array Value := #[.int .i64 k, .string i, .int .i64 q, .int .i64 s, .bool d, .int .i64 x, .int .i64 y, .string t, .bool h]
theorem below_put8 {B : Nat} {w W : World} {g : Nat} (h : Below B w W) (hg : B ≤ g) (v0 v1 v2 v3 v4 v5 v6 v7 : Value) : Below B w ((((((((W.setCell ⟨g, 0, none⟩ v0).setCell ⟨g, 1, none⟩ v1).setCell ⟨g, 2, none⟩ v2).setCell ⟨g, 3, none⟩ v3).setCell ⟨g, 4, none⟩ v4).setCell ⟨g, 5, none⟩ v5).setCell ⟨g, 6, none⟩ v6).setCell ⟨g, 7, none⟩ v7) :=
  (((((((h.setCell hg _).setCell hg _).setCell hg _).setCell hg _).setCell hg _).setCell hg _).setCell hg _).setCell hg _
theorem blk_put8 {W : World} {g : Nat} {T : TypeId} {o0 o1 o2 o3 o4 o5 o6 o7 : Value} (h : W.heap[g]? = some (.cells #[o0, o1, o2, o3, o4, o5, o6, o7] T (0, 0))) (v0 v1 v2 v3 v4 v5 v6 v7 : Value) : ((((((((W.setCell ⟨g, 0, none⟩ v0).setCell ⟨g, 1, none⟩ v1).setCell ⟨g, 2, none⟩ v2).setCell ⟨g, 3, none⟩ v3).setCell ⟨g, 4, none⟩ v4).setCell ⟨g, 5, none⟩ v5).setCell ⟨g, 6, none⟩ v6).setCell ⟨g, 7, none⟩ v7).heap[g]? = some (.cells #[v0, v1, v2, v3, v4, v5, v6, v7] T (0, 0)) := by
  have h0 := blk_put (cs' := #[v0, o1, o2, o3, o4, o5, o6, o7]) h 0 v0 rfl
  have h1 := blk_put (cs' := #[v0, v1, o2, o3, o4, o5, o6, o7]) h0 1 v1 rfl
  have h2 := blk_put (cs' := #[v0, v1, v2, o3, o4, o5, o6, o7]) h1 2 v2 rfl
  have h3 := blk_put (cs' := #[v0, v1, v2, v3, o4, o5, o6, o7]) h2 3 v3 rfl
  have h4 := blk_put (cs' := #[v0, v1, v2, v3, v4, o5, o6, o7]) h3 4 v4 rfl
  have h5 := blk_put (cs' := #[v0, v1, v2, v3, v4, v5, o6, o7]) h4 5 v5 rfl
  have h6 := blk_put (cs' := #[v0, v1, v2, v3, v4, v5, v6, o7]) h5 6 v6 rfl
  exact blk_put (cs' := #[v0, v1, v2, v3, v4, v5, v6, v7]) h6 7 v7 rfl
theorem blk_put9 {W : World} {g : Nat} {T : TypeId} {o0 o1 o2 o3 o4 o5 o6 o7 o8 : Value} (h : W.heap[g]? = some (.cells #[o0, o1, o2, o3, o4, o5, o6, o7, o8] T (0, 0))) (v0 v1 v2 v3 v4 v5 v6 v7 v8 : Value) : (((((((((W.setCell ⟨g, 0, none⟩ v0).setCell ⟨g, 1, none⟩ v1).setCell ⟨g, 2, none⟩ v2).setCell ⟨g, 3, none⟩ v3).setCell ⟨g, 4, none⟩ v4).setCell ⟨g, 5, none⟩ v5).setCell ⟨g, 6, none⟩ v6).setCell ⟨g, 7, none⟩ v7).setCell ⟨g, 8, none⟩ v8).heap[g]? = some (.cells #[v0, v1, v2, v3, v4, v5, v6, v7, v8] T (0, 0)) := by
  have h0 := blk_put (cs' := #[v0, o1, o2, o3, o4, o5, o6, o7, o8]) h 0 v0 rfl
  have h1 := blk_put (cs' := #[v0, v1, o2, o3, o4, o5, o6, o7, o8]) h0 1 v1 rfl
  have h2 := blk_put (cs' := #[v0, v1, v2, o3, o4, o5, o6, o7, o8]) h1 2 v2 rfl
  have h3 := blk_put (cs' := #[v0, v1, v2, v3, o4, o5, o6, o7, o8]) h2 3 v3 rfl
  have h4 := blk_put (cs' := #[v0, v1, v2, v3, v4, o5, o6, o7, o8]) h3 4 v4 rfl
  have h5 := blk_put (cs' := #[v0, v1, v2, v3, v4, v5, o6, o7, o8]) h4 5 v5 rfl
  have h6 := blk_put (cs' := #[v0, v1, v2, v3, v4, v5, v6, o7, o8]) h5 6 v6 rfl
  have h7 := blk_put (cs' := #[v0, v1, v2, v3, v4, v5, v6, v7, o8]) h6 7 v7 rfl
  exact blk_put (cs' := #[v0, v1, v2, v3, v4, v5, v6, v7, v8]) h7 8 v8 rfl
theorem below_put9 {B : Nat} {w W : World} {g : Nat} (h : Below B w W) (hg : B ≤ g) (v0 v1 v2 v3 v4 v5 v6 v7 v8 : Value) : Below B w (((((((((W.setCell ⟨g, 0, none⟩ v0).setCell ⟨g, 1, none⟩ v1).setCell ⟨g, 2, none⟩ v2).setCell ⟨g, 3, none⟩ v3).setCell ⟨g, 4, none⟩ v4).setCell ⟨g, 5, none⟩ v5).setCell ⟨g, 6, none⟩ v6).setCell ⟨g, 7, none⟩ v7).setCell ⟨g, 8, none⟩ v8) :=
  (below_put8 h hg v0 v1 v2 v3 v4 v5 v6 v7).setCell hg _
theorem tf_cells {W : World} {g : Nat} {T : TypeId} {v0 v1 v2 v3 v4 v5 v6 v7 v8 : Value} (b : W.heap[g]? = some (.cells #[v0, v1, v2, v3, v4, v5, v6, v7, v8] T (0, 0))) :
    (W.cell? ⟨g, 0, none⟩ = some v0 ∧ W.cell? ⟨g, 1, none⟩ = some v1 ∧ W.cell? ⟨g, 2, none⟩ = some v2 ∧ W.cell? ⟨g, 3, none⟩ = some v3 ∧ W.cell? ⟨g, 4, none⟩ = some v4 ∧ W.cell? ⟨g, 5, none⟩ = some v5 ∧ W.cell? ⟨g, 6, none⟩ = some v6 ∧ W.cell? ⟨g, 7, none⟩ = some v7 ∧ W.cell? ⟨g, 8, none⟩ = some v8) ∧
    W.frozen? ⟨g, 0, none⟩ = false ∧ W.frozen? ⟨g, 1, none⟩ = false ∧ W.frozen? ⟨g, 2, none⟩ = false ∧ W.frozen? ⟨g, 3, none⟩ = false ∧ W.frozen? ⟨g, 4, none⟩ = false ∧ W.frozen? ⟨g, 5, none⟩ = false ∧ W.frozen? ⟨g, 6, none⟩ = false ∧ W.frozen? ⟨g, 7, none⟩ = false ∧ W.frozen? ⟨g, 8, none⟩ = false :=
  ⟨⟨(blk_cell b 0).trans rfl, (blk_cell b 1).trans rfl, (blk_cell b 2).trans rfl, (blk_cell b 3).trans rfl, (blk_cell b 4).trans rfl, (blk_cell b 5).trans rfl, (blk_cell b 6).trans rfl, (blk_cell b 7).trans rfl, (blk_cell b 8).trans rfl⟩, blk_frozen b 0, blk_frozen b 1, blk_frozen b 2, blk_frozen b 3, blk_frozen b 4, blk_frozen b 5, blk_frozen b 6, blk_frozen b 7, blk_frozen b 8⟩
theorem tk_cells {W : World} {g : Nat} {k : Int} {i : ByteArray} {q s : Int} {d : Bool} {x y : Nat} {t : ByteArray} {h : Bool} {T : TypeId} (b : W.heap[g]? = some (.cells #[.int .i64 k, .string i, .int .i64 q, .int .i64 s, .bool d, .complex .f64 x y, .string t, .bool h] T (0, 0))) :
    (W.cell? ⟨g, 0, none⟩ = some (.int .i64 k) ∧ W.cell? ⟨g, 1, none⟩ = some (.string i) ∧ W.cell? ⟨g, 2, none⟩ = some (.int .i64 q) ∧ W.cell? ⟨g, 3, none⟩ = some (.int .i64 s) ∧ W.cell? ⟨g, 4, none⟩ = some (.bool d) ∧ W.cell? ⟨g, 5, none⟩ = some (.complex .f64 x y) ∧ W.cell? ⟨g, 6, none⟩ = some (.string t) ∧ W.cell? ⟨g, 7, none⟩ = some (.bool h)) ∧
    W.frozen? ⟨g, 0, none⟩ = false ∧ W.frozen? ⟨g, 1, none⟩ = false ∧ W.frozen? ⟨g, 2, none⟩ = false ∧ W.frozen? ⟨g, 3, none⟩ = false ∧ W.frozen? ⟨g, 4, none⟩ = false ∧ W.frozen? ⟨g, 5, none⟩ = false ∧ W.frozen? ⟨g, 6, none⟩ = false ∧ W.frozen? ⟨g, 7, none⟩ = false :=
  ⟨it_cells b, blk_frozen b 0, blk_frozen b 1, blk_frozen b 2, blk_frozen b 3, blk_frozen b 4, blk_frozen b 5, blk_frozen b 6, blk_frozen b 7⟩
end Go.Proofs.Ytgdkgobplinelaa
