import Derived.Test.YtgdkgobplinelaaWMore
import Derived.Test.YtgdkgobplinelaaWFoot
import Derived.Test.YtgdkgobplinelaaFlt
/- complex128 as a scalar, told by its bits. No program in sight. -/
namespace Go.Proofs.Ytgdkgobplinelaa
set_option linter.unusedSimpArgs false
/-- A complex number's parts, as bits. -/
structure Cx where
  re : Nat
  im : Nat
/-- Whether two are the same, as Go's '==' tells it of floats. -/
def cxq (a b c d : Nat) : Bool := (FloatKind.f64.format.order a c == some .eq) && (FloatKind.f64.format.order b d == some .eq)
/-- Of whole parts. -/
def cxOf (x y : Int) : Cx := ⟨fl x, fl y⟩
/-- The whole parts of one that has such. -/
def cxInt (c : Cx) : Option (Int × Int) := (floatToIntVal .f64 c.re .i64).bind fun x => (floatToIntVal .f64 c.im .i64).bind fun y => if (x.natAbs < 2 ^ 53 ∧ y.natAbs < 2 ^ 53) ∧ fl x = c.re ∧ fl y = c.im then some (x, y) else none
theorem cxInt_of {x y : Int} (hx : x.natAbs < 2 ^ 53) (hy : y.natAbs < 2 ^ 53) : cxInt (cxOf x y) = some (x, y) := by
  unfold cxInt cxOf
  rw [fl_int x hx, Option.bind_some, fl_int y hy, Option.bind_some, if_pos ⟨⟨hx, hy⟩, rfl, rfl⟩]
theorem cxInt_some {c : Cx} {x y : Int} (h : cxInt c = some (x, y)) : c = cxOf x y ∧ x.natAbs < 2 ^ 53 ∧ y.natAbs < 2 ^ 53 := by
  unfold cxInt at h
  obtain ⟨x', _, h⟩ := Option.bind_eq_some_iff.mp h
  obtain ⟨y', _, h⟩ := Option.bind_eq_some_iff.mp h
  by_cases hc : (x'.natAbs < 2 ^ 53 ∧ y'.natAbs < 2 ^ 53) ∧ fl x' = c.re ∧ fl y' = c.im
  · rw [if_pos hc] at h
    injection h with h
    injection h with h1 h2
    subst h1; subst h2
    obtain ⟨a, b⟩ := c
    exact ⟨by unfold cxOf; rw [hc.2.1, hc.2.2], hc.1⟩
  · rw [if_neg hc] at h; cases h
end Go.Proofs.Ytgdkgobplinelaa
namespace Go.Proofs.YtgdkgobplinelaaW.PrintWords
set_option linter.unusedSimpArgs false
open Go.RowKit Go.Proofs.Ytgdkgobplinelaa
def Kd.cx : Kd Cx := Kd.scalar (fun c => .complex .f64 c.re c.im) (fun _ => rfl)
theorem run_store_complex {P : Program} {w : World} {a : Addr} {m : Mode} (k : FloatKind) (x y : Nat) : (store a (.complex k x y) m).run P w = stored P w a (.complex k x y) m := run_store P w a _ m rfl
theorem eqIn_cxP {P : Program} {T : TypeId} (hu : P.underlying T = some (.complex .f64)) (e : Nat) (a b c d : Nat) (w : World) : (Op.equalIn (e + 1) T (.complex .f64 a b) (.complex .f64 c d)).run P w = .ok (cxq a b c d) w := by
  simp [Op.equalIn, run_underlying hu, Op.complexOp, Op.Complex.cmp, Op.floatCmp, Op.floatEq, asBool, cxq]
end Go.Proofs.YtgdkgobplinelaaW.PrintWords
