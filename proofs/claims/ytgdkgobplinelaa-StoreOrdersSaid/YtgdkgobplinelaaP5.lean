-- Written by a program of this session (wip/pp.py over the kit's printer, with our own texts put in).
import Derived.Test.YtgdkgobplinelaaP0
import Derived.Test.YtgdkgobplinelaaP4
namespace Go.Proofs.Ytgdkgobplinelaa.P
open Go.RowKit Go.Proofs.YtgdkgobplinelaaW.PrintWords Go.Proofs.YtgdkgobplinelaaW.PrintLast Go.Proofs.YtgdkgobplinelaaW.PrintMore
attribute [local go_sem] run_store_complex max2_int min2_int max_two min_two max_three min_three max_four min_four   -- for this text's walks alone
set_option linter.unusedVariables false
set_option linter.unusedSimpArgs false

theorem eqA41 (d : Nat) (w : World) (x0 y0 : Int) (x1 y1 : ByteArray) (x2 y2 : Int) (x3 y3 : Int) (x4 y4 : Bool) (x5r x5i y5r y5i : Nat) (x6 y6 : ByteArray) (x7 y7 : Bool) :
    (Op.equalIn (d + 3) 41 (.agg #[.int .i64 x0, .string x1, .int .i64 x2, .int .i64 x3, .bool x4, .complex .f64 x5r x5i, .string x6, .bool x7]) (.agg #[.int .i64 y0, .string y1, .int .i64 y2, .int .i64 y3, .bool y4, .complex .f64 y5r y5i, .string y6, .bool y7])).run Try.prog w = .ok (x0 == y0 && ((x1.toList == y1.toList && (x2 == y2 && (x3 == y3))) && (x4 == y4 && (cxq x5r x5i y5r y5i && (x6.toList == y6.toList && (x7 == y7)))))) w := by
  refine eqA_of Try.underlying41 (by kernel_rfl) ?_
  refine eqf_cons (by rfl) (by go_simp; rfl) (by go_simp; rfl) (by go_simp) ?_
  refine eqf_cons (by rfl) (by go_simp) (by go_simp) (eqA38 (d + 0) w _ _ _ _ _ _) ?_
  refine eqf_cons (by rfl) (by go_simp; rfl) (by go_simp; rfl) (by go_simp) ?_
  refine eqf_cons (by rfl) (by go_simp) (by go_simp) (eqIn_cxP Try.underlying39 _ _ _ _ _ _) ?_
  refine eqf_cons (by rfl) (by go_simp; rfl) (by go_simp; rfl) (by go_simp) ?_
  exact eqf_last (by rfl) (by go_simp; rfl) (by go_simp; rfl) (by go_simp)
end Go.Proofs.Ytgdkgobplinelaa.P
