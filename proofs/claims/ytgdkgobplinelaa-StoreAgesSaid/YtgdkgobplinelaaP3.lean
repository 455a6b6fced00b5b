import Derived.Test.YtgdkgobplinelaaP0
import Derived.Test.YtgdkgobplinelaaP1
import Derived.Test.YtgdkgobplinelaaP2
namespace Go.Proofs.Ytgdkgobplinelaa.P
open Go.RowKit Go.Proofs.YtgdkgobplinelaaW.PrintWords Go.Proofs.YtgdkgobplinelaaW.PrintLast Go.Proofs.YtgdkgobplinelaaW.PrintMore
attribute [local go_sem] run_store_complex max2_int min2_int max_two min_two max_three min_three max_four min_four
set_option linter.unusedVariables false
set_option linter.unusedSimpArgs false
theorem eqA28 (d : Nat) (w : World) (x0 y0 : Int) (x1 y1 : ByteArray) (x2 y2 : Int) (x3 y3 : Int) (x4 y4 : Bool) (x5 y5 : Int) (x6 y6 : Int) (x7 y7 : ByteArray) (x8 y8 : Bool) :
  (Op.equalIn (d + 3) 28 (.agg #[.int .i64 x0, .string x1, .int .i64 x2, .int .i64 x3, .bool x4, .int .i64 x5, .int .i64 x6, .string x7, .bool x8]) (.agg #[.int .i64 y0, .string y1, .int .i64 y2, .int .i64 y3, .bool y4, .int .i64 y5, .int .i64 y6, .string y7, .bool y8])).run Try.prog w = .ok (x0 == y0 && ((x1.toList == y1.toList && (x2 == y2 && (x3 == y3))) && (x4 == y4 && ((x5 == y5 && (x6 == y6)) && (x7.toList == y7.toList && (x8 == y8)))))) w := by
 refine eqA_of Try.underlying28 (by kernel_rfl) ?_
 refine eqf_cons (by rfl) (by go_simp; rfl) (by go_simp; rfl) (by go_simp) ?_
 refine eqf_cons (by rfl) (by go_simp) (by go_simp) (eqA24 (d + 0) w _ _ _ _ _ _) ?_
 refine eqf_cons (by rfl) (by go_simp; rfl) (by go_simp; rfl) (by go_simp) ?_
 refine eqf_cons (by rfl) (by go_simp) (by go_simp) (eqA26 (d + 0) w _ _ _ _) ?_
 refine eqf_cons (by rfl) (by go_simp; rfl) (by go_simp; rfl) (by go_simp) ?_
 exact eqf_last (by rfl) (by go_simp; rfl) (by go_simp; rfl) (by go_simp)
end Go.Proofs.Ytgdkgobplinelaa.P
