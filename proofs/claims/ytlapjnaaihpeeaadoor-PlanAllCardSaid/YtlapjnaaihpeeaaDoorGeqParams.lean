-- WRITTEN BY this work's own program (wip/tools/xprint.py). Not trusted: Lean checks it.
import Derived.Test.YtlapjnaaihpeeaaDoorXPl0
namespace Go.Proofs.YtlapjnaaihpeeaaDoor.XPl
open Go.RowKit Go.Proofs.YtlapjnaaihpeeaaDoorW.PrintWords Go.Proofs.YtlapjnaaihpeeaaDoorW.PrintLast Go.Proofs.YtlapjnaaihpeeaaDoorW.PrintMore
attribute [local go_sem] max2_int min2_int max_two min_two max_three min_three max_four min_four   -- for this text's walks alone
set_option linter.unusedVariables false
set_option linter.unusedSimpArgs false

theorem eqParams (d : Nat) (w : World) (x0 y0 : Int) (x1 y1 : Int) (x2 y2 : Int) :
    (Op.equalIn (d + 2) 23 (.agg #[.int .i64 x0, .int .i64 x1, .int .i64 x2]) (.agg #[.int .i64 y0, .int .i64 y1, .int .i64 y2])).run Tryd.prog w = .ok (x0 == y0 && (x1 == y1 && (x2 == y2))) w := by
  refine eqA_of Tryd.underlying23 (by kernel_rfl) ?_
  refine eqf_cons (by rfl) (by go_simp; rfl) (by go_simp; rfl) (by go_simp) ?_
  refine eqf_cons (by rfl) (by go_simp; rfl) (by go_simp; rfl) (by go_simp) ?_
  exact eqf_last (by rfl) (by go_simp; rfl) (by go_simp; rfl) (by go_simp)
theorem eqlParams (w : World) (x0 y0 : Int) (x1 y1 : Int) (x2 y2 : Int) :
    (binOp .eql 23 (.agg #[.int .i64 x0, .int .i64 x1, .int .i64 x2]) (.agg #[.int .i64 y0, .int .i64 y1, .int .i64 y2])).run Tryd.prog w = .ok (.bool (x0 == y0 && (x1 == y1 && (x2 == y2)))) w := by
  simp only [binOp]
  simp [Op.equal, Op.maxDepth, eqParams 9998]

end Go.Proofs.YtlapjnaaihpeeaaDoor.XPl
