-- Written by a program of this session (wip/tools), over the kit's printer; Lean checks it.
import Derived.Test.YtemadfllannljaaPx0
import Derived.Test.YtemadfllannljaaPx1
namespace Go.Proofs.Ytemadfllannljaa.P
open Go.RowKit Go.Proofs.YtemadfllannljaaW.PrintWords Go.Proofs.YtemadfllannljaaW.PrintLast Go.Proofs.YtemadfllannljaaW.PrintMore
attribute [local go_sem] max2_int min2_int max_two min_two max_three min_three max_four min_four   -- for this text's walks alone
set_option linter.unusedVariables false
set_option linter.unusedSimpArgs false

theorem eqA41 (d : Nat) (w : World) (x0 y0 : Bool) (x1 y1 : Int) (x2 y2 : Int) (x3 y3 : Int) (x4 y4 : Int) (x5 y5 : ByteArray) :
    (Op.equalIn (d + 3) 41 (.agg #[.bool x0, .int .i64 x1, .int .i64 x2, .int .i64 x3, .int .i64 x4, .string x5]) (.agg #[.bool y0, .int .i64 y1, .int .i64 y2, .int .i64 y3, .int .i64 y4, .string y5])).run Try.prog w = .ok ((x0 == y0 && (x1 == y1 && (x2 == y2))) && (x3 == y3 && (x4 == y4 && (x5.toList == y5.toList)))) w := by
  refine eqA_of Try.underlying41 (by kernel_rfl) ?_
  refine eqf_cons (by rfl) (by go_simp) (by go_simp) (eqA38 (d + 0) w _ _ _ _ _ _) ?_
  refine eqf_cons (by rfl) (by go_simp; rfl) (by go_simp; rfl) (by go_simp) ?_
  refine eqf_cons (by rfl) (by go_simp; rfl) (by go_simp; rfl) (by go_simp) ?_
  exact eqf_last (by rfl) (by go_simp; rfl) (by go_simp; rfl) (by go_simp)
end Go.Proofs.Ytemadfllannljaa.P
