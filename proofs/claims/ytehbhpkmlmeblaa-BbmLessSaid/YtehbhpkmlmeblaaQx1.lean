-- Written by this session's program wip/tools/xprint.py (the kit's printer, turned by it); not the kit's own print.
import Derived.Test.YtehbhpkmlmeblaaQx0
namespace Go.Proofs.Ytehbhpkmlmeblaa.Q
open Go.RowKit Go.Proofs.YtehbhpkmlmeblaaW.PrintWords Go.Proofs.YtehbhpkmlmeblaaW.PrintLast Go.Proofs.YtehbhpkmlmeblaaW.PrintMore
attribute [local go_sem] max2_int min2_int max_two min_two max_three min_three max_four min_four   -- for this text's walks alone
set_option linter.unusedVariables false
set_option linter.unusedSimpArgs false

theorem eqA37 (d : Nat) (w : World) (x0 y0 : Int) (x1 y1 : Int) (x2 y2 : Bool) (x3 y3 : Bool) (x4 y4 : Bool) (x5 y5 : Bool) (x6 y6 : Int) :
    (Op.equalIn (d + 2) 37 (.agg #[.int .i64 x0, .int .i64 x1, .bool x2, .bool x3, .bool x4, .bool x5, .int .i64 x6]) (.agg #[.int .i64 y0, .int .i64 y1, .bool y2, .bool y3, .bool y4, .bool y5, .int .i64 y6])).run Try.prog w = .ok (x0 == y0 && (x1 == y1 && (x2 == y2 && (x3 == y3 && (x4 == y4 && (x5 == y5 && (x6 == y6))))))) w := by
  refine eqA_of Try.underlying37 (by kernel_rfl) ?_
  refine eqf_cons (by rfl) (by go_simp; rfl) (by go_simp; rfl) (by go_simp) ?_
  refine eqf_cons (by rfl) (by go_simp; rfl) (by go_simp; rfl) (by go_simp) ?_
  refine eqf_cons (by rfl) (by go_simp; rfl) (by go_simp; rfl) (by go_simp) ?_
  refine eqf_cons (by rfl) (by go_simp; rfl) (by go_simp; rfl) (by go_simp) ?_
  refine eqf_cons (by rfl) (by go_simp; rfl) (by go_simp; rfl) (by go_simp) ?_
  refine eqf_cons (by rfl) (by go_simp; rfl) (by go_simp; rfl) (by go_simp) ?_
  exact eqf_last (by rfl) (by go_simp; rfl) (by go_simp; rfl) (by go_simp)
end Go.Proofs.Ytehbhpkmlmeblaa.Q
