-- Written by a program of this session (wip/gen), out of the translation; Lean checks it.
import Derived.Test.YtihklolcnfbbjaaGx0
namespace Go.Proofs.Ytihklolcnfbbjaa.G
open Go.RowKit Go.Proofs.YtihklolcnfbbjaaW.PrintWords Go.Proofs.YtihklolcnfbbjaaW.PrintLast Go.Proofs.YtihklolcnfbbjaaW.PrintMore
attribute [local go_sem high] idx35_0 idx35_1 idx35_2 idx35_3 idx41_0 idx41_1 idx41_2 idx84_0 idx84_1 idx84_2 idx88_0 idx88_1 idx88_2 wl0 wl1 wl2 wl3 wl4 wl5 tm0_3 tm1_3 tm2_3 tm3_3 tm4_3 tm5_3
attribute [local go_sem] max2_int min2_int max_two min_two max_three min_three max_four min_four   -- for this text's walks alone
set_option linter.unusedVariables false
set_option linter.unusedSimpArgs false

theorem eqA23 (d : Nat) (w : World) (x0 y0 : Int) (x1 y1 : Int) (x2 y2 : Int) :
    (Op.equalIn (d + 2) 23 (.agg #[.int .i64 x0, .int .i64 x1, .int .i64 x2]) (.agg #[.int .i64 y0, .int .i64 y1, .int .i64 y2])).run Try.prog w = .ok (x0 == y0 && (x1 == y1 && (x2 == y2))) w := by
  refine eqA_of Try.underlying23 (by kernel_rfl) ?_
  refine eqf_cons (by rfl) (by go_simp; rfl) (by go_simp; rfl) (by go_simp) ?_
  refine eqf_cons (by rfl) (by go_simp; rfl) (by go_simp; rfl) (by go_simp) ?_
  exact eqf_last (by rfl) (by go_simp; rfl) (by go_simp; rfl) (by go_simp)
end Go.Proofs.Ytihklolcnfbbjaa.G
