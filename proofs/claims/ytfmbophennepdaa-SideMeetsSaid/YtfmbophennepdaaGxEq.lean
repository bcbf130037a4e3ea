/- Equal structs. -/
import Derived.Test.YtfmbophennepdaaGx0
-- Written by a program of this session (wip/gen), out of the translation; Lean checks it.
namespace Go.Proofs.Ytfmbophennepdaa.G
open Go.RowKit Go.Proofs.YtfmbophennepdaaW.PrintWords Go.Proofs.YtfmbophennepdaaW.PrintLast Go.Proofs.YtfmbophennepdaaW.PrintMore
attribute [local go_sem high] idx43_0 idx43_1 idx43_2 wl0 wl1 wl2 wl3 wl4 wl5 tm0_3 tm1_3 tm2_3 tm3_3 tm4_3 tm5_3
attribute [local go_sem] max2_int min2_int max_two min_two max_three min_three max_four min_four   -- for this text's walks alone
set_option linter.unusedVariables false
set_option linter.unusedSimpArgs false

theorem eqA23 (d : Nat) (w : World) (x0 y0 : Int) (x1 y1 : Int) (x2 y2 : Int) :
    (Op.equalIn (d + 2) 23 (.agg #[.int .i64 x0, .int .i64 x1, .int .i64 x2]) (.agg #[.int .i64 y0, .int .i64 y1, .int .i64 y2])).run Try.prog w = .ok (x0 == y0 && (x1 == y1 && (x2 == y2))) w := by
  refine eqA_of Try.underlying23 (by kernel_rfl) ?_
  refine eqf_cons (by rfl) (by go_simp; rfl) (by go_simp; rfl) (by go_simp) ?_
  refine eqf_cons (by rfl) (by go_simp; rfl) (by go_simp; rfl) (by go_simp) ?_
  exact eqf_last (by rfl) (by go_simp; rfl) (by go_simp; rfl) (by go_simp)
end Go.Proofs.Ytfmbophennepdaa.G

-- Written by a program of this session (wip/gen), out of the translation; Lean checks it.
namespace Go.Proofs.Ytfmbophennepdaa.G
open Go.RowKit Go.Proofs.YtfmbophennepdaaW.PrintWords Go.Proofs.YtfmbophennepdaaW.PrintLast Go.Proofs.YtfmbophennepdaaW.PrintMore
attribute [local go_sem high] idx43_0 idx43_1 idx43_2 wl0 wl1 wl2 wl3 wl4 wl5 tm0_3 tm1_3 tm2_3 tm3_3 tm4_3 tm5_3
attribute [local go_sem] max2_int min2_int max_two min_two max_three min_three max_four min_four   -- for this text's walks alone
set_option linter.unusedVariables false
set_option linter.unusedSimpArgs false

theorem eqA27 (d : Nat) (w : World) (x0 y0 : Int) (x1 y1 : Int) :
    (Op.equalIn (d + 2) 27 (.agg #[.int .i64 x0, .int .i64 x1]) (.agg #[.int .i64 y0, .int .i64 y1])).run Try.prog w = .ok (x0 == y0 && (x1 == y1)) w := by
  refine eqA_of Try.underlying27 (by kernel_rfl) ?_
  refine eqf_cons (by rfl) (by go_simp; rfl) (by go_simp; rfl) (by go_simp) ?_
  exact eqf_last (by rfl) (by go_simp; rfl) (by go_simp; rfl) (by go_simp)
end Go.Proofs.Ytfmbophennepdaa.G

-- Written by a program of this session (wip/gen), out of the translation; Lean checks it.
namespace Go.Proofs.Ytfmbophennepdaa.G
open Go.RowKit Go.Proofs.YtfmbophennepdaaW.PrintWords Go.Proofs.YtfmbophennepdaaW.PrintLast Go.Proofs.YtfmbophennepdaaW.PrintMore
attribute [local go_sem high] idx43_0 idx43_1 idx43_2 wl0 wl1 wl2 wl3 wl4 wl5 tm0_3 tm1_3 tm2_3 tm3_3 tm4_3 tm5_3
attribute [local go_sem] max2_int min2_int max_two min_two max_three min_three max_four min_four   -- for this text's walks alone
set_option linter.unusedVariables false
set_option linter.unusedSimpArgs false

theorem eqA33 (d : Nat) (w : World) (x0 y0 : Int) (x1 y1 : Int) (x2 y2 : Bool) (x3 y3 : Int) (x4 y4 : Int) :
    (Op.equalIn (d + 3) 33 (.agg #[.int .i64 x0, .int .i64 x1, .bool x2, .int .i64 x3, .int .i64 x4]) (.agg #[.int .i64 y0, .int .i64 y1, .bool y2, .int .i64 y3, .int .i64 y4])).run Try.prog w = .ok ((x0 == y0 && (x1 == y1)) && (x2 == y2 && (x3 == y3 && (x4 == y4)))) w := by
  refine eqA_of Try.underlying33 (by kernel_rfl) ?_
  refine eqf_cons (by rfl) (by go_simp) (by go_simp) (eqA27 (d + 0) w _ _ _ _) ?_
  refine eqf_cons (by rfl) (by go_simp; rfl) (by go_simp; rfl) (by go_simp) ?_
  refine eqf_cons (by rfl) (by go_simp; rfl) (by go_simp; rfl) (by go_simp) ?_
  exact eqf_last (by rfl) (by go_simp; rfl) (by go_simp; rfl) (by go_simp)
end Go.Proofs.Ytfmbophennepdaa.G

-- Written by a program of this session (wip/gen), out of the translation; Lean checks it.
namespace Go.Proofs.Ytfmbophennepdaa.G
open Go.RowKit Go.Proofs.YtfmbophennepdaaW.PrintWords Go.Proofs.YtfmbophennepdaaW.PrintLast Go.Proofs.YtfmbophennepdaaW.PrintMore
attribute [local go_sem high] idx43_0 idx43_1 idx43_2 wl0 wl1 wl2 wl3 wl4 wl5 tm0_3 tm1_3 tm2_3 tm3_3 tm4_3 tm5_3
attribute [local go_sem] max2_int min2_int max_two min_two max_three min_three max_four min_four   -- for this text's walks alone
set_option linter.unusedVariables false
set_option linter.unusedSimpArgs false

theorem eqA53 (d : Nat) (w : World) (x0 y0 : Int) (x1 y1 : Int) :
    (Op.equalIn (d + 2) 53 (.agg #[.int .i64 x0, .int .u64 x1]) (.agg #[.int .i64 y0, .int .u64 y1])).run Try.prog w = .ok (x0 == y0 && (x1 == y1)) w := by
  refine eqA_of Try.underlying53 (by kernel_rfl) ?_
  refine eqf_cons (by rfl) (by go_simp; rfl) (by go_simp; rfl) (by go_simp) ?_
  exact eqf_last (by rfl) (by go_simp; rfl) (by go_simp; rfl) (by go_simp)
end Go.Proofs.Ytfmbophennepdaa.G
