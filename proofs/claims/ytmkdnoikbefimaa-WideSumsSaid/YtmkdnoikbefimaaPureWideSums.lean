/- Every Of, Int, Add, Neg and Cmp answers what the document says: for all wide numbers and ints. -/
import Derived.Test.YtmkdnoikbefimaaNumW
namespace Go.Proofs.Ytmkdnoikbefimaa.Pure
open Go.RowKit
set_option linter.unusedVariables false
theorem WideSums (a0_0 a0_1 a1_0 a1_1 a2 : Int) (b0_0 : -9223372036854775808 ≤ a0_0 ∧ a0_0 ≤ 9223372036854775807) (b0_1 : 0 ≤ a0_1 ∧ a0_1 ≤ 18446744073709551615) (b1_0 : -9223372036854775808 ≤ a1_0 ∧ a1_0 ≤ 9223372036854775807) (b1_1 : 0 ≤ a1_1 ∧ a1_1 ≤ 18446744073709551615) (b2 : -9223372036854775808 ≤ a2 ∧ a2 ≤ 9223372036854775807) :
    G.relievolaw01_WideSums.f a0_0 a0_1 a1_0 a1_1 a2 = some true := by
  unfold G.relievolaw01_WideSums.f
  rw [if_pos (by omega)]
end Go.Proofs.Ytmkdnoikbefimaa.Pure
