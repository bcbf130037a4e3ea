/- The law's own look at whether the package is alive. -/
import Derived.Test.YtmkdnoikbefimaaGx22
import Derived.Test.YtmkdnoikbefimaaWideFun
namespace Go.Proofs.Ytmkdnoikbefimaa.M
open Go.RowKit Go.Proofs.VecMath Go.Proofs.YtmkdnoikbefimaaW.PrintWords
set_option linter.unusedVariables false
theorem div7 : G.wide_Div.f (-1) 18446744073709551609 2 = some (-1, 18446744073709551612, 1, true) := by
  unfold G.wide_Div.f G.wide_size.f
  rw [if_neg (by decide), if_pos (by decide)]
  have t1 : G.wide_turned.f (-1) 18446744073709551609 = some (0, 7) := by
    have h := turned_eq (-7) (by unfold i128; decide) (by unfold i128; decide)
    rw [show hiW (-7) = -1 by decide, show loW (-7) = 18446744073709551609 by decide, show hiW (- -7) = 0 by decide, show loW (- -7) = 7 by decide] at h
    exact h
  have t2 : G.wide_turned.f 0 3 = some (-1, 18446744073709551613) := by
    have h := turned_eq 3 (by unfold i128; decide) (by unfold i128; decide)
    rw [show hiW 3 = 0 by decide, show loW 3 = 3 by decide, show hiW (-3) = -1 by decide, show loW (-3) = 18446744073709551613 by decide] at h
    exact h
  have t3 : G.wide_sum.f (-1) 18446744073709551613 (-1) 18446744073709551615 = some (-1, 18446744073709551612) := by
    have h := sum_eq (-3) (-1) (by unfold i128; decide) (by unfold i128; decide) (by unfold i128; decide)
    rw [show hiW (-3) = -1 by decide, show loW (-3) = 18446744073709551613 by decide, show hiW (-1) = -1 by decide, show loW (-1) = 18446744073709551615 by decide, show hiW (-3 + -1) = -1 by decide, show loW (-3 + -1) = 18446744073709551612 by decide] at h
    exact h
  have o1 : G.wide_Of.f (-1) = some (-1, 18446744073709551615) := of_eq (-1) (by unfold i64b; decide)
  have d1 : G.bits_Div64.f 0 (IntKind.u64.wrap 0) (IntKind.u64.wrap 2) = some (0, 0) := by decide
  have d2 : G.bits_Div64.f 0 7 (IntKind.u64.wrap 2) = some (3, 1) := by decide
  have w0 : wrap64 0 = 0 := w64 (by decide)
  have w1 : wrap64 1 = 1 := w64 (by decide)
  rw [t1, Option.bind_some, Option.bind_some]
  dsimp only
  rw [d1, Option.bind_some]
  dsimp only
  rw [d2, Option.bind_some]
  dsimp only
  rw [if_pos (by decide), w0, t2, Option.bind_some, w1, if_pos (by decide), o1, Option.bind_some]
  dsimp only
  rw [t3, Option.bind_some, show (2 : Int) - 1 = 1 from rfl, w1]
theorem aliveW_at (k : Nat) : G.relievolaw01_alive.f (k + 4) = some true := by
  unfold G.relievolaw01_alive.f
  have o1 : G.wide_Of.f (-7) = some (-1, 18446744073709551609) := of_eq (-7) (by unfold i64b; decide)
  have o2 : G.wide_Of.f (-4) = some (-1, 18446744073709551612) := of_eq (-4) (by unfold i64b; decide)
  have m1 : G.wide_Mul.f 1099511627776 1099511627776 = some (65536, 0) := mulW_eq _ _ (by unfold i64b; decide) (by unfold i64b; decide)
  have r1 := order_eq k ⟨1, 3⟩ ⟨2, 6⟩ (by unfold Fr.b64 i64b; decide) (by unfold Fr.b64 i64b; decide) (Or.inl (by decide)) (Or.inl (by decide))
  dsimp only at r1
  rw [o1, Option.bind_some]
  dsimp only
  rw [div7, Option.bind_some, r1, Option.bind_some, if_pos rfl, o2, Option.bind_some, m1]
  rfl
end Go.Proofs.Ytmkdnoikbefimaa.M
