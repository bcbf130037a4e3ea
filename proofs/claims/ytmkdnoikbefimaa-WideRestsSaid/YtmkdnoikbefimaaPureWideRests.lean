/- What Div tells comes to a again: q times d, and the rest: for all ints. -/
import Derived.Test.YtmkdnoikbefimaaGx25
import Derived.Test.YtmkdnoikbefimaaDivW
namespace Go.Proofs.Ytmkdnoikbefimaa.Pure
open Go.RowKit Go.Proofs.VecMath Go.Proofs.DivMath Go.Proofs.Ytmkdnoikbefimaa.M Go.Proofs.YtmkdnoikbefimaaW.PrintWords
set_option linter.unusedVariables false
theorem of_wf {n : Int} (h : (Lit.int .i64 n).wf = true) : i64b n := by
  unfold Lit.wf at h
  rw [Bool.and_eq_true, decide_eq_true_eq, decide_eq_true_eq] at h
  exact h
theorem WideRests : G.relievolaw01_WideRests.Pure := by
  intro n m d hn hm hd
  replace hn := of_wf hn
  replace hm := of_wf hm
  replace hd := of_wf hd
  refine ⟨20, ?_⟩
  unfold G.relievolaw01_WideRests.f
  rw [alive_20, Option.bind_some, if_pos rfl, mulW_eq n m hn hm]
  by_cases c : d < 1
  · rw [if_pos c, Option.bind_some, div_no _ _ _ _ c]
    rfl
  have p := prod_in hn hm
  unfold i64b at hd
  rw [if_neg c, Option.bind_some, div_eq 9 (n * m) d p ⟨by omega, hd.2⟩, Option.bind_some]
  have r0 := Int.emod_nonneg (n * m) (show d ≠ 0 by omega)
  have r1 := Int.emod_lt_of_pos (n * m) (show 0 < d by omega)
  have e := Int.mul_ediv_add_emod (n * m) d
  have q : -85070591730234615865843651857942052864 ≤ n * m / d ∧ n * m / d ≤ 85070591730234615865843651857942052864 := by
    constructor
    · apply Int.le_ediv_of_mul_le (by omega)
      have := Int.mul_le_mul_of_nonneg_left (show 1 ≤ d by omega) (show (0 : Int) ≤ 85070591730234615865843651857942052864 by decide)
      omega
    · apply Int.ediv_le_of_le_mul (by omega)
      have := Int.mul_le_mul_of_nonneg_left (show 1 ≤ d by omega) (show (0 : Int) ≤ 85070591730234615865843651857942052864 by decide)
      omega
  dsimp only
  rw [if_pos rfl, if_neg (by omega), decide_eq_false (by omega), G.relievolaw01_WideRests.j0, if_neg (by decide)]
  by_cases i : i64b (n * m / d)
  · rw [int_yes _ i, Option.bind_some, if_pos rfl, mulW_eq _ _ i hd, Option.bind_some, of_eq _ (by unfold i64b; omega), Option.bind_some]
    dsimp only
    rw [Int.mul_comm] at e
    rw [add_eq (n * m / d * d) (n * m % d) (prod128 i hd) (by unfold i128; omega) (by unfold i128; omega), Option.bind_some, if_pos rfl, mulW_eq n m hn hm, Option.bind_some, e]
    simp
  · rw [int_no _ i (by unfold i128; omega), Option.bind_some, if_neg (by decide)]
end Go.Proofs.Ytmkdnoikbefimaa.Pure
