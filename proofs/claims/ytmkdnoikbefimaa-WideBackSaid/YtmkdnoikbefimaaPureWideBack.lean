/- A sum less one of its parts is the other one; a product divided by one of its factors is the other one: for all numbers. -/
import Derived.Test.YtmkdnoikbefimaaGx27
import Derived.Test.YtmkdnoikbefimaaDivW
namespace Go.Proofs.Ytmkdnoikbefimaa.Pure
open Go.RowKit Go.Proofs.VecMath Go.Proofs.DivMath Go.Proofs.Ytmkdnoikbefimaa.M Go.Proofs.YtmkdnoikbefimaaW.PrintWords
set_option linter.unusedVariables false
theorem back_j1 (k : Nat) (n m : Int) (hn : i64b n) (hm : i64b m) : G.relievolaw01_WideBack.j1 (k + 12) n m = some true := by
  rw [G.relievolaw01_WideBack.j1]
  by_cases c : m < 1
  · rw [if_pos c]
  have hm' := hm
  unfold i64b at hm'
  rw [if_neg c, mulW_eq n m hn hm, Option.bind_some]
  dsimp only
  rw [div_eq k (n * m) m (prod_in hn hm) ⟨by omega, hm'.2⟩, Option.bind_some, Int.mul_ediv_cancel _ (by omega), int_yes n hn, Option.bind_some, if_pos rfl, if_pos rfl, if_pos rfl, Int.mul_emod_left]
  rfl
theorem back_f (k : Nat) (x y z w n m a b : Int) (hn : i64b n) (hm : i64b m) : G.relievolaw01_WideBack.j0 (k + 13) n m false a b x y z w = some true := by
  rw [G.relievolaw01_WideBack.j0, if_neg (by decide), back_j1 k n m hn hm]
theorem sum_any (n m : Int) (hn : i128 n) (hm : i128 m) : ∃ x y, G.wide_sum.f (hiW n) (loW n) (hiW m) (loW m) = some (x, y) ∧ x = wrap64 (hiW (n + m)) := by
  unfold i128 at *
  refine ⟨_, _, by unfold G.wide_sum.f; rw [if_pos (by unfold loW; omega)], ?_⟩
  unfold wrap64 hiW loW
  omega
theorem add_no (n m : Int) (hn : i128 n) (hm : i128 m) (h : ¬ i128 (n + m)) : G.wide_Add.f (hiW n) (loW n) (hiW m) (loW m) = some (0, 0, false) := by
  obtain ⟨x, y, e, ex⟩ := sum_any n m hn hm
  unfold i128 at *
  unfold G.wide_Add.f
  rw [e, Option.bind_some]
  dsimp only
  have z : ∀ v : Int, decide (hiW v < 0) = decide (v < 0) := fun v => by
    rw [Bool.eq_iff_iff, decide_eq_true_eq, decide_eq_true_eq]
    unfold hiW
    omega
  rw [z n, z m]
  by_cases a : n < 0
  · have b : m < 0 := by omega
    rw [decide_eq_true a, decide_eq_true b, decide_eq_false (show ¬ x < 0 by rw [ex]; unfold wrap64 hiW; omega)]
    rfl
  · have b : ¬ m < 0 := by omega
    rw [decide_eq_false a, decide_eq_false b, decide_eq_true (show x < 0 by rw [ex]; unfold wrap64 hiW; omega)]
    rfl
theorem neg_no : G.wide_Neg.f (-9223372036854775808) 0 = some (0, 0, false) := by
  unfold G.wide_Neg.f
  rw [if_pos rfl, if_pos rfl]
theorem WideBack (a0_0 a0_1 a1_0 a1_1 a2 a3 : Int) (b0_0 : -9223372036854775808 ≤ a0_0 ∧ a0_0 ≤ 9223372036854775807) (b0_1 : 0 ≤ a0_1 ∧ a0_1 ≤ 18446744073709551615) (b1_0 : -9223372036854775808 ≤ a1_0 ∧ a1_0 ≤ 9223372036854775807) (b1_1 : 0 ≤ a1_1 ∧ a1_1 ≤ 18446744073709551615) (b2 : -9223372036854775808 ≤ a2 ∧ a2 ≤ 9223372036854775807) (b3 : -9223372036854775808 ≤ a3 ∧ a3 ≤ 9223372036854775807) :
    ∃ k, G.relievolaw01_WideBack.f k a0_0 a0_1 a1_0 a1_1 a2 a3 = some true := by
  refine ⟨20, ?_⟩
  unfold G.relievolaw01_WideBack.f
  rw [alive_20, Option.bind_some, if_pos rfl]
  obtain ⟨a, ha⟩ : ∃ a, a = a0_0 * 18446744073709551616 + a0_1 := ⟨_, rfl⟩
  obtain ⟨b, hb⟩ : ∃ b, b = a1_0 * 18446744073709551616 + a1_1 := ⟨_, rfl⟩
  have i1 : i128 a := by unfold i128; omega
  have i2 : i128 b := by unfold i128; omega
  rw [show a0_0 = hiW a by unfold hiW; omega, show a0_1 = loW a by unfold loW; omega, show a1_0 = hiW b by unfold hiW; omega, show a1_1 = loW b by unfold loW; omega]
  by_cases c : b = -170141183460469231731687303715884105728
  · have n : G.wide_Neg.f (hiW b) (loW b) = some (0, 0, false) := by
      rw [c]
      exact neg_no
    by_cases s : i128 (a + b)
    · rw [add_eq a b i1 i2 s, Option.bind_some, n, Option.bind_some, if_pos rfl]
      exact back_f 7 _ _ _ _ _ _ _ _ b2 b3
    · rw [add_no a b i1 i2 s, Option.bind_some, n, Option.bind_some, if_neg (by decide)]
      exact back_f 7 _ _ _ _ _ _ _ _ b2 b3
  · have n : i128 (-b) := by unfold i128 at *; omega
    rw [neg_eq b i2 n]
    by_cases s : i128 (a + b)
    · rw [add_eq a b i1 i2 s, Option.bind_some, Option.bind_some, if_pos rfl, G.relievolaw01_WideBack.j0, if_pos rfl]
      dsimp only
      have e : a + b + -b = a := by omega
      rw [add_eq (a + b) (-b) s n (by rw [e]; exact i1), Option.bind_some, if_pos rfl, e, if_neg (by simp)]
      exact back_j1 7 a2 a3 b2 b3
    · rw [add_no a b i1 i2 s, Option.bind_some, Option.bind_some, if_neg (by decide)]
      exact back_f 7 _ _ _ _ _ _ _ _ b2 b3
end Go.Proofs.Ytmkdnoikbefimaa.Pure
