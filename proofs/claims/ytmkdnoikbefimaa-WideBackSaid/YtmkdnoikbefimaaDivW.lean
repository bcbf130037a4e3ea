/- What wide.Div and wide.Int come to, in plain numbers, and the law's own look at whether the package is alive. -/
import Derived.Test.YtmkdnoikbefimaaGx22
import Derived.Test.YtmkdnoikbefimaaGx24
import Derived.Test.YtmkdnoikbefimaaDivFun
namespace Go.Proofs.Ytmkdnoikbefimaa.M
open Go.RowKit Go.Proofs.VecMath Go.Proofs.DivMath Go.Proofs.YtmkdnoikbefimaaW.PrintWords
set_option linter.unusedVariables false
theorem alive_20 : G.relievolaw01_alive.f 20 = some true := by kernel_rfl
/-- A number without its sign, in two words: its quotient and rest by a number of one word. -/
theorem halves {M d : Int} (hM : 0 ≤ M) (hd : 0 < d) :
    M / d = M / 18446744073709551616 / d * 18446744073709551616 + (M / 18446744073709551616 % d * 18446744073709551616 + M % 18446744073709551616) / d ∧ M % d = (M / 18446744073709551616 % d * 18446744073709551616 + M % 18446744073709551616) % d ∧ 0 ≤ (M / 18446744073709551616 % d * 18446744073709551616 + M % 18446744073709551616) / d ∧ (M / 18446744073709551616 % d * 18446744073709551616 + M % 18446744073709551616) / d < 18446744073709551616 := by
  have e1 := Int.mul_ediv_add_emod (M / 18446744073709551616) d
  have r0 := Int.emod_nonneg (M / 18446744073709551616) (show d ≠ 0 by omega)
  have r1 := Int.emod_lt_of_pos (M / 18446744073709551616) hd
  have e3 : M = (M / 18446744073709551616 % d * 18446744073709551616 + M % 18446744073709551616) + d * (M / 18446744073709551616 / d * 18446744073709551616) := by
    have : d * (M / 18446744073709551616 / d * 18446744073709551616) = d * (M / 18446744073709551616 / d) * 18446744073709551616 := by grind
    rw [this]
    omega
  refine ⟨?_, ?_, ?_, ?_⟩
  · conv => lhs; rw [e3]
    rw [Int.add_mul_ediv_left _ _ (by omega)]
    omega
  · conv => lhs; rw [e3]
    rw [Int.add_mul_emod_self_left]
  · exact Int.ediv_nonneg (by omega) (by omega)
  · apply Int.ediv_lt_of_lt_mul hd
    omega
/-- A number's size: not too great. -/
def i127 (n : Int) : Prop := -85070591730234615865843651857942052864 ≤ n ∧ n ≤ 85070591730234615865843651857942052864
theorem size_eq (A : Int) (h : i127 A) : G.wide_size.f (hiW A) (loW A) = some ((if A < 0 then -A else A) / 18446744073709551616, (if A < 0 then -A else A) % 18446744073709551616) := by
  unfold i127 at h
  unfold G.wide_size.f
  by_cases c : A < 0
  · rw [if_pos c, if_pos (by unfold hiW; omega), turned_eq A (by unfold i128; omega) (by unfold i128; omega), Option.bind_some]
    dsimp only
    rw [uw (by unfold hiW; omega)]
    rfl
  · rw [if_neg c, if_neg (by unfold hiW; omega), uw (by unfold hiW; omega)]
    rfl
theorem div_no (k : Nat) (a b d : Int) (h : d < 1) : G.wide_Div.f k a b d = some (0, 0, 0, false) := by
  unfold G.wide_Div.f
  rw [if_pos h]
theorem div_eq (k : Nat) (A d : Int) (h : i127 A) (hd : 1 ≤ d ∧ d ≤ 9223372036854775807) : G.wide_Div.f (k + 11) (hiW A) (loW A) d = some (hiW (A / d), loW (A / d), A % d, true) := by
  have h' := h
  unfold i127 at h'
  unfold G.wide_Div.f
  rw [if_neg (by omega), size_eq A h, Option.bind_some, uw (n := d) (by omega)]
  dsimp only
  obtain ⟨M, hM⟩ : ∃ M, M = (if A < 0 then -A else A) := ⟨_, rfl⟩
  have hM0 : 0 ≤ M ∧ M ≤ 85070591730234615865843651857942052864 := by
    rw [hM]
    split <;> omega
  rw [← hM]
  obtain ⟨q, r, l0, l1⟩ := halves hM0.1 (show 0 < d by omega)
  have e1 := div64_eq k 0 (M / 18446744073709551616) d (by omega) (by omega) (by omega)
  rw [Int.zero_mul, Int.zero_add] at e1
  have t0 : 0 ≤ M / 18446744073709551616 / d := Int.ediv_nonneg (by omega) (by omega)
  have t1 : M / 18446744073709551616 / d ≤ M / 18446744073709551616 := Int.ediv_le_self _ (by omega)
  have r0 := Int.emod_nonneg (M / 18446744073709551616) (show d ≠ 0 by omega)
  have r1 := Int.emod_lt_of_pos (M / 18446744073709551616) (show 0 < d by omega)
  have e2 := div64_eq k (M / 18446744073709551616 % d) (M % 18446744073709551616) d ⟨r0, r1⟩ (by omega) (by omega)
  rw [e1, Option.bind_some]
  dsimp only
  rw [e2, Option.bind_some]
  dsimp only
  rw [← r]
  have m0 := Int.emod_nonneg M (show d ≠ 0 by omega)
  have m1 := Int.emod_lt_of_pos M (show 0 < d by omega)
  have mq := Int.mul_ediv_add_emod M d
  have qM : M / d ≤ M := Int.ediv_le_self _ hM0.1
  have q0 : 0 ≤ M / d := Int.ediv_nonneg hM0.1 (by omega)
  generalize M / 18446744073709551616 / d = t at *
  generalize (M / 18446744073709551616 % d * 18446744073709551616 + M % 18446744073709551616) / d = l at *
  have ht : t = hiW (M / d) := by unfold hiW; omega
  have hl : l = loW (M / d) := by unfold loW; omega
  rw [w64 (n := t) (by omega), w64 (n := M % d) (by omega), ht, hl]
  by_cases c : A < 0
  · rw [if_pos (by unfold hiW; omega), turned_eq (M / d) (by unfold i128; omega) (by unfold i128; omega), Option.bind_some]
    dsimp only
    rw [if_pos c] at hM
    by_cases g : M % d > 0
    · rw [if_pos g, of_eq (-1) (by unfold i64b; decide), Option.bind_some]
      dsimp only
      rw [sum_eq (-(M / d)) (-1) (by unfold i128; omega) (by unfold i128; decide) (by unfold i128; omega), Option.bind_some, w64 (by omega)]
      have e : A = (d - M % d) + d * (-(M / d) - 1) := by
        have : d * (-(M / d) - 1) = -(d * (M / d)) - d := by grind
        omega
      have a1 : A / d = -(M / d) + -1 := by
        conv => lhs; rw [e]
        rw [Int.add_mul_ediv_left _ _ (by omega), Int.ediv_eq_zero_of_lt (by omega) (by omega)]
        omega
      have a2 : A % d = d - M % d := by
        conv => lhs; rw [e]
        rw [Int.add_mul_emod_self_left, Int.emod_eq_of_lt (by omega) (by omega)]
      rw [a1, a2]
    · rw [if_neg g]
      have z : M % d = 0 := by omega
      have e : A = d * (-(M / d)) := by
        have : d * (-(M / d)) = -(d * (M / d)) := by grind
        omega
      have a1 : A / d = -(M / d) := by
        conv => lhs; rw [e]
        rw [Int.mul_ediv_cancel_left _ (by omega)]
      have a2 : A % d = M % d := by
        rw [z]
        conv => lhs; rw [e]
        rw [Int.mul_emod_right]
      rw [a1, a2]
  · rw [if_neg (by unfold hiW; omega)]
    rw [if_neg c] at hM
    rw [hM]
theorem int_yes (n : Int) (h : i64b n) : G.wide_Int.f (hiW n) (loW n) = some (n, true) := by
  unfold i64b at h
  have e : wrap64 (loW n) = n := by unfold wrap64 loW; omega
  unfold G.wide_Int.f
  rw [e, of_eq n h, Option.bind_some, if_neg (by simp)]
theorem int_no (n : Int) (h : ¬ i64b n) (hn : i128 n) : G.wide_Int.f (hiW n) (loW n) = some (0, false) := by
  unfold i64b at h
  unfold i128 at hn
  have e : i64b (wrap64 (loW n)) := by unfold i64b wrap64 loW; omega
  unfold G.wide_Int.f
  rw [of_eq _ e, Option.bind_some, if_pos]
  dsimp only
  have ne : hiW (wrap64 (loW n)) ≠ hiW n := by unfold hiW wrap64 loW; omega
  simp [ne]
end Go.Proofs.Ytmkdnoikbefimaa.M
