/- The square root of a square is its side; of one less, one less: for all ints. -/
import Derived.Test.YtmkdnoikbefimaaGx51
import Derived.Test.YtmkdnoikbefimaaWideAlive
namespace Go.Proofs.Ytmkdnoikbefimaa.Pure
open Go.RowKit Go.Proofs.VecMath Go.Proofs.Ytmkdnoikbefimaa.M Go.Proofs.YtmkdnoikbefimaaW.PrintWords
set_option linter.unusedVariables false
theorem of_wf {n : Int} (h : (Lit.int .i64 n).wf = true) : i64b n := by
  unfold Lit.wf at h
  rw [Bool.and_eq_true, decide_eq_true_eq, decide_eq_true_eq] at h
  exact h

def bitv : Nat → Int
  | 0 => 0
  | j + 1 => 2 ^ j
theorem bitv_half : ∀ j, bitv (j + 1) / 2 = bitv j
  | 0 => rfl
  | j + 1 => by
    show (2 : Int) ^ (j + 1) / 2 = 2 ^ j
    rw [Int.pow_succ]
    exact Int.mul_ediv_cancel _ (by decide)
theorem or_bit (a j : Nat) (h : 2 ^ (j + 1) * a + 2 ^ j < 2 ^ 64) : Go.bits .or .u64 ((2 ^ (j + 1) * a : Nat) : Int) ((2 ^ j : Nat) : Int) = ((2 ^ (j + 1) * a + 2 ^ j : Nat) : Int) := by
  have p : 2 ^ j < 2 ^ (j + 1) := Nat.pow_lt_pow_right (by decide) (by omega)
  rw [bits_or_u64_nat _ _ (by omega) (by omega), Nat.two_pow_add_eq_or_of_lt p]
theorem loop_eq (N : Int) (h0 : 0 ≤ N) (h1 : N < 170141183460469231731687303715884105728) : ∀ (j : Nat) (k : Nat) (a : Nat), j ≤ 64 → 2 ^ j * a + 2 ^ j ≤ 2 ^ 64 →
    ((2 ^ j * a : Nat) : Int) * ((2 ^ j * a : Nat) : Int) ≤ N → N < ((2 ^ j * a + 2 ^ j : Nat) : Int) * ((2 ^ j * a + 2 ^ j : Nat) : Int) →
    ∃ r : Int, 0 ≤ r ∧ r * r ≤ N ∧ N < (r + 1) * (r + 1) ∧ G.wide_Sqrt.l0 (k + j + 1) ((2 ^ j * a : Nat) : Int) (bitv j) (hiW N) (loW N) = (if r > 9223372036854775807 then some (0, false) else some (wrap64 r, true))
  | 0, k, a, _, hs, lo, hi => by
    refine ⟨((2 ^ 0 * a : Nat) : Int), by omega, lo, ?_, ?_⟩
    · rw [show ((2 ^ 0 * a : Nat) : Int) + 1 = ((2 ^ 0 * a + 2 ^ 0 : Nat) : Int) by omega]
      exact hi
    · rw [G.wide_Sqrt.l0, show bitv 0 = 0 from rfl, if_neg (by decide)]
  | j + 1, k, a, hj, hs, lo, hi => by
    have pj : 0 < 2 ^ j := Nat.pow_pos (by decide)
    have e2 : 2 ^ (j + 1) = 2 * 2 ^ j := by rw [Nat.pow_succ]; omega
    have hx : 2 ^ (j + 1) * a + 2 ^ j < 2 ^ 64 := by omega
    have eb : bitv (j + 1) = ((2 ^ j : Nat) : Int) := by unfold bitv; simp
    have e0 : 2 ^ j * (2 * a) = 2 ^ (j + 1) * a := by rw [e2, Nat.mul_comm 2 (2 ^ j), Nat.mul_assoc]
    have e1 : 2 ^ j * (2 * a + 1) = 2 ^ (j + 1) * a + 2 ^ j := by rw [Nat.mul_add, e0, Nat.mul_one]
    have b1 : bitv (j + 1) > 0 := by rw [eb]; omega
    rw [show k + (j + 1) + 1 = (k + j + 1) + 1 by omega, G.wide_Sqrt.l0, if_pos b1, bitv_half, eb, or_bit a j hx]
    have hX : (0 : Int) ≤ ((2 ^ (j + 1) * a + 2 ^ j : Nat) : Int) ∧ ((2 ^ (j + 1) * a + 2 ^ j : Nat) : Int) < 18446744073709551616 := by omega
    rw [mul64_eq _ _ hX hX, Option.bind_some]
    dsimp only
    have uh : IntKind.u64.wrap (hiW N) = hiW N := by rw [u64w]; unfold hiW; omega
    rw [uh]
    have up := loop_eq N h0 h1 j k (2 * a + 1) (by omega) (by rw [e1]; omega)
    have dn := loop_eq N h0 h1 j k (2 * a) (by omega) (by rw [e0]; omega)
    rw [e1] at up
    rw [e0] at dn
    have es : 2 ^ (j + 1) * a + 2 ^ j + 2 ^ j = 2 ^ (j + 1) * a + 2 ^ (j + 1) := by omega
    rw [es] at up
    generalize hX' : ((2 ^ (j + 1) * a + 2 ^ j : Nat) : Int) = X at *
    by_cases c : X * X ≤ N
    · obtain ⟨r, r0, r1, r2, er⟩ := up c hi
      refine ⟨r, r0, r1, r2, ?_⟩
      rw [← er]
      generalize X * X = Y at *
      by_cases c1 : Y / 18446744073709551616 < hiW N
      · rw [if_pos c1]
      · rw [if_neg c1, if_pos (by unfold hiW at *; omega), if_pos (by unfold hiW loW at *; omega)]
    · obtain ⟨r, r0, r1, r2, er⟩ := dn lo (by omega)
      refine ⟨r, r0, r1, r2, ?_⟩
      rw [← er]
      have Y0 : 0 ≤ X * X := Int.mul_nonneg hX.1 hX.1
      generalize X * X = Y at *
      rw [if_neg (by unfold hiW; omega)]
      by_cases c2 : Y / 18446744073709551616 = hiW N
      · rw [if_pos c2, if_neg (by unfold hiW loW at *; omega)]
      · rw [if_neg c2]
theorem sqrt_eq (k : Nat) (N : Int) (h0 : 0 ≤ N) (h1 : N < 170141183460469231731687303715884105728) :
    ∃ r : Int, 0 ≤ r ∧ r * r ≤ N ∧ N < (r + 1) * (r + 1) ∧ G.wide_Sqrt.f (k + 65) (hiW N) (loW N) = (if r > 9223372036854775807 then some (0, false) else some (wrap64 r, true)) := by
  unfold G.wide_Sqrt.f
  rw [if_neg (by unfold hiW; omega)]
  exact loop_eq N h0 h1 64 k 0 (Nat.le_refl _) (by decide) (by simpa using h0) (by
    rw [show ((2 ^ 64 * 0 + 2 ^ 64 : Nat) : Int) = 18446744073709551616 by decide]
    omega)
theorem sq_lt {a b : Int} (hb : 0 ≤ b) (h : a * a < (b + 1) * (b + 1)) (ha : 0 ≤ a) : a ≤ b := by
  by_cases c : a ≤ b
  · exact c
  · have := Int.mul_self_le_mul_self (show 0 ≤ b + 1 by omega) (show b + 1 ≤ a by omega)
    omega
theorem WideRoots : G.relievolaw01_WideRoots.Pure := by
  intro n hn
  replace hn := of_wf hn
  have hn' := hn
  unfold i64b at hn'
  refine ⟨65, ?_⟩
  unfold G.relievolaw01_WideRoots.f
  rw [aliveW_at 61, Option.bind_some, if_pos rfl]
  by_cases c : n < 1
  · rw [if_pos c]
  have pb := mulb (x := n) (y := n) (A := 9223372036854775808) (B := 9223372036854775808) (by omega) (by omega)
  have p0 : 1 ≤ n * n := Int.mul_le_mul (show (1 : Int) ≤ n by omega) (show (1 : Int) ≤ n by omega) (by decide) (by omega)
  obtain ⟨r, r0, r1, r2, er⟩ := sqrt_eq 0 (n * n) (by omega) (by omega)
  obtain ⟨q, q0, q1, q2, eq⟩ := sqrt_eq 0 (n * n + -1) (by omega) (by omega)
  have e1 : r = n := by
    have a := sq_lt (a := n) (b := r) r0 r2 (by omega)
    have b := sq_lt (a := r) (b := n) (by omega) (by
      have : (n + 1) * (n + 1) = n * n + 2 * n + 1 := by grind
      omega) r0
    omega
  have e2 : q = n - 1 := by
    have a := sq_lt (a := n - 1) (b := q) q0 (by
      have : (n - 1) * (n - 1) = n * n - 2 * n + 1 := by grind
      omega) (by omega)
    have b := sq_lt (a := q) (b := n - 1) (by omega) (by
      have : (n - 1 + 1) * (n - 1 + 1) = n * n := by grind
      omega) q0
    omega
  rw [e1, if_neg (by omega)] at er
  rw [e2, if_neg (by omega)] at eq
  rw [if_neg c, mulW_eq n n hn hn, Option.bind_some]
  dsimp only
  rw [er, Option.bind_some, Option.bind_some, of_eq (-1) (by unfold i64b; decide), Option.bind_some]
  dsimp only
  rw [add_eq (n * n) (-1) (prod128 hn hn) (by unfold i128; decide) (by unfold i128; omega), Option.bind_some]
  dsimp only
  rw [eq, Option.bind_some, if_pos rfl, if_pos rfl, if_pos rfl, if_pos (w64 hn)]
  simp
end Go.Proofs.Ytmkdnoikbefimaa.Pure
