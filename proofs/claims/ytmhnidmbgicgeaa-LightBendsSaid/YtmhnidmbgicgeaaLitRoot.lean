/- What wide.Mul, wide.Sqrt and light.root come to, in plain numbers: the product, and its whole square root. -/
import Derived.Laws.MathBits
import Derived.Test.YtmhnidmbgicgeaaGx14
import Derived.Test.YtmhnidmbgicgeaaLitRefl
namespace Go.Proofs.Ytmhnidmbgicgeaa.M
open Go.RowKit Go.Proofs.VecMath Go.Proofs.YtmhnidmbgicgeaaW.PrintWords
set_option linter.unusedVariables false
set_option linter.unusedSimpArgs false

theorem u64w (n : Int) : IntKind.u64.wrap n = n % 18446744073709551616 := rfl

theorem mul64_eq (a b : Int) (ha : 0 ≤ a ∧ a < 18446744073709551616) (hb : 0 ≤ b ∧ b < 18446744073709551616) :
    G.bits_Mul64.f a b = some (a * b / 18446744073709551616, a * b % 18446744073709551616) := by
  unfold G.bits_Mul64.f
  simp only [u64w]
  rw [and_low32 a ha.1 ha.2, and_low32 b hb.1 hb.2, and_low32 _ (by omega) (by omega)]
  rw [mul64_arith a b ha.1 ha.2 hb.1 hb.2]

/-- The two halves of a whole number. -/
def hiW (n : Int) : Int := n / 18446744073709551616
def loW (n : Int) : Int := n % 18446744073709551616

def i64b (n : Int) : Prop := -9223372036854775808 ≤ n ∧ n ≤ 9223372036854775807

theorem prod_in {a b : Int} (ha : i64b a) (hb : i64b b) : -85070591730234615865843651857942052864 ≤ a * b ∧ a * b ≤ 85070591730234615865843651857942052864 :=
  mulb (A := 9223372036854775808) (B := 9223372036854775808) ⟨by unfold i64b at ha; omega, by unfold i64b at ha; omega⟩ ⟨by unfold i64b at hb; omega, by unfold i64b at hb; omega⟩

theorem mulW_eq (a b : Int) (ha : i64b a) (hb : i64b b) : G.wide_Mul.f a b = some (hiW (a * b), loW (a * b)) := by
  have hp := prod_in ha hb
  unfold i64b at ha hb
  unfold G.wide_Mul.f hiW loW
  rw [u64w, u64w, mul64_eq _ _ (by omega) (by omega), Option.bind_some]
  simp only [u64w]
  by_cases h1 : a < 0
  · have ea : a % 18446744073709551616 = a + 18446744073709551616 := by omega
    rw [if_pos h1, ea]
    by_cases h2 : b < 0
    · have eb : b % 18446744073709551616 = b + 18446744073709551616 := by omega
      rw [if_pos h2, eb]
      have e : (a + 18446744073709551616) * (b + 18446744073709551616) = a * b + 18446744073709551616 * (a + b + 18446744073709551616) := by grind
      rw [e]
      generalize a * b = p at *
      simp only [Option.some.injEq, Prod.mk.injEq, and_true]
      unfold wrap64
      omega
    · have eb : b % 18446744073709551616 = b := by omega
      rw [if_neg h2, eb]
      have e : (a + 18446744073709551616) * b = a * b + 18446744073709551616 * b := by grind
      rw [e]
      generalize a * b = p at *
      simp only [Option.some.injEq, Prod.mk.injEq, and_true]
      unfold wrap64
      omega
  · have ea : a % 18446744073709551616 = a := by omega
    rw [if_neg h1, ea]
    by_cases h2 : b < 0
    · have eb : b % 18446744073709551616 = b + 18446744073709551616 := by omega
      rw [if_pos h2, eb]
      have e : a * (b + 18446744073709551616) = a * b + 18446744073709551616 * a := by grind
      rw [e]
      generalize a * b = p at *
      simp only [Option.some.injEq, Prod.mk.injEq, and_true]
      unfold wrap64
      omega
    · have eb : b % 18446744073709551616 = b := by omega
      rw [if_neg h2, eb]
      generalize a * b = p at *
      simp only [Option.some.injEq, Prod.mk.injEq, and_true]
      unfold wrap64
      omega

def bitv : Nat → Int
  | 0 => 0
  | j + 1 => 2 ^ j
theorem bitv_half : ∀ j, bitv (j + 1) / 2 = bitv j
  | 0 => rfl
  | j + 1 => by
    show (2 : Int) ^ (j + 1) / 2 = 2 ^ j
    rw [Int.pow_succ]
    exact Int.mul_ediv_cancel _ (by decide)
theorem or_bit (a j : Nat) (h : 2 ^ (j + 1) * a + 2 ^ j < 2 ^ 64) : Go.bits .or .u64 ((2 ^ (j + 1) * a : Nat) : Int) ((2 ^ j : Nat) : Int) = ((2 ^ (j + 1) * a + 2 ^ j : Nat) : Int) := by
  have p : 2 ^ j < 2 ^ (j + 1) := Nat.pow_lt_pow_right (by decide) (by omega)
  rw [bits_or_u64_nat _ _ (by omega) (by omega), Nat.two_pow_add_eq_or_of_lt p]
theorem loop_eq (N : Int) (h0 : 0 ≤ N) (h1 : N < 170141183460469231731687303715884105728) : ∀ (j : Nat) (k : Nat) (a : Nat), j ≤ 64 → 2 ^ j * a + 2 ^ j ≤ 2 ^ 64 →
    ((2 ^ j * a : Nat) : Int) * ((2 ^ j * a : Nat) : Int) ≤ N → N < ((2 ^ j * a + 2 ^ j : Nat) : Int) * ((2 ^ j * a + 2 ^ j : Nat) : Int) →
    ∃ r : Int, 0 ≤ r ∧ r * r ≤ N ∧ N < (r + 1) * (r + 1) ∧ G.wide_Sqrt.l0 (k + j + 1) ((2 ^ j * a : Nat) : Int) (bitv j) (hiW N) (loW N) = (if r > 9223372036854775807 then some (0, false) else some (wrap64 r, true))
  | 0, k, a, _, hs, lo, hi => by
    refine ⟨((2 ^ 0 * a : Nat) : Int), by omega, lo, ?_, ?_⟩
    · rw [show ((2 ^ 0 * a : Nat) : Int) + 1 = ((2 ^ 0 * a + 2 ^ 0 : Nat) : Int) by omega]
      exact hi
    · rw [G.wide_Sqrt.l0, show bitv 0 = 0 from rfl, if_neg (by decide)]
  | j + 1, k, a, hj, hs, lo, hi => by
    have pj : 0 < 2 ^ j := Nat.pow_pos (by decide)
    have e2 : 2 ^ (j + 1) = 2 * 2 ^ j := by rw [Nat.pow_succ]; omega
    have hx : 2 ^ (j + 1) * a + 2 ^ j < 2 ^ 64 := by omega
    have eb : bitv (j + 1) = ((2 ^ j : Nat) : Int) := by unfold bitv; simp
    have e0 : 2 ^ j * (2 * a) = 2 ^ (j + 1) * a := by rw [e2, Nat.mul_comm 2 (2 ^ j), Nat.mul_assoc]
    have e1 : 2 ^ j * (2 * a + 1) = 2 ^ (j + 1) * a + 2 ^ j := by rw [Nat.mul_add, e0, Nat.mul_one]
    have b1 : bitv (j + 1) > 0 := by rw [eb]; omega
    rw [show k + (j + 1) + 1 = (k + j + 1) + 1 by omega, G.wide_Sqrt.l0, if_pos b1, bitv_half, eb, or_bit a j hx]
    have hX : (0 : Int) ≤ ((2 ^ (j + 1) * a + 2 ^ j : Nat) : Int) ∧ ((2 ^ (j + 1) * a + 2 ^ j : Nat) : Int) < 18446744073709551616 := by omega
    rw [mul64_eq _ _ hX hX, Option.bind_some]
    dsimp only
    have uh : IntKind.u64.wrap (hiW N) = hiW N := by rw [u64w]; unfold hiW; omega
    rw [uh]
    have up := loop_eq N h0 h1 j k (2 * a + 1) (by omega) (by rw [e1]; omega)
    have dn := loop_eq N h0 h1 j k (2 * a) (by omega) (by rw [e0]; omega)
    rw [e1] at up
    rw [e0] at dn
    have es : 2 ^ (j + 1) * a + 2 ^ j + 2 ^ j = 2 ^ (j + 1) * a + 2 ^ (j + 1) := by omega
    rw [es] at up
    generalize hX' : ((2 ^ (j + 1) * a + 2 ^ j : Nat) : Int) = X at *
    by_cases c : X * X ≤ N
    · obtain ⟨r, r0, r1, r2, er⟩ := up c hi
      refine ⟨r, r0, r1, r2, ?_⟩
      rw [← er]
      generalize X * X = Y at *
      by_cases c1 : Y / 18446744073709551616 < hiW N
      · rw [if_pos c1]
      · rw [if_neg c1, if_pos (by unfold hiW at *; omega), if_pos (by unfold hiW loW at *; omega)]
    · obtain ⟨r, r0, r1, r2, er⟩ := dn lo (by omega)
      refine ⟨r, r0, r1, r2, ?_⟩
      rw [← er]
      have Y0 : 0 ≤ X * X := Int.mul_nonneg hX.1 hX.1
      generalize X * X = Y at *
      rw [if_neg (by unfold hiW; omega)]
      by_cases c2 : Y / 18446744073709551616 = hiW N
      · rw [if_pos c2, if_neg (by unfold hiW loW at *; omega)]
      · rw [if_neg c2]
theorem sqrt_eq (k : Nat) (N : Int) (h0 : 0 ≤ N) (h1 : N < 170141183460469231731687303715884105728) :
    ∃ r : Int, 0 ≤ r ∧ r * r ≤ N ∧ N < (r + 1) * (r + 1) ∧ G.wide_Sqrt.f (k + 65) (hiW N) (loW N) = (if r > 9223372036854775807 then some (0, false) else some (wrap64 r, true)) := by
  unfold G.wide_Sqrt.f
  rw [if_neg (by unfold hiW; omega)]
  exact loop_eq N h0 h1 64 k 0 (Nat.le_refl _) (by decide) (by simpa using h0) (by
    rw [show ((2 ^ 64 * 0 + 2 ^ 64 : Nat) : Int) = 18446744073709551616 by decide]
    omega)
theorem sq_lt {a b : Int} (hb : 0 ≤ b) (h : a * a < (b + 1) * (b + 1)) (ha : 0 ≤ a) : a ≤ b := by
  by_cases c : a ≤ b
  · exact c
  · have := Int.mul_self_le_mul_self (show 0 ≤ b + 1 by omega) (show b + 1 ≤ a by omega)
    omega
/-- The whole square root. -/
structure Root (r N : Int) : Prop where
  r0 : 0 ≤ r
  lo : r * r ≤ N
  hi : N < (r + 1) * (r + 1)
theorem Root.only {r s N : Int} (h : Root r N) (g : Root s N) : r = s := by
  have a := sq_lt g.r0 (by have := h.lo; have := g.hi; omega : r * r < (s + 1) * (s + 1)) h.r0
  have b := sq_lt h.r0 (by have := g.lo; have := h.hi; omega : s * s < (r + 1) * (r + 1)) g.r0
  omega
theorem Root.pos {r N : Int} (h : Root r N) (hN : 0 < N) : 0 < r := by
  by_cases c : r = 0
  · have := h.hi
    rw [c] at this
    omega
  · have := h.r0
    omega
theorem root_eq (k : Nat) (n m : Int) (hn : 0 ≤ n ∧ n ≤ 9223372036854775807) (hm : 0 ≤ m ∧ m ≤ 9223372036854775807) : ∃ r, G.light_root.f (k + 65) n m = some r ∧ Root r (n * m) := by
  have p := prod_in (a := n) (b := m) (by unfold i64b; omega) (by unfold i64b; omega)
  have p0 := Int.mul_nonneg hn.1 hm.1
  obtain ⟨r, r0, r1, r2, er⟩ := sqrt_eq k (n * m) p0 (by omega)
  have rb : r ≤ 9223372036854775807 := by
    have q := Int.mul_le_mul hn.2 hm.2 hm.1 (show (0 : Int) ≤ 9223372036854775807 by decide)
    exact sq_lt (a := r) (b := 9223372036854775807) (by decide) (by omega) r0
  rw [if_neg (by omega), w64 (by omega)] at er
  refine ⟨r, ?_, ⟨r0, r1, r2⟩⟩
  unfold G.light_root.f
  rw [mulW_eq n m (by unfold i64b; omega) (by unfold i64b; omega), Option.bind_some]
  dsimp only
  rw [er, Option.bind_some]
end Go.Proofs.Ytmhnidmbgicgeaa.M
