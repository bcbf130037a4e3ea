/- Plain numbers: one digit of a division to the base 2^32, by a guess that is too great by 2 at the most. No program here. -/
import Derived.Lib.BitFns
namespace Go.Proofs.DivMath
set_option linter.unusedVariables false
/-- A divisor with its highest bit, in two halves; what is divided, its first part below the divisor. -/
structure Ok (y yn1 yn0 U u : Int) : Prop where
  e : y = yn1 * 4294967296 + yn0
  a : 0 ≤ yn0 ∧ yn0 < 4294967296
  b : 2147483648 ≤ yn1 ∧ yn1 < 4294967296
  c : 0 ≤ U ∧ U < y
  d : 0 ≤ u ∧ u < 4294967296
def Qd (y U u : Int) : Int := (U * 4294967296 + u) / y
def Rd (y U u : Int) : Int := (U * 4294967296 + u) % y
variable {y yn1 yn0 U u : Int}
theorem Ok.pos (h : Ok y yn1 yn0 U u) : 0 < y := by
  have := h.e; have := h.a; have := h.b
  omega
theorem Ok.sum (h : Ok y yn1 yn0 U u) : Qd y U u * y + Rd y U u = U * 4294967296 + u := by
  have := Int.mul_ediv_add_emod (U * 4294967296 + u) y
  unfold Qd Rd
  rw [Int.mul_comm]
  exact this
theorem Ok.rest (h : Ok y yn1 yn0 U u) : 0 ≤ Rd y U u ∧ Rd y U u < y := ⟨Int.emod_nonneg _ (by have := h.pos; omega), Int.emod_lt_of_pos _ h.pos⟩
theorem Ok.test (h : Ok y yn1 yn0 U u) {q r : Int} (hq : q * yn1 + r = U) : q ≤ Qd y U u ↔ q * yn0 ≤ 4294967296 * r + u := by
  unfold Qd
  rw [Int.le_ediv_iff_mul_le h.pos, h.e]
  have e : q * (yn1 * 4294967296 + yn0) = 4294967296 * (q * yn1) + q * yn0 := by grind
  rw [e]
  omega
theorem Ok.low (h : Ok y yn1 yn0 U u) : 0 ≤ Qd y U u := Int.ediv_nonneg (by have := h.c; have := h.d; omega) (by have := h.pos; omega)
theorem Ok.high (h : Ok y yn1 yn0 U u) : Qd y U u < 4294967296 := by
  unfold Qd
  apply Int.ediv_lt_of_lt_mul h.pos
  have := h.c; have := h.d
  omega
/-- The first guess. -/
theorem Ok.guess (h : Ok y yn1 yn0 U u) : Qd y U u ≤ U / yn1 ∧ U / yn1 ≤ 4294967297 ∧ U / yn1 * yn1 + (U - U / yn1 * yn1) = U ∧ 0 ≤ U - U / yn1 * yn1 ∧ U - U / yn1 * yn1 < yn1 := by
  have hy := h.e; have ha := h.a; have hb := h.b; have hc := h.c; have hd := h.d
  have e := Int.mul_ediv_add_emod U yn1
  have r0 := Int.emod_nonneg U (show yn1 ≠ 0 by omega)
  have r1 := Int.emod_lt_of_pos U (show 0 < yn1 by omega)
  rw [Int.mul_comm] at e
  refine ⟨?_, ?_, by omega, by omega, by omega⟩
  · apply (Int.le_ediv_iff_mul_le (show 0 < yn1 by omega)).mpr
    have s := h.sum
    have r := h.rest
    have l := h.low
    have q : Qd y U u * y = 4294967296 * (Qd y U u * yn1) + Qd y U u * yn0 := by
      conv => lhs; rw [hy]
      grind
    have p := Int.mul_nonneg l ha.1
    omega
  · have lt : U / yn1 < 4294967298 := by
      apply Int.ediv_lt_of_lt_mul (show 0 < yn1 by omega)
      omega
    omega
/-- The test is true: the guess is too great. -/
theorem Ok.down (h : Ok y yn1 yn0 U u) {q r : Int} (hq : q * yn1 + r = U) (hl : Qd y U u ≤ q) (t : 4294967296 ≤ q ∨ 4294967296 * r + u < q * yn0) : Qd y U u ≤ q - 1 ∧ (q - 1) * yn1 + (r + yn1) = U := by
  have hi := h.high
  have ts := h.test hq
  constructor
  · rcases t with t | t
    · omega
    · have : ¬ q ≤ Qd y U u := fun c => by have := ts.mp c; omega
      omega
  · have : (q - 1) * yn1 = q * yn1 - yn1 := by grind
    omega
/-- The test is false: the guess is right. -/
theorem Ok.stop (h : Ok y yn1 yn0 U u) {q r : Int} (hq : q * yn1 + r = U) (hl : Qd y U u ≤ q) (t : q * yn0 ≤ 4294967296 * r + u) : q = Qd y U u := by
  have := (h.test hq).mpr t
  omega
/-- The rest is so great that no test is wanted. -/
theorem Ok.great (h : Ok y yn1 yn0 U u) {q r : Int} (hq : q * yn1 + r = U) (hl : Qd y U u ≤ q) (g : q ≤ 4294967296) (t : 4294967296 ≤ r) : q = Qd y U u := by
  apply h.stop hq hl
  have ha := h.a; have hd := h.d; have l := h.low
  have := Int.mul_le_mul g (show yn0 ≤ 4294967295 by omega) ha.1 (show (0 : Int) ≤ 4294967296 by decide)
  omega
theorem Ok.fits (h : Ok y yn1 yn0 U u) {q : Int} (h0 : 0 ≤ q) (g : q ≤ 4294967297) : 0 ≤ q * yn0 ∧ q * yn0 < 18446744073709551616 := by
  have ha := h.a
  have := Int.mul_le_mul g (show yn0 ≤ 4294967295 by omega) ha.1 (show (0 : Int) ≤ 4294967297 by decide)
  exact ⟨Int.mul_nonneg h0 ha.1, by omega⟩
/-- Two digits make the whole quotient. -/
theorem two_digits {y U u1 u0 : Int} (hy : 0 < y) :
    (U * 18446744073709551616 + (u1 * 4294967296 + u0)) / y = Qd y U u1 * 4294967296 + Qd y (Rd y U u1) u0 ∧ (U * 18446744073709551616 + (u1 * 4294967296 + u0)) % y = Rd y (Rd y U u1) u0 := by
  have s1 : Qd y U u1 * y + Rd y U u1 = U * 4294967296 + u1 := by
    have := Int.mul_ediv_add_emod (U * 4294967296 + u1) y
    unfold Qd Rd
    rw [Int.mul_comm]
    exact this
  have s2 : Qd y (Rd y U u1) u0 * y + Rd y (Rd y U u1) u0 = Rd y U u1 * 4294967296 + u0 := by
    have := Int.mul_ediv_add_emod (Rd y U u1 * 4294967296 + u0) y
    unfold Qd
    conv => lhs; arg 2; unfold Rd
    rw [Int.mul_comm]
    exact this
  have r : 0 ≤ Rd y (Rd y U u1) u0 ∧ Rd y (Rd y U u1) u0 < y := ⟨Int.emod_nonneg _ (by omega), Int.emod_lt_of_pos _ hy⟩
  generalize Qd y (Rd y U u1) u0 = q0 at *
  generalize Rd y (Rd y U u1) u0 = r0 at *
  generalize Qd y U u1 = q1 at *
  generalize Rd y U u1 = r1 at *
  have e : U * 18446744073709551616 + (u1 * 4294967296 + u0) = r0 + y * (q1 * 4294967296 + q0) := by grind
  rw [e]
  constructor
  · rw [Int.add_mul_ediv_left _ _ (by omega), Int.ediv_eq_zero_of_lt r.1 r.2, Int.zero_add]
  · rw [Int.add_mul_emod_self_left, Int.emod_eq_of_lt r.1 r.2]
/-- How many bits a number has. -/
theorem aux_len : ∀ (f x : Nat), x < 2 ^ f → x ≠ 0 → ∃ j, Lib.bitLenAux f x = j + 1 ∧ j + 1 ≤ f ∧ 2 ^ j ≤ x ∧ x < 2 ^ (j + 1)
  | 0, x, h, h0 => by
    have : x < 1 := h
    omega
  | f + 1, x, h, h0 => by
    rw [Lib.bitLenAux, if_neg h0]
    by_cases c : x / 2 = 0
    · have e : x = 1 := by omega
      subst e
      refine ⟨0, ?_, by omega, by decide, by decide⟩
      have z : Lib.bitLenAux f (1 / 2) = 0 := by
        cases f with
        | zero => rfl
        | succ n => rfl
      rw [z]
    · obtain ⟨j, e, l, a, b⟩ := aux_len f (x / 2) (by rw [Nat.pow_succ] at h; omega) c
      refine ⟨j + 1, by rw [e]; omega, by omega, ?_, ?_⟩
      · rw [Nat.pow_succ]; omega
      · rw [Nat.pow_succ]; omega
theorem len_bounds {x : Int} (h0 : 0 < x) (h1 : x < 18446744073709551616) : ∃ s : Nat, (64 - (Lib.bitLen x.toNat : Int)) = (s : Int) ∧ s ≤ 63 ∧ 9223372036854775808 ≤ x * 2 ^ s ∧ x * 2 ^ s < 18446744073709551616 := by
  obtain ⟨j, e, l, a, b⟩ := aux_len 64 x.toNat (by omega) (by omega)
  refine ⟨63 - j, ?_, by omega, ?_, ?_⟩
  · unfold Lib.bitLen
    rw [e]
    omega
  · have p : (2 : Int) ^ j * 2 ^ (63 - j) = 2 ^ 63 := by rw [← Int.pow_add, show j + (63 - j) = 63 by omega]
    have a' : (2 : Int) ^ j ≤ x := by
      have : ((2 ^ j : Nat) : Int) ≤ (x.toNat : Int) := by exact_mod_cast a
      simpa [Int.toNat_of_nonneg (show 0 ≤ x by omega)] using this
    have := Int.mul_le_mul_of_nonneg_right a' (show (0 : Int) ≤ 2 ^ (63 - j) from Int.le_of_lt (Int.pow_pos (by decide)))
    rw [p] at this
    exact this
  · have p : (2 : Int) ^ (j + 1) * 2 ^ (63 - j) = 2 ^ 64 := by rw [← Int.pow_add, show j + 1 + (63 - j) = 64 by omega]
    have b' : x < (2 : Int) ^ (j + 1) := by
      have : (x.toNat : Int) < ((2 ^ (j + 1) : Nat) : Int) := by exact_mod_cast b
      simpa [Int.toNat_of_nonneg (show 0 ≤ x by omega)] using this
    have := Int.mul_lt_mul_of_pos_right b' (show (0 : Int) < 2 ^ (63 - j) from Int.pow_pos (by decide))
    rw [p] at this
    exact this
end Go.Proofs.DivMath
