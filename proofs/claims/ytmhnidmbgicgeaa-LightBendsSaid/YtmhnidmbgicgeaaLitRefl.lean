/- What vec.Dot, light.floor, light.fine, vec.Cut and light.Reflect come to, in plain numbers. -/
import Derived.Test.YtmhnidmbgicgeaaLitFun
namespace Go.Proofs.Ytmhnidmbgicgeaa.M
open Go.RowKit Go.Proofs.VecMath Go.Proofs.YtmhnidmbgicgeaaW.PrintWords
set_option linter.unusedVariables false

theorem dot_eq {x y z x1 y1 z1 m n : Int} (ha : (⟨x, y, z⟩ : Vec).in_ m) (hb : (⟨x1, y1, z1⟩ : Vec).in_ n) (h : m * n ≤ 3074457345618258602) :
    G.vec_Dot.f x y z x1 y1 z1 = some (x * x1 + y * y1 + z * z1) := by
  obtain ⟨a1, a2, a3⟩ := ha
  obtain ⟨b1, b2, b3⟩ := hb
  dsimp only at *
  have h1 := mulb a1 b1
  have h2 := mulb a2 b2
  have h3 := mulb a3 b3
  unfold G.vec_Dot.f
  rw [w64 (n := x * x1) (by omega), w64 (n := y * y1) (by omega), w64 (n := z * z1) (by omega)]
  rw [w64 (n := x * x1 + y * y1) (by omega), w64 (by omega)]
theorem dot_in {x y z x1 y1 z1 m n : Int} (ha : (⟨x, y, z⟩ : Vec).in_ m) (hb : (⟨x1, y1, z1⟩ : Vec).in_ n) : -(3 * (m * n)) ≤ x * x1 + y * y1 + z * z1 ∧ x * x1 + y * y1 + z * z1 ≤ 3 * (m * n) := by
  obtain ⟨a1, a2, a3⟩ := ha
  obtain ⟨b1, b2, b3⟩ := hb
  dsimp only at *
  have h1 := mulb a1 b1
  have h2 := mulb a2 b2
  have h3 := mulb a3 b3
  omega
/-- The greatest whole number that is no more: Lean's own division, for a divisor above 0. -/
theorem floor_eq {n d : Int} (hd : 0 < d) (hn : -9223372036854775807 ≤ n ∧ n ≤ 9223372036854775807) : G.light_floor.f n d = some (n / d) := by
  unfold G.light_floor.f
  rw [if_neg (by omega)]
  by_cases h : 0 ≤ n
  · have e1 : Int.tdiv n d = n / d := Int.tdiv_eq_ediv_of_nonneg h
    have e2 : 0 ≤ Int.tmod n d := Int.tmod_nonneg d h
    have q0 : 0 ≤ n / d := Int.ediv_nonneg h (by omega)
    have q1 : n / d ≤ n := Int.ediv_le_self d h
    rw [if_neg (by omega), e1, w64 (by omega)]
  · obtain ⟨m, rfl⟩ : ∃ m, n = -m := ⟨-n, by omega⟩
    have hm : 0 ≤ m := by omega
    have e1 : Int.tdiv (-m) d = -(m / d) := by rw [Int.neg_tdiv, Int.tdiv_eq_ediv_of_nonneg hm]
    have e2 : Int.tmod (-m) d = -(m % d) := by rw [Int.neg_tmod, Int.tmod_eq_emod_of_nonneg hm]
    have q0 : 0 ≤ m / d := Int.ediv_nonneg hm (by omega)
    have q1 : m / d ≤ m := Int.ediv_le_self d hm
    have r0 := Int.emod_nonneg m (show d ≠ 0 by omega)
    have r1 := Int.emod_lt_of_pos m hd
    have ed := Int.mul_ediv_add_emod m d
    rw [e1, e2, w64 (n := -(m / d)) (by omega)]
    by_cases c : m % d = 0
    · rw [if_neg (by omega)]
      rw [c, Int.add_zero] at ed
      congr 1
      have : -m = d * (-(m / d)) := by rw [Int.mul_neg, ed]
      have e4 := Int.mul_ediv_cancel_left (-(m / d)) (show d ≠ 0 by omega)
      rw [← this] at e4
      exact e4.symm
    · rw [if_pos (by omega), w64 (by omega)]
      congr 1
      have e3 : -m = (d - m % d) + d * (-(m / d) - 1) := by
        have : d * (-(m / d) - 1) = -(d * (m / d)) - d := by grind
        omega
      have e4 := Int.add_mul_ediv_left (d - m % d) (-(m / d) - 1) (show d ≠ 0 by omega)
      have z : (d - m % d) / d = 0 := Int.ediv_eq_zero_of_lt (by omega) (by omega)
      rw [← e3, z] at e4
      omega
theorem nz_beq (x y z : Int) : (!(x == 0) || (!(y == 0) || (!(z == 0)))) = !decide (⟨x, y, z⟩ : Vec).zero := by
  unfold Vec.zero
  by_cases a : x = 0 <;> by_cases b : y = 0 <;> by_cases c : z = 0 <;> simp [a, b, c]
def fineB (d n : Vec) : Bool := !decide n.zero && (decide (n.in_ 1023) && decide (d.in_ 32768))
theorem fine_eq (d n : Vec) : G.light_fine.f d.x d.y d.z n.x n.y n.z = some (fineB d n) := by
  unfold G.light_fine.f fineB
  rw [nz_beq, within_eq _ _ _ _ (by decide) (by decide), within_eq _ _ _ _ (by decide) (by decide)]
  simp only [Option.bind_some]
  cases decide (Vec.zero ⟨n.x, n.y, n.z⟩) <;> cases decide (Vec.in_ 1023 ⟨n.x, n.y, n.z⟩) <;> rfl
def nn (n : Vec) : Int := n.x * n.x + n.y * n.y + n.z * n.z
def dn (d n : Vec) : Int := d.x * n.x + d.y * n.y + d.z * n.z
theorem sq_nn (x : Int) : 0 ≤ x * x := by
  by_cases h : 0 ≤ x
  · exact Int.mul_nonneg h h
  · have := Int.mul_nonneg (show 0 ≤ -x by omega) (show 0 ≤ -x by omega)
    rwa [Int.neg_mul_neg] at this
theorem sq_pos {x : Int} (h : x ≠ 0) : 0 < x * x := by
  have := sq_nn x
  have := Int.mul_ne_zero h h
  omega
theorem nn_pos {n : Vec} (h : ¬ n.zero) : 0 < nn n := by
  have a := sq_nn n.x
  have b := sq_nn n.y
  have c := sq_nn n.z
  unfold nn
  by_cases p : n.x = 0
  · by_cases q : n.y = 0
    · have r : n.z ≠ 0 := fun r => h ⟨p, q, r⟩
      have := sq_pos r
      omega
    · have := sq_pos q
      omega
  · have := sq_pos p
    omega
/-- A mirrored part, ahead of the cut. -/
def rf (q e d n : Int) : Int := (d * q - 2 * n * e) / q
theorem reflect_no (k : Nat) (d n : Vec) (h : fineB d n = false) : G.light_Reflect.f k d.x d.y d.z n.x n.y n.z = some (0, 0, 0) := by
  unfold G.light_Reflect.f
  rw [fine_eq, h, Option.bind_some, if_neg (by decide)]
theorem fine_of {d n : Vec} (h : fineB d n = true) : ¬ n.zero ∧ n.in_ 1023 ∧ d.in_ 32768 := by
  unfold fineB at h
  simpa using h
theorem part_eq {q e d n : Int} (hq : 0 < q ∧ q ≤ 3139587) (he : -100564992 ≤ e ∧ e ≤ 100564992) (hd : -32768 ≤ d ∧ d ≤ 32768) (hn : -1023 ≤ n ∧ n ≤ 1023) :
    G.light_floor.f (wrap64 (wrap64 (d * q) - wrap64 (wrap64 (2 * n) * e))) q = some (rf q e d n) := by
  have h1 := mulb (A := 32768) (B := 3139587) hd ⟨by omega, hq.2⟩
  have h2 := mulb (x := 2 * n) (A := 2046) (B := 100564992) ⟨by omega, by omega⟩ he
  rw [w64 (n := d * q) (by omega), w64 (n := 2 * n) (by omega), w64 (n := 2 * n * e) (by omega), w64 (by omega), floor_eq hq.1 (by omega)]
  rfl
theorem nn_in {n : Vec} (h : n.in_ 1023) : nn n ≤ 3139587 := (dot_in h h).2
theorem reflect_eq (k : Nat) (d n : Vec) (h : fineB d n = true) : G.light_Reflect.f k d.x d.y d.z n.x n.y n.z = G.vec_Cut.f k (rf (nn n) (dn d n) d.x n.x) (rf (nn n) (dn d n) d.y n.y) (rf (nn n) (dn d n) d.z n.z) 32768 := by
  obtain ⟨h0, h1, h2⟩ := fine_of h
  have q : G.vec_Dot.f n.x n.y n.z n.x n.y n.z = some (nn n) := dot_eq h1 h1 (by decide)
  have e : G.vec_Dot.f d.x d.y d.z n.x n.y n.z = some (dn d n) := dot_eq h2 h1 (by decide)
  have q0 := nn_pos h0
  have q1 := nn_in h1
  have e0 : -100564992 ≤ dn d n ∧ dn d n ≤ 100564992 := dot_in h2 h1
  unfold G.light_Reflect.f
  rw [fine_eq, h, Option.bind_some, if_pos rfl, q, Option.bind_some, e, Option.bind_some, part_eq ⟨q0, q1⟩ e0 h2.1 h1.1, Option.bind_some, part_eq ⟨q0, q1⟩ e0 h2.2.1 h1.2.1, Option.bind_some, part_eq ⟨q0, q1⟩ e0 h2.2.2 h1.2.2, Option.bind_some]
theorem cut_in (k : Nat) (x y z : Int) (h : (⟨x, y, z⟩ : Vec).in_ 32768) : G.vec_Cut.f (k + 1) x y z 32768 = some (x, y, z) := by
  unfold G.vec_Cut.f
  rw [if_neg (by decide), G.vec_Cut.l0, within_eq _ _ _ _ (by decide) (by decide), Option.bind_some, decide_eq_true h, if_pos rfl]
theorem half_in {x B : Int} (hB : 0 ≤ B) (h : -(2 * B) ≤ x ∧ x ≤ 2 * B) : -B ≤ Int.tdiv x 2 ∧ Int.tdiv x 2 ≤ B := by
  by_cases c : 0 ≤ x
  · rw [Int.tdiv_eq_ediv_of_nonneg c]
    omega
  · obtain ⟨y, rfl⟩ : ∃ y, x = -y := ⟨-x, by omega⟩
    rw [Int.neg_tdiv, Int.tdiv_eq_ediv_of_nonneg (show 0 ≤ y by omega)]
    omega
/-- Cut ends, and what it answers is within the bound. -/
theorem cut_ends : ∀ (j : Nat) (B : Int) (k : Nat) (x y z : Int), B = 32768 * 2 ^ j → j ≤ 40 → (⟨x, y, z⟩ : Vec).in_ B → ∃ r : Int × Int × Int, G.vec_Cut.l0 (k + j + 1) 32768 x y z = some r ∧ (⟨r.1, r.2.1, r.2.2⟩ : Vec).in_ 32768
  | 0, B, k, x, y, z, hB, hj, h => by
    have e : B = 32768 := by rw [hB]; rfl
    subst e
    refine ⟨(x, y, z), ?_, h⟩
    rw [G.vec_Cut.l0, within_eq _ _ _ _ (by decide) (by decide), Option.bind_some, decide_eq_true h, if_pos rfl]
  | j + 1, B, k, x, y, z, hB, hj, h => by
    rw [show k + (j + 1) + 1 = (k + j + 1) + 1 by omega, G.vec_Cut.l0, within_eq _ _ _ _ (by decide) (by decide), Option.bind_some]
    by_cases c : (⟨x, y, z⟩ : Vec).in_ 32768
    · rw [decide_eq_true c, if_pos rfl]
      exact ⟨(x, y, z), rfl, c⟩
    · rw [decide_eq_false c, if_neg (by decide)]
      have hp : (2 : Int) ^ (j + 1) = 2 * 2 ^ j := by rw [Int.pow_succ, Int.mul_comm]
      have hb : (2 : Int) ^ j ≤ 2 ^ 40 := by
        have := Nat.pow_le_pow_right (show 0 < 2 by decide) (show j ≤ 40 by omega)
        have e : ((2 ^ j : Nat) : Int) = (2 : Int) ^ j := by simp
        omega
      have h0 : (0 : Int) ≤ 2 ^ j := Int.le_of_lt (Int.pow_pos (by decide))
      rw [hp] at hB
      obtain ⟨a, b, d⟩ := h
      dsimp only at a b d
      have h1 := half_in (x := x) (B := 32768 * 2 ^ j) (by omega) (by omega)
      have h2 := half_in (x := y) (B := 32768 * 2 ^ j) (by omega) (by omega)
      have h3 := half_in (x := z) (B := 32768 * 2 ^ j) (by omega) (by omega)
      rw [w64 (by omega), w64 (by omega), w64 (by omega)]
      exact cut_ends j _ k _ _ _ rfl (by omega) ⟨h1, h2, h3⟩
theorem cut_some (k : Nat) (x y z : Int) (h : (⟨x, y, z⟩ : Vec).in_ 1125899906842624) : ∃ r : Int × Int × Int, G.vec_Cut.f (k + 36) x y z 32768 = some r ∧ (⟨r.1, r.2.1, r.2.2⟩ : Vec).in_ 32768 := by
  unfold G.vec_Cut.f
  rw [if_neg (by decide)]
  exact cut_ends 35 1125899906842624 k x y z (by decide) (by decide) h
theorem rf_in {q e d n : Int} (hq : 0 < q ∧ q ≤ 3139587) (he : -100564992 ≤ e ∧ e ≤ 100564992) (hd : -32768 ≤ d ∧ d ≤ 32768) (hn : -1023 ≤ n ∧ n ≤ 1023) : -1125899906842624 ≤ rf q e d n ∧ rf q e d n ≤ 1125899906842624 := by
  have h1 := mulb (A := 32768) (B := 3139587) hd ⟨by omega, hq.2⟩
  have h2 := mulb (x := 2 * n) (A := 2046) (B := 100564992) ⟨by omega, by omega⟩ he
  have ht : -400000000000 ≤ d * q - 2 * n * e ∧ d * q - 2 * n * e ≤ 400000000000 := by omega
  unfold rf
  generalize d * q - 2 * n * e = t at *
  have a := Int.mul_ediv_add_emod t q
  have b := Int.emod_nonneg t (show q ≠ 0 by omega)
  have c := Int.emod_lt_of_pos t hq.1
  constructor
  · apply Int.le_ediv_of_mul_le hq.1
    have := Int.mul_le_mul_of_nonneg_left (show 1 ≤ q by omega) (show (0 : Int) ≤ 1125899906842624 by decide)
    omega
  · apply Int.ediv_le_of_le_mul hq.1
    have := Int.mul_le_mul_of_nonneg_left (show 1 ≤ q by omega) (show (0 : Int) ≤ 1125899906842624 by decide)
    omega
theorem reflect_some (k : Nat) (d n : Vec) (h : fineB d n = true) : ∃ r : Int × Int × Int, G.light_Reflect.f (k + 36) d.x d.y d.z n.x n.y n.z = some r ∧ (⟨r.1, r.2.1, r.2.2⟩ : Vec).in_ 32768 := by
  rw [reflect_eq _ d n h]
  obtain ⟨h0, h1, h2⟩ := fine_of h
  have q0 := nn_pos h0
  have q1 := nn_in h1
  have e0 : -100564992 ≤ dn d n ∧ dn d n ≤ 100564992 := dot_in h2 h1
  exact cut_some k _ _ _ ⟨rf_in ⟨q0, q1⟩ e0 h2.1 h1.1, rf_in ⟨q0, q1⟩ e0 h2.2.1 h1.2.1, rf_in ⟨q0, q1⟩ e0 h2.2.2 h1.2.2⟩
theorem rf_is {q e d n t : Int} (hq : 0 < q) (h : d * q - 2 * n * e = t * q) : rf q e d n = t := by
  unfold rf
  rw [h, Int.mul_ediv_cancel _ (by omega)]
end Go.Proofs.Ytmhnidmbgicgeaa.M
