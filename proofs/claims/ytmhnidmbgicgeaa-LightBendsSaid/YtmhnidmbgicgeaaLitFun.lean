/- What the first Go texts of package light come to, in plain numbers: whether the package is alive, its powers. -/
import Derived.Test.YtmhnidmbgicgeaaGx18
import Derived.Test.YtmhnidmbgicgeaaBaseFun
namespace Go.Proofs.Ytmhnidmbgicgeaa.M
open Go.RowKit Go.Proofs.VecMath Go.Proofs.YtmhnidmbgicgeaaW.PrintWords
set_option linter.unusedVariables false
theorem alive_80 : G.relievolaw19_alive.f 80 = some true := by kernel_rfl
theorem alive_at : ∀ k, G.relievolaw19_alive.f (k + 80) = some true
  | 0 => alive_80
  | k + 1 => by
    rw [show k + 1 + 80 = k + 80 + 1 by omega]
    exact G.relievolaw19_alive.mono (k + 80) true (alive_at k)
def pw (c : Int) : Nat → Int → Int
  | 0, p => p
  | r + 1, p => pw c r (p * c / 256)
theorem step_in {c p : Int} (hc : 0 ≤ c ∧ c ≤ 256) (hp : 0 ≤ p ∧ p ≤ 256) : 0 ≤ p * c / 256 ∧ p * c / 256 ≤ p := by
  have h1 := Int.mul_nonneg hp.1 hc.1
  have h2 := Int.mul_le_mul_of_nonneg_left hc.2 hp.1
  omega
theorem pw_in {c : Int} (hc : 0 ≤ c ∧ c ≤ 256) : ∀ (r : Nat) (p : Int), 0 ≤ p ∧ p ≤ 256 → 0 ≤ pw c r p ∧ pw c r p ≤ 256
  | 0, p, hp => hp
  | r + 1, p, hp => by
    have h := step_in hc hp
    exact pw_in hc r _ ⟨h.1, by omega⟩
theorem pw_last (c : Int) : ∀ (r : Nat) (p : Int), pw c (r + 1) p = pw c r p * c / 256
  | 0, p => rfl
  | r + 1, p => by
    rw [pw, pw_last c r]
    rfl
theorem power_loop {c : Int} (hc : 0 ≤ c ∧ c ≤ 256) : ∀ (r k : Nat) (p j : Int), 0 ≤ p ∧ p ≤ 256 → 0 ≤ j → j + r ≤ 64 → G.light_Power.l0 (k + r + 1) c p (j + r) j = some (pw c r p)
  | 0, k, p, j, hp, hj, h => by
    rw [G.light_Power.l0, if_neg (by omega)]
    rfl
  | r + 1, k, p, j, hp, hj, h => by
    have hs := step_in hc hp
    have h1 := Int.mul_nonneg hp.1 hc.1
    have h2 := Int.mul_le_mul_of_nonneg_left hc.2 hp.1
    rw [show k + (r + 1) + 1 = (k + r + 1) + 1 by omega, G.light_Power.l0, if_pos (by omega), w64 (n := p * c) (by omega), w64 (n := j + 1) (by omega)]
    rw [show j + ((r + 1 : Nat) : Int) = j + 1 + (r : Int) by omega]
    exact power_loop hc r k _ (j + 1) ⟨hs.1, by omega⟩ (by omega) (by omega)
theorem power_eq (k : Nat) {c n : Int} (hc : 0 ≤ c ∧ c ≤ 256) (hn : 1 ≤ n ∧ n ≤ 64) : G.light_Power.f (k + 67) c n = some (pw c n.toNat 256) := by
  unfold G.light_Power.f
  rw [if_neg (by omega), if_neg (by omega), if_neg (by omega), decide_eq_false (by omega), G.light_Power.j0, if_neg (by decide)]
  have h := power_loop hc n.toNat (k + 65 - n.toNat) 256 0 (by omega) (by omega) (by omega)
  rw [show k + 65 - n.toNat + n.toNat + 1 = k + 66 by omega, show (0 : Int) + (n.toNat : Int) = n by omega] at h
  exact h
end Go.Proofs.Ytmhnidmbgicgeaa.M
