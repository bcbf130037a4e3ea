/- A higher power is no more; of the whole it is the whole, of nothing nothing: for all ints. -/
import Derived.Test.YtmhnidmbgicgeaaGx19
import Derived.Test.YtmhnidmbgicgeaaLitFun
namespace Go.Proofs.Ytmhnidmbgicgeaa.Pure
open Go.RowKit Go.Proofs.VecMath Go.Proofs.Ytmhnidmbgicgeaa.M Go.Proofs.YtmhnidmbgicgeaaW.PrintWords
set_option linter.unusedVariables false
theorem pw_256 : ∀ r, pw 256 r 256 = 256
  | 0 => rfl
  | r + 1 => by rw [pw_last, pw_256 r]; rfl
theorem LightPower : G.relievolaw19_LightPower.Pure := by
  intro c n _ _
  refine ⟨80, ?_⟩
  unfold G.relievolaw19_LightPower.f
  rw [alive_80, Option.bind_some, if_pos rfl]
  by_cases a : c < 0
  · rw [if_pos a, G.relievolaw19_LightPower.j0, if_pos rfl]
  rw [if_neg a]
  by_cases b : c > 256
  · rw [if_pos b, G.relievolaw19_LightPower.j0, if_pos rfl]
  rw [if_neg b]
  by_cases d : n < 1
  · rw [if_pos d, G.relievolaw19_LightPower.j0, if_pos rfl]
  rw [if_neg d, G.relievolaw19_LightPower.j0]
  by_cases e : n > 63
  · rw [if_pos (decide_eq_true e)]
  have hc : 0 ≤ c ∧ c ≤ 256 := by omega
  rw [if_neg (by simpa using e), w64 (by omega)]
  rw [power_eq 12 hc (by omega : 1 ≤ n + 1 ∧ n + 1 ≤ 64), Option.bind_some, power_eq 12 hc (by omega : 1 ≤ n ∧ n ≤ 64), Option.bind_some]
  have hp := pw_in hc n.toNat 256 (by omega)
  have hs := step_in hc hp
  have l : pw c (n + 1).toNat 256 = pw c n.toNat 256 * c / 256 := by rw [show (n + 1).toNat = n.toNat + 1 by omega, pw_last]
  rw [l, if_pos hs.2, power_eq 12 (by decide : (0 : Int) ≤ 256 ∧ (256 : Int) ≤ 256) (by omega : 1 ≤ n ∧ n ≤ 64), Option.bind_some, pw_256, if_pos rfl,
    power_eq 12 (by decide : (0 : Int) ≤ 0 ∧ (0 : Int) ≤ 256) (by omega : 1 ≤ n ∧ n ≤ 64), Option.bind_some]
  have z : pw 0 n.toNat 256 = 0 := by
    rw [show n.toNat = (n.toNat - 1) + 1 by omega, pw_last]
    simp
  rw [z, if_pos rfl, power_eq 12 hc (by decide : (1 : Int) ≤ 1 ∧ (1 : Int) ≤ 64), Option.bind_some]
  have o : pw c (1 : Int).toNat 256 = c := by
    show 256 * c / 256 = c
    omega
  rw [o]
  simp
end Go.Proofs.Ytmhnidmbgicgeaa.Pure
