/- What comes straight down a normal is mirrored straight back; what goes along a surface goes on: for all ints. -/
import Derived.Test.YtmhnidmbgicgeaaGx26
import Derived.Test.YtmhnidmbgicgeaaLitRefl
namespace Go.Proofs.Ytmhnidmbgicgeaa.Pure
open Go.RowKit Go.Proofs.VecMath Go.Proofs.Ytmhnidmbgicgeaa.M Go.Proofs.YtmhnidmbgicgeaaW.PrintWords
set_option linter.unusedVariables false
theorem refl_is (k : Nat) (d n r : Vec) (hz : ¬ n.zero) (hn : n.in_ 1023) (hd : d.in_ 32768) (hr : r.in_ 32768)
    (h1 : d.x * nn n - 2 * n.x * dn d n = r.x * nn n) (h2 : d.y * nn n - 2 * n.y * dn d n = r.y * nn n) (h3 : d.z * nn n - 2 * n.z * dn d n = r.z * nn n) :
    G.light_Reflect.f (k + 1) d.x d.y d.z n.x n.y n.z = some (r.x, r.y, r.z) := by
  have hf : fineB d n = true := by
    unfold fineB
    rw [decide_eq_false hz, decide_eq_true hn, decide_eq_true hd]
    rfl
  have q0 := nn_pos hz
  rw [reflect_eq (k + 1) d n hf, rf_is q0 h1, rf_is q0 h2, rf_is q0 h3]
  exact cut_in k _ _ _ hr
theorem LightStraight (a0_0 a0_1 a0_2 a1 : Int) (b0_0 : -9223372036854775808 ≤ a0_0 ∧ a0_0 ≤ 9223372036854775807) (b0_1 : -9223372036854775808 ≤ a0_1 ∧ a0_1 ≤ 9223372036854775807) (b0_2 : -9223372036854775808 ≤ a0_2 ∧ a0_2 ≤ 9223372036854775807) (b1 : -9223372036854775808 ≤ a1 ∧ a1 ≤ 9223372036854775807) :
    ∃ k, G.relievolaw19_LightStraight.f k a0_0 a0_1 a0_2 a1 = some true := by
  refine ⟨80, ?_⟩
  unfold G.relievolaw19_LightStraight.f
  rw [alive_80, Option.bind_some, if_pos rfl]
  by_cases a : a1 < 1
  · rw [if_pos a, G.relievolaw19_LightStraight.j0, if_pos rfl]
  rw [if_neg a]
  by_cases b : a1 > 100
  · rw [if_pos b, G.relievolaw19_LightStraight.j0, if_pos rfl]
  rw [if_neg b, within_eq _ _ _ _ (by decide) (by decide), Option.bind_some]
  by_cases c : (⟨a0_0, a0_1, a0_2⟩ : Vec).in_ 300
  case neg => rw [decide_eq_false c, if_neg (by decide), G.relievolaw19_LightStraight.j0, if_pos rfl]
  rw [decide_eq_true c, if_pos rfl, G.relievolaw19_LightStraight.j0]
  by_cases z : (a0_0 == 0 && (a0_1 == 0 && (a0_2 == 0))) = true
  · rw [if_pos z]
  rw [if_neg z]
  have hz : ¬ (⟨a0_0, a0_1, a0_2⟩ : Vec).zero := fun h => z (by obtain ⟨h1, h2, h3⟩ := h; dsimp only at *; simp [h1, h2, h3])
  have hk : -100 ≤ a1 ∧ a1 ≤ 100 := by omega
  have cx := c.1
  have cy := c.2.1
  have cz := c.2.2
  dsimp only at cx cy cz
  have px := mulb cx hk
  have py := mulb cy hk
  have pz := mulb cz hk
  have nx : a0_0 * -a1 = -(a0_0 * a1) := Int.mul_neg _ _
  have ny : a0_1 * -a1 = -(a0_1 * a1) := Int.mul_neg _ _
  have nz : a0_2 * -a1 = -(a0_2 * a1) := Int.mul_neg _ _
  have w0 : wrap64 (-a1) = -a1 := w64 (by omega)
  have s1 : G.vec_Scale.f a0_0 a0_1 a0_2 (-a1) = some (-(a0_0 * a1), -(a0_1 * a1), -(a0_2 * a1)) := by
    unfold G.vec_Scale.f
    rw [nx, ny, nz, w64 (by omega), w64 (by omega), w64 (by omega)]
  have s2 : G.vec_Scale.f a0_0 a0_1 a0_2 a1 = some (a0_0 * a1, a0_1 * a1, a0_2 * a1) := by
    unfold G.vec_Scale.f
    rw [w64 (by omega), w64 (by omega), w64 (by omega)]
  have s3 : G.vec_Cross.f a0_0 a0_1 a0_2 1 2 3 = some (a0_1 * 3 - a0_2 * 2, a0_2 * 1 - a0_0 * 3, a0_0 * 2 - a0_1 * 1) := by
    unfold G.vec_Cross.f
    rw [w64 (n := a0_1 * 3) (by omega), w64 (n := a0_2 * 2) (by omega), w64 (n := a0_2 * 1) (by omega), w64 (n := a0_0 * 3) (by omega), w64 (n := a0_0 * 2) (by omega), w64 (n := a0_1 * 1) (by omega), w64 (by omega), w64 (by omega), w64 (by omega)]
  have hn : (⟨a0_0, a0_1, a0_2⟩ : Vec).in_ 1023 := ⟨by dsimp only; omega, by dsimp only; omega, by dsimp only; omega⟩
  have r1 := refl_is 78 ⟨-(a0_0 * a1), -(a0_1 * a1), -(a0_2 * a1)⟩ ⟨a0_0, a0_1, a0_2⟩ ⟨a0_0 * a1, a0_1 * a1, a0_2 * a1⟩ hz hn ⟨by dsimp only; omega, by dsimp only; omega, by dsimp only; omega⟩ ⟨by dsimp only; omega, by dsimp only; omega, by dsimp only; omega⟩
    (by unfold nn dn; dsimp only; grind) (by unfold nn dn; dsimp only; grind) (by unfold nn dn; dsimp only; grind)
  have r2 := refl_is 78 ⟨a0_1 * 3 - a0_2 * 2, a0_2 * 1 - a0_0 * 3, a0_0 * 2 - a0_1 * 1⟩ ⟨a0_0, a0_1, a0_2⟩ ⟨a0_1 * 3 - a0_2 * 2, a0_2 * 1 - a0_0 * 3, a0_0 * 2 - a0_1 * 1⟩ hz hn ⟨by dsimp only; omega, by dsimp only; omega, by dsimp only; omega⟩ ⟨by dsimp only; omega, by dsimp only; omega, by dsimp only; omega⟩
    (by unfold nn dn; dsimp only; grind) (by unfold nn dn; dsimp only; grind) (by unfold nn dn; dsimp only; grind)
  dsimp only at r1 r2
  rw [w0, s1, Option.bind_some, s3, Option.bind_some]
  dsimp only
  rw [r1, Option.bind_some, s2, Option.bind_some, if_pos (by simp), r2, Option.bind_some]
  simp
end Go.Proofs.Ytmhnidmbgicgeaa.Pure
