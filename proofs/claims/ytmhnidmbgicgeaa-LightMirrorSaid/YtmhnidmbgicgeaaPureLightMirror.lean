/- Along an axis of the grid a direction is mirrored just so; twice it is as it was: for all ints. -/
import Derived.Test.YtmhnidmbgicgeaaGx20
import Derived.Test.YtmhnidmbgicgeaaLitRefl
namespace Go.Proofs.Ytmhnidmbgicgeaa.Pure
open Go.RowKit Go.Proofs.VecMath Go.Proofs.Ytmhnidmbgicgeaa.M Go.Proofs.YtmhnidmbgicgeaaW.PrintWords
set_option linter.unusedVariables false
theorem mir_x (k : Nat) {s x y z : Int} (hs : 1 ≤ s ∧ s ≤ 1023) (hd : (⟨x, y, z⟩ : Vec).in_ 32768) : G.light_Reflect.f (k + 1) x y z s 0 0 = some (-x, y, z) := by
  have hn : (⟨s, 0, 0⟩ : Vec).in_ 1023 := ⟨by dsimp only; omega, by dsimp only; omega, by dsimp only; omega⟩
  have hz : ¬ (⟨s, 0, 0⟩ : Vec).zero := fun h => by have := h.1; dsimp only at this; omega
  have hf : fineB ⟨x, y, z⟩ ⟨s, 0, 0⟩ = true := by
    unfold fineB
    rw [decide_eq_false hz, decide_eq_true hn, decide_eq_true hd]
    rfl
  have h := reflect_eq (k + 1) ⟨x, y, z⟩ ⟨s, 0, 0⟩ hf
  dsimp only at h
  have q0 := nn_pos hz
  have e1 : rf (nn ⟨s, 0, 0⟩) (dn ⟨x, y, z⟩ ⟨s, 0, 0⟩) x s = -x := rf_is q0 (by unfold nn dn; dsimp only; grind)
  have e2 : rf (nn ⟨s, 0, 0⟩) (dn ⟨x, y, z⟩ ⟨s, 0, 0⟩) y 0 = y := rf_is q0 (by unfold nn dn; dsimp only; grind)
  have e3 : rf (nn ⟨s, 0, 0⟩) (dn ⟨x, y, z⟩ ⟨s, 0, 0⟩) z 0 = z := rf_is q0 (by unfold nn dn; dsimp only; grind)
  rw [h, e1, e2, e3]
  exact cut_in k _ _ _ ⟨by have := hd.1; dsimp only at *; omega, hd.2.1, hd.2.2⟩
theorem mir_y (k : Nat) {s x y z : Int} (hs : 1 ≤ s ∧ s ≤ 1023) (hd : (⟨x, y, z⟩ : Vec).in_ 32768) : G.light_Reflect.f (k + 1) x y z 0 (-s) 0 = some (x, -y, z) := by
  have hn : (⟨0, -s, 0⟩ : Vec).in_ 1023 := ⟨by dsimp only; omega, by dsimp only; omega, by dsimp only; omega⟩
  have hz : ¬ (⟨0, -s, 0⟩ : Vec).zero := fun h => by have := h.2.1; dsimp only at this; omega
  have hf : fineB ⟨x, y, z⟩ ⟨0, -s, 0⟩ = true := by
    unfold fineB
    rw [decide_eq_false hz, decide_eq_true hn, decide_eq_true hd]
    rfl
  have h := reflect_eq (k + 1) ⟨x, y, z⟩ ⟨0, -s, 0⟩ hf
  dsimp only at h
  have q0 := nn_pos hz
  have e1 : rf (nn ⟨0, -s, 0⟩) (dn ⟨x, y, z⟩ ⟨0, -s, 0⟩) x 0 = x := rf_is q0 (by unfold nn dn; dsimp only; grind)
  have e2 : rf (nn ⟨0, -s, 0⟩) (dn ⟨x, y, z⟩ ⟨0, -s, 0⟩) y (-s) = -y := rf_is q0 (by unfold nn dn; dsimp only; grind)
  have e3 : rf (nn ⟨0, -s, 0⟩) (dn ⟨x, y, z⟩ ⟨0, -s, 0⟩) z 0 = z := rf_is q0 (by unfold nn dn; dsimp only; grind)
  rw [h, e1, e2, e3]
  exact cut_in k _ _ _ ⟨hd.1, by have := hd.2.1; dsimp only at *; omega, hd.2.2⟩
theorem LightMirror (a0_0 a0_1 a0_2 a1 a2 : Int) (b0_0 : -9223372036854775808 ≤ a0_0 ∧ a0_0 ≤ 9223372036854775807) (b0_1 : -9223372036854775808 ≤ a0_1 ∧ a0_1 ≤ 9223372036854775807) (b0_2 : -9223372036854775808 ≤ a0_2 ∧ a0_2 ≤ 9223372036854775807) (b1 : -9223372036854775808 ≤ a1 ∧ a1 ≤ 9223372036854775807) (b2 : -9223372036854775808 ≤ a2 ∧ a2 ≤ 9223372036854775807) :
    ∃ k, G.relievolaw19_LightMirror.f k a0_0 a0_1 a0_2 a1 a2 = some true := by
  refine ⟨80, ?_⟩
  unfold G.relievolaw19_LightMirror.f
  rw [alive_80, Option.bind_some, if_pos rfl]
  by_cases a : a2 < 1
  · rw [if_pos a, G.relievolaw19_LightMirror.j0, if_pos rfl]
  rw [if_neg a]
  by_cases b : a2 > 1023
  · rw [if_pos b, G.relievolaw19_LightMirror.j0, if_pos rfl]
  rw [if_neg b, within_eq _ _ _ _ (by decide) (by decide), Option.bind_some, G.relievolaw19_LightMirror.j0]
  by_cases c : (⟨a0_0, a0_1, a0_2⟩ : Vec).in_ 32768
  case neg => rw [decide_eq_false c, if_pos (by decide)]
  rw [decide_eq_true c, if_neg (by decide)]
  have hs : 1 ≤ a2 ∧ a2 ≤ 1023 := by omega
  have cx := c.1
  have cy := c.2.1
  dsimp only at cx cy
  have w0 : wrap64 (-a2) = -a2 := w64 (by omega)
  have w1 : wrap64 (-a0_0) = -a0_0 := w64 (by omega)
  have w2 : wrap64 (-a0_1) = -a0_1 := w64 (by omega)
  rw [w0, w1, w2]
  split
  · rw [mir_y 78 hs c, Option.bind_some, if_pos (by simp)]
    dsimp only
    rw [mir_y 78 (x := a0_0) (y := -a0_1) (z := a0_2) hs ⟨c.1, by dsimp only; omega, c.2.2⟩, Option.bind_some]
    simp
  · rw [mir_x 78 hs c, Option.bind_some, if_pos (by simp)]
    dsimp only
    rw [mir_x 78 (x := -a0_0) (y := a0_1) (z := a0_2) hs ⟨by dsimp only; omega, c.2.1, c.2.2⟩, Option.bind_some]
    simp
end Go.Proofs.Ytmhnidmbgicgeaa.Pure
