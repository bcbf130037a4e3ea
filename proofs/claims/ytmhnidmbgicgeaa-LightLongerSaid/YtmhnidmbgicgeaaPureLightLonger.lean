/- A longer normal, or one the other way round, mirrors alike: for all ints. -/
import Derived.Test.YtmhnidmbgicgeaaGx24
import Derived.Test.YtmhnidmbgicgeaaLitRefl
namespace Go.Proofs.Ytmhnidmbgicgeaa.Pure
open Go.RowKit Go.Proofs.VecMath Go.Proofs.Ytmhnidmbgicgeaa.M Go.Proofs.YtmhnidmbgicgeaaW.PrintWords
set_option linter.unusedVariables false
/-- The mirrored part doesn't hang on the normal's length. -/
theorem rf_scale {q e d n k : Int} (hk : 0 < k * k) : rf (k * k * q) (k * e) d (k * n) = rf q e d n := by
  unfold rf
  have e1 : d * (k * k * q) - 2 * (k * n) * (k * e) = (k * k) * (d * q - 2 * n * e) := by grind
  rw [e1, Int.mul_ediv_mul_of_pos _ _ hk]
theorem scale_refl (K : Nat) (d n : Vec) (k : Int) (hk : k ≠ 0) (h1 : n.in_ 1023) (h2 : (⟨k * n.x, k * n.y, k * n.z⟩ : Vec).in_ 1023) :
    G.light_Reflect.f K d.x d.y d.z (k * n.x) (k * n.y) (k * n.z) = G.light_Reflect.f K d.x d.y d.z n.x n.y n.z := by
  have zz : (⟨k * n.x, k * n.y, k * n.z⟩ : Vec).zero ↔ n.zero := by
    unfold Vec.zero
    dsimp only
    rw [Int.mul_eq_zero, Int.mul_eq_zero, Int.mul_eq_zero]
    simp [hk]
  have fb : fineB d ⟨k * n.x, k * n.y, k * n.z⟩ = fineB d n := by
    unfold fineB
    rw [decide_eq_decide.mpr zz, decide_eq_true h1, decide_eq_true h2]
  by_cases f : fineB d n = true
  · have r1 := reflect_eq K d ⟨k * n.x, k * n.y, k * n.z⟩ (fb.trans f)
    dsimp only at r1
    rw [r1, reflect_eq K d n f]
    have e1 : nn ⟨k * n.x, k * n.y, k * n.z⟩ = k * k * nn n := by unfold nn; dsimp only; grind
    have e2 : dn d ⟨k * n.x, k * n.y, k * n.z⟩ = k * dn d n := by unfold dn; dsimp only; grind
    rw [e1, e2, rf_scale (sq_pos hk), rf_scale (sq_pos hk), rf_scale (sq_pos hk)]
  · have f' : fineB d n = false := by simpa using f
    have r1 := reflect_no K d ⟨k * n.x, k * n.y, k * n.z⟩ (fb.trans f')
    dsimp only at r1
    rw [r1, reflect_no K d n f']
theorem refl_some (k : Nat) (d n : Vec) : ∃ r : Int × Int × Int, G.light_Reflect.f (k + 36) d.x d.y d.z n.x n.y n.z = some r := by
  by_cases f : fineB d n = true
  · obtain ⟨r, h, _⟩ := reflect_some k d n f
    exact ⟨r, h⟩
  · exact ⟨_, reflect_no (k + 36) d n (by simpa using f)⟩
theorem LightLonger (a0_0 a0_1 a0_2 a1_0 a1_1 a1_2 a2 : Int) (b0_0 : -9223372036854775808 ≤ a0_0 ∧ a0_0 ≤ 9223372036854775807) (b0_1 : -9223372036854775808 ≤ a0_1 ∧ a0_1 ≤ 9223372036854775807) (b0_2 : -9223372036854775808 ≤ a0_2 ∧ a0_2 ≤ 9223372036854775807) (b1_0 : -9223372036854775808 ≤ a1_0 ∧ a1_0 ≤ 9223372036854775807) (b1_1 : -9223372036854775808 ≤ a1_1 ∧ a1_1 ≤ 9223372036854775807) (b1_2 : -9223372036854775808 ≤ a1_2 ∧ a1_2 ≤ 9223372036854775807) (b2 : -9223372036854775808 ≤ a2 ∧ a2 ≤ 9223372036854775807) :
    ∃ k, G.relievolaw19_LightLonger.f k a0_0 a0_1 a0_2 a1_0 a1_1 a1_2 a2 = some true := by
  refine ⟨80, ?_⟩
  unfold G.relievolaw19_LightLonger.f
  rw [alive_80, Option.bind_some, if_pos rfl]
  by_cases a : a2 < 1
  · rw [if_pos a, G.relievolaw19_LightLonger.j0, if_pos rfl]
  rw [if_neg a]
  by_cases b : a2 > 1023
  · rw [if_pos b, G.relievolaw19_LightLonger.j0, if_pos rfl]
  rw [if_neg b, within_eq _ _ _ _ (by decide) (by decide), Option.bind_some]
  by_cases c : (⟨a1_0, a1_1, a1_2⟩ : Vec).in_ 1023
  case neg => rw [decide_eq_false c, if_neg (by decide), G.relievolaw19_LightLonger.j0, if_pos rfl]
  have hk : -1023 ≤ a2 ∧ a2 ≤ 1023 := by omega
  have cx := c.1
  have cy := c.2.1
  have cz := c.2.2
  dsimp only at cx cy cz
  have px := mulb cx hk
  have py := mulb cy hk
  have pz := mulb cz hk
  have s1 : G.vec_Scale.f a1_0 a1_1 a1_2 a2 = some (a2 * a1_0, a2 * a1_1, a2 * a1_2) := by
    unfold G.vec_Scale.f
    rw [w64 (by omega), w64 (by omega), w64 (by omega), Int.mul_comm a1_0, Int.mul_comm a1_1, Int.mul_comm a1_2]
  have s2 : G.vec_Scale.f a1_0 a1_1 a1_2 (-1) = some (-1 * a1_0, -1 * a1_1, -1 * a1_2) := by
    unfold G.vec_Scale.f
    rw [w64 (by omega), w64 (by omega), w64 (by omega), Int.mul_comm a1_0, Int.mul_comm a1_1, Int.mul_comm a1_2]
  rw [decide_eq_true c, if_pos rfl, s1, Option.bind_some]
  dsimp only
  rw [within_eq _ _ _ _ (by decide) (by decide), Option.bind_some, G.relievolaw19_LightLonger.j0]
  by_cases e : (⟨a2 * a1_0, a2 * a1_1, a2 * a1_2⟩ : Vec).in_ 1023
  case neg => rw [decide_eq_false e, if_pos (by decide)]
  rw [decide_eq_true e, if_neg (by decide)]
  have r1 := scale_refl 79 ⟨a0_0, a0_1, a0_2⟩ ⟨a1_0, a1_1, a1_2⟩ a2 (by omega) c e
  have r2 := scale_refl 79 ⟨a0_0, a0_1, a0_2⟩ ⟨a1_0, a1_1, a1_2⟩ (-1) (by omega) c ⟨by dsimp only; omega, by dsimp only; omega, by dsimp only; omega⟩
  obtain ⟨r, hr⟩ := refl_some 43 ⟨a0_0, a0_1, a0_2⟩ ⟨a1_0, a1_1, a1_2⟩
  dsimp only at r1 r2 hr
  rw [show 43 + 36 = 79 from rfl] at hr
  rw [hr] at r1 r2
  rw [hr, Option.bind_some, s1, Option.bind_some]
  dsimp only
  rw [r1, Option.bind_some, if_pos (by simp), s2, Option.bind_some]
  dsimp only
  rw [r2, Option.bind_some]
  simp
end Go.Proofs.Ytmhnidmbgicgeaa.Pure
