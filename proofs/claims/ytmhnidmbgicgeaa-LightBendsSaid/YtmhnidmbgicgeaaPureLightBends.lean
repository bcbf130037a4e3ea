/- What is broken goes on through the surface; straight down it isn't turned; what isn't broken is nothing: for all ints. -/
import Derived.Test.YtmhnidmbgicgeaaGx21
import Derived.Test.YtmhnidmbgicgeaaLitRoot
namespace Go.Proofs.Ytmhnidmbgicgeaa.Pure
open Go.RowKit Go.Proofs.VecMath Go.Proofs.Ytmhnidmbgicgeaa.M Go.Proofs.YtmhnidmbgicgeaaW.PrintWords
set_option linter.unusedVariables false
theorem wrap_in (n : Int) : -9223372036854775808 ≤ wrap64 n ∧ wrap64 n ≤ 9223372036854775807 := by
  unfold wrap64
  omega
theorem floor_some (n : Int) {d : Int} (h : d ≠ 0) : ∃ x, G.light_floor.f n d = some x := by
  unfold G.light_floor.f
  rw [if_neg h]
  split <;> exact ⟨_, rfl⟩
theorem unit_some (k : Nat) (v : Vec) (hz : ¬ v.zero) (h : v.in_ 32768) : ∃ u : Int × Int × Int, G.light_unit.f (k + 65) v.x v.y v.z = some u := by
  have q : G.vec_Dot.f v.x v.y v.z v.x v.y v.z = some (nn v) := dot_eq h h (by decide)
  have a0 := nn_pos hz
  have a1 : nn v ≤ 3221225472 := (dot_in h h).2
  obtain ⟨r, er, hr⟩ := root_eq k (nn v) 1 (by omega) (by decide)
  have rp := hr.pos (by omega)
  obtain ⟨x, ex⟩ := floor_some (wrap64 (4096 * v.x)) (show r ≠ 0 by omega)
  obtain ⟨y, ey⟩ := floor_some (wrap64 (4096 * v.y)) (show r ≠ 0 by omega)
  obtain ⟨z, ez⟩ := floor_some (wrap64 (4096 * v.z)) (show r ≠ 0 by omega)
  refine ⟨(x, y, z), ?_⟩
  unfold G.light_unit.f
  rw [q, Option.bind_some, er, Option.bind_some, ex, Option.bind_some, ey, Option.bind_some, ez, Option.bind_some]
/-- Cut ends from any ints. -/
theorem cut_all : ∀ (j : Nat) (B : Int) (k : Nat) (x y z : Int), B = 32768 * 2 ^ j → j ≤ 48 → (⟨x, y, z⟩ : Vec).in_ B → ∃ r : Int × Int × Int, G.vec_Cut.l0 (k + j + 1) 32768 x y z = some r ∧ (⟨r.1, r.2.1, r.2.2⟩ : Vec).in_ 32768
  | 0, B, k, x, y, z, hB, hj, h => by
    have e : B = 32768 := by rw [hB]; rfl
    subst e
    refine ⟨(x, y, z), ?_, h⟩
    rw [G.vec_Cut.l0, within_eq _ _ _ _ (by decide) (by decide), Option.bind_some, decide_eq_true h, if_pos rfl]
  | j + 1, B, k, x, y, z, hB, hj, h => by
    rw [show k + (j + 1) + 1 = (k + j + 1) + 1 by omega, G.vec_Cut.l0, within_eq _ _ _ _ (by decide) (by decide), Option.bind_some]
    by_cases c : (⟨x, y, z⟩ : Vec).in_ 32768
    · rw [decide_eq_true c, if_pos rfl]
      exact ⟨(x, y, z), rfl, c⟩
    · rw [decide_eq_false c, if_neg (by decide)]
      have hp : (2 : Int) ^ (j + 1) = 2 * 2 ^ j := by rw [Int.pow_succ, Int.mul_comm]
      have hb : (2 : Int) ^ j ≤ 2 ^ 47 := by
        have := Nat.pow_le_pow_right (show 0 < 2 by decide) (show j ≤ 47 by omega)
        have e : ((2 ^ j : Nat) : Int) = (2 : Int) ^ j := by simp
        omega
      have h0 : (0 : Int) ≤ 2 ^ j := Int.le_of_lt (Int.pow_pos (by decide))
      rw [hp] at hB
      obtain ⟨a, b, d⟩ := h
      dsimp only at a b d
      have h1 := half_in (x := x) (B := 32768 * 2 ^ j) (by omega) (by omega)
      have h2 := half_in (x := y) (B := 32768 * 2 ^ j) (by omega) (by omega)
      have h3 := half_in (x := z) (B := 32768 * 2 ^ j) (by omega) (by omega)
      rw [w64 (by omega), w64 (by omega), w64 (by omega)]
      exact cut_all j _ k _ _ _ rfl (by omega) ⟨h1, h2, h3⟩
theorem cut_any (k : Nat) (x y z : Int) : ∃ r : Int × Int × Int, G.vec_Cut.f (k + 65) (wrap64 x) (wrap64 y) (wrap64 z) 32768 = some r ∧ (⟨r.1, r.2.1, r.2.2⟩ : Vec).in_ 32768 := by
  have a := wrap_in x
  have b := wrap_in y
  have c := wrap_in z
  unfold G.vec_Cut.f
  rw [if_neg (by decide)]
  exact cut_all 48 9223372036854775808 (k + 16) _ _ _ (by decide) (by decide) ⟨by dsimp only; omega, by dsimp only; omega, by dsimp only; omega⟩
/-- What a broken direction is. -/
def Broken (d n : Vec) (eta : Int) (r : Int × Int × Int × Bool) : Prop :=
  (r.2.2.2 = false → r.1 = 0 ∧ r.2.1 = 0 ∧ r.2.2.1 = 0) ∧ (r.2.2.2 = true → 64 ≤ eta ∧ eta ≤ 1024 ∧ (∃ e, G.vec_Dot.f d.x d.y d.z n.x n.y n.z = some e ∧ e < 0) ∧ (⟨r.1, r.2.1, r.2.2.1⟩ : Vec).in_ 32768)
theorem broken_no (d n : Vec) (eta : Int) : Broken d n eta (0, 0, 0, false) := ⟨fun _ => ⟨rfl, rfl, rfl⟩, fun h => by cases h⟩
theorem refract_some (k : Nat) (d n : Vec) (eta : Int) : ∃ r, G.light_Refract.f (k + 65) d.x d.y d.z n.x n.y n.z eta = some r ∧ Broken d n eta r := by
  unfold G.light_Refract.f
  rw [fine_eq, Option.bind_some]
  by_cases f : fineB d n = true
  case neg => rw [if_neg f]; exact ⟨_, rfl, broken_no d n eta⟩
  rw [if_pos f]
  obtain ⟨h0, h1, h2⟩ := fine_of f
  by_cases e0 : eta < 64
  · rw [if_pos e0]; exact ⟨_, rfl, broken_no d n eta⟩
  rw [if_neg e0]
  by_cases e1 : eta > 1024
  · rw [if_pos e1]; exact ⟨_, rfl, broken_no d n eta⟩
  rw [if_neg e1]
  have eD : G.vec_Dot.f d.x d.y d.z n.x n.y n.z = some (dn d n) := dot_eq h2 h1 (by decide)
  rw [eD, Option.bind_some]
  by_cases e2 : dn d n ≥ 0
  · rw [if_pos e2]; exact ⟨_, rfl, broken_no d n eta⟩
  rw [if_neg e2]
  have dz : ¬ d.zero := fun z => e2 (by obtain ⟨a, b, c⟩ := z; unfold dn; rw [a, b, c, Int.zero_mul, Int.zero_mul, Int.zero_mul]; decide)
  have n2 : n.in_ 32768 := ⟨by have := h1.1; omega, by have := h1.2.1; omega, by have := h1.2.2; omega⟩
  obtain ⟨u, hu⟩ := unit_some k d dz h2
  obtain ⟨m, hm⟩ := unit_some k n h0 n2
  rw [hu, Option.bind_some, hm, Option.bind_some]
  obtain ⟨p, hp⟩ : ∃ p, G.vec_Dot.f u.1 u.2.1 u.2.2 m.1 m.2.1 m.2.2 = some p := ⟨_, rfl⟩
  rw [hp, Option.bind_some]
  obtain ⟨c, hc⟩ := floor_some p (show (4096 : Int) ≠ 0 by decide)
  rw [hc, Option.bind_some]
  obtain ⟨f0, hf0⟩ := floor_some (wrap64 (wrap64 (eta * eta) * wrap64 (16777216 - wrap64 (wrap64 (-c) * wrap64 (-c))))) (show (65536 : Int) ≠ 0 by decide)
  rw [hf0, Option.bind_some]
  by_cases e3 : wrap64 (16777216 - f0) < 0
  · rw [if_pos e3]; exact ⟨_, rfl, broken_no d n eta⟩
  rw [if_neg e3]
  obtain ⟨g0, hg0⟩ := floor_some (wrap64 (eta * wrap64 (-c))) (show (256 : Int) ≠ 0 by decide)
  have wi := wrap_in (16777216 - f0)
  obtain ⟨s, hs, _⟩ := root_eq k (wrap64 (16777216 - f0)) 1 ⟨by omega, wi.2⟩ (by decide)
  obtain ⟨x1, hx1⟩ := floor_some (wrap64 (eta * u.1)) (show (256 : Int) ≠ 0 by decide)
  obtain ⟨y1, hy1⟩ := floor_some (wrap64 (eta * u.2.1)) (show (256 : Int) ≠ 0 by decide)
  obtain ⟨z1, hz1⟩ := floor_some (wrap64 (eta * u.2.2)) (show (256 : Int) ≠ 0 by decide)
  obtain ⟨x2, hx2⟩ := floor_some (wrap64 (wrap64 (g0 - s) * m.1)) (show (4096 : Int) ≠ 0 by decide)
  obtain ⟨y2, hy2⟩ := floor_some (wrap64 (wrap64 (g0 - s) * m.2.1)) (show (4096 : Int) ≠ 0 by decide)
  obtain ⟨z2, hz2⟩ := floor_some (wrap64 (wrap64 (g0 - s) * m.2.2)) (show (4096 : Int) ≠ 0 by decide)
  obtain ⟨o, ho, hi⟩ := cut_any k (x1 + x2) (y1 + y2) (z1 + z2)
  rw [hg0, Option.bind_some, hs, Option.bind_some, hx1, Option.bind_some, hx2, Option.bind_some, hy1, Option.bind_some, hy2, Option.bind_some, hz1, Option.bind_some, hz2, Option.bind_some, ho, Option.bind_some]
  refine ⟨_, rfl, fun h => ?_, fun h => ⟨by omega, by omega, ⟨dn d n, eD, by omega⟩, hi⟩⟩
  simpa using h
theorem unit_7 : G.light_unit.f 80 0 0 (-7) = some (0, 0, -4096) := by kernel_rfl
theorem unit_3 : G.light_unit.f 80 0 0 3 = some (0, 0, 4096) := by kernel_rfl
theorem fine_73 : G.light_fine.f 0 0 (-7) 0 0 3 = some true := by kernel_rfl
theorem dot_73 : G.vec_Dot.f 0 0 (-7) 0 0 3 = some (-21) := by kernel_rfl
theorem dot_u : G.vec_Dot.f 0 0 (-4096) 0 0 4096 = some (-16777216) := by kernel_rfl
theorem floor_u : G.light_floor.f (-16777216) 4096 = some (-4096) := by kernel_rfl
theorem root_u : G.light_root.f 80 16777216 1 = some 4096 := by kernel_rfl
theorem flat (eta : Int) (h : 64 ≤ eta ∧ eta ≤ 1024) : G.light_Refract.f 80 0 0 (-7) 0 0 3 eta = some (0, 0, -4096, true) := by
  unfold G.light_Refract.f
  rw [fine_73, Option.bind_some, if_pos rfl, if_neg (by omega), if_neg (by omega), dot_73, Option.bind_some, if_neg (by decide), unit_7, Option.bind_some, unit_3, Option.bind_some]
  dsimp only
  have w1 : wrap64 (-(-4096)) = 4096 := by kernel_rfl
  have w2 : wrap64 (4096 * 4096) = 16777216 := by kernel_rfl
  have w3 : wrap64 (16777216 - 16777216) = 0 := by kernel_rfl
  have w4 : wrap64 0 = 0 := by kernel_rfl
  have w5 : wrap64 (16777216 - 0) = 16777216 := by kernel_rfl
  have f0 : G.light_floor.f 0 65536 = some 0 := by kernel_rfl
  have f1 : G.light_floor.f 0 256 = some 0 := by kernel_rfl
  have f2 : G.light_floor.f 0 4096 = some 0 := by kernel_rfl
  rw [dot_u, Option.bind_some, floor_u, Option.bind_some, w1, w2, w3, Int.mul_zero, w4, f0, Option.bind_some, w5, if_neg (by decide)]
  have g0 : G.light_floor.f (wrap64 (eta * 4096)) 256 = some (16 * eta) := by
    rw [w64 (by omega), floor_eq (by decide) (by omega)]
    congr 1
    omega
  have g1 : G.light_floor.f (wrap64 (eta * -4096)) 256 = some (-16 * eta) := by
    rw [w64 (by omega), floor_eq (by decide) (by omega)]
    congr 1
    omega
  have w6 : wrap64 (16 * eta - 4096) = 16 * eta - 4096 := w64 (by omega)
  have g2 : G.light_floor.f (wrap64 ((16 * eta - 4096) * 4096)) 4096 = some (16 * eta - 4096) := by
    rw [w64 (by omega), floor_eq (by decide) (by omega)]
    congr 1
    omega
  have w7 : wrap64 (-16 * eta + (16 * eta - 4096)) = -4096 := by rw [w64 (by omega)]; omega
  rw [g0, Option.bind_some, root_u, Option.bind_some, w6, Int.mul_zero, w4, f1, Option.bind_some, Int.mul_zero, w4, f2, Option.bind_some, Option.bind_some, Option.bind_some, g1, Option.bind_some, g2, Option.bind_some, Int.add_zero, w4, w7,
    cut_in 79 0 0 (-4096) ⟨by decide, by decide, by decide⟩, Option.bind_some]
  rfl
theorem LightBends (a0_0 a0_1 a0_2 a1_0 a1_1 a1_2 a2 : Int) (b0_0 : -9223372036854775808 ≤ a0_0 ∧ a0_0 ≤ 9223372036854775807) (b0_1 : -9223372036854775808 ≤ a0_1 ∧ a0_1 ≤ 9223372036854775807) (b0_2 : -9223372036854775808 ≤ a0_2 ∧ a0_2 ≤ 9223372036854775807) (b1_0 : -9223372036854775808 ≤ a1_0 ∧ a1_0 ≤ 9223372036854775807) (b1_1 : -9223372036854775808 ≤ a1_1 ∧ a1_1 ≤ 9223372036854775807) (b1_2 : -9223372036854775808 ≤ a1_2 ∧ a1_2 ≤ 9223372036854775807) (b2 : -9223372036854775808 ≤ a2 ∧ a2 ≤ 9223372036854775807) :
    ∃ k, G.relievolaw19_LightBends.f k a0_0 a0_1 a0_2 a1_0 a1_1 a1_2 a2 = some true := by
  refine ⟨80, ?_⟩
  unfold G.relievolaw19_LightBends.f
  rw [alive_80, Option.bind_some, if_pos rfl]
  obtain ⟨r, hr, b⟩ := refract_some 15 ⟨a0_0, a0_1, a0_2⟩ ⟨a1_0, a1_1, a1_2⟩ a2
  dsimp only at hr
  rw [hr, Option.bind_some]
  by_cases c : r.2.2.2 = true
  · rw [if_pos c]
    obtain ⟨h0, h1, ⟨e, he, en⟩, hi⟩ := b.2 c
    dsimp only at he
    rw [he, Option.bind_some, if_neg (by omega), if_neg (by omega), if_neg (by omega), within_eq _ _ _ _ (by decide) (by decide), Option.bind_some, decide_eq_true hi, if_pos rfl, flat a2 ⟨h0, h1⟩, Option.bind_some, if_pos rfl, if_pos rfl, if_pos rfl]
    rfl
  · rw [if_neg c]
    obtain ⟨x, y, z⟩ := b.1 (by simpa using c)
    rw [x, y, z]
    rfl
end Go.Proofs.Ytmhnidmbgicgeaa.Pure
