/- From a point in a box a ray is in it from 0 on: for all ints. -/
import Derived.Test.YtihklolcnfbbjaaGx66
import Derived.Test.YtihklolcnfbbjaaSlabThm
namespace Go.Proofs.Ytihklolcnfbbjaa.Pure
open Go.RowKit Go.Proofs.VecMath Go.Proofs.Ytihklolcnfbbjaa.M Go.Proofs.YtihklolcnfbbjaaW.PrintWords
set_option linter.unusedVariables false


theorem has_eq (l h o : Vec) : G.vec_Has.f l.x l.y l.z h.x h.y h.z o.x o.y o.z = some (decide ((l.x ≤ o.x ∧ o.x ≤ h.x) ∧ (l.y ≤ o.y ∧ o.y ≤ h.y) ∧ l.z ≤ o.z ∧ o.z ≤ h.z)) := by
  have b : ∀ n f t : Int, G.vec_between.f n f t = some (decide (f ≤ n ∧ n ≤ t)) := by
    intro n f t
    unfold G.vec_between.f
    by_cases h : f ≤ n
    · rw [if_pos h]
      simp only [h, true_and]
    · rw [if_neg h, decide_eq_false (fun q => h q.1)]
  unfold G.vec_Has.f
  rw [b, b, b]
  simp only [Option.bind_some, decide_eq_true_eq]
  by_cases h1 : l.x ≤ o.x ∧ o.x ≤ h.x
  · rw [if_pos h1]
    by_cases h2 : l.y ≤ o.y ∧ o.y ≤ h.y
    · rw [if_pos h2]
      simp only [h1, h2, true_and, and_self]
    · rw [if_neg h2, decide_eq_false (fun q => h2 q.2.1)]
  · rw [if_neg h1, decide_eq_false (fun q => h1 q.1)]

theorem span_in {f s l h : Int} (a : l ≤ f) (b : f ≤ h) : ∃ p q, spanO f s l h = some (p, q) ∧ p.n ≤ 0 ∧ 0 ≤ q.n := by
  rcases span_cases f s l h with c | ⟨s0, c, i1, i2⟩ | ⟨s0, lh, c⟩ | ⟨s0, lh, c⟩
  · unfold spanO spanP at c
    split at c
    · rw [if_neg (by omega)] at c
      split at c <;> cases c
    · rw [if_neg (by omega)] at c
      split at c <;> cases c
  · exact ⟨_, _, c, Int.le_refl _, by unfold infF; decide⟩
  · exact ⟨_, _, c, by dsimp only; omega, by dsimp only; omega⟩
  · exact ⟨_, _, c, by dsimp only; omega, by dsimp only; omega⟩
theorem mx_zero {p : Fr} (h : p.n ≤ 0) : mxF zeroF p = zeroF := by
  unfold mxF
  rw [if_neg]
  unfold Fr.lt zeroF
  dsimp only
  omega
theorem z_le {q : Fr} (h : 0 ≤ q.n) : zeroF.le q := by
  unfold Fr.le zeroF
  dsimp only
  omega
theorem le_z {p : Fr} (h : p.n ≤ 0) : p.le zeroF := by
  unfold Fr.le zeroF
  dsimp only
  omega

theorem inside_cut {o d l h : Vec} (ok : okS o d l h) (a : (l.x ≤ o.x ∧ o.x ≤ h.x) ∧ (l.y ≤ o.y ∧ o.y ≤ h.y) ∧ l.z ≤ o.z ∧ o.z ≤ h.z) : ∃ hi, cutV o d l h = some (zeroF, hi) := by
  obtain ⟨⟨a1, b1⟩, ⟨a2, b2⟩, a3, b3⟩ := a
  obtain ⟨p1, q1, e1, u1, v1⟩ := span_in (s := d.x) a1 b1
  obtain ⟨p2, q2, e2, u2, v2⟩ := span_in (s := d.y) a2 b2
  obtain ⟨p3, q3, e3, u3, v3⟩ := span_in (s := d.z) a3 b3
  obtain ⟨lo, hi, c, _⟩ := cutV_mem ok e1 e2 e3 zero_sm.1 (le_refl _) (le_z u1) (z_le v1) (le_z u2) (z_le v2) (le_z u3) (z_le v3)
  obtain ⟨_, _, _, _, P1, Q1, P2, Q2, P3, Q3, E1, E2, E3, _, _, _, _, _, _, el, _⟩ := cutV_of ok c
  rw [e1] at E1
  rw [e2] at E2
  rw [e3] at E3
  simp only [Option.some.injEq, Prod.mk.injEq] at E1 E2 E3
  rw [← E1.1, ← E2.1, ← E3.1, mx_zero u1, mx_zero u2, mx_zero u3] at el
  exact ⟨hi, by rw [c, el]⟩

theorem inside (k : Nat) (o d l h : Vec) : G.relievolaw04_SlabInside.f (k + 14) o.x o.y o.z d.x d.y d.z l.x l.y l.z h.x h.y h.z = some true := by
  unfold G.relievolaw04_SlabInside.f
  rw [aliveSlab_at (k + 6), Option.bind_some, if_pos rfl, range_eq (k + 6), Option.bind_some, has_eq]
  rcases range_cases o d l h with ⟨_, e⟩ | ⟨ok, c, e⟩ | ⟨ok, lo, hi, c, e⟩
  · rw [e, if_neg (by decide)]
    rfl
  · rw [e, if_pos rfl, if_neg (by decide), Option.bind_some, if_neg]
    rw [decide_eq_true_eq]
    intro q
    obtain ⟨hi, c2⟩ := inside_cut ok q
    rw [c] at c2
    cases c2
  · obtain ⟨sl, sh, z, lh, _⟩ := cutV_of ok c
    rw [e, if_pos rfl, if_pos rfl]
    dsimp only
    rw [order_sm (k + 10) sl sh, Option.bind_some]
    dsimp only
    rw [if_pos rfl, if_neg (by have := sg_le.mpr lh; omega), if_neg (by unfold Fr.le zeroF at z; dsimp only at z; omega), Option.bind_some]
    by_cases q : (l.x ≤ o.x ∧ o.x ≤ h.x) ∧ (l.y ≤ o.y ∧ o.y ≤ h.y) ∧ l.z ≤ o.z ∧ o.z ≤ h.z
    · obtain ⟨hi', c2⟩ := inside_cut ok q
      rw [c] at c2
      simp only [Option.some.injEq, Prod.mk.injEq] at c2
      rw [if_pos (decide_eq_true q), c2.1]
      rfl
    · rw [if_neg (by rw [decide_eq_true_eq]; exact q)]

theorem SlabInside (a0_0 a0_1 a0_2 a1_0 a1_1 a1_2 a2_0 a2_1 a2_2 a2_3 a2_4 a2_5 : Int) (_b0_0 : -9223372036854775808 ≤ a0_0 ∧ a0_0 ≤ 9223372036854775807) (_b0_1 : -9223372036854775808 ≤ a0_1 ∧ a0_1 ≤ 9223372036854775807) (_b0_2 : -9223372036854775808 ≤ a0_2 ∧ a0_2 ≤ 9223372036854775807) (_b1_0 : -9223372036854775808 ≤ a1_0 ∧ a1_0 ≤ 9223372036854775807) (_b1_1 : -9223372036854775808 ≤ a1_1 ∧ a1_1 ≤ 9223372036854775807) (_b1_2 : -9223372036854775808 ≤ a1_2 ∧ a1_2 ≤ 9223372036854775807) (_b2_0 : -9223372036854775808 ≤ a2_0 ∧ a2_0 ≤ 9223372036854775807) (_b2_1 : -9223372036854775808 ≤ a2_1 ∧ a2_1 ≤ 9223372036854775807) (_b2_2 : -9223372036854775808 ≤ a2_2 ∧ a2_2 ≤ 9223372036854775807) (_b2_3 : -9223372036854775808 ≤ a2_3 ∧ a2_3 ≤ 9223372036854775807) (_b2_4 : -9223372036854775808 ≤ a2_4 ∧ a2_4 ≤ 9223372036854775807) (_b2_5 : -9223372036854775808 ≤ a2_5 ∧ a2_5 ≤ 9223372036854775807) :
    ∃ k, G.relievolaw04_SlabInside.f k a0_0 a0_1 a0_2 a1_0 a1_1 a1_2 a2_0 a2_1 a2_2 a2_3 a2_4 a2_5 = some true := by
  exact ⟨14, inside 0 ⟨a0_0, a0_1, a0_2⟩ ⟨a1_0, a1_1, a1_2⟩ ⟨a2_0, a2_1, a2_2⟩ ⟨a2_3, a2_4, a2_5⟩⟩
end Go.Proofs.Ytihklolcnfbbjaa.Pure
