/- A wider box is come into no later, and left no earlier: for all ints. -/
import Derived.Test.YtihklolcnfbbjaaGx68
import Derived.Test.YtihklolcnfbbjaaSlabThm
namespace Go.Proofs.Ytihklolcnfbbjaa.Pure
open Go.RowKit Go.Proofs.VecMath Go.Proofs.Ytihklolcnfbbjaa.M Go.Proofs.YtihklolcnfbbjaaW.PrintWords
set_option linter.unusedVariables false


theorem wider_cut {o d l h l' h' : Vec} (ok : okS o d l h) (ok' : okS o d l' h') (a : (l'.x ≤ l.x ∧ l'.y ≤ l.y ∧ l'.z ≤ l.z) ∧ h.x ≤ h'.x ∧ h.y ≤ h'.y ∧ h.z ≤ h'.z) {lo hi : Fr} (c : cutV o d l h = some (lo, hi)) :
    ∃ lo' hi', cutV o d l' h' = some (lo', hi') ∧ lo'.sm ∧ hi'.sm ∧ lo'.le lo ∧ hi.le hi' := by
  obtain ⟨⟨a1, a2, a3⟩, b1, b2, b3⟩ := a
  obtain ⟨sl, sh, z, lh, p1, q1, p2, q2, p3, q3, e1, e2, e3, u1, v1, u2, v2, u3, v3, _, _⟩ := cutV_of ok c
  obtain ⟨_, ⟨ox, oy, oz⟩, ⟨dx, dy, dz⟩, ⟨lx, ly, lz⟩, hx, hy, hz⟩ := ok
  obtain ⟨m1, n1⟩ := span_sm ox dx lx hx e1
  obtain ⟨m2, n2⟩ := span_sm oy dy ly hy e2
  obtain ⟨m3, n3⟩ := span_sm oz dz lz hz e3
  have T : ∀ t : Fr, t.sm → zeroF.le t → lo.le t → t.le hi → ∃ lo' hi' : Fr, cutV o d l' h' = some (lo', hi') ∧ lo'.sm ∧ hi'.sm ∧ lo'.le t ∧ t.le hi' := by
    intro t ht zt x1 x2
    obtain ⟨P1, Q1, E1, U1, V1⟩ := span_wider a1 b1 ht.1 e1 (le_trans m1.1 sl.1 ht.1 u1 x1) (le_trans ht.1 sh.1 n1.1 x2 v1)
    obtain ⟨P2, Q2, E2, U2, V2⟩ := span_wider a2 b2 ht.1 e2 (le_trans m2.1 sl.1 ht.1 u2 x1) (le_trans ht.1 sh.1 n2.1 x2 v2)
    obtain ⟨P3, Q3, E3, U3, V3⟩ := span_wider a3 b3 ht.1 e3 (le_trans m3.1 sl.1 ht.1 u3 x1) (le_trans ht.1 sh.1 n3.1 x2 v3)
    exact cutV_mem ok' E1 E2 E3 ht.1 zt U1 V1 U2 V2 U3 V3
  obtain ⟨l1, h1, c1, s1, t1, x1, y1⟩ := T lo sl z (le_refl _) lh
  obtain ⟨l2, h2, c2, s2, t2, x2, y2⟩ := T hi sh (le_trans zero_sm.1 sl.1 sh.1 z lh) lh (le_refl _)
  rw [c1] at c2
  simp only [Option.some.injEq, Prod.mk.injEq] at c2
  obtain ⟨rfl, rfl⟩ := c2
  exact ⟨l1, h1, c1, s1, t1, x1, y2⟩

theorem mn_l (a b : Int) : mn a b ≤ a := by unfold mn; split <;> omega
theorem mx_l (a b : Int) : a ≤ mx a b := by unfold mx; split <;> omega

theorem wider (k : Nat) (o d l h m n : Vec) : G.relievolaw04_SlabWider.f (k + 14) o.x o.y o.z d.x d.y d.z l.x l.y l.z h.x h.y h.z m.x m.y m.z n.x n.y n.z = some true := by
  unfold G.relievolaw04_SlabWider.f
  rw [aliveSlab_at (k + 6), Option.bind_some, if_pos rfl, range_eq (k + 6), Option.bind_some]
  rcases range_cases o d l h with ⟨_, e⟩ | ⟨_, _, e⟩ | ⟨ok, lo, hi, c, e⟩
  · rw [e, if_neg (by decide), G.relievolaw04_SlabWider.j0, if_pos (by first | decide | (dsimp only; decide) | (simp; done))]
  · rw [e, if_pos rfl, G.relievolaw04_SlabWider.j0, if_pos (by first | decide | (dsimp only; decide) | (simp; done))]
  · rw [e, if_pos rfl, G.relievolaw04_SlabWider.j0, if_neg (by first | decide | (dsimp only; decide) | (simp; done)), G.relievolaw04_SlabWider.j1]
    unfold G.vec_Join.f
    rw [Option.bind_some]
    dsimp only
    rw [range_eq (k + 4) o d ⟨mn l.x m.x, mn l.y m.y, mn l.z m.z⟩ ⟨mx h.x n.x, mx h.y n.y, mx h.z n.z⟩, Option.bind_some]
    have key := fun ok' => wider_cut (l' := ⟨mn l.x m.x, mn l.y m.y, mn l.z m.z⟩) (h' := ⟨mx h.x n.x, mx h.y n.y, mx h.z n.z⟩) ok ok' ⟨⟨mn_l _ _, mn_l _ _, mn_l _ _⟩, mx_l _ _, mx_l _ _, mx_l _ _⟩ c
    rcases range_cases o d ⟨mn l.x m.x, mn l.y m.y, mn l.z m.z⟩ ⟨mx h.x n.x, mx h.y n.y, mx h.z n.z⟩ with ⟨_, e'⟩ | ⟨ok', c', e'⟩ | ⟨ok', lo', hi', c', e'⟩
    · rw [e', if_neg (by decide)]
      rfl
    · obtain ⟨_, _, c2, _⟩ := key ok'
      rw [c2] at c'
      cases c'
    · obtain ⟨l2, h2, c2, sl', sh', x, y⟩ := key ok'
      rw [c'] at c2
      simp only [Option.some.injEq, Prod.mk.injEq] at c2
      obtain ⟨rfl, rfl⟩ := c2
      obtain ⟨sl, sh, _⟩ := cutV_of ok c
      rw [e', if_pos rfl, G.relievolaw04_SlabWider.j2]
      dsimp only
      rw [order_sm (k + 7) sl' sl, Option.bind_some, order_sm (k + 7) sh sh', Option.bind_some, if_pos rfl, if_pos (sg_le.mpr x), decide_eq_true (sg_le.mpr y), G.relievolaw04_SlabWider.j3]

theorem SlabWider (a0_0 a0_1 a0_2 a1_0 a1_1 a1_2 a2_0 a2_1 a2_2 a2_3 a2_4 a2_5 a3_0 a3_1 a3_2 a3_3 a3_4 a3_5 : Int) (_b0_0 : -9223372036854775808 ≤ a0_0 ∧ a0_0 ≤ 9223372036854775807) (_b0_1 : -9223372036854775808 ≤ a0_1 ∧ a0_1 ≤ 9223372036854775807) (_b0_2 : -9223372036854775808 ≤ a0_2 ∧ a0_2 ≤ 9223372036854775807) (_b1_0 : -9223372036854775808 ≤ a1_0 ∧ a1_0 ≤ 9223372036854775807) (_b1_1 : -9223372036854775808 ≤ a1_1 ∧ a1_1 ≤ 9223372036854775807) (_b1_2 : -9223372036854775808 ≤ a1_2 ∧ a1_2 ≤ 9223372036854775807) (_b2_0 : -9223372036854775808 ≤ a2_0 ∧ a2_0 ≤ 9223372036854775807) (_b2_1 : -9223372036854775808 ≤ a2_1 ∧ a2_1 ≤ 9223372036854775807) (_b2_2 : -9223372036854775808 ≤ a2_2 ∧ a2_2 ≤ 9223372036854775807) (_b2_3 : -9223372036854775808 ≤ a2_3 ∧ a2_3 ≤ 9223372036854775807) (_b2_4 : -9223372036854775808 ≤ a2_4 ∧ a2_4 ≤ 9223372036854775807) (_b2_5 : -9223372036854775808 ≤ a2_5 ∧ a2_5 ≤ 9223372036854775807) (_b3_0 : -9223372036854775808 ≤ a3_0 ∧ a3_0 ≤ 9223372036854775807) (_b3_1 : -9223372036854775808 ≤ a3_1 ∧ a3_1 ≤ 9223372036854775807) (_b3_2 : -9223372036854775808 ≤ a3_2 ∧ a3_2 ≤ 9223372036854775807) (_b3_3 : -9223372036854775808 ≤ a3_3 ∧ a3_3 ≤ 9223372036854775807) (_b3_4 : -9223372036854775808 ≤ a3_4 ∧ a3_4 ≤ 9223372036854775807) (_b3_5 : -9223372036854775808 ≤ a3_5 ∧ a3_5 ≤ 9223372036854775807) :
    ∃ k, G.relievolaw04_SlabWider.f k a0_0 a0_1 a0_2 a1_0 a1_1 a1_2 a2_0 a2_1 a2_2 a2_3 a2_4 a2_5 a3_0 a3_1 a3_2 a3_3 a3_4 a3_5 = some true := by
  exact ⟨14, wider 0 ⟨a0_0, a0_1, a0_2⟩ ⟨a1_0, a1_1, a1_2⟩ ⟨a2_0, a2_1, a2_2⟩ ⟨a2_3, a2_4, a2_5⟩ ⟨a3_0, a3_1, a3_2⟩ ⟨a3_3, a3_4, a3_5⟩⟩
end Go.Proofs.Ytihklolcnfbbjaa.Pure
