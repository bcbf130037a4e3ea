/- A ray and a box that are moved alike come to the same: for all ints. -/
import Derived.Test.YtihklolcnfbbjaaGx61
import Derived.Test.YtihklolcnfbbjaaSlabThm
namespace Go.Proofs.Ytihklolcnfbbjaa.Pure
open Go.RowKit Go.Proofs.VecMath Go.Proofs.Ytihklolcnfbbjaa.M Go.Proofs.YtihklolcnfbbjaaW.PrintWords
set_option linter.unusedVariables false


def Vec.add (a t : Vec) : Vec := ⟨a.x + t.x, a.y + t.y, a.z + t.z⟩
theorem refAdd_eq {a t : Vec} {m n : Int} (ha : a.in_ m) (ht : t.in_ n) (h : m + n ≤ 9223372036854775807) : G.relievoref02_Add.f a.x a.y a.z t.x t.y t.z = some ((Vec.add a t).x, (Vec.add a t).y, (Vec.add a t).z) := by
  unfold G.relievoref02_Add.f Vec.add
  unfold Vec.in_ at ha ht
  rw [w64 (n := a.x + t.x) (by omega), w64 (n := a.y + t.y) (by omega), w64 (n := a.z + t.z) (by omega)]
theorem span_moved (f s l h t : Int) : spanO (f + t) s (l + t) (h + t) = spanO f s l h := by
  unfold spanO spanP
  by_cases h1 : s < 0
  · rw [if_pos h1, if_pos h1]
    by_cases c : -h > -l ∨ (-s = 0 ∧ (-f < -h ∨ -f > -l))
    · rw [if_pos c, if_pos (by omega)]
    · rw [if_neg c, if_neg (by omega), if_neg (by omega), if_neg (by omega), show -(h + t) - -(f + t) = -h - -f by omega, show -(l + t) - -(f + t) = -l - -f by omega]
  · rw [if_neg h1, if_neg h1]
    by_cases c : l > h ∨ (s = 0 ∧ (f < l ∨ f > h))
    · rw [if_pos c, if_pos (by omega)]
    · rw [if_neg c, if_neg (by omega), show (h + t) - (f + t) = h - f by omega, show (l + t) - (f + t) = l - f by omega]

theorem moved_S {o d l h t : Vec} (k : okS o d l h) (k' : okS (Vec.add o t) d (Vec.add l t) (Vec.add h t)) : rangeS (Vec.add o t) d (Vec.add l t) (Vec.add h t) = rangeS o d l h := by
  rw [rangeS_ok k, rangeS_ok k']
  unfold Vec.add
  dsimp only
  rw [span_moved, span_moved, span_moved]

theorem moved (k : Nat) (o d l h t : Vec) : G.relievolaw04_SlabMoved.f (k + 14) o.x o.y o.z d.x d.y d.z l.x l.y l.z h.x h.y h.z t.x t.y t.z = some true := by
  unfold G.relievolaw04_SlabMoved.f
  have jt : G.relievolaw04_SlabMoved.j0 (k + 14) true o.x o.y o.z d.x d.y d.z l.x l.y l.z h.x h.y h.z t.x t.y t.z = some true := by
    rw [G.relievolaw04_SlabMoved.j0, if_pos rfl]
  rw [aliveSlab_at (k + 6), Option.bind_some, if_pos rfl, within_eq _ _ _ _ (by decide) (by decide), Option.bind_some]
  by_cases h1 : t.in_ 1048576
  · rw [if_pos (decide_eq_true h1), within_eq _ _ _ _ (by decide) (by decide), Option.bind_some]
    by_cases h2 : o.in_ 1048576
    · rw [if_pos (decide_eq_true h2), within_eq _ _ _ _ (by decide) (by decide), Option.bind_some]
      by_cases h3 : l.in_ 1048576
      · rw [if_pos (decide_eq_true h3), within_eq _ _ _ _ (by decide) (by decide), Option.bind_some]
        by_cases h4 : h.in_ 1048576
        · rw [decide_eq_true (show (⟨h.x, h.y, h.z⟩ : Vec).in_ 1048576 from h4), G.relievolaw04_SlabMoved.j0, if_neg (by decide), range_eq (k + 5), Option.bind_some, refAdd_eq h2 h1 (by decide), Option.bind_some, refAdd_eq h3 h1 (by decide), Option.bind_some, refAdd_eq h4 h1 (by decide), Option.bind_some]
          dsimp only
          rw [range_eq (k + 5), Option.bind_some]
          have key := fun k1 k2 => moved_S (o := o) (d := d) (l := l) (h := h) (t := t) k1 k2
          rcases range_cases o d l h with ⟨_, e⟩ | ⟨ok, c, e⟩ | ⟨ok, lo, hi, c, e⟩
          · rw [e, if_neg (by decide), G.relievolaw04_SlabMoved.j1, if_pos (by first | decide | (dsimp only; decide) | (simp; done))]
          all_goals
            rcases range_cases (Vec.add o t) d (Vec.add l t) (Vec.add h t) with ⟨_, e'⟩ | ⟨ok', c', e'⟩ | ⟨ok', lo', hi', c', e'⟩
            · rw [e, e', if_pos rfl, G.relievolaw04_SlabMoved.j1, if_pos (by first | decide | (dsimp only; decide) | (simp; done))]
            all_goals
              have K := key ok ok'
              rw [K, e, if_pos rfl, G.relievolaw04_SlabMoved.j1, if_neg (by first | decide | (dsimp only; decide) | (simp; done)), G.relievolaw04_SlabMoved.j2]
              simp only [beq_self_eq_true, Bool.and_self, if_true]
              rw [G.relievolaw04_SlabMoved.j3]
        · rw [decide_eq_false (show ¬ (⟨h.x, h.y, h.z⟩ : Vec).in_ 1048576 from h4)]
          exact jt
      · rw [if_neg (by rw [decide_eq_false (show ¬ (⟨l.x, l.y, l.z⟩ : Vec).in_ 1048576 from h3)]; decide), jt]
    · rw [if_neg (by rw [decide_eq_false (show ¬ (⟨o.x, o.y, o.z⟩ : Vec).in_ 1048576 from h2)]; decide), jt]
  · rw [if_neg (by rw [decide_eq_false (show ¬ (⟨t.x, t.y, t.z⟩ : Vec).in_ 1048576 from h1)]; decide), jt]

theorem SlabMoved (a0_0 a0_1 a0_2 a1_0 a1_1 a1_2 a2_0 a2_1 a2_2 a2_3 a2_4 a2_5 a3_0 a3_1 a3_2 : Int) (_b0_0 : -9223372036854775808 ≤ a0_0 ∧ a0_0 ≤ 9223372036854775807) (_b0_1 : -9223372036854775808 ≤ a0_1 ∧ a0_1 ≤ 9223372036854775807) (_b0_2 : -9223372036854775808 ≤ a0_2 ∧ a0_2 ≤ 9223372036854775807) (_b1_0 : -9223372036854775808 ≤ a1_0 ∧ a1_0 ≤ 9223372036854775807) (_b1_1 : -9223372036854775808 ≤ a1_1 ∧ a1_1 ≤ 9223372036854775807) (_b1_2 : -9223372036854775808 ≤ a1_2 ∧ a1_2 ≤ 9223372036854775807) (_b2_0 : -9223372036854775808 ≤ a2_0 ∧ a2_0 ≤ 9223372036854775807) (_b2_1 : -9223372036854775808 ≤ a2_1 ∧ a2_1 ≤ 9223372036854775807) (_b2_2 : -9223372036854775808 ≤ a2_2 ∧ a2_2 ≤ 9223372036854775807) (_b2_3 : -9223372036854775808 ≤ a2_3 ∧ a2_3 ≤ 9223372036854775807) (_b2_4 : -9223372036854775808 ≤ a2_4 ∧ a2_4 ≤ 9223372036854775807) (_b2_5 : -9223372036854775808 ≤ a2_5 ∧ a2_5 ≤ 9223372036854775807) (_b3_0 : -9223372036854775808 ≤ a3_0 ∧ a3_0 ≤ 9223372036854775807) (_b3_1 : -9223372036854775808 ≤ a3_1 ∧ a3_1 ≤ 9223372036854775807) (_b3_2 : -9223372036854775808 ≤ a3_2 ∧ a3_2 ≤ 9223372036854775807) :
    ∃ k, G.relievolaw04_SlabMoved.f k a0_0 a0_1 a0_2 a1_0 a1_1 a1_2 a2_0 a2_1 a2_2 a2_3 a2_4 a2_5 a3_0 a3_1 a3_2 = some true := by
  exact ⟨14, moved 0 ⟨a0_0, a0_1, a0_2⟩ ⟨a1_0, a1_1, a1_2⟩ ⟨a2_0, a2_1, a2_2⟩ ⟨a2_3, a2_4, a2_5⟩ ⟨a3_0, a3_1, a3_2⟩⟩
end Go.Proofs.Ytihklolcnfbbjaa.Pure
