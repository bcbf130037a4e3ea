/- Mirrored, a ray is in a mirrored box alike: for all ints. -/
import Derived.Test.YtihklolcnfbbjaaGx63
import Derived.Test.YtihklolcnfbbjaaSlabThm
namespace Go.Proofs.Ytihklolcnfbbjaa.Pure
open Go.RowKit Go.Proofs.VecMath Go.Proofs.Ytihklolcnfbbjaa.M Go.Proofs.YtihklolcnfbbjaaW.PrintWords
set_option linter.unusedVariables false


theorem span_mirror (f s l h : Int) : spanO (-f) (-s) (-h) (-l) = spanO f s l h := by
  unfold spanO
  by_cases h0 : s = 0
  · rw [if_neg (by omega), if_neg (by omega)]
    unfold spanP
    by_cases c : l > h ∨ (s = 0 ∧ (f < l ∨ f > h))
    · rw [if_pos c, if_pos (by omega)]
    · rw [if_neg c, if_neg (by omega), if_pos h0, if_pos (by omega)]
  · by_cases h1 : s < 0
    · rw [if_neg (by omega), if_pos h1]
    · rw [if_pos (by omega), if_neg h1]
      rw [Int.neg_neg, Int.neg_neg, Int.neg_neg, Int.neg_neg]

theorem mirror_S {o d l h o' d' l' h' : Vec} (b1 : -9223372036854775808 ≤ o.x ∧ o.x ≤ 9223372036854775807) (b2 : -9223372036854775808 ≤ d.x ∧ d.x ≤ 9223372036854775807) (b3 : -9223372036854775808 ≤ l.x ∧ l.x ≤ 9223372036854775807) (b4 : -9223372036854775808 ≤ h.x ∧ h.x ≤ 9223372036854775807)
    (e1 : o' = ⟨wrap64 (-o.x), o.y, o.z⟩) (e2 : d' = ⟨wrap64 (-d.x), d.y, d.z⟩) (e3 : l' = ⟨wrap64 (-h.x), l.y, l.z⟩) (e4 : h' = ⟨wrap64 (-l.x), h.y, h.z⟩) : rangeS o' d' l' h' = rangeS o d l h := by
  have iff : okS o' d' l' h' ↔ okS o d l h := by
    rw [e1, e2, e3, e4]
    unfold okS bx Vec.in_ Vec.zero wrap64
    dsimp only
    constructor <;> intro q <;> omega
  by_cases k : okS o d l h
  · rw [rangeS_ok k, rangeS_ok (iff.mpr k), e1, e2, e3, e4]
    obtain ⟨_, ⟨ox, _, _⟩, ⟨dx, _, _⟩, ⟨lx, _, _⟩, hx, _, _⟩ := k
    dsimp only
    rw [w64 (n := -o.x) (by omega), w64 (n := -d.x) (by omega), w64 (n := -h.x) (by omega), w64 (n := -l.x) (by omega), span_mirror]
  · rw [rangeS_no k, rangeS_no (fun q => k (iff.mp q))]

theorem mirror (k : Nat) (o d l h : Vec) (b1 : -9223372036854775808 ≤ o.x ∧ o.x ≤ 9223372036854775807) (b2 : -9223372036854775808 ≤ d.x ∧ d.x ≤ 9223372036854775807) (b3 : -9223372036854775808 ≤ l.x ∧ l.x ≤ 9223372036854775807) (b4 : -9223372036854775808 ≤ h.x ∧ h.x ≤ 9223372036854775807) :
    G.relievolaw04_SlabMirror.f (k + 14) o.x o.y o.z d.x d.y d.z l.x l.y l.z h.x h.y h.z = some true := by
  unfold G.relievolaw04_SlabMirror.f
  rw [aliveSlab_at (k + 6), Option.bind_some, if_pos rfl, range_eq (k + 6), Option.bind_some]
  rw [range_eq (k + 6) ⟨wrap64 (-o.x), o.y, o.z⟩ ⟨wrap64 (-d.x), d.y, d.z⟩ ⟨wrap64 (-h.x), l.y, l.z⟩ ⟨wrap64 (-l.x), h.y, h.z⟩, Option.bind_some, mirror_S b1 b2 b3 b4 rfl rfl rfl rfl]
  simp only [beq_self_eq_true, Bool.and_self, if_true]

theorem SlabMirror (a0_0 a0_1 a0_2 a1_0 a1_1 a1_2 a2_0 a2_1 a2_2 a2_3 a2_4 a2_5 : Int) (_b0_0 : -9223372036854775808 ≤ a0_0 ∧ a0_0 ≤ 9223372036854775807) (_b0_1 : -9223372036854775808 ≤ a0_1 ∧ a0_1 ≤ 9223372036854775807) (_b0_2 : -9223372036854775808 ≤ a0_2 ∧ a0_2 ≤ 9223372036854775807) (_b1_0 : -9223372036854775808 ≤ a1_0 ∧ a1_0 ≤ 9223372036854775807) (_b1_1 : -9223372036854775808 ≤ a1_1 ∧ a1_1 ≤ 9223372036854775807) (_b1_2 : -9223372036854775808 ≤ a1_2 ∧ a1_2 ≤ 9223372036854775807) (_b2_0 : -9223372036854775808 ≤ a2_0 ∧ a2_0 ≤ 9223372036854775807) (_b2_1 : -9223372036854775808 ≤ a2_1 ∧ a2_1 ≤ 9223372036854775807) (_b2_2 : -9223372036854775808 ≤ a2_2 ∧ a2_2 ≤ 9223372036854775807) (_b2_3 : -9223372036854775808 ≤ a2_3 ∧ a2_3 ≤ 9223372036854775807) (_b2_4 : -9223372036854775808 ≤ a2_4 ∧ a2_4 ≤ 9223372036854775807) (_b2_5 : -9223372036854775808 ≤ a2_5 ∧ a2_5 ≤ 9223372036854775807) :
    ∃ k, G.relievolaw04_SlabMirror.f k a0_0 a0_1 a0_2 a1_0 a1_1 a1_2 a2_0 a2_1 a2_2 a2_3 a2_4 a2_5 = some true := by
  exact ⟨14, mirror 0 ⟨a0_0, a0_1, a0_2⟩ ⟨a1_0, a1_1, a1_2⟩ ⟨a2_0, a2_1, a2_2⟩ ⟨a2_3, a2_4, a2_5⟩ _b0_0 _b1_0 _b2_0 _b2_3⟩
end Go.Proofs.Ytihklolcnfbbjaa.Pure
