/- From whichever corner a triangle is told, Meet answers alike: for all ints. -/
import Derived.Test.YtihklolcnfbbjaaGx17
import Derived.Test.YtihklolcnfbbjaaVecFun
namespace Go.Proofs.Ytihklolcnfbbjaa.Pure
open Go.RowKit Go.Proofs.VecMath Go.Proofs.Ytihklolcnfbbjaa.M

theorem den_round (d a b c : Vec) : den d b c a = den d a b c := by
  unfold den NX NY NZ
  grind
theorem num_round (o a b c : Vec) : num o b c a = num o a b c := by
  unfold num NX NY NZ
  grind

theorem meet_round (o d a b c : Vec) : meetS o d b c a = meetS o d a b c := by
  have e : okB o d b c a = okB o d a b c := by
    unfold okB
    cases lineB o d <;> cases decide (a.in_ 65536) <;> cases decide (b.in_ 65536) <;> cases decide (c.in_ 65536) <;> rfl
  unfold meetS
  rw [e, den_round d a b c, num_round o a b c]
  by_cases ho : okB o d a b c = true
  case neg => rw [if_neg ho, if_neg ho]
  rw [if_pos ho, if_pos ho]
  by_cases h : pS o d a b ≠ 0 ∧ pS o d b c = pS o d a b ∧ pS o d c a = pS o d a b
  · obtain ⟨h0, h1, h2⟩ := h
    rw [if_pos (show pS o d b c ≠ 0 ∧ pS o d c a = pS o d b c ∧ pS o d a b = pS o d b c from ⟨by rw [h1]; exact h0, by rw [h1, h2], h1.symm⟩), if_pos (show pS o d a b ≠ 0 ∧ pS o d b c = pS o d a b ∧ pS o d c a = pS o d a b from ⟨h0, h1, h2⟩), h1]
  · rw [if_neg h, if_neg (fun h' => h ⟨by rw [h'.2.2]; exact h'.1, h'.2.2.symm, by rw [h'.2.1, ← h'.2.2]⟩)]

theorem SideRound (a0_0 a0_1 a0_2 a1_0 a1_1 a1_2 a2_0 a2_1 a2_2 a2_3 a2_4 a2_5 a2_6 a2_7 a2_8 : Int) (_b0_0 : -9223372036854775808 ≤ a0_0 ∧ a0_0 ≤ 9223372036854775807) (_b0_1 : -9223372036854775808 ≤ a0_1 ∧ a0_1 ≤ 9223372036854775807) (_b0_2 : -9223372036854775808 ≤ a0_2 ∧ a0_2 ≤ 9223372036854775807) (_b1_0 : -9223372036854775808 ≤ a1_0 ∧ a1_0 ≤ 9223372036854775807) (_b1_1 : -9223372036854775808 ≤ a1_1 ∧ a1_1 ≤ 9223372036854775807) (_b1_2 : -9223372036854775808 ≤ a1_2 ∧ a1_2 ≤ 9223372036854775807) (_b2_0 : -9223372036854775808 ≤ a2_0 ∧ a2_0 ≤ 9223372036854775807) (_b2_1 : -9223372036854775808 ≤ a2_1 ∧ a2_1 ≤ 9223372036854775807) (_b2_2 : -9223372036854775808 ≤ a2_2 ∧ a2_2 ≤ 9223372036854775807) (_b2_3 : -9223372036854775808 ≤ a2_3 ∧ a2_3 ≤ 9223372036854775807) (_b2_4 : -9223372036854775808 ≤ a2_4 ∧ a2_4 ≤ 9223372036854775807) (_b2_5 : -9223372036854775808 ≤ a2_5 ∧ a2_5 ≤ 9223372036854775807) (_b2_6 : -9223372036854775808 ≤ a2_6 ∧ a2_6 ≤ 9223372036854775807) (_b2_7 : -9223372036854775808 ≤ a2_7 ∧ a2_7 ≤ 9223372036854775807) (_b2_8 : -9223372036854775808 ≤ a2_8 ∧ a2_8 ≤ 9223372036854775807) :
    ∃ k, G.relievolaw03_SideRound.f k a0_0 a0_1 a0_2 a1_0 a1_1 a1_2 a2_0 a2_1 a2_2 a2_3 a2_4 a2_5 a2_6 a2_7 a2_8 = some true := by
  refine ⟨20, ?_⟩
  have h1 := meet_eq 0 ⟨a0_0, a0_1, a0_2⟩ ⟨a1_0, a1_1, a1_2⟩ ⟨a2_0, a2_1, a2_2⟩ ⟨a2_3, a2_4, a2_5⟩ ⟨a2_6, a2_7, a2_8⟩
  have h2 := meet_eq 0 ⟨a0_0, a0_1, a0_2⟩ ⟨a1_0, a1_1, a1_2⟩ ⟨a2_3, a2_4, a2_5⟩ ⟨a2_6, a2_7, a2_8⟩ ⟨a2_0, a2_1, a2_2⟩
  rw [meet_round] at h2
  dsimp only at h1 h2
  rw [Nat.zero_add] at h1 h2
  unfold G.relievolaw03_SideRound.f
  rw [alive_eq, h1, h2]
  simp
end Go.Proofs.Ytihklolcnfbbjaa.Pure
