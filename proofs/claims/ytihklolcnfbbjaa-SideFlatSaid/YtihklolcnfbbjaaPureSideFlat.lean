/- A line in a triangle's plane doesn't meet it, nor is a triangle without an inside met: for all ints. -/
import Derived.Test.YtihklolcnfbbjaaGx39
import Derived.Test.YtihklolcnfbbjaaVecThm
namespace Go.Proofs.Ytihklolcnfbbjaa.Pure
open Go.RowKit Go.Proofs.VecMath Go.Proofs.Ytihklolcnfbbjaa.M Go.Proofs.YtihklolcnfbbjaaW.PrintWords
set_option linter.unusedVariables false

theorem den_span (a b c : Vec) (x y : Int) : den ⟨(b.x - a.x) * x + (c.x - a.x) * y, (b.y - a.y) * x + (c.y - a.y) * y, (b.z - a.z) * x + (c.z - a.z) * y⟩ a b c = 0 := by
  unfold den NX NY NZ
  grind
theorem den_thin (d a c : Vec) : den d a a c = 0 := by
  unfold den NX NY NZ
  grind
theorem no_hit {o d a b c : Vec} (h : den d a b c = 0) : (meetS o d a b c).2.2.2.2.2.1 = false := by
  by_cases ok : Ok o d a b c
  · rw [meet_miss ok (fun hh => by
      have := (den_sign ok hh).1
      rw [h, Int.mul_zero] at this
      omega)]
  · rw [meet_large ok]
theorem no_hit' {o d a b c : Vec} (h : Ok o d a b c → den d a b c = 0) : (meetS o d a b c).2.2.2.2.2.1 = false := by
  by_cases ok : Ok o d a b c
  · exact no_hit (h ok)
  · rw [meet_large ok]

theorem flat_end (k : Nat) (x1 x2 x3 x4 : Int) (h1 : -100 ≤ x1 ∧ x1 ≤ 100) (h2 : -100 ≤ x2 ∧ x2 ≤ 100) (h3 : -100 ≤ x3 ∧ x3 ≤ 100) (h4 : -100 ≤ x4 ∧ x4 ≤ 100) (l : List Int) (n : Int) (a b c : Vec) :
    G.relievolaw03_SideFlat.l0 (k + 22) x1 x2 x3 x4 l n n a.x a.y a.z b.x b.y b.z c.x c.y c.z = some true := by
  rw [G.relievolaw03_SideFlat.l0, if_neg (by omega)]
  unfold G.relievoref02_Sub.f G.relievoref02_Scale.f G.relievoref02_Add.f
  simp only [Option.bind_some]
  rw [meet_eq (k + 1) ⟨wrap64 (a.x + wrap64 (wrap64 (wrap64 (b.x - a.x) * x1) + wrap64 (wrap64 (c.x - a.x) * x2))), wrap64 (a.y + wrap64 (wrap64 (wrap64 (b.y - a.y) * x1) + wrap64 (wrap64 (c.y - a.y) * x2))), wrap64 (a.z + wrap64 (wrap64 (wrap64 (b.z - a.z) * x1) + wrap64 (wrap64 (c.z - a.z) * x2)))⟩ ⟨wrap64 (wrap64 (wrap64 (b.x - a.x) * x3) + wrap64 (wrap64 (c.x - a.x) * x4)), wrap64 (wrap64 (wrap64 (b.y - a.y) * x3) + wrap64 (wrap64 (c.y - a.y) * x4)), wrap64 (wrap64 (wrap64 (b.z - a.z) * x3) + wrap64 (wrap64 (c.z - a.z) * x4))⟩ a b c]
  rw [meet_eq (k + 1) a ⟨1, 2, 3⟩ a a c]
  simp only [Option.bind_some]
  rw [no_hit (den_thin _ a c), no_hit' (fun ok => ?_)]
  · rw [if_neg (by decide), G.relievolaw03_SideFlat.j1]
    rfl
  have ba := sub_in ok.hb ok.ha
  have ca := sub_in ok.hc ok.ha
  have m1 := mulb (B := 100) ba.1 (y := x3) (by omega)
  have m2 := mulb (B := 100) ba.2.1 (y := x3) (by omega)
  have m3 := mulb (B := 100) ba.2.2 (y := x3) (by omega)
  have m4 := mulb (B := 100) ca.1 (y := x4) (by omega)
  have m5 := mulb (B := 100) ca.2.1 (y := x4) (by omega)
  have m6 := mulb (B := 100) ca.2.2 (y := x4) (by omega)
  rw [w64 (n := b.x - a.x) (by omega), w64 (n := b.y - a.y) (by omega), w64 (n := b.z - a.z) (by omega), w64 (n := c.x - a.x) (by omega), w64 (n := c.y - a.y) (by omega), w64 (n := c.z - a.z) (by omega)]
  rw [w64 (n := (b.x - a.x) * x3) (by omega), w64 (n := (b.y - a.y) * x3) (by omega), w64 (n := (b.z - a.z) * x3) (by omega), w64 (n := (c.x - a.x) * x4) (by omega), w64 (n := (c.y - a.y) * x4) (by omega), w64 (n := (c.z - a.z) * x4) (by omega)]
  rw [w64 (by omega), w64 (by omega), w64 (by omega)]
  exact den_span a b c x3 x4

theorem SideFlat (a0_0 a0_1 a0_2 a0_3 a0_4 a0_5 a0_6 a0_7 a0_8 a1 a2 a3 a4 : Int) (_b0_0 : -9223372036854775808 ≤ a0_0 ∧ a0_0 ≤ 9223372036854775807) (_b0_1 : -9223372036854775808 ≤ a0_1 ∧ a0_1 ≤ 9223372036854775807) (_b0_2 : -9223372036854775808 ≤ a0_2 ∧ a0_2 ≤ 9223372036854775807) (_b0_3 : -9223372036854775808 ≤ a0_3 ∧ a0_3 ≤ 9223372036854775807) (_b0_4 : -9223372036854775808 ≤ a0_4 ∧ a0_4 ≤ 9223372036854775807) (_b0_5 : -9223372036854775808 ≤ a0_5 ∧ a0_5 ≤ 9223372036854775807) (_b0_6 : -9223372036854775808 ≤ a0_6 ∧ a0_6 ≤ 9223372036854775807) (_b0_7 : -9223372036854775808 ≤ a0_7 ∧ a0_7 ≤ 9223372036854775807) (_b0_8 : -9223372036854775808 ≤ a0_8 ∧ a0_8 ≤ 9223372036854775807) (_b1 : -9223372036854775808 ≤ a1 ∧ a1 ≤ 9223372036854775807) (_b2 : -9223372036854775808 ≤ a2 ∧ a2 ≤ 9223372036854775807) (_b3 : -9223372036854775808 ≤ a3 ∧ a3 ≤ 9223372036854775807) (_b4 : -9223372036854775808 ≤ a4 ∧ a4 ≤ 9223372036854775807) :
    ∃ k, G.relievolaw03_SideFlat.f k a0_0 a0_1 a0_2 a0_3 a0_4 a0_5 a0_6 a0_7 a0_8 a1 a2 a3 a4 = some true := by
  refine ⟨30, ?_⟩
  obtain ⟨a, ha⟩ : ∃ o : Vec, o = ⟨a0_0, a0_1, a0_2⟩ := ⟨_, rfl⟩
  obtain ⟨b, hb⟩ : ∃ o : Vec, o = ⟨a0_3, a0_4, a0_5⟩ := ⟨_, rfl⟩
  obtain ⟨c, hc⟩ : ∃ o : Vec, o = ⟨a0_6, a0_7, a0_8⟩ := ⟨_, rfl⟩
  have go : a0_0 = a.x ∧ a0_1 = a.y ∧ a0_2 = a.z ∧ a0_3 = b.x ∧ a0_4 = b.y ∧ a0_5 = b.z ∧ a0_6 = c.x ∧ a0_7 = c.y ∧ a0_8 = c.z := by
    rw [ha, hb, hc]
    simp only [and_self]
  obtain ⟨g1, g2, g3, g4, g5, g6, g7, g8, g9⟩ := go
  unfold G.relievolaw03_SideFlat.f
  have hl : (([a1, a2, a3, a4] : List Int).length : Int) = 4 := rfl
  rw [g1, g2, g3, g4, g5, g6, g7, g8, g9, alive_at 10, Option.bind_some, if_pos rfl, Option.bind_some, hl]
  have e1 : wrap64 (0 + 1) = 1 := by unfold wrap64; decide
  have e2 : wrap64 (1 + 1) = 2 := by unfold wrap64; decide
  have e3 : wrap64 (2 + 1) = 3 := by unfold wrap64; decide
  have e4 : wrap64 (3 + 1) = 4 := by unfold wrap64; decide
  have r0 : rd [a1, a2, a3, a4] 0 = a1 := rfl
  have r1 : rd [a1, a2, a3, a4] 1 = a2 := rfl
  have r2 : rd [a1, a2, a3, a4] 2 = a3 := rfl
  have r3 : rd [a1, a2, a3, a4] 3 = a4 := rfl
  rw [G.relievolaw03_SideFlat.l0, if_pos (by decide), if_pos (by decide), if_pos (by rw [hl]; decide), r0]
  by_cases h1 : a1 < -100
  · rw [if_pos h1]
  by_cases h1' : a1 > 100
  · rw [if_neg h1, if_pos h1']
  rw [if_neg h1, if_neg h1', e1, G.relievolaw03_SideFlat.l0, if_pos (by decide), if_pos (by decide), if_pos (by rw [hl]; decide), r1]
  by_cases h2 : a2 < -100
  · rw [if_pos h2]
  by_cases h2' : a2 > 100
  · rw [if_neg h2, if_pos h2']
  rw [if_neg h2, if_neg h2', e2, G.relievolaw03_SideFlat.l0, if_pos (by decide), if_pos (by decide), if_pos (by rw [hl]; decide), r2]
  by_cases h3 : a3 < -100
  · rw [if_pos h3]
  by_cases h3' : a3 > 100
  · rw [if_neg h3, if_pos h3']
  rw [if_neg h3, if_neg h3', e3, G.relievolaw03_SideFlat.l0, if_pos (by decide), if_pos (by decide), if_pos (by rw [hl]; decide), r3]
  by_cases h4 : a4 < -100
  · rw [if_pos h4]
  by_cases h4' : a4 > 100
  · rw [if_neg h4, if_pos h4']
  rw [if_neg h4, if_neg h4', e4]
  exact flat_end 4 a1 a2 a3 a4 (by omega) (by omega) (by omega) (by omega) _ 4 a b c
end Go.Proofs.Ytihklolcnfbbjaa.Pure
