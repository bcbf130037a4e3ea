/- A line and a triangle that are moved alike meet alike: for all ints. -/
import Derived.Test.YtihklolcnfbbjaaGx36
import Derived.Test.YtihklolcnfbbjaaRefFun
namespace Go.Proofs.Ytihklolcnfbbjaa.Pure
open Go.RowKit Go.Proofs.VecMath Go.Proofs.Ytihklolcnfbbjaa.M

theorem SideMoved (a0_0 a0_1 a0_2 a1_0 a1_1 a1_2 a2_0 a2_1 a2_2 a2_3 a2_4 a2_5 a2_6 a2_7 a2_8 a3_0 a3_1 a3_2 : Int) (_b0_0 : -9223372036854775808 ≤ a0_0 ∧ a0_0 ≤ 9223372036854775807) (_b0_1 : -9223372036854775808 ≤ a0_1 ∧ a0_1 ≤ 9223372036854775807) (_b0_2 : -9223372036854775808 ≤ a0_2 ∧ a0_2 ≤ 9223372036854775807) (_b1_0 : -9223372036854775808 ≤ a1_0 ∧ a1_0 ≤ 9223372036854775807) (_b1_1 : -9223372036854775808 ≤ a1_1 ∧ a1_1 ≤ 9223372036854775807) (_b1_2 : -9223372036854775808 ≤ a1_2 ∧ a1_2 ≤ 9223372036854775807) (_b2_0 : -9223372036854775808 ≤ a2_0 ∧ a2_0 ≤ 9223372036854775807) (_b2_1 : -9223372036854775808 ≤ a2_1 ∧ a2_1 ≤ 9223372036854775807) (_b2_2 : -9223372036854775808 ≤ a2_2 ∧ a2_2 ≤ 9223372036854775807) (_b2_3 : -9223372036854775808 ≤ a2_3 ∧ a2_3 ≤ 9223372036854775807) (_b2_4 : -9223372036854775808 ≤ a2_4 ∧ a2_4 ≤ 9223372036854775807) (_b2_5 : -9223372036854775808 ≤ a2_5 ∧ a2_5 ≤ 9223372036854775807) (_b2_6 : -9223372036854775808 ≤ a2_6 ∧ a2_6 ≤ 9223372036854775807) (_b2_7 : -9223372036854775808 ≤ a2_7 ∧ a2_7 ≤ 9223372036854775807) (_b2_8 : -9223372036854775808 ≤ a2_8 ∧ a2_8 ≤ 9223372036854775807) (_b3_0 : -9223372036854775808 ≤ a3_0 ∧ a3_0 ≤ 9223372036854775807) (_b3_1 : -9223372036854775808 ≤ a3_1 ∧ a3_1 ≤ 9223372036854775807) (_b3_2 : -9223372036854775808 ≤ a3_2 ∧ a3_2 ≤ 9223372036854775807) :
    ∃ k, G.relievolaw03_SideMoved.f k a0_0 a0_1 a0_2 a1_0 a1_1 a1_2 a2_0 a2_1 a2_2 a2_3 a2_4 a2_5 a2_6 a2_7 a2_8 a3_0 a3_1 a3_2 = some true := by
  refine ⟨23, ?_⟩
  obtain ⟨o, ho⟩ : ∃ o : Vec, o = ⟨a0_0, a0_1, a0_2⟩ := ⟨_, rfl⟩
  obtain ⟨d, hd⟩ : ∃ o : Vec, o = ⟨a1_0, a1_1, a1_2⟩ := ⟨_, rfl⟩
  obtain ⟨a, ha⟩ : ∃ o : Vec, o = ⟨a2_0, a2_1, a2_2⟩ := ⟨_, rfl⟩
  obtain ⟨b, hb⟩ : ∃ o : Vec, o = ⟨a2_3, a2_4, a2_5⟩ := ⟨_, rfl⟩
  obtain ⟨c, hc⟩ : ∃ o : Vec, o = ⟨a2_6, a2_7, a2_8⟩ := ⟨_, rfl⟩
  obtain ⟨t, ht⟩ : ∃ o : Vec, o = ⟨a3_0, a3_1, a3_2⟩ := ⟨_, rfl⟩
  have m1 := meet_eq 3 o d a b c
  have m2 := meet_eq 2 (Vec.add o t) d (Vec.add a t) (Vec.add b t) (Vec.add c t)
  have w := refWithin_eq a3_0 a3_1 a3_2 1048576 (by decide) (by decide)
  rw [← ht] at w
  unfold G.relievolaw03_SideMoved.f
  rw [alive_at 3]
  simp only [ho, hd, ha, hb, hc] at m1
  rw [Option.bind_some, if_pos rfl, m1, Option.bind_some]
  rw [← ho, ← hd, ← ha, ← hb, ← hc]
  by_cases ok : Ok o d a b c
  case neg => rw [meet_large ok]; rfl
  rw [if_pos (errno_zero.2 ok), w, Option.bind_some, G.relievolaw03_SideMoved.j0]
  by_cases hw : t.in_ 1048576
  case neg => rw [decide_eq_false hw]; rfl
  rw [decide_eq_true hw, if_neg (by decide)]
  have e1 := refAdd_eq ok.ho hw (by decide)
  have e2 := refAdd_eq ok.ha hw (by decide)
  have e3 := refAdd_eq ok.hb hw (by decide)
  have e4 := refAdd_eq ok.hc hw (by decide)
  have go : a0_0 = o.x ∧ a0_1 = o.y ∧ a0_2 = o.z ∧ a1_0 = d.x ∧ a1_1 = d.y ∧ a1_2 = d.z ∧ a2_0 = a.x ∧ a2_1 = a.y ∧ a2_2 = a.z ∧ a2_3 = b.x ∧ a2_4 = b.y ∧ a2_5 = b.z ∧ a2_6 = c.x ∧ a2_7 = c.y ∧ a2_8 = c.z ∧ a3_0 = t.x ∧ a3_1 = t.y ∧ a3_2 = t.z := by
    rw [ho, hd, ha, hb, hc, ht]
    simp only [and_self]
  obtain ⟨g1, g2, g3, g4, g5, g6, g7, g8, g9, g10, g11, g12, g13, g14, g15, g16, g17, g18⟩ := go
  rw [g1, g2, g3, g4, g5, g6, g7, g8, g9, g10, g11, g12, g13, g14, g15, g16, g17, g18, e1, Option.bind_some, e2, Option.bind_some, e3, Option.bind_some, e4, Option.bind_some]
  dsimp only
  rw [m2, Option.bind_some]
  by_cases ok' : Ok (Vec.add o t) d (Vec.add a t) (Vec.add b t) (Vec.add c t)
  case neg => rw [if_neg (fun h => ok' (errno_zero.1 h)), G.relievolaw03_SideMoved.j1]
  rw [if_pos (errno_zero.2 ok'), meet_moved ok ok', G.relievolaw03_SideMoved.j1, G.relievolaw03_SideMoved.j1]
  simp
end Go.Proofs.Ytihklolcnfbbjaa.Pure
