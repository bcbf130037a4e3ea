/- A triangle that is cut in two through a corner and a point of the other side is met just where one of its parts is: for all ints. -/
import Derived.Test.YtihklolcnfbbjaaGx23
import Derived.Test.YtihklolcnfbbjaaRefFun
namespace Go.Proofs.Ytihklolcnfbbjaa.Pure
open Go.RowKit Go.Proofs.VecMath Go.Proofs.Ytihklolcnfbbjaa.M

def mid (b q : Vec) (k : Int) : Vec := ⟨b.x + q.x * k, b.y + q.y * k, b.z + q.z * k⟩
def end8 (b q : Vec) : Vec := ⟨b.x + 8 * q.x, b.y + 8 * q.y, b.z + 8 * q.z⟩

theorem WW_mid1 (o d a b q : Vec) (k : Int) : 8 * WW o d a (mid b q k) = (8 - k) * WW o d a b + k * WW o d a (end8 b q) := by
  unfold WW V0 Cx Cy Cz mid end8
  grind
theorem WW_mid2 (o d b q : Vec) (k : Int) : 8 * WW o d b (mid b q k) = k * WW o d b (end8 b q) := by
  unfold WW V0 Cx Cy Cz mid end8
  grind
theorem WW_mid3 (o d b q : Vec) (k : Int) : 8 * WW o d (mid b q k) (end8 b q) = (8 - k) * WW o d b (end8 b q) := by
  unfold WW V0 Cx Cy Cz mid end8
  grind

theorem mid_in {b q : Vec} {k : Int} (hb : b.in_ 65536) (hc : (end8 b q).in_ 65536) (h0 : 0 ≤ k) (h1 : k ≤ 8) : (mid b q k).in_ 65536 := by
  unfold Vec.in_ end8 mid at *
  dsimp only at *
  have hk : k = 0 ∨ k = 1 ∨ k = 2 ∨ k = 3 ∨ k = 4 ∨ k = 5 ∨ k = 6 ∨ k = 7 ∨ k = 8 := by omega
  rcases hk with rfl | rfl | rfl | rfl | rfl | rfl | rfl | rfl | rfl <;> omega

theorem split_hits {o d a b q : Vec} {k : Int} (ok : Ok o d a b (end8 b q)) (h0 : 0 ≤ k) (h1 : k ≤ 8) :
    (Hits o d a b (mid b q k) → ¬ Hits o d a (mid b q k) (end8 b q) ∧ Hits o d a b (end8 b q)) ∧
    (¬ Hits o d a b (mid b q k) → (Hits o d a b (end8 b q) ↔ Hits o d a (mid b q k) (end8 b q))) := by
  have hm := mid_in ok.hb ok.hc h0 h1
  have ok1 : Ok o d a b (mid b q k) := ⟨ok.ho, ok.hd, ok.nz, ok.ha, ok.hb, hm⟩
  have ok2 : Ok o d a (mid b q k) (end8 b q) := ⟨ok.ho, ok.hd, ok.nz, ok.ha, hm, ok.hc⟩
  rw [hits_iff ok, hits_iff ok1, hits_iff ok2]
  have e1 := WW_mid1 o d a b q k
  have e2 := WW_mid2 o d b q k
  have e3 := WW_mid3 o d b q k
  have e4 := WW_anti o d a (mid b q k)
  have e5 := WW_anti o d a (end8 b q)
  have e6 := WW_anti o d b (mid b q k)
  have e0 : WW o d a (mid b q k) = 0 → WW o d a b = WW o d (mid b q k) b := fun h => WW_same ok.hd ok.ha hm h b
  generalize WW o d a b = x at *
  generalize WW o d b (end8 b q) = y at *
  generalize WW o d (end8 b q) a = z at *
  generalize WW o d a (end8 b q) = z' at *
  generalize WW o d a (mid b q k) = u at *
  generalize WW o d (mid b q k) a = u' at *
  generalize WW o d b (mid b q k) = v at *
  generalize WW o d (mid b q k) b = v' at *
  generalize WW o d (mid b q k) (end8 b q) = t at *
  subst e4 e5 e6
  clear hm ok1 ok2 ok
  have hk : k = 0 ∨ k = 1 ∨ k = 2 ∨ k = 3 ∨ k = 4 ∨ k = 5 ∨ k = 6 ∨ k = 7 ∨ k = 8 := by omega
  rcases hk with rfl | rfl | rfl | rfl | rfl | rfl | rfl | rfl | rfl <;> constructor <;> intro h <;> (try constructor) <;> (try intro h2) <;> omega

theorem SideSplit (a0_0 a0_1 a0_2 a1_0 a1_1 a1_2 a2_0 a2_1 a2_2 a2_3 a2_4 a2_5 a2_6 a2_7 a2_8 a3 : Int) (_b0_0 : -9223372036854775808 ≤ a0_0 ∧ a0_0 ≤ 9223372036854775807) (_b0_1 : -9223372036854775808 ≤ a0_1 ∧ a0_1 ≤ 9223372036854775807) (_b0_2 : -9223372036854775808 ≤ a0_2 ∧ a0_2 ≤ 9223372036854775807) (_b1_0 : -9223372036854775808 ≤ a1_0 ∧ a1_0 ≤ 9223372036854775807) (_b1_1 : -9223372036854775808 ≤ a1_1 ∧ a1_1 ≤ 9223372036854775807) (_b1_2 : -9223372036854775808 ≤ a1_2 ∧ a1_2 ≤ 9223372036854775807) (_b2_0 : -9223372036854775808 ≤ a2_0 ∧ a2_0 ≤ 9223372036854775807) (_b2_1 : -9223372036854775808 ≤ a2_1 ∧ a2_1 ≤ 9223372036854775807) (_b2_2 : -9223372036854775808 ≤ a2_2 ∧ a2_2 ≤ 9223372036854775807) (_b2_3 : -9223372036854775808 ≤ a2_3 ∧ a2_3 ≤ 9223372036854775807) (_b2_4 : -9223372036854775808 ≤ a2_4 ∧ a2_4 ≤ 9223372036854775807) (_b2_5 : -9223372036854775808 ≤ a2_5 ∧ a2_5 ≤ 9223372036854775807) (_b2_6 : -9223372036854775808 ≤ a2_6 ∧ a2_6 ≤ 9223372036854775807) (_b2_7 : -9223372036854775808 ≤ a2_7 ∧ a2_7 ≤ 9223372036854775807) (_b2_8 : -9223372036854775808 ≤ a2_8 ∧ a2_8 ≤ 9223372036854775807) (_b3 : -9223372036854775808 ≤ a3 ∧ a3 ≤ 9223372036854775807) :
    ∃ k, G.relievolaw03_SideSplit.f k a0_0 a0_1 a0_2 a1_0 a1_1 a1_2 a2_0 a2_1 a2_2 a2_3 a2_4 a2_5 a2_6 a2_7 a2_8 a3 = some true := by
  refine ⟨23, ?_⟩
  obtain ⟨o, ho⟩ : ∃ o : Vec, o = ⟨a0_0, a0_1, a0_2⟩ := ⟨_, rfl⟩
  obtain ⟨d, hd⟩ : ∃ o : Vec, o = ⟨a1_0, a1_1, a1_2⟩ := ⟨_, rfl⟩
  obtain ⟨a, ha⟩ : ∃ o : Vec, o = ⟨a2_0, a2_1, a2_2⟩ := ⟨_, rfl⟩
  obtain ⟨b, hb⟩ : ∃ o : Vec, o = ⟨a2_3, a2_4, a2_5⟩ := ⟨_, rfl⟩
  obtain ⟨c, hc⟩ : ∃ o : Vec, o = ⟨a2_6, a2_7, a2_8⟩ := ⟨_, rfl⟩
  unfold G.relievolaw03_SideSplit.f
  have go : a0_0 = o.x ∧ a0_1 = o.y ∧ a0_2 = o.z ∧ a1_0 = d.x ∧ a1_1 = d.y ∧ a1_2 = d.z ∧ a2_0 = a.x ∧ a2_1 = a.y ∧ a2_2 = a.z ∧ a2_3 = b.x ∧ a2_4 = b.y ∧ a2_5 = b.z ∧ a2_6 = c.x ∧ a2_7 = c.y ∧ a2_8 = c.z := by
    rw [ho, hd, ha, hb, hc]
    simp only [and_self]
  obtain ⟨g1, g2, g3, g4, g5, g6, g7, g8, g9, g10, g11, g12, g13, g14, g15⟩ := go
  rw [g1, g2, g3, g4, g5, g6, g7, g8, g9, g10, g11, g12, g13, g14, g15]
  rw [alive_at 3, Option.bind_some, if_pos rfl, refLine_eq, refWithin_eq _ _ _ _ (by decide) (by decide), refWithin_eq _ _ _ _ (by decide) (by decide), refWithin_eq _ _ _ _ (by decide) (by decide)]
  simp only [Option.bind_some]
  have quit : ∀ (n : Nat) (x1 x2 x3 x4 x5 x6 x7 x8 x9 x10 x11 x12 x13 x14 x15 y : Int), G.relievolaw03_SideSplit.j0 (n + 1) y true x1 x2 x3 x4 x5 x6 x7 x8 x9 x10 x11 x12 x13 x14 x15 = some true := fun n x1 x2 x3 x4 x5 x6 x7 x8 x9 x10 x11 x12 x13 x14 x15 y => by rw [G.relievolaw03_SideSplit.j0, if_pos rfl]
  by_cases h1 : lineB o d = true
  case neg => rw [if_neg h1]; exact quit 22 _ _ _ _ _ _ _ _ _ _ _ _ _ _ _ _
  rw [if_pos h1]
  by_cases h2 : a.in_ 65536
  case neg => rw [if_neg (by simpa using h2)]; exact quit 22 _ _ _ _ _ _ _ _ _ _ _ _ _ _ _ _
  rw [if_pos (by simpa using h2)]
  by_cases h3 : b.in_ 65536
  case neg => rw [if_neg (by simpa using h3)]; exact quit 22 _ _ _ _ _ _ _ _ _ _ _ _ _ _ _ _
  rw [if_pos (by simpa using h3)]
  by_cases h4 : c.in_ 65536
  case neg => rw [if_neg (by simpa using h4)]; exact quit 22 _ _ _ _ _ _ _ _ _ _ _ _ _ _ _ _
  rw [if_pos (by simpa using h4)]
  by_cases h5 : a3 < 0
  · rw [if_pos h5]; exact quit 22 _ _ _ _ _ _ _ _ _ _ _ _ _ _ _ _
  rw [if_neg h5]
  by_cases h6 : a3 > 8
  · rw [decide_eq_true h6]; exact quit 22 _ _ _ _ _ _ _ _ _ _ _ _ _ _ _ _
  rw [decide_eq_false h6, G.relievolaw03_SideSplit.j0, if_neg (by decide), refSub_eq (show (⟨c.x, c.y, c.z⟩ : Vec).in_ 65536 from h4) (show (⟨b.x, b.y, b.z⟩ : Vec).in_ 65536 from h3) (by decide), Option.bind_some]
  dsimp only
  have quit1 : ∀ (n : Nat) (x1 x2 x3 x4 x5 x6 x7 x8 x9 x10 x11 x12 x13 x14 x15 x16 x17 x18 y : Int), G.relievolaw03_SideSplit.j1 (n + 1) y true x1 x2 x3 x4 x5 x6 x7 x8 x9 x10 x11 x12 x13 x14 x15 x16 x17 x18 = some true := fun n x1 x2 x3 x4 x5 x6 x7 x8 x9 x10 x11 x12 x13 x14 x15 x16 x17 x18 y => by rw [G.relievolaw03_SideSplit.j1, if_pos rfl]
  by_cases h7 : Int.tmod (c.x - b.x) 8 = 0
  case neg => rw [if_neg h7]; exact quit1 21 _ _ _ _ _ _ _ _ _ _ _ _ _ _ _ _ _ _ _
  rw [if_pos h7]
  by_cases h8 : Int.tmod (c.y - b.y) 8 = 0
  case neg => rw [if_neg h8]; exact quit1 21 _ _ _ _ _ _ _ _ _ _ _ _ _ _ _ _ _ _ _
  rw [if_pos h8]
  by_cases h9 : Int.tmod (c.z - b.z) 8 = 0
  case neg => rw [show (Int.tmod (c.z - b.z) 8 != 0) = true from by simpa using h9]; exact quit1 21 _ _ _ _ _ _ _ _ _ _ _ _ _ _ _ _ _ _ _
  rw [h9, bne_self_eq_false, G.relievolaw03_SideSplit.j1, if_neg (by decide)]
  have t1 := Int.mul_tdiv_add_tmod (c.x - b.x) 8
  have t2 := Int.mul_tdiv_add_tmod (c.y - b.y) 8
  have t3 := Int.mul_tdiv_add_tmod (c.z - b.z) 8
  rw [h7] at t1
  rw [h8] at t2
  rw [h9] at t3
  generalize Int.tdiv (c.x - b.x) 8 = qx at *
  generalize Int.tdiv (c.y - b.y) 8 = qy at *
  generalize Int.tdiv (c.z - b.z) 8 = qz at *
  have hcq : c = end8 b ⟨qx, qy, qz⟩ := by
    cases c
    unfold end8
    dsimp only at *
    simp only [Vec.mk.injEq]
    omega
  have bq : (-16384 ≤ qx ∧ qx ≤ 16384) ∧ (-16384 ≤ qy ∧ qy ≤ 16384) ∧ (-16384 ≤ qz ∧ qz ≤ 16384) := by
    unfold Vec.in_ at h3 h4
    omega
  have p1 := mulb (B := 8) bq.1 (y := a3) (by omega)
  have p2 := mulb (B := 8) bq.2.1 (y := a3) (by omega)
  have p3 := mulb (B := 8) bq.2.2 (y := a3) (by omega)
  rw [w64 (n := qx) (by omega), w64 (n := qy) (by omega), w64 (n := qz) (by omega), w64 (n := qx * a3) (by omega), w64 (n := qy * a3) (by omega), w64 (n := qz * a3) (by omega)]
  have ea := refAdd_eq (a := b) (t := ⟨qx * a3, qy * a3, qz * a3⟩) (m := 65536) (n := 131072) h3 (by unfold Vec.in_; dsimp only; omega) (by decide)
  dsimp only at ea
  rw [ea, Option.bind_some]
  have em : Vec.add b ⟨qx * a3, qy * a3, qz * a3⟩ = mid b ⟨qx, qy, qz⟩ a3 := rfl
  rw [em]
  generalize hq : (⟨qx, qy, qz⟩ : Vec) = q at *
  have m1 := meet_eq 1 o d a b c
  have m2 := meet_eq 1 o d a b (mid b q a3)
  have m3 := meet_eq 1 o d a (mid b q a3) c
  dsimp only
  rw [m1, m2, m3]
  simp only [Option.bind_some]
  have hl := h1
  unfold lineB at hl
  simp only [Bool.and_eq_true, decide_eq_true_eq, Bool.not_eq_true', decide_eq_false_iff_not] at hl
  have ok : Ok o d a b c := ⟨hl.1, hl.2.1, hl.2.2, h2, h3, h4⟩
  rw [hcq] at ok h4 ⊢
  have hm := mid_in h3 h4 (by omega) (by omega : a3 ≤ 8)
  have ok1 : Ok o d a b (mid b q a3) := ⟨ok.ho, ok.hd, ok.nz, ok.ha, ok.hb, hm⟩
  have ok2 : Ok o d a (mid b q a3) (end8 b q) := ⟨ok.ho, ok.hd, ok.nz, ok.ha, hm, ok.hc⟩
  rw [if_pos (errno_zero.2 ok), if_pos (errno_zero.2 ok1), if_pos (errno_zero.2 ok2)]
  obtain ⟨s1, s2⟩ := split_hits ok (k := a3) (by omega) (by omega)
  by_cases x1 : Hits o d a b (mid b q a3)
  · obtain ⟨x2, x3⟩ := s1 x1
    rw [meet_hit ok1 x1, meet_miss ok2 x2, meet_hit ok x3]
    rfl
  · by_cases x2 : Hits o d a (mid b q a3) (end8 b q)
    · rw [meet_miss ok1 x1, meet_hit ok2 x2, meet_hit ok ((s2 x1).2 x2)]
      rfl
    · rw [meet_miss ok1 x1, meet_miss ok2 x2, meet_miss ok (fun h => x2 ((s2 x1).1 h))]
      rfl
end Go.Proofs.Ytihklolcnfbbjaa.Pure
