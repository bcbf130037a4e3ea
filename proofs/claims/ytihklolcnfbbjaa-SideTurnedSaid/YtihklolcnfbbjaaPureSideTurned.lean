/- An edge the other way round is passed on the other side; a triangle the other way round is met from the other side, at the same place: for all ints. -/
import Derived.Test.YtihklolcnfbbjaaGx41
import Derived.Test.YtihklolcnfbbjaaVecThm
namespace Go.Proofs.Ytihklolcnfbbjaa.Pure
open Go.RowKit Go.Proofs.VecMath Go.Proofs.Ytihklolcnfbbjaa.M

def sideS (o d a b : Vec) : Int × Int := if lineB o d && (decide (a.in_ 65536) && decide (b.in_ 65536)) then (pS o d a b, 0) else (0, 21)

theorem side_eq (k : Nat) (o d a b : Vec) : G.side_Side.f (k + 5) o.x o.y o.z d.x d.y d.z a.x a.y a.z b.x b.y b.z = some (sideS o d a b) := by
  unfold G.side_Side.f sideS
  rw [line_eq, within_eq _ _ _ _ (by decide) (by decide), within_eq _ _ _ _ (by decide) (by decide)]
  simp only [Option.bind_some]
  cases h1 : lineB o d
  · simp
  by_cases ha : a.in_ 65536
  case neg => rw [decide_eq_false ha]; simp
  by_cases hb : b.in_ 65536
  case neg => rw [decide_eq_true ha, decide_eq_false hb]; simp
  rw [decide_eq_true ha, decide_eq_true hb]
  have h2 := h1
  unfold lineB at h2
  simp only [Bool.and_eq_true, decide_eq_true_eq] at h2
  obtain ⟨ho, hd, _⟩ := h2
  simp only [if_true, Bool.and_self]
  rw [pass_eq k o d a b ho hd ha hb]
  rfl

theorem side_turned (o d a b : Vec) : (sideS o d a b).2 = (sideS o d b a).2 ∧ (sideS o d a b).1 = wrap64 (-(sideS o d b a).1) := by
  unfold sideS
  have e : (lineB o d && (decide (b.in_ 65536) && decide (a.in_ 65536))) = (lineB o d && (decide (a.in_ 65536) && decide (b.in_ 65536))) := by
    rw [Bool.and_comm (decide (b.in_ 65536))]
  rw [e]
  cases h : (lineB o d && (decide (a.in_ 65536) && decide (b.in_ 65536)))
  · exact ⟨rfl, by simp only [Bool.false_eq_true, if_false]; rw [w64 (by omega)]; rfl⟩
  · simp only [if_true]
    unfold lineB at h
    simp only [Bool.and_eq_true, decide_eq_true_eq] at h
    have := pS_anti (o := o) h.1.2.1 h.2.1 h.2.2
    have hp := pS_or o d a b
    refine ⟨trivial, ?_⟩
    rw [this, w64 (by omega)]
    omega

theorem SideTurned (a0_0 a0_1 a0_2 a1_0 a1_1 a1_2 a2_0 a2_1 a2_2 a2_3 a2_4 a2_5 a2_6 a2_7 a2_8 : Int) (_b0_0 : -9223372036854775808 ≤ a0_0 ∧ a0_0 ≤ 9223372036854775807) (_b0_1 : -9223372036854775808 ≤ a0_1 ∧ a0_1 ≤ 9223372036854775807) (_b0_2 : -9223372036854775808 ≤ a0_2 ∧ a0_2 ≤ 9223372036854775807) (_b1_0 : -9223372036854775808 ≤ a1_0 ∧ a1_0 ≤ 9223372036854775807) (_b1_1 : -9223372036854775808 ≤ a1_1 ∧ a1_1 ≤ 9223372036854775807) (_b1_2 : -9223372036854775808 ≤ a1_2 ∧ a1_2 ≤ 9223372036854775807) (_b2_0 : -9223372036854775808 ≤ a2_0 ∧ a2_0 ≤ 9223372036854775807) (_b2_1 : -9223372036854775808 ≤ a2_1 ∧ a2_1 ≤ 9223372036854775807) (_b2_2 : -9223372036854775808 ≤ a2_2 ∧ a2_2 ≤ 9223372036854775807) (_b2_3 : -9223372036854775808 ≤ a2_3 ∧ a2_3 ≤ 9223372036854775807) (_b2_4 : -9223372036854775808 ≤ a2_4 ∧ a2_4 ≤ 9223372036854775807) (_b2_5 : -9223372036854775808 ≤ a2_5 ∧ a2_5 ≤ 9223372036854775807) (_b2_6 : -9223372036854775808 ≤ a2_6 ∧ a2_6 ≤ 9223372036854775807) (_b2_7 : -9223372036854775808 ≤ a2_7 ∧ a2_7 ≤ 9223372036854775807) (_b2_8 : -9223372036854775808 ≤ a2_8 ∧ a2_8 ≤ 9223372036854775807) :
    ∃ k, G.relievolaw03_SideTurned.f k a0_0 a0_1 a0_2 a1_0 a1_1 a1_2 a2_0 a2_1 a2_2 a2_3 a2_4 a2_5 a2_6 a2_7 a2_8 = some true := by
  refine ⟨21, ?_⟩
  obtain ⟨o, ho⟩ : ∃ o : Vec, o = ⟨a0_0, a0_1, a0_2⟩ := ⟨_, rfl⟩
  obtain ⟨d, hd⟩ : ∃ o : Vec, o = ⟨a1_0, a1_1, a1_2⟩ := ⟨_, rfl⟩
  obtain ⟨a, ha⟩ : ∃ o : Vec, o = ⟨a2_0, a2_1, a2_2⟩ := ⟨_, rfl⟩
  obtain ⟨b, hb⟩ : ∃ o : Vec, o = ⟨a2_3, a2_4, a2_5⟩ := ⟨_, rfl⟩
  obtain ⟨c, hc⟩ : ∃ o : Vec, o = ⟨a2_6, a2_7, a2_8⟩ := ⟨_, rfl⟩
  have m1 := meet_eq 0 o d a b c
  have m2 := meet_eq 0 o d a c b
  have s1 := side_eq 16 o d a b
  have s2 := side_eq 16 o d b a
  obtain ⟨t1, t2⟩ := side_turned o d a b
  have al := alive_eq
  have al1 : G.relievolaw03_alive.f 21 = some true := G.relievolaw03_alive.mono 20 _ al
  unfold G.relievolaw03_SideTurned.f
  simp only [ho, hd, ha, hb, hc] at m1 m2 s1 s2
  rw [al1, s1, s2]
  simp only [Option.bind_some, if_true]
  rw [← ho, ← hd, ← ha, ← hb] at *
  rw [if_pos t1, ← t2, bne_self_eq_false, G.relievolaw03_SideTurned.j0, if_neg (by decide), m1, m2]
  simp only [Option.bind_some]
  rw [← ho, ← hd, ← ha, ← hb, ← hc]
  by_cases ok : Ok o d a b c
  case neg => rw [meet_large ok, meet_large (fun h => ok (ok_swap h))]; rfl
  by_cases h : Hits o d a b c
  · obtain ⟨h', e⟩ := hits_swap ok h
    rw [meet_hit ok h, meet_hit (ok_swap ok) h', e, den_swap, num_swap]
    obtain ⟨_, hp⟩ := den_sign ok h
    rcases hp with hp | hp <;> rw [hp] <;> simp
  · rw [meet_miss ok h, meet_miss (ok_swap ok) (fun h' => h (by obtain ⟨z, _⟩ := hits_swap (ok_swap ok) h'; exact z))]
    rfl
end Go.Proofs.Ytihklolcnfbbjaa.Pure
