/- Where a line meets a triangle, the point is in it: for all ints. -/
import Derived.Test.YtihklolcnfbbjaaGx35
import Derived.Test.YtihklolcnfbbjaaRefFun
namespace Go.Proofs.Ytihklolcnfbbjaa.Pure
open Go.RowKit Go.Proofs.VecMath Go.Proofs.Ytihklolcnfbbjaa.M Go.Proofs.YtihklolcnfbbjaaW.PrintWords Go.Proofs.YtihklolcnfbbjaaW.PrintMore
set_option linter.unusedVariables false

theorem refMul_eq {a b : Int} (ha : -9223372036854775808 ≤ a ∧ a ≤ 9223372036854775807) (hb : -9223372036854775808 ≤ b ∧ b ≤ 9223372036854775807) :
    G.relievoref01_Mul.f a b = some (a * b / 18446744073709551616, a * b % 18446744073709551616) := if_pos ⟨ha, hb⟩
theorem refCross_eq {x y z x1 y1 z1 m n : Int} (ha : (⟨x, y, z⟩ : Vec).in_ m) (hb : (⟨x1, y1, z1⟩ : Vec).in_ n) (h : m * n ≤ 4611686018427387903) :
    G.relievoref02_Cross.f x y z x1 y1 z1 = some (y * z1 - z * y1, z * x1 - x * z1, x * y1 - y * x1) := cross_eq ha hb h
theorem refDot_eq {x y z x1 y1 z1 m n : Int} (ha : (⟨x, y, z⟩ : Vec).in_ m) (hb : (⟨x1, y1, z1⟩ : Vec).in_ n) (h : m * n ≤ 3074457345618258602) :
    G.relievoref02_Dot.f x y z x1 y1 z1 = some (x * x1 + y * y1 + z * z1) := dot_eq ha hb h
theorem refNormal_eq (a b c : Vec) (ha : a.in_ 65536) (hb : b.in_ 65536) (hc : c.in_ 65536) :
    G.relievoref03_Normal.f a.x a.y a.z b.x b.y b.z c.x c.y c.z = some (NX a b c, NY a b c, NZ a b c) := normal_eq a b c ha hb hc
/-- One edge. -/
theorem edge_eq {β : Type} (o d a b : Vec) (ho : o.in_ 65536) (hd : d.in_ 32768) (ha : a.in_ 65536) (hb : b.in_ 65536) (K : Int → Option β) :
    ((G.relievoref02_Sub.f a.x a.y a.z o.x o.y o.z).bind fun u => (G.relievoref02_Sub.f b.x b.y b.z o.x o.y o.z).bind fun v => (G.relievoref02_Cross.f u.1 u.2.1 u.2.2 v.1 v.2.1 v.2.2).bind fun w =>
      (G.relievoref02_Dot.f d.x d.y d.z w.1 w.2.1 w.2.2).bind K) = K (V0 o d a b) := by
  have ea := in_sub ha ho
  have eb := in_sub hb ho
  rw [refSub_eq ha ho (by decide), Option.bind_some, refSub_eq hb ho (by decide), Option.bind_some]
  dsimp only
  rw [refCross_eq ea eb (by decide), Option.bind_some]
  dsimp only
  rw [refDot_eq hd (in_cross ea eb) (by decide), Option.bind_some]
  rfl
theorem V0_side {o d a b : Vec} {s : Int} (h : pS o d a b = s) : (s = 1 → 0 ≤ V0 o d a b) ∧ (s = -1 → V0 o d a b ≤ 0) := by
  unfold pS lex4 at h
  by_cases z : sg (V0 o d a b) = 0
  · have := sg_zero.1 z
    omega
  · rw [if_neg z] at h
    refine ⟨fun e => ?_, fun e => ?_⟩
    · have := sg_pos.1 (h.trans e)
      omega
    · have := sg_neg.1 (h.trans e)
      omega
theorem mn_zero {x y z : Int} (hx : 0 ≤ x) (hy : 0 ≤ y) (hz : 0 ≤ z) : mn (mn (mn 0 x) y) z = 0 := by
  unfold mn
  repeat' split
  all_goals omega
theorem mx_zero {x y z : Int} (hx : x ≤ 0) (hy : y ≤ 0) (hz : z ≤ 0) : mx (mx (mx 0 x) y) z = 0 := by
  unfold mx
  repeat' split
  all_goals omega

theorem SideWithin (a0_0 a0_1 a0_2 a1_0 a1_1 a1_2 a2_0 a2_1 a2_2 a2_3 a2_4 a2_5 a2_6 a2_7 a2_8 : Int) (_b0_0 : -9223372036854775808 ≤ a0_0 ∧ a0_0 ≤ 9223372036854775807) (_b0_1 : -9223372036854775808 ≤ a0_1 ∧ a0_1 ≤ 9223372036854775807) (_b0_2 : -9223372036854775808 ≤ a0_2 ∧ a0_2 ≤ 9223372036854775807) (_b1_0 : -9223372036854775808 ≤ a1_0 ∧ a1_0 ≤ 9223372036854775807) (_b1_1 : -9223372036854775808 ≤ a1_1 ∧ a1_1 ≤ 9223372036854775807) (_b1_2 : -9223372036854775808 ≤ a1_2 ∧ a1_2 ≤ 9223372036854775807) (_b2_0 : -9223372036854775808 ≤ a2_0 ∧ a2_0 ≤ 9223372036854775807) (_b2_1 : -9223372036854775808 ≤ a2_1 ∧ a2_1 ≤ 9223372036854775807) (_b2_2 : -9223372036854775808 ≤ a2_2 ∧ a2_2 ≤ 9223372036854775807) (_b2_3 : -9223372036854775808 ≤ a2_3 ∧ a2_3 ≤ 9223372036854775807) (_b2_4 : -9223372036854775808 ≤ a2_4 ∧ a2_4 ≤ 9223372036854775807) (_b2_5 : -9223372036854775808 ≤ a2_5 ∧ a2_5 ≤ 9223372036854775807) (_b2_6 : -9223372036854775808 ≤ a2_6 ∧ a2_6 ≤ 9223372036854775807) (_b2_7 : -9223372036854775808 ≤ a2_7 ∧ a2_7 ≤ 9223372036854775807) (_b2_8 : -9223372036854775808 ≤ a2_8 ∧ a2_8 ≤ 9223372036854775807) :
    ∃ k, G.relievolaw03_SideWithin.f k a0_0 a0_1 a0_2 a1_0 a1_1 a1_2 a2_0 a2_1 a2_2 a2_3 a2_4 a2_5 a2_6 a2_7 a2_8 = some true := by
  refine ⟨23, ?_⟩
  obtain ⟨o, ho⟩ : ∃ o : Vec, o = ⟨a0_0, a0_1, a0_2⟩ := ⟨_, rfl⟩
  obtain ⟨d, hd⟩ : ∃ o : Vec, o = ⟨a1_0, a1_1, a1_2⟩ := ⟨_, rfl⟩
  obtain ⟨a, ha⟩ : ∃ o : Vec, o = ⟨a2_0, a2_1, a2_2⟩ := ⟨_, rfl⟩
  obtain ⟨b, hb⟩ : ∃ o : Vec, o = ⟨a2_3, a2_4, a2_5⟩ := ⟨_, rfl⟩
  obtain ⟨c, hc⟩ : ∃ o : Vec, o = ⟨a2_6, a2_7, a2_8⟩ := ⟨_, rfl⟩
  have go : a0_0 = o.x ∧ a0_1 = o.y ∧ a0_2 = o.z ∧ a1_0 = d.x ∧ a1_1 = d.y ∧ a1_2 = d.z ∧ a2_0 = a.x ∧ a2_1 = a.y ∧ a2_2 = a.z ∧ a2_3 = b.x ∧ a2_4 = b.y ∧ a2_5 = b.z ∧ a2_6 = c.x ∧ a2_7 = c.y ∧ a2_8 = c.z := by
    rw [ho, hd, ha, hb, hc]
    simp only [and_self]
  obtain ⟨rfl, rfl, rfl, rfl, rfl, rfl, rfl, rfl, rfl, rfl, rfl, rfl, rfl, rfl, rfl⟩ := go
  clear ho hd ha hb hc
  unfold G.relievolaw03_SideWithin.f
  rw [alive_at 3, Option.bind_some, if_pos rfl, meet_eq 3 o d a b c, Option.bind_some]
  by_cases ok : Ok o d a b c
  case neg => rw [meet_large ok]; rfl
  by_cases h : Hits o d a b c
  case neg => rw [meet_miss ok h]; rfl
  obtain ⟨pd, ps⟩ := den_sign ok h
  obtain ⟨h0, h1, h2⟩ := h
  have nb := num_in o a b c ok.ho ok.ha ok.hb ok.hc
  have db := den_in d a b c ok.hd ok.ha ok.hb ok.hc
  rw [meet_hit ok ⟨h0, h1, h2⟩, if_pos rfl]
  dsimp only
  rw [G.relievolaw03_SideWithin.j0, if_neg (by decide)]
  refine (edge_eq o d a b ok.ho ok.hd ok.ha ok.hb _).trans ?_
  refine (edge_eq o d b c ok.ho ok.hd ok.hb ok.hc _).trans ?_
  refine (edge_eq o d c a ok.ho ok.hd ok.hc ok.ha _).trans ?_
  have v1 := V0_side (o := o) (d := d) (a := a) (b := b) rfl
  have v2 := V0_side (o := o) (d := d) (a := b) (b := c) h1
  have v3 := V0_side (o := o) (d := d) (a := c) (b := a) h2
  rw [refNormal_eq a b c ok.ha ok.hb ok.hc, Option.bind_some]
  dsimp only
  rw [refDot_eq (normal_in a b c ok.ha ok.hb ok.hc) ok.hd (by decide), Option.bind_some, refSub_eq ok.ha ok.ho (by decide)]
  rw [show NX a b c * d.x + NY a b c * d.y + NZ a b c * d.z = den d a b c from rfl]
  generalize hs : pS o d a b = s at *
  have q1 : -9223372036854775808 ≤ s * num o a b c ∧ s * num o a b c ≤ 9223372036854775807 := by rcases ps with e | e <;> subst e <;> omega
  have q2 : -9223372036854775808 ≤ s * den d a b c ∧ s * den d a b c ≤ 9223372036854775807 := by rcases ps with e | e <;> subst e <;> omega
  rw [refMul_eq ⟨by omega, by omega⟩ q1, Option.bind_some, Option.bind_some]
  dsimp only
  rw [refDot_eq (normal_in a b c ok.ha ok.hb ok.hc) (in_sub ok.ha ok.ho) (by decide), Option.bind_some]
  rw [show NX a b c * (a.x - o.x) + NY a b c * (a.y - o.y) + NZ a b c * (a.z - o.z) = num o a b c from rfl]
  rw [refMul_eq ⟨by omega, by omega⟩ q2, Option.bind_some]
  have e : den d a b c * (s * num o a b c) = num o a b c * (s * den d a b c) := by grind
  rw [e]
  have pos : s * den d a b c > 0 := pd
  by_cases m0 : mn (mn (mn 0 (V0 o d a b)) (V0 o d b c)) (V0 o d c a) = 0
  · rw [if_pos m0, if_pos pos]
    simp
  · have m1 : mx (mx (mx 0 (V0 o d a b)) (V0 o d b c)) (V0 o d c a) = 0 := by
      rcases ps with e | e
      · exact absurd (mn_zero (v1.1 e) (v2.1 e) (v3.1 e)) m0
      · exact mx_zero (v1.2 e) (v2.2 e) (v3.2 e)
    rw [if_neg m0, if_pos m1, if_pos pos]
    simp
end Go.Proofs.Ytihklolcnfbbjaa.Pure
