/- From another point of a line, backwards or faster, the same is met: for all ints. -/
import Derived.Test.YtihklolcnfbbjaaGx38
import Derived.Test.YtihklolcnfbbjaaRefFun
namespace Go.Proofs.Ytihklolcnfbbjaa.Pure
open Go.RowKit Go.Proofs.VecMath Go.Proofs.Ytihklolcnfbbjaa.M
set_option linter.unusedVariables false

theorem refMul_eq {a b : Int} (ha : -9223372036854775808 ≤ a ∧ a ≤ 9223372036854775807) (hb : -9223372036854775808 ≤ b ∧ b ≤ 9223372036854775807) :
    G.relievoref01_Mul.f a b = some (a * b / 18446744073709551616, a * b % 18446744073709551616) := if_pos ⟨ha, hb⟩
/-- A point of the line, and a direction so many times as long. -/
def along (o d : Vec) (k : Int) : Vec := ⟨o.x + d.x * k, o.y + d.y * k, o.z + d.z * k⟩
def times (d : Vec) (k : Int) : Vec := ⟨d.x * k, d.y * k, d.z * k⟩
theorem WW_along (o d a b : Vec) (k t : Int) : WW (along o d k) (times d t) a b = t * WW o d a b := by
  unfold WW V0 Cx Cy Cz along times
  grind
theorem num_along (o d a b c : Vec) (k : Int) : num (along o d k) a b c = num o a b c - k * den d a b c := by
  unfold num den along
  grind
theorem den_along (d a b c : Vec) (t : Int) : den (times d t) a b c = t * den d a b c := by
  unfold den times
  grind
theorem scale_eq (d : Vec) (k : Int) (hd : d.in_ 32768) (hk : -1000 ≤ k ∧ k ≤ 1000) : G.relievoref02_Scale.f d.x d.y d.z k = some ((times d k).x, (times d k).y, (times d k).z) := by
  have b1 := mulb hd.1 hk
  have b2 := mulb hd.2.1 hk
  have b3 := mulb hd.2.2 hk
  unfold G.relievoref02_Scale.f times
  rw [w64 (by omega), w64 (by omega), w64 (by omega)]
theorem times_in (d : Vec) (k : Int) (hd : d.in_ 32768) (hk : -1000 ≤ k ∧ k ≤ 1000) : (times d k).in_ 32768000 := by
  have b1 := mulb hd.1 hk
  have b2 := mulb hd.2.1 hk
  have b3 := mulb hd.2.2 hk
  unfold times Vec.in_
  dsimp only
  omega
theorem pS_along {o d a b : Vec} {k t : Int} (hd : d.in_ 32768) (hd' : (times d t).in_ 32768) (ha : a.in_ 65536) (hb : b.in_ 65536) : pS (along o d k) (times d t) a b = sg t * pS o d a b := by
  rw [pS_sg hd' ha hb, pS_sg hd ha hb, WW_along, sg_mul]
theorem hits_along {o d a b c : Vec} {k t : Int} (ok : Ok o d a b c) (ok' : Ok (along o d k) (times d t) a b c) (ht : t ≠ 0) : Hits (along o d k) (times d t) a b c ↔ Hits o d a b c := by
  unfold Hits
  rw [pS_along ok.hd ok'.hd ok.ha ok.hb, pS_along ok.hd ok'.hd ok.hb ok.hc, pS_along ok.hd ok'.hd ok.hc ok.ha]
  rcases sg_or t with e | e | e
  · rw [e]
    omega
  · exact absurd (sg_zero.1 e) ht
  · rw [e]
    omega

theorem SideAlong (a0_0 a0_1 a0_2 a1_0 a1_1 a1_2 a2_0 a2_1 a2_2 a2_3 a2_4 a2_5 a2_6 a2_7 a2_8 a3 a4 : Int) (_b0_0 : -9223372036854775808 ≤ a0_0 ∧ a0_0 ≤ 9223372036854775807) (_b0_1 : -9223372036854775808 ≤ a0_1 ∧ a0_1 ≤ 9223372036854775807) (_b0_2 : -9223372036854775808 ≤ a0_2 ∧ a0_2 ≤ 9223372036854775807) (_b1_0 : -9223372036854775808 ≤ a1_0 ∧ a1_0 ≤ 9223372036854775807) (_b1_1 : -9223372036854775808 ≤ a1_1 ∧ a1_1 ≤ 9223372036854775807) (_b1_2 : -9223372036854775808 ≤ a1_2 ∧ a1_2 ≤ 9223372036854775807) (_b2_0 : -9223372036854775808 ≤ a2_0 ∧ a2_0 ≤ 9223372036854775807) (_b2_1 : -9223372036854775808 ≤ a2_1 ∧ a2_1 ≤ 9223372036854775807) (_b2_2 : -9223372036854775808 ≤ a2_2 ∧ a2_2 ≤ 9223372036854775807) (_b2_3 : -9223372036854775808 ≤ a2_3 ∧ a2_3 ≤ 9223372036854775807) (_b2_4 : -9223372036854775808 ≤ a2_4 ∧ a2_4 ≤ 9223372036854775807) (_b2_5 : -9223372036854775808 ≤ a2_5 ∧ a2_5 ≤ 9223372036854775807) (_b2_6 : -9223372036854775808 ≤ a2_6 ∧ a2_6 ≤ 9223372036854775807) (_b2_7 : -9223372036854775808 ≤ a2_7 ∧ a2_7 ≤ 9223372036854775807) (_b2_8 : -9223372036854775808 ≤ a2_8 ∧ a2_8 ≤ 9223372036854775807) (_b3 : -9223372036854775808 ≤ a3 ∧ a3 ≤ 9223372036854775807) (_b4 : -9223372036854775808 ≤ a4 ∧ a4 ≤ 9223372036854775807) :
    ∃ k, G.relievolaw03_SideAlong.f k a0_0 a0_1 a0_2 a1_0 a1_1 a1_2 a2_0 a2_1 a2_2 a2_3 a2_4 a2_5 a2_6 a2_7 a2_8 a3 a4 = some true := by
  refine ⟨43, ?_⟩
  obtain ⟨o, ho⟩ : ∃ o : Vec, o = ⟨a0_0, a0_1, a0_2⟩ := ⟨_, rfl⟩
  obtain ⟨d, hd⟩ : ∃ o : Vec, o = ⟨a1_0, a1_1, a1_2⟩ := ⟨_, rfl⟩
  obtain ⟨a, ha⟩ : ∃ o : Vec, o = ⟨a2_0, a2_1, a2_2⟩ := ⟨_, rfl⟩
  obtain ⟨b, hb⟩ : ∃ o : Vec, o = ⟨a2_3, a2_4, a2_5⟩ := ⟨_, rfl⟩
  obtain ⟨c, hc⟩ : ∃ o : Vec, o = ⟨a2_6, a2_7, a2_8⟩ := ⟨_, rfl⟩
  have go : a0_0 = o.x ∧ a0_1 = o.y ∧ a0_2 = o.z ∧ a1_0 = d.x ∧ a1_1 = d.y ∧ a1_2 = d.z ∧ a2_0 = a.x ∧ a2_1 = a.y ∧ a2_2 = a.z ∧ a2_3 = b.x ∧ a2_4 = b.y ∧ a2_5 = b.z ∧ a2_6 = c.x ∧ a2_7 = c.y ∧ a2_8 = c.z := by
    rw [ho, hd, ha, hb, hc]
    simp only [and_self]
  obtain ⟨rfl, rfl, rfl, rfl, rfl, rfl, rfl, rfl, rfl, rfl, rfl, rfl, rfl, rfl, rfl⟩ := go
  clear ho hd ha hb hc
  unfold G.relievolaw03_SideAlong.f
  rw [alive_at 23, Option.bind_some, if_pos rfl, meet_eq 23 o d a b c, Option.bind_some]
  by_cases ok : Ok o d a b c
  case neg => rw [meet_large ok]; rfl
  rw [if_pos (errno_zero.2 ok)]
  by_cases k0 : a3 < (-1000)
  · rw [if_pos k0]; rfl
  rw [if_neg k0]
  by_cases k1 : a3 > 1000
  · rw [if_pos k1]; rfl
  rw [if_neg k1]
  by_cases t0 : a4 < (-1000)
  · rw [if_pos t0]; rfl
  rw [if_neg t0]
  by_cases t1 : a4 > 1000
  · rw [if_pos t1]; rfl
  rw [if_neg t1]
  by_cases tz : a4 = 0
  · subst tz; rfl
  rw [beq_eq_false_iff_ne.2 tz, G.relievolaw03_SideAlong.j0, if_neg (by decide), scale_eq d a3 ok.hd (by omega), Option.bind_some]
  dsimp only
  rw [refAdd_eq ok.ho (times_in d a3 ok.hd (by omega)) (by decide), Option.bind_some, scale_eq d a4 ok.hd (by omega), Option.bind_some]
  dsimp only
  rw [show Vec.add o (times d a3) = along o d a3 from rfl, meet_eq 22 (along o d a3) (times d a4) a b c, Option.bind_some]
  by_cases ok' : Ok (along o d a3) (times d a4) a b c
  case neg => rw [if_neg (fun h => ok' (errno_zero.1 h))]
  rw [if_pos (errno_zero.2 ok')]
  by_cases h : Hits o d a b c
  case neg =>
    rw [meet_miss ok h, meet_miss ok' (fun h' => h ((hits_along ok ok' tz).1 h'))]
    rfl
  have h' := (hits_along ok ok' tz).2 h
  obtain ⟨pd, ps⟩ := den_sign ok h
  have nb := num_in o a b c ok.ho ok.ha ok.hb ok.hc
  have db := den_in d a b c ok.hd ok.ha ok.hb ok.hc
  have nb' := num_in (along o d a3) a b c ok'.ho ok.ha ok.hb ok.hc
  have db' := den_in (times d a4) a b c ok'.hd ok.ha ok.hb ok.hc
  rw [meet_hit ok h, meet_hit ok' h']
  dsimp only
  rw [G.relievolaw03_SideAlong.j1]
  rw [if_neg (by decide), if_pos rfl, pS_along ok.hd ok'.hd ok.ha ok.hb, num_along, den_along]
  rw [num_along] at nb'
  rw [den_along] at db'
  generalize pS o d a b = s at *
  generalize num o a b c = n at *
  generalize den d a b c = e at *
  have kb := mulb (x := a3) (y := e) (A := 1000) (B := 3377699720527872) (by omega) db
  have tb := mulb (x := a4) (y := e) (A := 1000) (B := 3377699720527872) (by omega) db
  obtain ⟨u, hu, eu⟩ : ∃ u : Int, sg a4 = u ∧ ((u = 1 ∧ 0 < a4) ∨ (u = -1 ∧ a4 < 0)) := by
    refine ⟨sg a4, rfl, ?_⟩
    rcases sg_or a4 with e | e | e
    · exact .inr ⟨e, sg_neg.1 e⟩
    · exact absurd (sg_zero.1 e) tz
    · exact .inl ⟨e, sg_pos.1 e⟩
  rw [hu]
  have es : a3 * (s * e) = s * (a3 * e) := by grind
  have et : s * e * a4 = s * (a4 * e) := by grind
  have ev : u * s * (n - a3 * e) * (s * (a4 * e)) = (s * n - s * (a3 * e)) * (u * s * (a4 * e)) := by grind
  rw [es, et]
  generalize a3 * e = p at *
  generalize a4 * e = q at *
  have b1 : -9223372036854775808 ≤ s * p ∧ s * p ≤ 9223372036854775807 := by rcases ps with e | e <;> subst e <;> omega
  have b2 : -9223372036854775808 ≤ s * n - s * p ∧ s * n - s * p ≤ 9223372036854775807 := by rcases ps with e | e <;> subst e <;> omega
  have b3 : -9223372036854775808 ≤ s * q ∧ s * q ≤ 9223372036854775807 := by rcases ps with e | e <;> subst e <;> omega
  have b4 : -9223372036854775808 ≤ u * s * q ∧ u * s * q ≤ 9223372036854775807 := by rcases ps with e | e <;> rcases eu with ⟨f, _⟩ | ⟨f, _⟩ <;> subst e <;> subst f <;> omega
  have b5 : -9223372036854775808 ≤ u * s * (n - p) ∧ u * s * (n - p) ≤ 9223372036854775807 := by rcases ps with e | e <;> rcases eu with ⟨f, _⟩ | ⟨f, _⟩ <;> subst e <;> subst f <;> omega
  rw [w64 b1, w64 b2, w64 b3, refMul_eq b2 b4, Option.bind_some, refMul_eq b5 b3, Option.bind_some, ev]
  rw [if_pos (by simp)]
  rcases ps with e | e <;> rcases eu with ⟨f, g⟩ | ⟨f, g⟩ <;> subst e <;> subst f
  · rw [decide_eq_true (show a4 > 0 by omega)]; rfl
  · rw [decide_eq_false (show ¬ a4 > 0 by omega)]; rfl
  · rw [decide_eq_true (show a4 > 0 by omega)]; rfl
  · rw [decide_eq_false (show ¬ a4 > 0 by omega)]; rfl
end Go.Proofs.Ytihklolcnfbbjaa.Pure
