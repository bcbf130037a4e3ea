/- Plain law of slab.Range: where three spans are at once. -/
import Derived.Test.YtihklolcnfbbjaaSlabFun
import Derived.Test.YtihklolcnfbbjaaGx54
import Derived.Test.YtihklolcnfbbjaaGx67
import Derived.Test.YtihklolcnfbbjaaGx65
namespace Go.Proofs.Ytihklolcnfbbjaa.M
open Go.RowKit Go.Proofs.VecMath Go.Proofs.YtihklolcnfbbjaaW.PrintWords
set_option linter.unusedVariables false

def Fr.le (p q : Fr) : Prop := p.n * q.d ≤ q.n * p.d
theorem not_lt_le {p q : Fr} : ¬ q.lt p ↔ p.le q := by unfold Fr.lt Fr.le; omega
theorem lt_le {p q : Fr} (h : p.lt q) : p.le q := by unfold Fr.lt Fr.le at *; omega
theorem le_refl (p : Fr) : p.le p := Int.le_refl _
theorem le_trans {p q r : Fr} (hp : p.right) (hq : q.right) (hr : r.right) (h1 : p.le q) (h2 : q.le r) : p.le r := by
  unfold Fr.le Fr.right at *
  rcases hq with hq | ⟨hq1, hq2⟩
  · have pd : 0 ≤ p.d := by omega
    have rd : 0 ≤ r.d := by omega
    have a := Int.mul_le_mul_of_nonneg_right h1 rd
    have b := Int.mul_le_mul_of_nonneg_right h2 pd
    have c : p.n * r.d * q.d ≤ r.n * p.d * q.d := by
      have e1 : p.n * q.d * r.d = p.n * r.d * q.d := by grind
      have e2 : q.n * p.d * r.d = q.n * r.d * p.d := by grind
      have e3 : r.n * q.d * p.d = r.n * p.d * q.d := by grind
      omega
    exact Int.le_of_mul_le_mul_right c hq
  · rw [hq1, hq2] at h2
    have hd : r.d = 0 := by omega
    have hn : r.n = 1 := by omega
    rw [hd, hn]
    omega

theorem mx_left {a b : Fr} (ra : a.right) (rb : b.right) : a.le (mxF a b) := by
  unfold mxF
  split
  · exact lt_le ‹_›
  · exact le_refl _
theorem mx_right {a b : Fr} : b.le (mxF a b) := by
  unfold mxF
  split
  · exact le_refl _
  · exact not_lt_le.mp ‹_›
theorem mn_left {a b : Fr} : (mnF a b).le a := by
  unfold mnF
  split
  · exact lt_le ‹_›
  · exact le_refl _
theorem mn_right {a b : Fr} : (mnF a b).le b := by
  unfold mnF
  split
  · exact le_refl _
  · exact not_lt_le.mp ‹_›
theorem mx_le {a b c : Fr} (h1 : a.le c) (h2 : b.le c) : (mxF a b).le c := by unfold mxF; split <;> assumption
theorem le_mn {a b c : Fr} (h1 : c.le a) (h2 : c.le b) : c.le (mnF a b) := by unfold mnF; split <;> assumption
theorem le_inf {a : Fr} (h : a.right) : a.le infF := by
  unfold Fr.le infF Fr.right at *
  dsimp only
  omega

theorem cut_mem {s1 s2 s3 : Option (Fr × Fr)} {p1 q1 p2 q2 p3 q3 T : Fr} (h1 : s1 = some (p1, q1)) (h2 : s2 = some (p2, q2)) (h3 : s3 = some (p3, q3)) (m1 : p1.sm ∧ q1.sm) (m2 : p2.sm ∧ q2.sm) (m3 : p3.sm ∧ q3.sm)
    (hT : T.right) (z : zeroF.le T) (a1 : p1.le T) (b1 : T.le q1) (a2 : p2.le T) (b2 : T.le q2) (a3 : p3.le T) (b3 : T.le q3) :
    ∃ lo hi : Fr, cut3 s1 s2 s3 = some (lo, hi) ∧ lo.sm ∧ hi.sm ∧ lo.le T ∧ T.le hi := by
  refine ⟨mxF (mxF (mxF zeroF p1) p2) p3, mnF (mnF (mnF infF q1) q2) q3, ?_, mx_sm (mx_sm (mx_sm zero_sm m1.1) m2.1) m3.1, mn_sm (mn_sm (mn_sm inf_sm m1.2) m2.2) m3.2, mx_le (mx_le (mx_le z a1) a2) a3, le_mn (le_mn (le_mn (le_inf hT) b1) b2) b3⟩
  rw [h1, h2, h3]
  unfold cut3
  dsimp only
  rw [if_neg (not_lt_le.mpr (le_trans (mx_sm (mx_sm (mx_sm zero_sm m1.1) m2.1) m3.1).1 hT (mn_sm (mn_sm (mn_sm inf_sm m1.2) m2.2) m3.2).1 (mx_le (mx_le (mx_le z a1) a2) a3) (le_mn (le_mn (le_mn (le_inf hT) b1) b2) b3)))]

theorem cut_of {s1 s2 s3 : Option (Fr × Fr)} {lo hi : Fr} (m1 : ∀ p q, s1 = some (p, q) → p.sm ∧ q.sm) (m2 : ∀ p q, s2 = some (p, q) → p.sm ∧ q.sm) (m3 : ∀ p q, s3 = some (p, q) → p.sm ∧ q.sm) (h : cut3 s1 s2 s3 = some (lo, hi)) :
    lo.sm ∧ hi.sm ∧ zeroF.le lo ∧ lo.le hi ∧ ∃ p1 q1 p2 q2 p3 q3 : Fr, s1 = some (p1, q1) ∧ s2 = some (p2, q2) ∧ s3 = some (p3, q3) ∧ p1.le lo ∧ hi.le q1 ∧ p2.le lo ∧ hi.le q2 ∧ p3.le lo ∧ hi.le q3 ∧
      lo = mxF (mxF (mxF zeroF p1) p2) p3 ∧ hi = mnF (mnF (mnF infF q1) q2) q3 := by
  unfold cut3 at h
  rcases s1 with _ | ⟨p1, q1⟩
  · cases h
  rcases s2 with _ | ⟨p2, q2⟩
  · cases h
  rcases s3 with _ | ⟨p3, q3⟩
  · cases h
  dsimp only at h
  by_cases c : (mnF (mnF (mnF infF q1) q2) q3).lt (mxF (mxF (mxF zeroF p1) p2) p3)
  · rw [if_pos c] at h
    cases h
  · rw [if_neg c] at h
    simp only [Option.some.injEq, Prod.mk.injEq] at h
    obtain ⟨rfl, rfl⟩ := h
    have m1 := m1 _ _ rfl
    have m2 := m2 _ _ rfl
    have m3 := m3 _ _ rfl
    have A1 := mx_sm zero_sm m1.1
    have A2 := mx_sm A1 m2.1
    have A3 := mx_sm A2 m3.1
    have B1 := mn_sm inf_sm m1.2
    have B2 := mn_sm B1 m2.2
    have B3 := mn_sm B2 m3.2
    have x2 := mx_left A2.1 m3.1.1
    have x1 := le_trans A1.1 A2.1 A3.1 (mx_left A1.1 m2.1.1) x2
    have x0 := le_trans zero_sm.1 A1.1 A3.1 (mx_left zero_sm.1 m1.1.1) x1
    have y2 : (mnF (mnF (mnF infF q1) q2) q3).le (mnF (mnF infF q1) q2) := mn_left
    have y1 := le_trans B3.1 B2.1 B1.1 y2 mn_left
    exact ⟨A3, B3, x0, not_lt_le.mp c, p1, q1, p2, q2, p3, q3, rfl, rfl, rfl, le_trans m1.1.1 A1.1 A3.1 mx_right x1, le_trans B3.1 B1.1 m1.2.1 y1 mn_right,
      le_trans m2.1.1 A2.1 A3.1 mx_right x2, le_trans B3.1 B2.1 m2.2.1 y2 mn_right, mx_right, mn_right, rfl, rfl⟩

/-- A wider span. -/
theorem span_wider {f s l h l' h' : Int} (a : l' ≤ l) (b : h ≤ h') {p q T : Fr} (hT : T.right) (e : spanO f s l h = some (p, q)) (hp : p.le T) (hq : T.le q) : ∃ p' q', spanO f s l' h' = some (p', q') ∧ p'.le T ∧ T.le q' := by
  have td : 0 ≤ T.d := by unfold Fr.right at hT; omega
  rcases span_cases f s l h with c | ⟨s0, c, i1, i2⟩ | ⟨s0, lh, c⟩ | ⟨s0, lh, c⟩
  · rw [c] at e
    cases e
  all_goals
    rw [c] at e
    simp only [Option.some.injEq, Prod.mk.injEq] at e
    obtain ⟨rfl, rfl⟩ := e
  · refine ⟨_, _, ?_, hp, hq⟩
    unfold spanO spanP
    rw [if_neg (by omega), if_neg (by omega), if_pos s0]
  · refine ⟨⟨l' - f, s⟩, ⟨h' - f, s⟩, ?_, ?_, ?_⟩
    · unfold spanO spanP
      rw [if_neg (by omega), if_neg (by omega), if_neg (by omega)]
    · unfold Fr.le at *
      dsimp only at *
      have := Int.mul_le_mul_of_nonneg_right (show l' - f ≤ l - f by omega) td
      omega
    · unfold Fr.le at *
      dsimp only at *
      have := Int.mul_le_mul_of_nonneg_right (show h - f ≤ h' - f by omega) td
      omega
  · refine ⟨⟨f - h', -s⟩, ⟨f - l', -s⟩, ?_, ?_, ?_⟩
    · unfold spanO spanP
      rw [if_pos (by omega), if_neg (by omega), if_neg (by omega), show -h' - -f = f - h' by omega, show -l' - -f = f - l' by omega]
    · unfold Fr.le at *
      dsimp only at *
      have := Int.mul_le_mul_of_nonneg_right (show f - h' ≤ f - h by omega) td
      omega
    · unfold Fr.le at *
      dsimp only at *
      have := Int.mul_le_mul_of_nonneg_right (show f - l ≤ f - l' by omega) td
      omega

theorem rangeS_ok {o d l h : Vec} (k : okS o d l h) : rangeS o d l h = packE (cut3 (spanO o.x d.x l.x h.x) (spanO o.y d.y l.y h.y) (spanO o.z d.z l.z h.z)) := by unfold rangeS; rw [if_pos k]
theorem rangeS_no {o d l h : Vec} (k : ¬ okS o d l h) : rangeS o d l h = (0, 0, 0, 0, false, 21) := by unfold rangeS; rw [if_neg k]
theorem packE_e (x : Option (Fr × Fr)) : (packE x).2.2.2.2.2 = 0 := by rcases x with _ | ⟨p, q⟩ <;> rfl

/-- The three spans of a box. -/
def cutV (o d l h : Vec) : Option (Fr × Fr) := cut3 (spanO o.x d.x l.x h.x) (spanO o.y d.y l.y h.y) (spanO o.z d.z l.z h.z)
theorem range_cases (o d l h : Vec) : (¬ okS o d l h ∧ rangeS o d l h = (0, 0, 0, 0, false, 21)) ∨ (okS o d l h ∧ cutV o d l h = none ∧ rangeS o d l h = (0, 0, 0, 0, false, 0)) ∨
    (okS o d l h ∧ ∃ lo hi, cutV o d l h = some (lo, hi) ∧ rangeS o d l h = (lo.n, lo.d, hi.n, hi.d, true, 0)) := by
  by_cases k : okS o d l h
  · rw [rangeS_ok k]
    rcases e : cutV o d l h with _ | ⟨p, q⟩
    · refine Or.inr (Or.inl ⟨k, rfl, ?_⟩)
      unfold cutV at e
      rw [e]
      rfl
    · refine Or.inr (Or.inr ⟨k, p, q, rfl, ?_⟩)
      unfold cutV at e
      rw [e]
      rfl
  · exact Or.inl ⟨k, rangeS_no k⟩

theorem cutV_of {o d l h : Vec} (k : okS o d l h) {lo hi : Fr} (e : cutV o d l h = some (lo, hi)) :
    lo.sm ∧ hi.sm ∧ zeroF.le lo ∧ lo.le hi ∧ ∃ p1 q1 p2 q2 p3 q3 : Fr, spanO o.x d.x l.x h.x = some (p1, q1) ∧ spanO o.y d.y l.y h.y = some (p2, q2) ∧ spanO o.z d.z l.z h.z = some (p3, q3) ∧ p1.le lo ∧ hi.le q1 ∧ p2.le lo ∧ hi.le q2 ∧ p3.le lo ∧ hi.le q3 ∧
      lo = mxF (mxF (mxF zeroF p1) p2) p3 ∧ hi = mnF (mnF (mnF infF q1) q2) q3 := by
  obtain ⟨_, ⟨ox, oy, oz⟩, ⟨dx, dy, dz⟩, ⟨lx, ly, lz⟩, hx, hy, hz⟩ := k
  exact cut_of (fun p q e => span_sm ox dx lx hx e) (fun p q e => span_sm oy dy ly hy e) (fun p q e => span_sm oz dz lz hz e) e

theorem cutV_mem {o d l h : Vec} (k : okS o d l h) {p1 q1 p2 q2 p3 q3 T : Fr} (h1 : spanO o.x d.x l.x h.x = some (p1, q1)) (h2 : spanO o.y d.y l.y h.y = some (p2, q2)) (h3 : spanO o.z d.z l.z h.z = some (p3, q3))
    (hT : T.right) (z : zeroF.le T) (a1 : p1.le T) (b1 : T.le q1) (a2 : p2.le T) (b2 : T.le q2) (a3 : p3.le T) (b3 : T.le q3) :
    ∃ lo hi : Fr, cutV o d l h = some (lo, hi) ∧ lo.sm ∧ hi.sm ∧ lo.le T ∧ T.le hi := by
  obtain ⟨_, ⟨ox, oy, oz⟩, ⟨dx, dy, dz⟩, ⟨lx, ly, lz⟩, hx, hy, hz⟩ := k
  exact cut_mem h1 h2 h3 (span_sm ox dx lx hx h1) (span_sm oy dy ly hy h2) (span_sm oz dz lz hz h3) hT z a1 b1 a2 b2 a3 b3

theorem order_sm (k : Nat) {p q : Fr} (hp : p.sm) (hq : q.sm) : G.wide_Order.f (k + 4) p.n p.d q.n q.d = some (sg (p.n * q.d - q.n * p.d), true) := order_eq k p q hp.ok.2 hq.ok.2 hp.1 hq.1
theorem sg_le {p q : Fr} : sg (p.n * q.d - q.n * p.d) ≤ 0 ↔ p.le q := by
  unfold sg Fr.le
  repeat' split
  all_goals omega

theorem aliveSlab_at (k : Nat) : G.relievolaw04_alive.f (k + 8) = some true := by
  unfold G.relievolaw04_alive.f
  rw [range_eq k ⟨0, 0, 0⟩ ⟨2, 0, 0⟩ ⟨3, 0, 0⟩ ⟨5, 1, 1⟩]
  rfl
end Go.Proofs.Ytihklolcnfbbjaa.M
