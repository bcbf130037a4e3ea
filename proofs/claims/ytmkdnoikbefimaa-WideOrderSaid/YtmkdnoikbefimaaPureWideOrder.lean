/- The order of fractions is turned when both are turned about, hangs on no common factor, and goes on from one to the next: for all ints. -/
import Derived.Test.YtmkdnoikbefimaaGx23
import Derived.Test.YtmkdnoikbefimaaWideAlive
namespace Go.Proofs.Ytmkdnoikbefimaa.Pure
open Go.RowKit Go.Proofs.VecMath Go.Proofs.Ytmkdnoikbefimaa.M Go.Proofs.YtmkdnoikbefimaaW.PrintWords
set_option linter.unusedVariables false
def le (p q : Fr) : Prop := p.n * q.d ≤ q.n * p.d
theorem le_trans {p q r : Fr} (hp : p.right) (hq : q.right) (hr : r.right) (h1 : le p q) (h2 : le q r) : le p r := by
  unfold le Fr.right at *
  rcases hq with hq | ⟨hq1, hq2⟩
  · have pd : 0 ≤ p.d := by omega
    have rd : 0 ≤ r.d := by omega
    have a := Int.mul_le_mul_of_nonneg_right h1 rd
    have b := Int.mul_le_mul_of_nonneg_right h2 pd
    have c : p.n * r.d * q.d ≤ r.n * p.d * q.d := by
      have e1 : p.n * q.d * r.d = p.n * r.d * q.d := by grind
      have e2 : q.n * p.d * r.d = q.n * r.d * p.d := by grind
      have e3 : r.n * q.d * p.d = r.n * p.d * q.d := by grind
      omega
    exact Int.le_of_mul_le_mul_right c hq
  · rw [hq1, hq2] at h2
    have hd : r.d = 0 := by omega
    have hn : r.n = 1 := by omega
    rw [hd, hn]
    omega
theorem sg_le {p q : Fr} : sg (p.n * q.d - q.n * p.d) ≤ 0 ↔ le p q := by
  unfold sg le
  repeat' split
  all_goals omega
theorem sg_ge {p q : Fr} : sg (p.n * q.d - q.n * p.d) ≥ 0 ↔ le q p := by
  unfold sg le
  repeat' split
  all_goals omega
theorem sg_neg' (n : Int) : sg (-n) = -sg n := by
  unfold sg
  repeat' split
  all_goals omega
theorem sg_scale {k n : Int} (h : 0 < k) : sg (k * n) = sg n := by
  unfold sg
  by_cases a : n < 0
  · have := Int.mul_neg_of_pos_of_neg h a
    rw [if_pos this, if_pos a]
  · by_cases b : n > 0
    · have := Int.mul_pos h b
      rw [if_neg (by omega), if_pos this, if_neg a, if_pos b]
    · have : n = 0 := by omega
      rw [this, Int.mul_zero]
def od (p q : Fr) : Int × Bool := if p.right ∧ q.right then (sg (p.n * q.d - q.n * p.d), true) else (0, false)
theorem j1_ok (k : Nat) (p q : Fr) (hp : p.b64) (hq : q.b64) (m : Int) : G.relievolaw01_WideOrder.j1 (k + 5) m (od p q).1 (od p q).2 false p.n p.d q.n q.d = some true := by
  rw [G.relievolaw01_WideOrder.j1, if_neg (by decide)]
  by_cases r : p.right ∧ q.right
  case neg =>
    rw [show (od p q).2 = false by unfold od; rw [if_neg r], if_neg (by decide)]
  rw [show (od p q).2 = true by unfold od; rw [if_pos r], if_pos rfl]
  by_cases c1 : m < 1
  · rw [if_pos c1]
  rw [if_neg c1]
  by_cases c2 : m > 1048576
  · rw [if_pos c2]
  rw [if_neg c2]
  by_cases c3 : p.d < 1
  · rw [if_pos c3]
  rw [if_neg c3]
  by_cases c4 : p.d > 1099511627776
  · rw [if_pos c4]
  rw [if_neg c4]
  by_cases c5 : p.n > 1099511627776
  · rw [if_pos c5]
  rw [if_neg c5]
  by_cases c6 : p.n < (-1099511627776)
  · rw [if_pos c6]
  rw [if_neg c6]
  have x := mulb (x := p.n) (y := m) (A := 1099511627776) (B := 1048576) (by omega) (by omega)
  have y := mulb (x := p.d) (y := m) (A := 1099511627776) (B := 1048576) (by omega) (by omega)
  have yp : 0 < p.d * m := Int.mul_pos (by omega) (by omega)
  have e := order_all (k) ⟨p.n * m, p.d * m⟩ q ⟨by unfold i64b; dsimp only; omega, by unfold i64b; dsimp only; omega⟩ hq
  rw [if_pos (show (Fr.mk (p.n * m) (p.d * m)).right ∧ q.right from ⟨Or.inl yp, r.2⟩)] at e
  dsimp only at e
  rw [w64 (n := p.n * m) (by omega), w64 (n := p.d * m) (by omega), e, Option.bind_some]
  dsimp only
  rw [if_pos rfl, show p.n * m * q.d - q.n * (p.d * m) = m * (p.n * q.d - q.n * p.d) by grind, sg_scale (by omega)]
  unfold od
  rw [if_pos r]
  simp
theorem order_ok (k : Nat) (p q r : Fr) (hp : p.b64) (hq : q.b64) (hr : r.b64) (m : Int) : G.relievolaw01_WideOrder.f (k + 6) p.n p.d q.n q.d r.n r.d m = some true := by
  unfold G.relievolaw01_WideOrder.f
  have e1 : G.wide_Order.f (k + 6) p.n p.d q.n q.d = some (od p q) := order_all (k + 2) p q hp hq
  have e2 : G.wide_Order.f (k + 6) q.n q.d p.n p.d = some (od q p) := order_all (k + 2) q p hq hp
  have e3 : G.wide_Order.f (k + 6) q.n q.d r.n r.d = some (od q r) := order_all (k + 2) q r hq hr
  have e4 : G.wide_Order.f (k + 6) p.n p.d r.n r.d = some (od p r) := order_all (k + 2) p r hp hr
  rw [aliveW_at (k + 2), Option.bind_some, if_pos rfl, e1, Option.bind_some, e2, Option.bind_some, e3, Option.bind_some, e4, Option.bind_some]
  have b : (od p q).2 = (od q p).2 := by
    unfold od
    by_cases c : p.right ∧ q.right
    · rw [if_pos c, if_pos ⟨c.2, c.1⟩]
    · rw [if_neg c, if_neg (fun h => c ⟨h.2, h.1⟩)]
  have a : (od p q).1 = wrap64 (-(od q p).1) := by
    unfold od
    by_cases c : p.right ∧ q.right
    · rw [if_pos c, if_pos ⟨c.2, c.1⟩]
      dsimp only
      rw [← sg_neg', show -(q.n * p.d - p.n * q.d) = p.n * q.d - q.n * p.d by omega]
      have := sg_or (p.n * q.d - q.n * p.d)
      unfold wrap64
      omega
    · rw [if_neg c, if_neg (fun h => c ⟨h.2, h.1⟩)]
      unfold wrap64
      decide
  rw [if_neg (by rw [b]; simp), ← a, bne_self_eq_false, G.relievolaw01_WideOrder.j0, if_neg (by decide)]
  have J := j1_ok k p q hp hq m
  by_cases c1 : (od p q).2 = true
  case neg => rw [if_neg c1, J]
  rw [if_pos c1]
  by_cases c2 : (od q r).2 = true
  case neg => rw [if_neg c2, J]
  rw [if_pos c2]
  have R1 : p.right ∧ q.right := by
    unfold od at c1
    by_cases c : p.right ∧ q.right
    · exact c
    · rw [if_neg c] at c1
      cases c1
  have R2 : q.right ∧ r.right := by
    unfold od at c2
    by_cases c : q.right ∧ r.right
    · exact c
    · rw [if_neg c] at c2
      cases c2
  have c3 : (od p r).2 = true := by unfold od; rw [if_pos ⟨R1.1, R2.2⟩]
  rw [if_pos c3]
  have x : (od p q).1 = sg (p.n * q.d - q.n * p.d) := by unfold od; rw [if_pos R1]
  have y : (od q r).1 = sg (q.n * r.d - r.n * q.d) := by unfold od; rw [if_pos R2]
  have z : (od p r).1 = sg (p.n * r.d - r.n * p.d) := by unfold od; rw [if_pos ⟨R1.1, R2.2⟩]
  have up : (od p q).1 ≤ 0 → (od q r).1 ≤ 0 → ¬ (od p r).1 > 0 := by
    rw [x, y, z]
    intro h1 h2
    have := sg_le.2 (le_trans R1.1 R1.2 R2.2 (sg_le.1 h1) (sg_le.1 h2))
    omega
  have dn : (od p q).1 ≥ 0 → (od q r).1 ≥ 0 → ¬ (od p r).1 < 0 := by
    rw [x, y, z]
    intro h1 h2
    have := sg_ge.2 (le_trans R2.2 R1.2 R1.1 (sg_ge.1 h2) (sg_ge.1 h1))
    omega
  by_cases d1 : (od p q).1 ≤ 0
  · rw [if_pos d1]
    by_cases d2 : (od q r).1 ≤ 0
    · rw [if_pos d2, if_neg (up d1 d2)]
      by_cases d3 : (od p q).1 ≥ 0
      · rw [if_pos d3]
        by_cases d4 : (od q r).1 ≥ 0
        · rw [if_pos d4, decide_eq_false (dn d3 d4), J]
        · rw [if_neg d4, J]
      · rw [if_neg d3, J]
    · rw [if_neg d2]
      by_cases d3 : (od p q).1 ≥ 0
      · rw [if_pos d3]
        by_cases d4 : (od q r).1 ≥ 0
        · rw [if_pos d4, decide_eq_false (dn d3 d4), J]
        · rw [if_neg d4, J]
      · rw [if_neg d3, J]
  · rw [if_neg d1]
    by_cases d3 : (od p q).1 ≥ 0
    · rw [if_pos d3]
      by_cases d4 : (od q r).1 ≥ 0
      · rw [if_pos d4, decide_eq_false (dn d3 d4), J]
      · rw [if_neg d4, J]
    · rw [if_neg d3, J]

theorem WideOrder (a0_0 a0_1 a1_0 a1_1 a2_0 a2_1 a3 : Int) (_b0_0 : -9223372036854775808 ≤ a0_0 ∧ a0_0 ≤ 9223372036854775807) (_b0_1 : -9223372036854775808 ≤ a0_1 ∧ a0_1 ≤ 9223372036854775807) (_b1_0 : -9223372036854775808 ≤ a1_0 ∧ a1_0 ≤ 9223372036854775807) (_b1_1 : -9223372036854775808 ≤ a1_1 ∧ a1_1 ≤ 9223372036854775807) (_b2_0 : -9223372036854775808 ≤ a2_0 ∧ a2_0 ≤ 9223372036854775807) (_b2_1 : -9223372036854775808 ≤ a2_1 ∧ a2_1 ≤ 9223372036854775807) (_b3 : -9223372036854775808 ≤ a3 ∧ a3 ≤ 9223372036854775807) :
    ∃ k, G.relievolaw01_WideOrder.f k a0_0 a0_1 a1_0 a1_1 a2_0 a2_1 a3 = some true := by
  exact ⟨6, order_ok 0 ⟨a0_0, a0_1⟩ ⟨a1_0, a1_1⟩ ⟨a2_0, a2_1⟩ ⟨_b0_0, _b0_1⟩ ⟨_b1_0, _b1_1⟩ ⟨_b2_0, _b2_1⟩ a3⟩
end Go.Proofs.Ytmkdnoikbefimaa.Pure
