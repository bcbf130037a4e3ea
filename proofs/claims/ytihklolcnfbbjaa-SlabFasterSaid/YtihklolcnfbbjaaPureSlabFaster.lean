/- A ray that is so many times faster is in a box so many times sooner: for all ints. -/
import Derived.Test.YtihklolcnfbbjaaGx62
import Derived.Test.YtihklolcnfbbjaaSlabThm
namespace Go.Proofs.Ytihklolcnfbbjaa.Pure
open Go.RowKit Go.Proofs.VecMath Go.Proofs.Ytihklolcnfbbjaa.M Go.Proofs.YtihklolcnfbbjaaW.PrintWords
set_option linter.unusedVariables false


def RF (k : Int) (p q : Fr) : Prop := 0 < p.d ∧ 0 < q.d ∧ p.n * q.d = k * q.n * p.d
def RK (k : Int) (p q : Fr) : Prop := (p = infF ∧ q = infF) ∨ RF k p q
theorem rk_lt {k : Int} (hk : 0 < k) {p q u v : Fr} (a : RK k p q) (b : RK k u v) : p.lt u ↔ q.lt v := by
  rcases a with ⟨rfl, rfl⟩ | ⟨a1, a2, a3⟩ <;> rcases b with ⟨rfl, rfl⟩ | ⟨b1, b2, b3⟩
  · exact Iff.rfl
  · unfold Fr.lt infF
    dsimp only
    omega
  · unfold Fr.lt infF
    dsimp only
    omega
  · unfold Fr.lt
    have m1 := Int.mul_pos a2 b2
    have m2 := Int.mul_pos hk (Int.mul_pos a1 b1)
    have e1 : p.n * u.d * (q.d * v.d) = q.n * v.d * (k * (p.d * u.d)) := by
      have : p.n * u.d * (q.d * v.d) = p.n * q.d * (u.d * v.d) := by grind
      rw [this, a3]
      grind
    have e2 : u.n * p.d * (q.d * v.d) = v.n * q.d * (k * (p.d * u.d)) := by
      have : u.n * p.d * (q.d * v.d) = u.n * v.d * (p.d * q.d) := by grind
      rw [this, b3]
      grind
    constructor
    · intro h
      have := Int.mul_lt_mul_of_pos_right h m1
      rw [e1, e2] at this
      exact Int.lt_of_mul_lt_mul_right this (Int.le_of_lt m2)
    · intro h
      have := Int.mul_lt_mul_of_pos_right h m2
      rw [← e1, ← e2] at this
      exact Int.lt_of_mul_lt_mul_right this (Int.le_of_lt m1)
theorem rf_mx {k : Int} (hk : 0 < k) {p q u v : Fr} (a : RF k p q) (b : RF k u v) : RF k (mxF p u) (mxF q v) := by
  unfold mxF
  by_cases h : p.lt u
  · rw [if_pos h, if_pos ((rk_lt hk (Or.inr a) (Or.inr b)).mp h)]
    exact b
  · rw [if_neg h, if_neg (fun q => h ((rk_lt hk (Or.inr a) (Or.inr b)).mpr q))]
    exact a
theorem rk_mn {k : Int} (hk : 0 < k) {p q u v : Fr} (a : RK k p q) (b : RK k u v) : RK k (mnF p u) (mnF q v) := by
  unfold mnF
  by_cases h : u.lt p
  · rw [if_pos h, if_pos ((rk_lt hk b a).mp h)]
    exact b
  · rw [if_neg h, if_neg (fun q => h ((rk_lt hk b a).mpr q))]
    exact a
def RO (k : Int) (x y : Option (Fr × Fr)) : Prop := (x = none ∧ y = none) ∨ ∃ p q p' q', x = some (p, q) ∧ y = some (p', q') ∧ RF k p p' ∧ RK k q q'
theorem span_faster {k : Int} (hk : 0 < k) (f s l h : Int) : RO k (spanO f s l h) (spanO f (s * k) l h) := by
  by_cases h0 : s = 0
  · rw [h0, Int.zero_mul]
    rcases span_cases f 0 l h with c | ⟨s0, c, i1, i2⟩ | ⟨s0, lh, c⟩ | ⟨s0, lh, c⟩
    · exact Or.inl ⟨c, c⟩
    · exact Or.inr ⟨_, _, _, _, c, c, ⟨by decide, by decide, by unfold zeroF; simp⟩, Or.inl ⟨rfl, rfl⟩⟩
    · omega
    · omega
  · unfold spanO
    by_cases h1 : s < 0
    · have h2 : s * k < 0 := Int.mul_neg_of_neg_of_pos h1 hk
      rw [if_pos h1, if_pos h2]
      unfold spanP
      by_cases c : -h > -l
      · rw [if_pos (Or.inl c), if_pos (Or.inl c)]
        exact Or.inl ⟨rfl, rfl⟩
      · rw [if_neg (by omega), if_neg (by omega), if_neg (by omega), if_neg (by omega)]
        refine Or.inr ⟨_, _, _, _, rfl, rfl, ⟨by dsimp only; omega, by dsimp only; omega, by dsimp only; grind⟩, Or.inr ⟨by dsimp only; omega, by dsimp only; omega, by dsimp only; grind⟩⟩
    · have h2 : 0 < s * k := Int.mul_pos (by omega) hk
      rw [if_neg h1, if_neg (by omega)]
      unfold spanP
      by_cases c : l > h
      · rw [if_pos (Or.inl c), if_pos (Or.inl c)]
        exact Or.inl ⟨rfl, rfl⟩
      · rw [if_neg (by omega), if_neg (by omega), if_neg (by omega), if_neg (by omega)]
        refine Or.inr ⟨_, _, _, _, rfl, rfl, ⟨by dsimp only; omega, by dsimp only; omega, by dsimp only; grind⟩, Or.inr ⟨by dsimp only; omega, by dsimp only; omega, by dsimp only; grind⟩⟩
theorem cut_faster {k : Int} (hk : 0 < k) {x y z x' y' z' : Option (Fr × Fr)} (a : RO k x x') (b : RO k y y') (c : RO k z z') : RO k (cut3 x y z) (cut3 x' y' z') := by
  rcases a with ⟨rfl, rfl⟩ | ⟨p1, q1, P1, Q1, rfl, rfl, a1, a2⟩
  · exact Or.inl ⟨rfl, rfl⟩
  rcases b with ⟨rfl, rfl⟩ | ⟨p2, q2, P2, Q2, rfl, rfl, b1, b2⟩
  · exact Or.inl ⟨rfl, rfl⟩
  rcases c with ⟨rfl, rfl⟩ | ⟨p3, q3, P3, Q3, rfl, rfl, c1, c2⟩
  · exact Or.inl ⟨rfl, rfl⟩
  have z0 : RF k zeroF zeroF := ⟨by decide, by decide, by unfold zeroF; simp⟩
  have X := rf_mx hk (rf_mx hk (rf_mx hk z0 a1) b1) c1
  have Y := rk_mn hk (rk_mn hk (rk_mn hk (Or.inl ⟨rfl, rfl⟩) a2) b2) c2
  unfold cut3
  dsimp only
  by_cases h : (mnF (mnF (mnF infF q1) q2) q3).lt (mxF (mxF (mxF zeroF p1) p2) p3)
  · rw [if_pos h, if_pos ((rk_lt hk Y (Or.inr X)).mp h)]
    exact Or.inl ⟨rfl, rfl⟩
  · rw [if_neg h, if_neg (fun q => h ((rk_lt hk Y (Or.inr X)).mpr q))]
    exact Or.inr ⟨_, _, _, _, rfl, rfl, X, Y⟩

theorem order_k (n : Nat) {k : Int} (hk : 1 ≤ k ∧ k ≤ 1000) {p q : Fr} (hp : p.sm) (hq : q.sm) (r : RF k p q) : G.wide_Order.f (n + 4) p.n p.d (wrap64 (q.n * k)) q.d = some (0, true) := by
  obtain ⟨r1, r2, r3⟩ := r
  obtain ⟨_, q1, q2, q3, q4⟩ := hq
  have m := mulb (A := 262144) (B := 1000) (x := q.n) (y := k) ⟨by omega, by omega⟩ ⟨by omega, by omega⟩
  rw [w64 (by omega)]
  have O := order_eq n p ⟨q.n * k, q.d⟩ hp.ok.2 ⟨by unfold i64b; dsimp only; omega, by unfold i64b; dsimp only; omega⟩ hp.1 (Or.inl r2)
  dsimp only at O
  have e : p.n * q.d - q.n * k * p.d = 0 := by
    rw [r3]
    grind
  rw [O, e]
  rfl

theorem faster (n : Nat) (o d l h : Vec) (k : Int) : G.relievolaw04_SlabFaster.f (n + 14) o.x o.y o.z d.x d.y d.z l.x l.y l.z h.x h.y h.z k = some true := by
  unfold G.relievolaw04_SlabFaster.f
  rw [aliveSlab_at (n + 6), Option.bind_some, if_pos rfl]
  by_cases k1 : k < 1
  · rw [if_pos k1, G.relievolaw04_SlabFaster.j0, if_pos rfl]
  rw [if_neg k1, G.relievolaw04_SlabFaster.j0]
  by_cases k2 : k > 1000
  · rw [if_pos (decide_eq_true k2)]
  rw [if_neg (by rw [decide_eq_true_eq]; exact k2), range_eq (n + 5), Option.bind_some]
  unfold G.relievoref02_Scale.f
  rw [Option.bind_some]
  dsimp only
  rw [range_eq (n + 5) o ⟨wrap64 (d.x * k), wrap64 (d.y * k), wrap64 (d.z * k)⟩ l h, Option.bind_some]
  have key := fun (ok : okS o d l h) => show RO k (cutV o d l h) (cutV o ⟨wrap64 (d.x * k), wrap64 (d.y * k), wrap64 (d.z * k)⟩ l h) by
    obtain ⟨_, _, ⟨dx, dy, dz⟩, _, _⟩ := ok
    have m1 := mulb (A := 32768) (B := 1000) (x := d.x) (y := k) dx ⟨by omega, by omega⟩
    have m2 := mulb (A := 32768) (B := 1000) (x := d.y) (y := k) dy ⟨by omega, by omega⟩
    have m3 := mulb (A := 32768) (B := 1000) (x := d.z) (y := k) dz ⟨by omega, by omega⟩
    rw [w64 (n := d.x * k) (by omega), w64 (n := d.y * k) (by omega), w64 (n := d.z * k) (by omega)]
    exact cut_faster (by omega) (span_faster (by omega) _ _ _ _) (span_faster (by omega) _ _ _ _) (span_faster (by omega) _ _ _ _)
  rcases range_cases o d l h with ⟨_, e⟩ | ⟨ok, c, e⟩ | ⟨ok, lo, hi, c, e⟩
  · rw [e, if_neg (by decide), G.relievolaw04_SlabFaster.j1, if_pos (by decide)]
  · rcases range_cases o ⟨wrap64 (d.x * k), wrap64 (d.y * k), wrap64 (d.z * k)⟩ l h with ⟨_, e'⟩ | ⟨ok', c', e'⟩ | ⟨ok', lo', hi', c', e'⟩
    · rw [e, e', if_pos rfl, G.relievolaw04_SlabFaster.j1, if_pos (by decide)]
    · rw [e, e', if_pos rfl, G.relievolaw04_SlabFaster.j1, if_neg (by decide), if_neg (by decide), G.relievolaw04_SlabFaster.j2, if_pos (by decide)]
      rfl
    · rcases key ok with ⟨_, q⟩ | ⟨_, _, _, _, q, _⟩
      · rw [c'] at q
        cases q
      · rw [c] at q
        cases q
  · rcases range_cases o ⟨wrap64 (d.x * k), wrap64 (d.y * k), wrap64 (d.z * k)⟩ l h with ⟨_, e'⟩ | ⟨ok', c', e'⟩ | ⟨ok', lo', hi', c', e'⟩
    · rw [e, e', if_pos rfl, G.relievolaw04_SlabFaster.j1, if_pos (by decide)]
    · rcases key ok with ⟨q, _⟩ | ⟨_, _, _, _, _, q, _⟩
      · rw [c] at q
        cases q
      · rw [c'] at q
        cases q
    · obtain ⟨sl, sh, _⟩ := cutV_of ok c
      obtain ⟨sl', sh', _⟩ := cutV_of ok' c'
      rcases key ok with ⟨q, _⟩ | ⟨p1, q1, p2, q2, x1, x2, rl, rh⟩
      · rw [c] at q
        cases q
      rw [c] at x1
      rw [c'] at x2
      simp only [Option.some.injEq, Prod.mk.injEq] at x1 x2
      obtain ⟨rfl, rfl⟩ := x1
      obtain ⟨rfl, rfl⟩ := x2
      rw [e, e', if_pos rfl, G.relievolaw04_SlabFaster.j1, if_neg (by first | decide | (dsimp only; decide) | (simp; done)), if_neg (by first | decide | (dsimp only; decide) | (simp; done)), G.relievolaw04_SlabFaster.j2, if_neg (by first | decide | (dsimp only; decide) | (simp; done))]
      dsimp only
      rw [order_k (n + 7) ⟨by omega, by omega⟩ sl sl' rl, Option.bind_some]
      rcases rh with ⟨i1, i2⟩ | rh
      · rw [i1, i2]
        rfl
      · have g := rh
        obtain ⟨g1, g2, _⟩ := g
        rw [if_neg (by omega), if_neg (by omega), order_k (n + 7) ⟨by omega, by omega⟩ sh sh' rh, Option.bind_some, if_pos rfl]
        rfl

theorem SlabFaster (a0_0 a0_1 a0_2 a1_0 a1_1 a1_2 a2_0 a2_1 a2_2 a2_3 a2_4 a2_5 a3 : Int) (_b0_0 : -9223372036854775808 ≤ a0_0 ∧ a0_0 ≤ 9223372036854775807) (_b0_1 : -9223372036854775808 ≤ a0_1 ∧ a0_1 ≤ 9223372036854775807) (_b0_2 : -9223372036854775808 ≤ a0_2 ∧ a0_2 ≤ 9223372036854775807) (_b1_0 : -9223372036854775808 ≤ a1_0 ∧ a1_0 ≤ 9223372036854775807) (_b1_1 : -9223372036854775808 ≤ a1_1 ∧ a1_1 ≤ 9223372036854775807) (_b1_2 : -9223372036854775808 ≤ a1_2 ∧ a1_2 ≤ 9223372036854775807) (_b2_0 : -9223372036854775808 ≤ a2_0 ∧ a2_0 ≤ 9223372036854775807) (_b2_1 : -9223372036854775808 ≤ a2_1 ∧ a2_1 ≤ 9223372036854775807) (_b2_2 : -9223372036854775808 ≤ a2_2 ∧ a2_2 ≤ 9223372036854775807) (_b2_3 : -9223372036854775808 ≤ a2_3 ∧ a2_3 ≤ 9223372036854775807) (_b2_4 : -9223372036854775808 ≤ a2_4 ∧ a2_4 ≤ 9223372036854775807) (_b2_5 : -9223372036854775808 ≤ a2_5 ∧ a2_5 ≤ 9223372036854775807) (_b3 : -9223372036854775808 ≤ a3 ∧ a3 ≤ 9223372036854775807) :
    ∃ k, G.relievolaw04_SlabFaster.f k a0_0 a0_1 a0_2 a1_0 a1_1 a1_2 a2_0 a2_1 a2_2 a2_3 a2_4 a2_5 a3 = some true := by
  exact ⟨14, faster 0 ⟨a0_0, a0_1, a0_2⟩ ⟨a1_0, a1_1, a1_2⟩ ⟨a2_0, a2_1, a2_2⟩ ⟨a2_3, a2_4, a2_5⟩ a3⟩
end Go.Proofs.Ytihklolcnfbbjaa.Pure
