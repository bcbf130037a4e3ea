/- Every Cos, Power, Reflect, Refract and Blend answers what the document says: for all ints (plain laws, put together). -/
import Derived.Test.YtmhnidmbgicgeaaGx5
import Derived.Test.YtmhnidmbgicgeaaGx18
import Derived.Laws.MathBits
import Derived.Test.YtmhnidmbgicgeaaGx14
import Derived.Test.YtmhnidmbgicgeaaGx49
import Derived.Test.YtmhnidmbgicgeaaGx50
import Derived.Test.YtmhnidmbgicgeaaGx51
import Derived.Test.YtmhnidmbgicgeaaGx52
import Derived.Test.YtmhnidmbgicgeaaGx54
import Derived.Test.YtmhnidmbgicgeaaGx55
namespace Go.Proofs.VecMath

structure Vec where
  x : Int
  y : Int
  z : Int

def Vec.in_ (m : Int) (a : Vec) : Prop := (-m ≤ a.x ∧ a.x ≤ m) ∧ (-m ≤ a.y ∧ a.y ≤ m) ∧ (-m ≤ a.z ∧ a.z ≤ m)
instance (m : Int) (a : Vec) : Decidable (a.in_ m) := by unfold Vec.in_; infer_instance
def Vec.zero (a : Vec) : Prop := a.x = 0 ∧ a.y = 0 ∧ a.z = 0
instance (a : Vec) : Decidable a.zero := by unfold Vec.zero; infer_instance

def V0 (o d a b : Vec) : Int :=
  d.x * ((a.y - o.y) * (b.z - o.z) - (a.z - o.z) * (b.y - o.y)) + d.y * ((a.z - o.z) * (b.x - o.x) - (a.x - o.x) * (b.z - o.z)) + d.z * ((a.x - o.x) * (b.y - o.y) - (a.y - o.y) * (b.x - o.x))
def Cx (d a b : Vec) : Int := (a.y - b.y) * d.z - (a.z - b.z) * d.y
def Cy (d a b : Vec) : Int := (a.z - b.z) * d.x - (a.x - b.x) * d.z
def Cz (d a b : Vec) : Int := (a.x - b.x) * d.y - (a.y - b.y) * d.x
def sg (n : Int) : Int := if n < 0 then -1 else if n > 0 then 1 else 0
def lex4 (v x y z : Int) : Int := if sg v = 0 then (if sg x = 0 then (if sg y = 0 then sg z else sg y) else sg x) else sg v
def pS (o d a b : Vec) : Int := lex4 (V0 o d a b) (Cx d a b) (Cy d a b) (Cz d a b)
/-- One number whose sign is the side. -/
def WW (o d a b : Vec) : Int := 1329227995784915872903807060280344576 * V0 o d a b + 1208925819614629174706176 * Cx d a b + 1099511627776 * Cy d a b + Cz d a b
def NX (a b c : Vec) : Int := (b.y - a.y) * (c.z - a.z) - (b.z - a.z) * (c.y - a.y)
def NY (a b c : Vec) : Int := (b.z - a.z) * (c.x - a.x) - (b.x - a.x) * (c.z - a.z)
def NZ (a b c : Vec) : Int := (b.x - a.x) * (c.y - a.y) - (b.y - a.y) * (c.x - a.x)
def num (o a b c : Vec) : Int := NX a b c * (a.x - o.x) + NY a b c * (a.y - o.y) + NZ a b c * (a.z - o.z)
def den (d a b c : Vec) : Int := NX a b c * d.x + NY a b c * d.y + NZ a b c * d.z

theorem mulb {x y A B : Int} (hx : -A ≤ x ∧ x ≤ A) (hy : -B ≤ y ∧ y ≤ B) : -(A * B) ≤ x * y ∧ x * y ≤ A * B := by
  obtain ⟨a, b⟩ := hx
  obtain ⟨c, d⟩ := hy
  have h1 := Int.mul_nonneg (show 0 ≤ A - x by omega) (show 0 ≤ B - y by omega)
  have h2 := Int.mul_nonneg (show 0 ≤ A + x by omega) (show 0 ≤ B + y by omega)
  have h3 := Int.mul_nonneg (show 0 ≤ A - x by omega) (show 0 ≤ B + y by omega)
  have h4 := Int.mul_nonneg (show 0 ≤ A + x by omega) (show 0 ≤ B - y by omega)
  constructor <;> grind

theorem sg_pos {n : Int} : sg n = 1 ↔ 0 < n := by unfold sg; split <;> (try split) <;> constructor <;> intro h <;> omega
theorem sg_neg {n : Int} : sg n = -1 ↔ n < 0 := by unfold sg; split <;> (try split) <;> constructor <;> intro h <;> omega
theorem sg_zero {n : Int} : sg n = 0 ↔ n = 0 := by unfold sg; split <;> (try split) <;> constructor <;> intro h <;> omega
theorem sg_or (n : Int) : sg n = -1 ∨ sg n = 0 ∨ sg n = 1 := by unfold sg; split <;> (try split) <;> simp

/-- The lexical sign is the sign of one number. -/
theorem lex_sg {v x y z : Int} (hx : -17179869184 ≤ x ∧ x ≤ 17179869184) (hy : -17179869184 ≤ y ∧ y ≤ 17179869184) (hz : -17179869184 ≤ z ∧ z ≤ 17179869184) :
    lex4 v x y z = sg (1329227995784915872903807060280344576 * v + 1208925819614629174706176 * x + 1099511627776 * y + z) := by
  unfold lex4 sg
  split <;> split <;> (try split) <;> (try split) <;> (try split) <;> (try split) <;> (try split) <;> (try split) <;> omega

theorem sub_in {a b : Vec} {m n : Int} (ha : a.in_ m) (hb : b.in_ n) : (-(m + n) ≤ a.x - b.x ∧ a.x - b.x ≤ m + n) ∧ (-(m + n) ≤ a.y - b.y ∧ a.y - b.y ≤ m + n) ∧ (-(m + n) ≤ a.z - b.z ∧ a.z - b.z ≤ m + n) := by
  unfold Vec.in_ at *
  omega

theorem C_in {d a b : Vec} (hd : d.in_ 32768) (ha : a.in_ 65536) (hb : b.in_ 65536) :
    (-8589934592 ≤ Cx d a b ∧ Cx d a b ≤ 8589934592) ∧ (-8589934592 ≤ Cy d a b ∧ Cy d a b ≤ 8589934592) ∧ (-8589934592 ≤ Cz d a b ∧ Cz d a b ≤ 8589934592) := by
  obtain ⟨sx, sy, sz⟩ := sub_in ha hb
  obtain ⟨dx, dy, dz⟩ := hd
  have h1 := mulb sy dz
  have h2 := mulb sz dy
  have h3 := mulb sz dx
  have h4 := mulb sx dz
  have h5 := mulb sx dy
  have h6 := mulb sy dx
  unfold Cx Cy Cz
  omega

theorem pS_sg {o d a b : Vec} (hd : d.in_ 32768) (ha : a.in_ 65536) (hb : b.in_ 65536) : pS o d a b = sg (WW o d a b) := by
  obtain ⟨h1, h2, h3⟩ := C_in hd ha hb
  unfold pS WW
  exact lex_sg (by omega) (by omega) (by omega)

theorem WW_anti (o d a b : Vec) : WW o d b a = -WW o d a b := by
  unfold WW V0 Cx Cy Cz
  grind
theorem WW_sum (o d a b c : Vec) : WW o d a b + WW o d b c + WW o d c a = 1329227995784915872903807060280344576 * den d a b c := by
  unfold WW V0 Cx Cy Cz den NX NY NZ
  grind
end Go.Proofs.VecMath

namespace Go.Proofs.Ytmhnidmbgicgeaa.M
open Go.RowKit Go.Proofs.VecMath Go.Proofs.YtmhnidmbgicgeaaW.PrintWords
set_option linter.unusedVariables false

theorem w64 {n : Int} (h : -9223372036854775808 ≤ n ∧ n ≤ 9223372036854775807) : wrap64 n = n := by
  unfold wrap64
  omega

theorem within_eq (x y z m : Int) (h0 : 0 ≤ m) (h1 : m ≤ 4611686018427387904) : G.vec_Within.f x y z m = some (decide ((⟨x, y, z⟩ : Vec).in_ m)) := by
  unfold G.vec_Within.f
  rw [w64 (by omega)]
  unfold mn mx Vec.in_
  dsimp only
  by_cases h : (-m ≤ x ∧ x ≤ m) ∧ (-m ≤ y ∧ y ≤ m) ∧ (-m ≤ z ∧ z ≤ m)
  · rw [decide_eq_true h]
    obtain ⟨⟨a, b⟩, ⟨c, d⟩, e, f⟩ := h
    repeat' split
    all_goals first | omega | (simp only [Option.some.injEq, decide_eq_true_eq]; omega)
  · rw [decide_eq_false h]
    repeat' split
    all_goals first | rfl | (simp only [Option.some.injEq, decide_eq_false_iff_not]; omega)
end Go.Proofs.Ytmhnidmbgicgeaa.M

namespace Go.Proofs.Ytmhnidmbgicgeaa.M
open Go.RowKit Go.Proofs.VecMath Go.Proofs.YtmhnidmbgicgeaaW.PrintWords
set_option linter.unusedVariables false
theorem alive_80 : G.relievolaw19_alive.f 80 = some true := by kernel_rfl
theorem alive_at : ∀ k, G.relievolaw19_alive.f (k + 80) = some true
  | 0 => alive_80
  | k + 1 => by
    rw [show k + 1 + 80 = k + 80 + 1 by omega]
    exact G.relievolaw19_alive.mono (k + 80) true (alive_at k)
def pw (c : Int) : Nat → Int → Int
  | 0, p => p
  | r + 1, p => pw c r (p * c / 256)
theorem step_in {c p : Int} (hc : 0 ≤ c ∧ c ≤ 256) (hp : 0 ≤ p ∧ p ≤ 256) : 0 ≤ p * c / 256 ∧ p * c / 256 ≤ p := by
  have h1 := Int.mul_nonneg hp.1 hc.1
  have h2 := Int.mul_le_mul_of_nonneg_left hc.2 hp.1
  omega
theorem pw_in {c : Int} (hc : 0 ≤ c ∧ c ≤ 256) : ∀ (r : Nat) (p : Int), 0 ≤ p ∧ p ≤ 256 → 0 ≤ pw c r p ∧ pw c r p ≤ 256
  | 0, p, hp => hp
  | r + 1, p, hp => by
    have h := step_in hc hp
    exact pw_in hc r _ ⟨h.1, by omega⟩
theorem pw_last (c : Int) : ∀ (r : Nat) (p : Int), pw c (r + 1) p = pw c r p * c / 256
  | 0, p => rfl
  | r + 1, p => by
    rw [pw, pw_last c r]
    rfl
theorem power_loop {c : Int} (hc : 0 ≤ c ∧ c ≤ 256) : ∀ (r k : Nat) (p j : Int), 0 ≤ p ∧ p ≤ 256 → 0 ≤ j → j + r ≤ 64 → G.light_Power.l0 (k + r + 1) c p (j + r) j = some (pw c r p)
  | 0, k, p, j, hp, hj, h => by
    rw [G.light_Power.l0, if_neg (by omega)]
    rfl
  | r + 1, k, p, j, hp, hj, h => by
    have hs := step_in hc hp
    have h1 := Int.mul_nonneg hp.1 hc.1
    have h2 := Int.mul_le_mul_of_nonneg_left hc.2 hp.1
    rw [show k + (r + 1) + 1 = (k + r + 1) + 1 by omega, G.light_Power.l0, if_pos (by omega), w64 (n := p * c) (by omega), w64 (n := j + 1) (by omega)]
    rw [show j + ((r + 1 : Nat) : Int) = j + 1 + (r : Int) by omega]
    exact power_loop hc r k _ (j + 1) ⟨hs.1, by omega⟩ (by omega) (by omega)
theorem power_eq (k : Nat) {c n : Int} (hc : 0 ≤ c ∧ c ≤ 256) (hn : 1 ≤ n ∧ n ≤ 64) : G.light_Power.f (k + 67) c n = some (pw c n.toNat 256) := by
  unfold G.light_Power.f
  rw [if_neg (by omega), if_neg (by omega), if_neg (by omega), decide_eq_false (by omega), G.light_Power.j0, if_neg (by decide)]
  have h := power_loop hc n.toNat (k + 65 - n.toNat) 256 0 (by omega) (by omega) (by omega)
  rw [show k + 65 - n.toNat + n.toNat + 1 = k + 66 by omega, show (0 : Int) + (n.toNat : Int) = n by omega] at h
  exact h
end Go.Proofs.Ytmhnidmbgicgeaa.M

namespace Go.Proofs.Ytmhnidmbgicgeaa.M
open Go.RowKit Go.Proofs.VecMath Go.Proofs.YtmhnidmbgicgeaaW.PrintWords
set_option linter.unusedVariables false

theorem dot_eq {x y z x1 y1 z1 m n : Int} (ha : (⟨x, y, z⟩ : Vec).in_ m) (hb : (⟨x1, y1, z1⟩ : Vec).in_ n) (h : m * n ≤ 3074457345618258602) :
    G.vec_Dot.f x y z x1 y1 z1 = some (x * x1 + y * y1 + z * z1) := by
  obtain ⟨a1, a2, a3⟩ := ha
  obtain ⟨b1, b2, b3⟩ := hb
  dsimp only at *
  have h1 := mulb a1 b1
  have h2 := mulb a2 b2
  have h3 := mulb a3 b3
  unfold G.vec_Dot.f
  rw [w64 (n := x * x1) (by omega), w64 (n := y * y1) (by omega), w64 (n := z * z1) (by omega)]
  rw [w64 (n := x * x1 + y * y1) (by omega), w64 (by omega)]
theorem dot_in {x y z x1 y1 z1 m n : Int} (ha : (⟨x, y, z⟩ : Vec).in_ m) (hb : (⟨x1, y1, z1⟩ : Vec).in_ n) : -(3 * (m * n)) ≤ x * x1 + y * y1 + z * z1 ∧ x * x1 + y * y1 + z * z1 ≤ 3 * (m * n) := by
  obtain ⟨a1, a2, a3⟩ := ha
  obtain ⟨b1, b2, b3⟩ := hb
  dsimp only at *
  have h1 := mulb a1 b1
  have h2 := mulb a2 b2
  have h3 := mulb a3 b3
  omega
/-- The greatest whole number that is no more: Lean's own division, for a divisor above 0. -/
theorem floor_eq {n d : Int} (hd : 0 < d) (hn : -9223372036854775807 ≤ n ∧ n ≤ 9223372036854775807) : G.light_floor.f n d = some (n / d) := by
  unfold G.light_floor.f
  rw [if_neg (by omega)]
  by_cases h : 0 ≤ n
  · have e1 : Int.tdiv n d = n / d := Int.tdiv_eq_ediv_of_nonneg h
    have e2 : 0 ≤ Int.tmod n d := Int.tmod_nonneg d h
    have q0 : 0 ≤ n / d := Int.ediv_nonneg h (by omega)
    have q1 : n / d ≤ n := Int.ediv_le_self d h
    rw [if_neg (by omega), e1, w64 (by omega)]
  · obtain ⟨m, rfl⟩ : ∃ m, n = -m := ⟨-n, by omega⟩
    have hm : 0 ≤ m := by omega
    have e1 : Int.tdiv (-m) d = -(m / d) := by rw [Int.neg_tdiv, Int.tdiv_eq_ediv_of_nonneg hm]
    have e2 : Int.tmod (-m) d = -(m % d) := by rw [Int.neg_tmod, Int.tmod_eq_emod_of_nonneg hm]
    have q0 : 0 ≤ m / d := Int.ediv_nonneg hm (by omega)
    have q1 : m / d ≤ m := Int.ediv_le_self d hm
    have r0 := Int.emod_nonneg m (show d ≠ 0 by omega)
    have r1 := Int.emod_lt_of_pos m hd
    have ed := Int.mul_ediv_add_emod m d
    rw [e1, e2, w64 (n := -(m / d)) (by omega)]
    by_cases c : m % d = 0
    · rw [if_neg (by omega)]
      rw [c, Int.add_zero] at ed
      congr 1
      have : -m = d * (-(m / d)) := by rw [Int.mul_neg, ed]
      have e4 := Int.mul_ediv_cancel_left (-(m / d)) (show d ≠ 0 by omega)
      rw [← this] at e4
      exact e4.symm
    · rw [if_pos (by omega), w64 (by omega)]
      congr 1
      have e3 : -m = (d - m % d) + d * (-(m / d) - 1) := by
        have : d * (-(m / d) - 1) = -(d * (m / d)) - d := by grind
        omega
      have e4 := Int.add_mul_ediv_left (d - m % d) (-(m / d) - 1) (show d ≠ 0 by omega)
      have z : (d - m % d) / d = 0 := Int.ediv_eq_zero_of_lt (by omega) (by omega)
      rw [← e3, z] at e4
      omega
theorem nz_beq (x y z : Int) : (!(x == 0) || (!(y == 0) || (!(z == 0)))) = !decide (⟨x, y, z⟩ : Vec).zero := by
  unfold Vec.zero
  by_cases a : x = 0 <;> by_cases b : y = 0 <;> by_cases c : z = 0 <;> simp [a, b, c]
def fineB (d n : Vec) : Bool := !decide n.zero && (decide (n.in_ 1023) && decide (d.in_ 32768))
theorem fine_eq (d n : Vec) : G.light_fine.f d.x d.y d.z n.x n.y n.z = some (fineB d n) := by
  unfold G.light_fine.f fineB
  rw [nz_beq, within_eq _ _ _ _ (by decide) (by decide), within_eq _ _ _ _ (by decide) (by decide)]
  simp only [Option.bind_some]
  cases decide (Vec.zero ⟨n.x, n.y, n.z⟩) <;> cases decide (Vec.in_ 1023 ⟨n.x, n.y, n.z⟩) <;> rfl
def nn (n : Vec) : Int := n.x * n.x + n.y * n.y + n.z * n.z
def dn (d n : Vec) : Int := d.x * n.x + d.y * n.y + d.z * n.z
theorem sq_nn (x : Int) : 0 ≤ x * x := by
  by_cases h : 0 ≤ x
  · exact Int.mul_nonneg h h
  · have := Int.mul_nonneg (show 0 ≤ -x by omega) (show 0 ≤ -x by omega)
    rwa [Int.neg_mul_neg] at this
theorem sq_pos {x : Int} (h : x ≠ 0) : 0 < x * x := by
  have := sq_nn x
  have := Int.mul_ne_zero h h
  omega
theorem nn_pos {n : Vec} (h : ¬ n.zero) : 0 < nn n := by
  have a := sq_nn n.x
  have b := sq_nn n.y
  have c := sq_nn n.z
  unfold nn
  by_cases p : n.x = 0
  · by_cases q : n.y = 0
    · have r : n.z ≠ 0 := fun r => h ⟨p, q, r⟩
      have := sq_pos r
      omega
    · have := sq_pos q
      omega
  · have := sq_pos p
    omega
/-- A mirrored part, ahead of the cut. -/
def rf (q e d n : Int) : Int := (d * q - 2 * n * e) / q
theorem reflect_no (k : Nat) (d n : Vec) (h : fineB d n = false) : G.light_Reflect.f k d.x d.y d.z n.x n.y n.z = some (0, 0, 0) := by
  unfold G.light_Reflect.f
  rw [fine_eq, h, Option.bind_some, if_neg (by decide)]
theorem fine_of {d n : Vec} (h : fineB d n = true) : ¬ n.zero ∧ n.in_ 1023 ∧ d.in_ 32768 := by
  unfold fineB at h
  simpa using h
theorem part_eq {q e d n : Int} (hq : 0 < q ∧ q ≤ 3139587) (he : -100564992 ≤ e ∧ e ≤ 100564992) (hd : -32768 ≤ d ∧ d ≤ 32768) (hn : -1023 ≤ n ∧ n ≤ 1023) :
    G.light_floor.f (wrap64 (wrap64 (d * q) - wrap64 (wrap64 (2 * n) * e))) q = some (rf q e d n) := by
  have h1 := mulb (A := 32768) (B := 3139587) hd ⟨by omega, hq.2⟩
  have h2 := mulb (x := 2 * n) (A := 2046) (B := 100564992) ⟨by omega, by omega⟩ he
  rw [w64 (n := d * q) (by omega), w64 (n := 2 * n) (by omega), w64 (n := 2 * n * e) (by omega), w64 (by omega), floor_eq hq.1 (by omega)]
  rfl
theorem nn_in {n : Vec} (h : n.in_ 1023) : nn n ≤ 3139587 := (dot_in h h).2
theorem reflect_eq (k : Nat) (d n : Vec) (h : fineB d n = true) : G.light_Reflect.f k d.x d.y d.z n.x n.y n.z = G.vec_Cut.f k (rf (nn n) (dn d n) d.x n.x) (rf (nn n) (dn d n) d.y n.y) (rf (nn n) (dn d n) d.z n.z) 32768 := by
  obtain ⟨h0, h1, h2⟩ := fine_of h
  have q : G.vec_Dot.f n.x n.y n.z n.x n.y n.z = some (nn n) := dot_eq h1 h1 (by decide)
  have e : G.vec_Dot.f d.x d.y d.z n.x n.y n.z = some (dn d n) := dot_eq h2 h1 (by decide)
  have q0 := nn_pos h0
  have q1 := nn_in h1
  have e0 : -100564992 ≤ dn d n ∧ dn d n ≤ 100564992 := dot_in h2 h1
  unfold G.light_Reflect.f
  rw [fine_eq, h, Option.bind_some, if_pos rfl, q, Option.bind_some, e, Option.bind_some, part_eq ⟨q0, q1⟩ e0 h2.1 h1.1, Option.bind_some, part_eq ⟨q0, q1⟩ e0 h2.2.1 h1.2.1, Option.bind_some, part_eq ⟨q0, q1⟩ e0 h2.2.2 h1.2.2, Option.bind_some]
theorem cut_in (k : Nat) (x y z : Int) (h : (⟨x, y, z⟩ : Vec).in_ 32768) : G.vec_Cut.f (k + 1) x y z 32768 = some (x, y, z) := by
  unfold G.vec_Cut.f
  rw [if_neg (by decide), G.vec_Cut.l0, within_eq _ _ _ _ (by decide) (by decide), Option.bind_some, decide_eq_true h, if_pos rfl]
theorem half_in {x B : Int} (hB : 0 ≤ B) (h : -(2 * B) ≤ x ∧ x ≤ 2 * B) : -B ≤ Int.tdiv x 2 ∧ Int.tdiv x 2 ≤ B := by
  by_cases c : 0 ≤ x
  · rw [Int.tdiv_eq_ediv_of_nonneg c]
    omega
  · obtain ⟨y, rfl⟩ : ∃ y, x = -y := ⟨-x, by omega⟩
    rw [Int.neg_tdiv, Int.tdiv_eq_ediv_of_nonneg (show 0 ≤ y by omega)]
    omega
/-- Cut ends, and what it answers is within the bound. -/
theorem cut_ends : ∀ (j : Nat) (B : Int) (k : Nat) (x y z : Int), B = 32768 * 2 ^ j → j ≤ 40 → (⟨x, y, z⟩ : Vec).in_ B → ∃ r : Int × Int × Int, G.vec_Cut.l0 (k + j + 1) 32768 x y z = some r ∧ (⟨r.1, r.2.1, r.2.2⟩ : Vec).in_ 32768
  | 0, B, k, x, y, z, hB, hj, h => by
    have e : B = 32768 := by rw [hB]; rfl
    subst e
    refine ⟨(x, y, z), ?_, h⟩
    rw [G.vec_Cut.l0, within_eq _ _ _ _ (by decide) (by decide), Option.bind_some, decide_eq_true h, if_pos rfl]
  | j + 1, B, k, x, y, z, hB, hj, h => by
    rw [show k + (j + 1) + 1 = (k + j + 1) + 1 by omega, G.vec_Cut.l0, within_eq _ _ _ _ (by decide) (by decide), Option.bind_some]
    by_cases c : (⟨x, y, z⟩ : Vec).in_ 32768
    · rw [decide_eq_true c, if_pos rfl]
      exact ⟨(x, y, z), rfl, c⟩
    · rw [decide_eq_false c, if_neg (by decide)]
      have hp : (2 : Int) ^ (j + 1) = 2 * 2 ^ j := by rw [Int.pow_succ, Int.mul_comm]
      have hb : (2 : Int) ^ j ≤ 2 ^ 40 := by
        have := Nat.pow_le_pow_right (show 0 < 2 by decide) (show j ≤ 40 by omega)
        have e : ((2 ^ j : Nat) : Int) = (2 : Int) ^ j := by simp
        omega
      have h0 : (0 : Int) ≤ 2 ^ j := Int.le_of_lt (Int.pow_pos (by decide))
      rw [hp] at hB
      obtain ⟨a, b, d⟩ := h
      dsimp only at a b d
      have h1 := half_in (x := x) (B := 32768 * 2 ^ j) (by omega) (by omega)
      have h2 := half_in (x := y) (B := 32768 * 2 ^ j) (by omega) (by omega)
      have h3 := half_in (x := z) (B := 32768 * 2 ^ j) (by omega) (by omega)
      rw [w64 (by omega), w64 (by omega), w64 (by omega)]
      exact cut_ends j _ k _ _ _ rfl (by omega) ⟨h1, h2, h3⟩
theorem cut_some (k : Nat) (x y z : Int) (h : (⟨x, y, z⟩ : Vec).in_ 1125899906842624) : ∃ r : Int × Int × Int, G.vec_Cut.f (k + 36) x y z 32768 = some r ∧ (⟨r.1, r.2.1, r.2.2⟩ : Vec).in_ 32768 := by
  unfold G.vec_Cut.f
  rw [if_neg (by decide)]
  exact cut_ends 35 1125899906842624 k x y z (by decide) (by decide) h
theorem rf_in {q e d n : Int} (hq : 0 < q ∧ q ≤ 3139587) (he : -100564992 ≤ e ∧ e ≤ 100564992) (hd : -32768 ≤ d ∧ d ≤ 32768) (hn : -1023 ≤ n ∧ n ≤ 1023) : -1125899906842624 ≤ rf q e d n ∧ rf q e d n ≤ 1125899906842624 := by
  have h1 := mulb (A := 32768) (B := 3139587) hd ⟨by omega, hq.2⟩
  have h2 := mulb (x := 2 * n) (A := 2046) (B := 100564992) ⟨by omega, by omega⟩ he
  have ht : -400000000000 ≤ d * q - 2 * n * e ∧ d * q - 2 * n * e ≤ 400000000000 := by omega
  unfold rf
  generalize d * q - 2 * n * e = t at *
  have a := Int.mul_ediv_add_emod t q
  have b := Int.emod_nonneg t (show q ≠ 0 by omega)
  have c := Int.emod_lt_of_pos t hq.1
  constructor
  · apply Int.le_ediv_of_mul_le hq.1
    have := Int.mul_le_mul_of_nonneg_left (show 1 ≤ q by omega) (show (0 : Int) ≤ 1125899906842624 by decide)
    omega
  · apply Int.ediv_le_of_le_mul hq.1
    have := Int.mul_le_mul_of_nonneg_left (show 1 ≤ q by omega) (show (0 : Int) ≤ 1125899906842624 by decide)
    omega
theorem reflect_some (k : Nat) (d n : Vec) (h : fineB d n = true) : ∃ r : Int × Int × Int, G.light_Reflect.f (k + 36) d.x d.y d.z n.x n.y n.z = some r ∧ (⟨r.1, r.2.1, r.2.2⟩ : Vec).in_ 32768 := by
  rw [reflect_eq _ d n h]
  obtain ⟨h0, h1, h2⟩ := fine_of h
  have q0 := nn_pos h0
  have q1 := nn_in h1
  have e0 : -100564992 ≤ dn d n ∧ dn d n ≤ 100564992 := dot_in h2 h1
  exact cut_some k _ _ _ ⟨rf_in ⟨q0, q1⟩ e0 h2.1 h1.1, rf_in ⟨q0, q1⟩ e0 h2.2.1 h1.2.1, rf_in ⟨q0, q1⟩ e0 h2.2.2 h1.2.2⟩
theorem rf_is {q e d n t : Int} (hq : 0 < q) (h : d * q - 2 * n * e = t * q) : rf q e d n = t := by
  unfold rf
  rw [h, Int.mul_ediv_cancel _ (by omega)]
end Go.Proofs.Ytmhnidmbgicgeaa.M

namespace Go.Proofs.Ytmhnidmbgicgeaa.M
open Go.RowKit Go.Proofs.VecMath Go.Proofs.YtmhnidmbgicgeaaW.PrintWords
set_option linter.unusedVariables false
set_option linter.unusedSimpArgs false

theorem u64w (n : Int) : IntKind.u64.wrap n = n % 18446744073709551616 := rfl

theorem mul64_eq (a b : Int) (ha : 0 ≤ a ∧ a < 18446744073709551616) (hb : 0 ≤ b ∧ b < 18446744073709551616) :
    G.bits_Mul64.f a b = some (a * b / 18446744073709551616, a * b % 18446744073709551616) := by
  unfold G.bits_Mul64.f
  simp only [u64w]
  rw [and_low32 a ha.1 ha.2, and_low32 b hb.1 hb.2, and_low32 _ (by omega) (by omega)]
  rw [mul64_arith a b ha.1 ha.2 hb.1 hb.2]

/-- The two halves of a whole number. -/
def hiW (n : Int) : Int := n / 18446744073709551616
def loW (n : Int) : Int := n % 18446744073709551616

def i64b (n : Int) : Prop := -9223372036854775808 ≤ n ∧ n ≤ 9223372036854775807

theorem prod_in {a b : Int} (ha : i64b a) (hb : i64b b) : -85070591730234615865843651857942052864 ≤ a * b ∧ a * b ≤ 85070591730234615865843651857942052864 :=
  mulb (A := 9223372036854775808) (B := 9223372036854775808) ⟨by unfold i64b at ha; omega, by unfold i64b at ha; omega⟩ ⟨by unfold i64b at hb; omega, by unfold i64b at hb; omega⟩

theorem mulW_eq (a b : Int) (ha : i64b a) (hb : i64b b) : G.wide_Mul.f a b = some (hiW (a * b), loW (a * b)) := by
  have hp := prod_in ha hb
  unfold i64b at ha hb
  unfold G.wide_Mul.f hiW loW
  rw [u64w, u64w, mul64_eq _ _ (by omega) (by omega), Option.bind_some]
  simp only [u64w]
  by_cases h1 : a < 0
  · have ea : a % 18446744073709551616 = a + 18446744073709551616 := by omega
    rw [if_pos h1, ea]
    by_cases h2 : b < 0
    · have eb : b % 18446744073709551616 = b + 18446744073709551616 := by omega
      rw [if_pos h2, eb]
      have e : (a + 18446744073709551616) * (b + 18446744073709551616) = a * b + 18446744073709551616 * (a + b + 18446744073709551616) := by grind
      rw [e]
      generalize a * b = p at *
      simp only [Option.some.injEq, Prod.mk.injEq, and_true]
      unfold wrap64
      omega
    · have eb : b % 18446744073709551616 = b := by omega
      rw [if_neg h2, eb]
      have e : (a + 18446744073709551616) * b = a * b + 18446744073709551616 * b := by grind
      rw [e]
      generalize a * b = p at *
      simp only [Option.some.injEq, Prod.mk.injEq, and_true]
      unfold wrap64
      omega
  · have ea : a % 18446744073709551616 = a := by omega
    rw [if_neg h1, ea]
    by_cases h2 : b < 0
    · have eb : b % 18446744073709551616 = b + 18446744073709551616 := by omega
      rw [if_pos h2, eb]
      have e : a * (b + 18446744073709551616) = a * b + 18446744073709551616 * a := by grind
      rw [e]
      generalize a * b = p at *
      simp only [Option.some.injEq, Prod.mk.injEq, and_true]
      unfold wrap64
      omega
    · have eb : b % 18446744073709551616 = b := by omega
      rw [if_neg h2, eb]
      generalize a * b = p at *
      simp only [Option.some.injEq, Prod.mk.injEq, and_true]
      unfold wrap64
      omega

def bitv : Nat → Int
  | 0 => 0
  | j + 1 => 2 ^ j
theorem bitv_half : ∀ j, bitv (j + 1) / 2 = bitv j
  | 0 => rfl
  | j + 1 => by
    show (2 : Int) ^ (j + 1) / 2 = 2 ^ j
    rw [Int.pow_succ]
    exact Int.mul_ediv_cancel _ (by decide)
theorem or_bit (a j : Nat) (h : 2 ^ (j + 1) * a + 2 ^ j < 2 ^ 64) : Go.bits .or .u64 ((2 ^ (j + 1) * a : Nat) : Int) ((2 ^ j : Nat) : Int) = ((2 ^ (j + 1) * a + 2 ^ j : Nat) : Int) := by
  have p : 2 ^ j < 2 ^ (j + 1) := Nat.pow_lt_pow_right (by decide) (by omega)
  rw [bits_or_u64_nat _ _ (by omega) (by omega), Nat.two_pow_add_eq_or_of_lt p]
theorem loop_eq (N : Int) (h0 : 0 ≤ N) (h1 : N < 170141183460469231731687303715884105728) : ∀ (j : Nat) (k : Nat) (a : Nat), j ≤ 64 → 2 ^ j * a + 2 ^ j ≤ 2 ^ 64 →
    ((2 ^ j * a : Nat) : Int) * ((2 ^ j * a : Nat) : Int) ≤ N → N < ((2 ^ j * a + 2 ^ j : Nat) : Int) * ((2 ^ j * a + 2 ^ j : Nat) : Int) →
    ∃ r : Int, 0 ≤ r ∧ r * r ≤ N ∧ N < (r + 1) * (r + 1) ∧ G.wide_Sqrt.l0 (k + j + 1) ((2 ^ j * a : Nat) : Int) (bitv j) (hiW N) (loW N) = (if r > 9223372036854775807 then some (0, false) else some (wrap64 r, true))
  | 0, k, a, _, hs, lo, hi => by
    refine ⟨((2 ^ 0 * a : Nat) : Int), by omega, lo, ?_, ?_⟩
    · rw [show ((2 ^ 0 * a : Nat) : Int) + 1 = ((2 ^ 0 * a + 2 ^ 0 : Nat) : Int) by omega]
      exact hi
    · rw [G.wide_Sqrt.l0, show bitv 0 = 0 from rfl, if_neg (by decide)]
  | j + 1, k, a, hj, hs, lo, hi => by
    have pj : 0 < 2 ^ j := Nat.pow_pos (by decide)
    have e2 : 2 ^ (j + 1) = 2 * 2 ^ j := by rw [Nat.pow_succ]; omega
    have hx : 2 ^ (j + 1) * a + 2 ^ j < 2 ^ 64 := by omega
    have eb : bitv (j + 1) = ((2 ^ j : Nat) : Int) := by unfold bitv; simp
    have e0 : 2 ^ j * (2 * a) = 2 ^ (j + 1) * a := by rw [e2, Nat.mul_comm 2 (2 ^ j), Nat.mul_assoc]
    have e1 : 2 ^ j * (2 * a + 1) = 2 ^ (j + 1) * a + 2 ^ j := by rw [Nat.mul_add, e0, Nat.mul_one]
    have b1 : bitv (j + 1) > 0 := by rw [eb]; omega
    rw [show k + (j + 1) + 1 = (k + j + 1) + 1 by omega, G.wide_Sqrt.l0, if_pos b1, bitv_half, eb, or_bit a j hx]
    have hX : (0 : Int) ≤ ((2 ^ (j + 1) * a + 2 ^ j : Nat) : Int) ∧ ((2 ^ (j + 1) * a + 2 ^ j : Nat) : Int) < 18446744073709551616 := by omega
    rw [mul64_eq _ _ hX hX, Option.bind_some]
    dsimp only
    have uh : IntKind.u64.wrap (hiW N) = hiW N := by rw [u64w]; unfold hiW; omega
    rw [uh]
    have up := loop_eq N h0 h1 j k (2 * a + 1) (by omega) (by rw [e1]; omega)
    have dn := loop_eq N h0 h1 j k (2 * a) (by omega) (by rw [e0]; omega)
    rw [e1] at up
    rw [e0] at dn
    have es : 2 ^ (j + 1) * a + 2 ^ j + 2 ^ j = 2 ^ (j + 1) * a + 2 ^ (j + 1) := by omega
    rw [es] at up
    generalize hX' : ((2 ^ (j + 1) * a + 2 ^ j : Nat) : Int) = X at *
    by_cases c : X * X ≤ N
    · obtain ⟨r, r0, r1, r2, er⟩ := up c hi
      refine ⟨r, r0, r1, r2, ?_⟩
      rw [← er]
      generalize X * X = Y at *
      by_cases c1 : Y / 18446744073709551616 < hiW N
      · rw [if_pos c1]
      · rw [if_neg c1, if_pos (by unfold hiW at *; omega), if_pos (by unfold hiW loW at *; omega)]
    · obtain ⟨r, r0, r1, r2, er⟩ := dn lo (by omega)
      refine ⟨r, r0, r1, r2, ?_⟩
      rw [← er]
      have Y0 : 0 ≤ X * X := Int.mul_nonneg hX.1 hX.1
      generalize X * X = Y at *
      rw [if_neg (by unfold hiW; omega)]
      by_cases c2 : Y / 18446744073709551616 = hiW N
      · rw [if_pos c2, if_neg (by unfold hiW loW at *; omega)]
      · rw [if_neg c2]
theorem sqrt_eq (k : Nat) (N : Int) (h0 : 0 ≤ N) (h1 : N < 170141183460469231731687303715884105728) :
    ∃ r : Int, 0 ≤ r ∧ r * r ≤ N ∧ N < (r + 1) * (r + 1) ∧ G.wide_Sqrt.f (k + 65) (hiW N) (loW N) = (if r > 9223372036854775807 then some (0, false) else some (wrap64 r, true)) := by
  unfold G.wide_Sqrt.f
  rw [if_neg (by unfold hiW; omega)]
  exact loop_eq N h0 h1 64 k 0 (Nat.le_refl _) (by decide) (by simpa using h0) (by
    rw [show ((2 ^ 64 * 0 + 2 ^ 64 : Nat) : Int) = 18446744073709551616 by decide]
    omega)
theorem sq_lt {a b : Int} (hb : 0 ≤ b) (h : a * a < (b + 1) * (b + 1)) (ha : 0 ≤ a) : a ≤ b := by
  by_cases c : a ≤ b
  · exact c
  · have := Int.mul_self_le_mul_self (show 0 ≤ b + 1 by omega) (show b + 1 ≤ a by omega)
    omega
/-- The whole square root. -/
structure Root (r N : Int) : Prop where
  r0 : 0 ≤ r
  lo : r * r ≤ N
  hi : N < (r + 1) * (r + 1)
theorem Root.only {r s N : Int} (h : Root r N) (g : Root s N) : r = s := by
  have a := sq_lt g.r0 (by have := h.lo; have := g.hi; omega : r * r < (s + 1) * (s + 1)) h.r0
  have b := sq_lt h.r0 (by have := g.lo; have := h.hi; omega : s * s < (r + 1) * (r + 1)) g.r0
  omega
theorem Root.pos {r N : Int} (h : Root r N) (hN : 0 < N) : 0 < r := by
  by_cases c : r = 0
  · have := h.hi
    rw [c] at this
    omega
  · have := h.r0
    omega
theorem root_eq (k : Nat) (n m : Int) (hn : 0 ≤ n ∧ n ≤ 9223372036854775807) (hm : 0 ≤ m ∧ m ≤ 9223372036854775807) : ∃ r, G.light_root.f (k + 65) n m = some r ∧ Root r (n * m) := by
  have p := prod_in (a := n) (b := m) (by unfold i64b; omega) (by unfold i64b; omega)
  have p0 := Int.mul_nonneg hn.1 hm.1
  obtain ⟨r, r0, r1, r2, er⟩ := sqrt_eq k (n * m) p0 (by omega)
  have rb : r ≤ 9223372036854775807 := by
    have q := Int.mul_le_mul hn.2 hm.2 hm.1 (show (0 : Int) ≤ 9223372036854775807 by decide)
    exact sq_lt (a := r) (b := 9223372036854775807) (by decide) (by omega) r0
  rw [if_neg (by omega), w64 (by omega)] at er
  refine ⟨r, ?_, ⟨r0, r1, r2⟩⟩
  unfold G.light_root.f
  rw [mulW_eq n m (by unfold i64b; omega) (by unfold i64b; omega), Option.bind_some]
  dsimp only
  rw [er, Option.bind_some]
end Go.Proofs.Ytmhnidmbgicgeaa.M

namespace Go.Proofs.Ytmhnidmbgicgeaa.Pure
open Go.RowKit Go.Proofs.VecMath Go.Proofs.Ytmhnidmbgicgeaa.M Go.Proofs.YtmhnidmbgicgeaaW.PrintWords
set_option linter.unusedVariables false
theorem wrap_in (n : Int) : -9223372036854775808 ≤ wrap64 n ∧ wrap64 n ≤ 9223372036854775807 := by
  unfold wrap64
  omega
theorem floor_some (n : Int) {d : Int} (h : d ≠ 0) : ∃ x, G.light_floor.f n d = some x := by
  unfold G.light_floor.f
  rw [if_neg h]
  split <;> exact ⟨_, rfl⟩
theorem unit_some (k : Nat) (v : Vec) (hz : ¬ v.zero) (h : v.in_ 32768) : ∃ u : Int × Int × Int, G.light_unit.f (k + 65) v.x v.y v.z = some u := by
  have q : G.vec_Dot.f v.x v.y v.z v.x v.y v.z = some (nn v) := dot_eq h h (by decide)
  have a0 := nn_pos hz
  have a1 : nn v ≤ 3221225472 := (dot_in h h).2
  obtain ⟨r, er, hr⟩ := root_eq k (nn v) 1 (by omega) (by decide)
  have rp := hr.pos (by omega)
  obtain ⟨x, ex⟩ := floor_some (wrap64 (4096 * v.x)) (show r ≠ 0 by omega)
  obtain ⟨y, ey⟩ := floor_some (wrap64 (4096 * v.y)) (show r ≠ 0 by omega)
  obtain ⟨z, ez⟩ := floor_some (wrap64 (4096 * v.z)) (show r ≠ 0 by omega)
  refine ⟨(x, y, z), ?_⟩
  unfold G.light_unit.f
  rw [q, Option.bind_some, er, Option.bind_some, ex, Option.bind_some, ey, Option.bind_some, ez, Option.bind_some]
/-- Cut ends from any ints. -/
theorem cut_all : ∀ (j : Nat) (B : Int) (k : Nat) (x y z : Int), B = 32768 * 2 ^ j → j ≤ 48 → (⟨x, y, z⟩ : Vec).in_ B → ∃ r : Int × Int × Int, G.vec_Cut.l0 (k + j + 1) 32768 x y z = some r ∧ (⟨r.1, r.2.1, r.2.2⟩ : Vec).in_ 32768
  | 0, B, k, x, y, z, hB, hj, h => by
    have e : B = 32768 := by rw [hB]; rfl
    subst e
    refine ⟨(x, y, z), ?_, h⟩
    rw [G.vec_Cut.l0, within_eq _ _ _ _ (by decide) (by decide), Option.bind_some, decide_eq_true h, if_pos rfl]
  | j + 1, B, k, x, y, z, hB, hj, h => by
    rw [show k + (j + 1) + 1 = (k + j + 1) + 1 by omega, G.vec_Cut.l0, within_eq _ _ _ _ (by decide) (by decide), Option.bind_some]
    by_cases c : (⟨x, y, z⟩ : Vec).in_ 32768
    · rw [decide_eq_true c, if_pos rfl]
      exact ⟨(x, y, z), rfl, c⟩
    · rw [decide_eq_false c, if_neg (by decide)]
      have hp : (2 : Int) ^ (j + 1) = 2 * 2 ^ j := by rw [Int.pow_succ, Int.mul_comm]
      have hb : (2 : Int) ^ j ≤ 2 ^ 47 := by
        have := Nat.pow_le_pow_right (show 0 < 2 by decide) (show j ≤ 47 by omega)
        have e : ((2 ^ j : Nat) : Int) = (2 : Int) ^ j := by simp
        omega
      have h0 : (0 : Int) ≤ 2 ^ j := Int.le_of_lt (Int.pow_pos (by decide))
      rw [hp] at hB
      obtain ⟨a, b, d⟩ := h
      dsimp only at a b d
      have h1 := half_in (x := x) (B := 32768 * 2 ^ j) (by omega) (by omega)
      have h2 := half_in (x := y) (B := 32768 * 2 ^ j) (by omega) (by omega)
      have h3 := half_in (x := z) (B := 32768 * 2 ^ j) (by omega) (by omega)
      rw [w64 (by omega), w64 (by omega), w64 (by omega)]
      exact cut_all j _ k _ _ _ rfl (by omega) ⟨h1, h2, h3⟩
theorem cut_any (k : Nat) (x y z : Int) : ∃ r : Int × Int × Int, G.vec_Cut.f (k + 65) (wrap64 x) (wrap64 y) (wrap64 z) 32768 = some r ∧ (⟨r.1, r.2.1, r.2.2⟩ : Vec).in_ 32768 := by
  have a := wrap_in x
  have b := wrap_in y
  have c := wrap_in z
  unfold G.vec_Cut.f
  rw [if_neg (by decide)]
  exact cut_all 48 9223372036854775808 (k + 16) _ _ _ (by decide) (by decide) ⟨by dsimp only; omega, by dsimp only; omega, by dsimp only; omega⟩
/-- What a broken direction is. -/
def Broken (d n : Vec) (eta : Int) (r : Int × Int × Int × Bool) : Prop :=
  (r.2.2.2 = false → r.1 = 0 ∧ r.2.1 = 0 ∧ r.2.2.1 = 0) ∧ (r.2.2.2 = true → 64 ≤ eta ∧ eta ≤ 1024 ∧ (∃ e, G.vec_Dot.f d.x d.y d.z n.x n.y n.z = some e ∧ e < 0) ∧ (⟨r.1, r.2.1, r.2.2.1⟩ : Vec).in_ 32768)
theorem broken_no (d n : Vec) (eta : Int) : Broken d n eta (0, 0, 0, false) := ⟨fun _ => ⟨rfl, rfl, rfl⟩, fun h => by cases h⟩
theorem refract_some (k : Nat) (d n : Vec) (eta : Int) : ∃ r, G.light_Refract.f (k + 65) d.x d.y d.z n.x n.y n.z eta = some r ∧ Broken d n eta r := by
  unfold G.light_Refract.f
  rw [fine_eq, Option.bind_some]
  by_cases f : fineB d n = true
  case neg => rw [if_neg f]; exact ⟨_, rfl, broken_no d n eta⟩
  rw [if_pos f]
  obtain ⟨h0, h1, h2⟩ := fine_of f
  by_cases e0 : eta < 64
  · rw [if_pos e0]; exact ⟨_, rfl, broken_no d n eta⟩
  rw [if_neg e0]
  by_cases e1 : eta > 1024
  · rw [if_pos e1]; exact ⟨_, rfl, broken_no d n eta⟩
  rw [if_neg e1]
  have eD : G.vec_Dot.f d.x d.y d.z n.x n.y n.z = some (dn d n) := dot_eq h2 h1 (by decide)
  rw [eD, Option.bind_some]
  by_cases e2 : dn d n ≥ 0
  · rw [if_pos e2]; exact ⟨_, rfl, broken_no d n eta⟩
  rw [if_neg e2]
  have dz : ¬ d.zero := fun z => e2 (by obtain ⟨a, b, c⟩ := z; unfold dn; rw [a, b, c, Int.zero_mul, Int.zero_mul, Int.zero_mul]; decide)
  have n2 : n.in_ 32768 := ⟨by have := h1.1; omega, by have := h1.2.1; omega, by have := h1.2.2; omega⟩
  obtain ⟨u, hu⟩ := unit_some k d dz h2
  obtain ⟨m, hm⟩ := unit_some k n h0 n2
  rw [hu, Option.bind_some, hm, Option.bind_some]
  obtain ⟨p, hp⟩ : ∃ p, G.vec_Dot.f u.1 u.2.1 u.2.2 m.1 m.2.1 m.2.2 = some p := ⟨_, rfl⟩
  rw [hp, Option.bind_some]
  obtain ⟨c, hc⟩ := floor_some p (show (4096 : Int) ≠ 0 by decide)
  rw [hc, Option.bind_some]
  obtain ⟨f0, hf0⟩ := floor_some (wrap64 (wrap64 (eta * eta) * wrap64 (16777216 - wrap64 (wrap64 (-c) * wrap64 (-c))))) (show (65536 : Int) ≠ 0 by decide)
  rw [hf0, Option.bind_some]
  by_cases e3 : wrap64 (16777216 - f0) < 0
  · rw [if_pos e3]; exact ⟨_, rfl, broken_no d n eta⟩
  rw [if_neg e3]
  obtain ⟨g0, hg0⟩ := floor_some (wrap64 (eta * wrap64 (-c))) (show (256 : Int) ≠ 0 by decide)
  have wi := wrap_in (16777216 - f0)
  obtain ⟨s, hs, _⟩ := root_eq k (wrap64 (16777216 - f0)) 1 ⟨by omega, wi.2⟩ (by decide)
  obtain ⟨x1, hx1⟩ := floor_some (wrap64 (eta * u.1)) (show (256 : Int) ≠ 0 by decide)
  obtain ⟨y1, hy1⟩ := floor_some (wrap64 (eta * u.2.1)) (show (256 : Int) ≠ 0 by decide)
  obtain ⟨z1, hz1⟩ := floor_some (wrap64 (eta * u.2.2)) (show (256 : Int) ≠ 0 by decide)
  obtain ⟨x2, hx2⟩ := floor_some (wrap64 (wrap64 (g0 - s) * m.1)) (show (4096 : Int) ≠ 0 by decide)
  obtain ⟨y2, hy2⟩ := floor_some (wrap64 (wrap64 (g0 - s) * m.2.1)) (show (4096 : Int) ≠ 0 by decide)
  obtain ⟨z2, hz2⟩ := floor_some (wrap64 (wrap64 (g0 - s) * m.2.2)) (show (4096 : Int) ≠ 0 by decide)
  obtain ⟨o, ho, hi⟩ := cut_any k (x1 + x2) (y1 + y2) (z1 + z2)
  rw [hg0, Option.bind_some, hs, Option.bind_some, hx1, Option.bind_some, hx2, Option.bind_some, hy1, Option.bind_some, hy2, Option.bind_some, hz1, Option.bind_some, hz2, Option.bind_some, ho, Option.bind_some]
  refine ⟨_, rfl, fun h => ?_, fun h => ⟨by omega, by omega, ⟨dn d n, eD, by omega⟩, hi⟩⟩
  simpa using h
theorem unit_7 : G.light_unit.f 80 0 0 (-7) = some (0, 0, -4096) := by kernel_rfl
theorem unit_3 : G.light_unit.f 80 0 0 3 = some (0, 0, 4096) := by kernel_rfl
theorem fine_73 : G.light_fine.f 0 0 (-7) 0 0 3 = some true := by kernel_rfl
theorem dot_73 : G.vec_Dot.f 0 0 (-7) 0 0 3 = some (-21) := by kernel_rfl
theorem dot_u : G.vec_Dot.f 0 0 (-4096) 0 0 4096 = some (-16777216) := by kernel_rfl
theorem floor_u : G.light_floor.f (-16777216) 4096 = some (-4096) := by kernel_rfl
theorem root_u : G.light_root.f 80 16777216 1 = some 4096 := by kernel_rfl
theorem flat (eta : Int) (h : 64 ≤ eta ∧ eta ≤ 1024) : G.light_Refract.f 80 0 0 (-7) 0 0 3 eta = some (0, 0, -4096, true) := by
  unfold G.light_Refract.f
  rw [fine_73, Option.bind_some, if_pos rfl, if_neg (by omega), if_neg (by omega), dot_73, Option.bind_some, if_neg (by decide), unit_7, Option.bind_some, unit_3, Option.bind_some]
  dsimp only
  have w1 : wrap64 (-(-4096)) = 4096 := by kernel_rfl
  have w2 : wrap64 (4096 * 4096) = 16777216 := by kernel_rfl
  have w3 : wrap64 (16777216 - 16777216) = 0 := by kernel_rfl
  have w4 : wrap64 0 = 0 := by kernel_rfl
  have w5 : wrap64 (16777216 - 0) = 16777216 := by kernel_rfl
  have f0 : G.light_floor.f 0 65536 = some 0 := by kernel_rfl
  have f1 : G.light_floor.f 0 256 = some 0 := by kernel_rfl
  have f2 : G.light_floor.f 0 4096 = some 0 := by kernel_rfl
  rw [dot_u, Option.bind_some, floor_u, Option.bind_some, w1, w2, w3, Int.mul_zero, w4, f0, Option.bind_some, w5, if_neg (by decide)]
  have g0 : G.light_floor.f (wrap64 (eta * 4096)) 256 = some (16 * eta) := by
    rw [w64 (by omega), floor_eq (by decide) (by omega)]
    congr 1
    omega
  have g1 : G.light_floor.f (wrap64 (eta * -4096)) 256 = some (-16 * eta) := by
    rw [w64 (by omega), floor_eq (by decide) (by omega)]
    congr 1
    omega
  have w6 : wrap64 (16 * eta - 4096) = 16 * eta - 4096 := w64 (by omega)
  have g2 : G.light_floor.f (wrap64 ((16 * eta - 4096) * 4096)) 4096 = some (16 * eta - 4096) := by
    rw [w64 (by omega), floor_eq (by decide) (by omega)]
    congr 1
    omega
  have w7 : wrap64 (-16 * eta + (16 * eta - 4096)) = -4096 := by rw [w64 (by omega)]; omega
  rw [g0, Option.bind_some, root_u, Option.bind_some, w6, Int.mul_zero, w4, f1, Option.bind_some, Int.mul_zero, w4, f2, Option.bind_some, Option.bind_some, Option.bind_some, g1, Option.bind_some, g2, Option.bind_some, Int.add_zero, w4, w7,
    cut_in 79 0 0 (-4096) ⟨by decide, by decide, by decide⟩, Option.bind_some]
  rfl
end Go.Proofs.Ytmhnidmbgicgeaa.Pure

namespace Go.Proofs.Ytmhnidmbgicgeaa.Pure
open Go.RowKit Go.Proofs.VecMath Go.Proofs.Ytmhnidmbgicgeaa.M Go.Proofs.YtmhnidmbgicgeaaW.PrintWords
set_option linter.unusedVariables false
theorem z_beq (v : Vec) : (v.x == 0 && (v.y == 0 && (v.z == 0))) = decide v.zero := by
  unfold Vec.zero
  by_cases a : v.x = 0 <;> by_cases b : v.y = 0 <;> by_cases c : v.z = 0 <;> simp [a, b, c]
def fineC (a b : Vec) : Prop := ¬ a.zero ∧ ¬ b.zero ∧ a.in_ 32768 ∧ b.in_ 32768
def cosV (D r : Int) : Int := mn (mx (256 * D / r) (-256)) 256
theorem cos_no (k : Nat) (a b : Vec) (h : ¬ fineC a b) : G.light_Cos.f (k + 1) a.x a.y a.z b.x b.y b.z = some 0 := by
  unfold fineC at h
  unfold G.light_Cos.f
  rw [z_beq, z_beq]
  by_cases h1 : a.zero
  · rw [decide_eq_true h1, if_pos rfl, G.light_Cos.j0, if_pos rfl]
  rw [decide_eq_false h1, if_neg (by decide)]
  by_cases h2 : b.zero
  · rw [decide_eq_true h2, if_pos rfl, G.light_Cos.j0, if_pos rfl]
  rw [decide_eq_false h2, if_neg (by decide), within_eq _ _ _ _ (by decide) (by decide), Option.bind_some]
  by_cases h3 : a.in_ 32768
  · rw [decide_eq_true (show (⟨a.x, a.y, a.z⟩ : Vec).in_ 32768 from h3), if_pos rfl, within_eq _ _ _ _ (by decide) (by decide), Option.bind_some, decide_eq_false (show ¬ (⟨b.x, b.y, b.z⟩ : Vec).in_ 32768 from fun h4 => h ⟨h1, h2, h3, h4⟩), G.light_Cos.j0, if_pos (show (!false) = true from rfl)]
  · rw [decide_eq_false (show ¬ (⟨a.x, a.y, a.z⟩ : Vec).in_ 32768 from h3), if_neg (by decide), G.light_Cos.j0, if_pos rfl]
theorem nn_big {a : Vec} (h : a.in_ 32768) : nn a ≤ 3221225472 := (dot_in h h).2
theorem dn_big {a b : Vec} (h : a.in_ 32768) (g : b.in_ 32768) : -3221225472 ≤ dn a b ∧ dn a b ≤ 3221225472 := dot_in h g
theorem cos_eq (k : Nat) (a b : Vec) (h : fineC a b) : ∃ r, G.light_Cos.f (k + 66) a.x a.y a.z b.x b.y b.z = some (cosV (dn a b) r) ∧ Root r (nn a * nn b) ∧ 0 < r := by
  obtain ⟨h1, h2, h3, h4⟩ := h
  have a0 := nn_pos h1
  have a1 := nn_big h3
  have b0 := nn_pos h2
  have b1 := nn_big h4
  have d := dn_big h3 h4
  obtain ⟨r, er, hr⟩ := root_eq k (nn a) (nn b) (by omega) (by omega)
  have rp := hr.pos (Int.mul_pos a0 b0)
  refine ⟨r, ?_, hr, rp⟩
  have q1 : G.vec_Dot.f a.x a.y a.z b.x b.y b.z = some (dn a b) := dot_eq h3 h4 (by decide)
  have q2 : G.vec_Dot.f a.x a.y a.z a.x a.y a.z = some (nn a) := dot_eq h3 h3 (by decide)
  have q3 : G.vec_Dot.f b.x b.y b.z b.x b.y b.z = some (nn b) := dot_eq h4 h4 (by decide)
  unfold G.light_Cos.f
  rw [z_beq, z_beq, decide_eq_false h1, if_neg (by decide), decide_eq_false h2, if_neg (by decide), within_eq _ _ _ _ (by decide) (by decide), Option.bind_some,
    decide_eq_true (show (⟨a.x, a.y, a.z⟩ : Vec).in_ 32768 from h3), if_pos rfl, within_eq _ _ _ _ (by decide) (by decide), Option.bind_some, decide_eq_true (show (⟨b.x, b.y, b.z⟩ : Vec).in_ 32768 from h4),
    G.light_Cos.j0, if_neg (by decide), q1, Option.bind_some, q2, Option.bind_some, q3, Option.bind_some, er, Option.bind_some, w64 (n := 256 * dn a b) (by omega), floor_eq rp (by omega), Option.bind_some]
  rfl
theorem cosV_in (D r : Int) : -256 ≤ cosV D r ∧ cosV D r ≤ 256 := by
  unfold cosV mn mx
  repeat' split
  all_goals omega
theorem cosV_neg (D : Int) {r : Int} (hr : 0 < r) : cosV D r + cosV (-D) r = 0 ∨ cosV D r + cosV (-D) r = -1 := by
  have e : 256 * D / r + 256 * (-D) / r = 0 ∨ 256 * D / r + 256 * (-D) / r = -1 := by
    have h1 := Int.mul_ediv_add_emod (256 * D) r
    have h2 := Int.mul_ediv_add_emod (256 * (-D)) r
    have a0 := Int.emod_nonneg (256 * D) (show r ≠ 0 by omega)
    have a1 := Int.emod_lt_of_pos (256 * D) hr
    have b0 := Int.emod_nonneg (256 * (-D)) (show r ≠ 0 by omega)
    have b1 := Int.emod_lt_of_pos (256 * (-D)) hr
    have s : r * (256 * D / r + 256 * (-D) / r) = -(256 * D % r + 256 * (-D) % r) := by
      rw [Int.mul_add]
      omega
    generalize 256 * D / r + 256 * (-D) / r = q at *
    generalize 256 * D % r = x at *
    generalize 256 * (-D) % r = y at *
    have l : q ≤ 0 := by
      by_cases c : q ≤ 0
      · exact c
      · have := Int.mul_le_mul_of_nonneg_left (show 1 ≤ q by omega) (show 0 ≤ r by omega)
        omega
    have g : -2 < q := by
      by_cases c : -2 < q
      · exact c
      · have := Int.mul_le_mul_of_nonneg_left (show q ≤ -2 by omega) (show 0 ≤ r by omega)
        omega
    omega
  unfold cosV mn mx
  generalize 256 * D / r = q at *
  generalize 256 * (-D) / r = p at *
  repeat' split
  all_goals omega
end Go.Proofs.Ytmhnidmbgicgeaa.Pure

namespace Go.Proofs.Ytmhnidmbgicgeaa.Pure
open Go.RowKit Go.Proofs.VecMath Go.Proofs.Ytmhnidmbgicgeaa.M Go.Proofs.YtmhnidmbgicgeaaW.PrintWords
set_option linter.unusedVariables false
theorem cut_in2 (n : Int) : 0 ≤ G.cutB n ∧ G.cutB n ≤ 255 := by
  unfold G.cutB mn mx
  repeat' split
  all_goals omega
theorem cut_id {n : Int} (h : 0 ≤ n ∧ n ≤ 255) : G.cutB n = n := by
  unfold G.cutB mn mx
  repeat' split
  all_goals omega
theorem part_is (x y z : Int) {k l : Int} (hk : 0 ≤ k ∧ k ≤ 256) (hl : 0 ≤ l ∧ l ≤ 256) (h : k + l ≤ 256) : G.partB x y z k l = (G.cutB x * (256 - k - l) + G.cutB y * k + G.cutB z * l) / 256 := by
  have a := cut_in2 x
  have b := cut_in2 y
  have c := cut_in2 z
  have h1 := mulb (x := G.cutB x) (y := 256 - k - l) (A := 255) (B := 256) (by omega) (by omega)
  have h2 := mulb (x := G.cutB y) (y := k) (A := 255) (B := 256) (by omega) (by omega)
  have h3 := mulb (x := G.cutB z) (y := l) (A := 255) (B := 256) (by omega) (by omega)
  unfold G.partB
  rw [w64 (n := 256 - k) (by omega), w64 (n := 256 - k - l) (by omega), w64 (n := G.cutB x * (256 - k - l)) (by omega), w64 (n := G.cutB y * k) (by omega), w64 (n := G.cutB z * l) (by omega), w64 (n := G.cutB x * (256 - k - l) + G.cutB y * k) (by omega), w64 (by omega)]
/-- A weighted mean lies between any bounds of the three. -/
theorem mean_in {x y z k l lo hi : Int} (hk : 0 ≤ k) (hl : 0 ≤ l) (h : k + l ≤ 256) (hx : lo ≤ x ∧ x ≤ hi) (hy : lo ≤ y ∧ y ≤ hi) (hz : lo ≤ z ∧ z ≤ hi) : lo ≤ (x * (256 - k - l) + y * k + z * l) / 256 ∧ (x * (256 - k - l) + y * k + z * l) / 256 ≤ hi := by
  have a1 := Int.mul_le_mul_of_nonneg_right hx.1 (show 0 ≤ 256 - k - l by omega)
  have a2 := Int.mul_le_mul_of_nonneg_right hx.2 (show 0 ≤ 256 - k - l by omega)
  have b1 := Int.mul_le_mul_of_nonneg_right hy.1 hk
  have b2 := Int.mul_le_mul_of_nonneg_right hy.2 hk
  have c1 := Int.mul_le_mul_of_nonneg_right hz.1 hl
  have c2 := Int.mul_le_mul_of_nonneg_right hz.2 hl
  have e1 : lo * (256 - k - l) + lo * k + lo * l = lo * 256 := by grind
  have e2 : hi * (256 - k - l) + hi * k + hi * l = hi * 256 := by grind
  omega
theorem part_in (x y z : Int) {k l : Int} (hk : 0 ≤ k ∧ k ≤ 256) (hl : 0 ≤ l ∧ l ≤ 256) (h : k + l ≤ 256) : 0 ≤ G.partB x y z k l ∧ G.partB x y z k l ≤ 255 := by
  rw [part_is x y z hk hl h]
  exact mean_in hk.1 hl.1 h (cut_in2 x) (cut_in2 y) (cut_in2 z)
theorem part_first (x y z : Int) : G.partB x y z 0 0 = G.cutB x := by
  rw [part_is x y z (by decide) (by decide) (by decide)]
  omega
theorem part_second (x y z : Int) : G.partB x y z 256 0 = G.cutB y := by
  rw [part_is x y z (by decide) (by decide) (by decide)]
  omega
theorem part_third (x y z : Int) : G.partB x y z 0 256 = G.cutB z := by
  rw [part_is x y z (by decide) (by decide) (by decide)]
  omega
def okL (k l : Int) : Prop := 0 ≤ k ∧ k ≤ 256 ∧ 0 ≤ l ∧ l ≤ 256 ∧ k + l ≤ 256
theorem blend_ok (a0 a1 a2 b0 b1 b2 c0 c1 c2 : Int) {k l : Int} (h : okL k l) : G.light_Blend.f a0 a1 a2 b0 b1 b2 c0 c1 c2 k l = some (G.partB a0 b0 c0 k l, G.partB a1 b1 c1 k l, G.partB a2 b2 c2 k l) := by
  unfold okL at h
  unfold G.light_Blend.f
  have h1 : ¬ mn k l < 0 := by unfold mn; split <;> omega
  have h2 : ¬ mx k l > 256 := by unfold mx; split <;> omega
  rw [if_neg h1, if_neg h2, w64 (by omega), if_neg (by omega)]
theorem blend_no (a0 a1 a2 b0 b1 b2 c0 c1 c2 : Int) {k l : Int} (h : ¬ okL k l) : G.light_Blend.f a0 a1 a2 b0 b1 b2 c0 c1 c2 k l = some (0, 0, 0) := by
  unfold okL at h
  unfold G.light_Blend.f
  by_cases h1 : mn k l < 0
  · rw [if_pos h1]
  rw [if_neg h1]
  by_cases h2 : mx k l > 256
  · rw [if_pos h2]
  rw [if_neg h2]
  have e : 0 ≤ k ∧ k ≤ 256 ∧ 0 ≤ l ∧ l ≤ 256 := by
    unfold mn at h1
    unfold mx at h2
    split at h1 <;> split at h2 <;> omega
  rw [w64 (by omega), if_pos (by omega)]
end Go.Proofs.Ytmhnidmbgicgeaa.Pure

namespace Go.Proofs.Ytmhnidmbgicgeaa.Pure
open Go.RowKit Go.Proofs.VecMath Go.Proofs.Ytmhnidmbgicgeaa.M Go.Proofs.YtmhnidmbgicgeaaW.PrintWords
set_option linter.unusedVariables false
theorem withinR_eq (x y z m : Int) (h0 : 0 ≤ m) (h1 : m ≤ 4611686018427387904) : G.relievoref00_Within.f x y z m = some (decide ((⟨x, y, z⟩ : Vec).in_ m)) := by
  unfold G.relievoref00_Within.f Vec.in_
  dsimp only
  rw [w64 (by omega)]
  by_cases h : (-m ≤ x ∧ x ≤ m) ∧ (-m ≤ y ∧ y ≤ m) ∧ (-m ≤ z ∧ z ≤ m)
  · rw [decide_eq_true h]
    obtain ⟨⟨a, b⟩, ⟨c, d⟩, e, f⟩ := h
    repeat' split
    all_goals first | omega | (simp only [Option.some.injEq, decide_eq_true_eq]; omega)
  · rw [decide_eq_false h]
    repeat' split
    all_goals first | rfl | (simp only [Option.some.injEq, decide_eq_false_iff_not]; omega)
theorem withinR2_eq (x y z : Int) : G.relievoref02_Within.f x y z 32768 = some (decide ((⟨x, y, z⟩ : Vec).in_ 32768)) := by
  unfold G.relievoref02_Within.f Vec.in_
  dsimp only
  rw [w64 (by omega), if_pos (by decide)]
  by_cases h : (-32768 ≤ x ∧ x ≤ 32768) ∧ (-32768 ≤ y ∧ y ≤ 32768) ∧ (-32768 ≤ z ∧ z ≤ 32768)
  · rw [decide_eq_true h]
    obtain ⟨⟨a, b⟩, ⟨c, d⟩, e, f⟩ := h
    repeat' split
    all_goals first | omega | (simp only [Option.some.injEq, decide_eq_true_eq]; omega)
  · rw [decide_eq_false h]
    repeat' split
    all_goals first | rfl | (simp only [Option.some.injEq, decide_eq_false_iff_not]; omega)
theorem fineR_eq (d n : Vec) : G.relievoref19_fine.f d.x d.y d.z n.x n.y n.z = some (fineB d n) := by
  unfold G.relievoref19_fine.f fineB
  rw [nz_beq, withinR_eq _ _ _ _ (by decide) (by decide), withinR_eq _ _ _ _ (by decide) (by decide)]
  simp only [Option.bind_some]
  cases decide (Vec.zero ⟨n.x, n.y, n.z⟩) <;> cases decide (Vec.in_ 1023 ⟨n.x, n.y, n.z⟩) <;> rfl
theorem dotR (a b c x y z : Int) : G.relievoref02_Dot.f a b c x y z = G.vec_Dot.f a b c x y z := rfl
theorem floorR (n : Int) {d : Int} (hd : 0 < d) : G.relievoref19_Floor.f n d = G.light_floor.f n d := by
  unfold G.relievoref19_Floor.f G.light_floor.f
  rw [if_neg (show ¬ d = 0 by omega), if_neg (show ¬ d = 0 by omega)]
  by_cases h : 0 ≤ n
  · have e : 0 ≤ Int.tmod n d := Int.tmod_nonneg d h
    rw [if_neg (show ¬ Int.tmod n d < 0 by omega), decide_eq_false (show ¬ n < 0 by omega), decide_eq_false (show ¬ d < 0 by omega)]
    split
    · rfl
    · rw [if_neg (by decide)]
  · obtain ⟨m, rfl⟩ : ∃ m, n = -m := ⟨-n, by omega⟩
    have e : Int.tmod (-m) d = -(m % d) := by rw [Int.neg_tmod, Int.tmod_eq_emod_of_nonneg (by omega)]
    have r := Int.emod_nonneg m (show d ≠ 0 by omega)
    rw [e, decide_eq_true (show -m < 0 by omega), decide_eq_false (show ¬ d < 0 by omega)]
    by_cases c : m % d = 0
    · rw [if_pos (by omega), if_neg (by omega)]
    · rw [if_neg (by omega), if_pos (by decide), if_pos (by omega)]
theorem cutR_l : ∀ (k : Nat) (x y z : Int), G.relievoref02_Cut.l0 k 32768 x y z = G.vec_Cut.l0 k 32768 x y z
  | 0, _, _, _ => rfl
  | k + 1, x, y, z => by
    rw [G.relievoref02_Cut.l0, G.vec_Cut.l0, withinR2_eq, within_eq _ _ _ _ (by decide) (by decide), Option.bind_some, Option.bind_some, cutR_l k]
theorem cutR (k : Nat) (x y z : Int) : G.relievoref02_Cut.f k x y z 32768 = G.vec_Cut.f k x y z 32768 := by
  unfold G.relievoref02_Cut.f G.vec_Cut.f
  rw [cutR_l]
theorem sqN_root (A : Int) : ∀ (j : Nat) (s : Int), 0 ≤ s → s * s ≤ A → A < (s + 2 ^ j) * (s + 2 ^ j) → Root (G.sqN A j s) A
  | 0, s, h0, h1, h2 => ⟨h0, h1, h2⟩
  | j + 1, s, h0, h1, h2 => by
    have p : (0 : Int) < 2 ^ j := Int.pow_pos (by decide)
    have e : s + (2 : Int) ^ (j + 1) = s + 2 ^ j + 2 ^ j := by rw [Int.pow_succ]; omega
    rw [e] at h2
    rw [G.sqN]
    by_cases c : (s + 2 ^ j) * (s + 2 ^ j) ≤ A
    · rw [if_pos c]
      exact sqN_root A j _ (by omega) c h2
    · rw [if_neg c]
      exact sqN_root A j s h0 h1 (by omega)
theorem root_both (k : Nat) (n m : Int) (hn : 0 ≤ n ∧ n ≤ 9223372036854775807) (hm : 0 ≤ m ∧ m ≤ 9223372036854775807) (h : n * m < 21267647932558653966460912964485513216) :
    ∃ r hi lo, G.light_root.f (k + 65) n m = some r ∧ G.relievoref01_Mul.f n m = some (hi, lo) ∧ G.relievoref01_Sqrt.f hi lo = some (r, true) ∧ Root r (n * m) := by
  obtain ⟨r, er, hr⟩ := root_eq k n m hn hm
  have p := Int.mul_nonneg hn.1 hm.1
  refine ⟨r, n * m / 18446744073709551616, n * m % 18446744073709551616, er, ?_, ?_, hr⟩
  · unfold G.relievoref01_Mul.f
    rw [if_pos ⟨⟨by omega, hn.2⟩, ⟨by omega, hm.2⟩⟩]
  · unfold G.relievoref01_Sqrt.f
    rw [if_pos (by omega), show n * m % 18446744073709551616 + 18446744073709551616 * (n * m / 18446744073709551616) = n * m by omega]
    have g := sqN_root (n * m) 63 0 (by decide) (by omega) (by rw [Int.zero_add, show (2 : Int) ^ 63 * 2 ^ 63 = 85070591730234615865843651857942052864 by decide]; omega)
    rw [g.only hr]
theorem unit_both (k : Nat) (v : Vec) (hz : ¬ v.zero) (h : v.in_ 32768) : ∃ u : Int × Int × Int, G.light_unit.f (k + 65) v.x v.y v.z = some u ∧ G.relievoref19_unit.f v.x v.y v.z = some u := by
  have q : G.vec_Dot.f v.x v.y v.z v.x v.y v.z = some (nn v) := dot_eq h h (by decide)
  have a0 := nn_pos hz
  have a1 : nn v ≤ 3221225472 := (dot_in h h).2
  obtain ⟨r, hi, lo, er, em, es, hr⟩ := root_both k (nn v) 1 (by omega) (by decide) (by omega)
  have rp := hr.pos (by omega)
  obtain ⟨x, ex⟩ := floor_some (wrap64 (4096 * v.x)) (show r ≠ 0 by omega)
  obtain ⟨y, ey⟩ := floor_some (wrap64 (4096 * v.y)) (show r ≠ 0 by omega)
  obtain ⟨z, ez⟩ := floor_some (wrap64 (4096 * v.z)) (show r ≠ 0 by omega)
  refine ⟨(x, y, z), ?_, ?_⟩
  · unfold G.light_unit.f
    rw [q, Option.bind_some, er, Option.bind_some, ex, Option.bind_some, ey, Option.bind_some, ez, Option.bind_some]
  · unfold G.relievoref19_unit.f
    rw [dotR, q, Option.bind_some, em, Option.bind_some, es, Option.bind_some, floorR _ rp, floorR _ rp, floorR _ rp, ex, Option.bind_some, ey, Option.bind_some, ez, Option.bind_some]
theorem refract_both (k : Nat) (d n : Vec) (eta : Int) : ∃ r, G.light_Refract.f (k + 66) d.x d.y d.z n.x n.y n.z eta = some r ∧ G.relievoref19_Refract.f (k + 66) d.x d.y d.z n.x n.y n.z eta = some r := by
  unfold G.light_Refract.f G.relievoref19_Refract.f
  rw [fine_eq, fineR_eq, Option.bind_some, Option.bind_some]
  by_cases f : fineB d n = true
  case neg => rw [if_neg f, if_neg f, G.relievoref19_Refract.j0, if_pos rfl]; exact ⟨_, rfl, rfl⟩
  rw [if_pos f, if_pos f]
  obtain ⟨h0, h1, h2⟩ := fine_of f
  have eD : G.vec_Dot.f d.x d.y d.z n.x n.y n.z = some (dn d n) := dot_eq h2 h1 (by decide)
  have zd : (d.x == 0 && (d.y == 0 && (d.z == 0))) = decide d.zero := z_beq d
  rw [zd, eD, dotR, eD]
  by_cases dz : d.zero
  · have e : dn d n = 0 := by obtain ⟨a, b, c⟩ := dz; unfold dn; rw [a, b, c, Int.zero_mul, Int.zero_mul, Int.zero_mul]; rfl
    rw [decide_eq_true dz, if_pos rfl, e, Option.bind_some, if_pos (show (0 : Int) ≥ 0 by decide), G.relievoref19_Refract.j0, if_pos rfl]
    refine ⟨(0, 0, 0, false), ?_, rfl⟩
    split
    · rfl
    · split <;> rfl
  rw [decide_eq_false dz, if_neg (show ¬ (false = true) by decide)]
  by_cases e0 : eta < 64
  · rw [if_pos e0, if_pos e0, G.relievoref19_Refract.j0, if_pos rfl]; exact ⟨_, rfl, rfl⟩
  rw [if_neg e0, if_neg e0]
  by_cases e1 : eta > 1024
  · rw [if_pos e1, if_pos e1, G.relievoref19_Refract.j0, if_pos rfl]; exact ⟨_, rfl, rfl⟩
  rw [if_neg e1, if_neg e1, Option.bind_some, Option.bind_some, G.relievoref19_Refract.j0]
  by_cases e2 : dn d n ≥ 0
  · rw [if_pos e2, decide_eq_true e2, if_pos rfl]; exact ⟨_, rfl, rfl⟩
  rw [if_neg e2, decide_eq_false e2, if_neg (show ¬ (false = true) by decide)]
  have n2 : n.in_ 32768 := ⟨by have := h1.1; omega, by have := h1.2.1; omega, by have := h1.2.2; omega⟩
  obtain ⟨u, hu, ru⟩ := unit_both (k + 1) d dz h2
  obtain ⟨m, hm, rm⟩ := unit_both (k + 1) n h0 n2
  rw [show k + 66 = k + 1 + 65 by omega, hu, Option.bind_some, hm, Option.bind_some, ru, Option.bind_some, rm, Option.bind_some, dotR]
  obtain ⟨p, hp⟩ : ∃ p, G.vec_Dot.f u.1 u.2.1 u.2.2 m.1 m.2.1 m.2.2 = some p := ⟨_, rfl⟩
  rw [hp, Option.bind_some, Option.bind_some, floorR p (show (0 : Int) < 4096 by decide)]
  obtain ⟨c, hc⟩ := floor_some p (show (4096 : Int) ≠ 0 by decide)
  rw [hc, Option.bind_some, Option.bind_some, floorR _ (show (0 : Int) < 65536 by decide)]
  obtain ⟨f0, hf0⟩ := floor_some (wrap64 (wrap64 (eta * eta) * wrap64 (16777216 - wrap64 (wrap64 (-c) * wrap64 (-c))))) (show (65536 : Int) ≠ 0 by decide)
  rw [hf0, Option.bind_some, Option.bind_some]
  by_cases e3 : wrap64 (16777216 - f0) < 0
  · rw [if_pos e3, if_pos e3]; exact ⟨_, rfl, rfl⟩
  rw [if_neg e3, if_neg e3]
  obtain ⟨g0, hg0⟩ := floor_some (wrap64 (eta * wrap64 (-c))) (show (256 : Int) ≠ 0 by decide)
  have wi := wrap_in (16777216 - f0)
  obtain ⟨s, hi, lo, hs, em, es, _⟩ := root_both (k + 1) (wrap64 (16777216 - f0)) 1 ⟨by omega, wi.2⟩ (by decide) (by omega)
  obtain ⟨x1, hx1⟩ := floor_some (wrap64 (eta * u.1)) (show (256 : Int) ≠ 0 by decide)
  obtain ⟨y1, hy1⟩ := floor_some (wrap64 (eta * u.2.1)) (show (256 : Int) ≠ 0 by decide)
  obtain ⟨z1, hz1⟩ := floor_some (wrap64 (eta * u.2.2)) (show (256 : Int) ≠ 0 by decide)
  obtain ⟨x2, hx2⟩ := floor_some (wrap64 (wrap64 (g0 - s) * m.1)) (show (4096 : Int) ≠ 0 by decide)
  obtain ⟨y2, hy2⟩ := floor_some (wrap64 (wrap64 (g0 - s) * m.2.1)) (show (4096 : Int) ≠ 0 by decide)
  obtain ⟨z2, hz2⟩ := floor_some (wrap64 (wrap64 (g0 - s) * m.2.2)) (show (4096 : Int) ≠ 0 by decide)
  obtain ⟨o, ho, _⟩ := cut_any k (x1 + x2) (y1 + y2) (z1 + z2)
  have ho1 : G.vec_Cut.f (k + 1 + 65) (wrap64 (x1 + x2)) (wrap64 (y1 + y2)) (wrap64 (z1 + z2)) 32768 = some o := by
    rw [show k + 1 + 65 = k + 65 + 1 by omega]
    exact G.vec_Cut.mono _ _ _ _ (k + 65) o ho
  rw [hg0, Option.bind_some, hs, Option.bind_some, hx1, Option.bind_some, hx2, Option.bind_some, hy1, Option.bind_some, hy2, Option.bind_some, hz1, Option.bind_some, hz2, Option.bind_some, ho1, Option.bind_some]
  refine ⟨_, rfl, ?_⟩
  rw [em, Option.bind_some]
  dsimp only
  rw [es, Option.bind_some]
  dsimp only
  rw [floorR _ (show (0 : Int) < 256 by decide), hg0, Option.bind_some, floorR _ (show (0 : Int) < 256 by decide), hx1, Option.bind_some, floorR _ (show (0 : Int) < 4096 by decide), hx2, Option.bind_some, floorR _ (show (0 : Int) < 256 by decide), hy1, Option.bind_some,
    floorR _ (show (0 : Int) < 4096 by decide), hy2, Option.bind_some, floorR _ (show (0 : Int) < 256 by decide), hz1, Option.bind_some, floorR _ (show (0 : Int) < 4096 by decide), hz2, Option.bind_some, cutR, ho, Option.bind_some]
  congr 5
  cases o.1 == 0 <;> cases o.2.1 == 0 <;> cases o.2.2 == 0 <;> rfl
theorem cos_both (k : Nat) (a b : Vec) : ∃ r, G.light_Cos.f (k + 66) a.x a.y a.z b.x b.y b.z = some r ∧ G.relievoref19_Cos.f (k + 66) a.x a.y a.z b.x b.y b.z = some r := by
  by_cases h : fineC a b
  · have h' := h
    obtain ⟨h1, h2, h3, h4⟩ := h'
    have a0 := nn_pos h1
    have a1 := nn_big h3
    have b0 := nn_pos h2
    have b1 := nn_big h4
    have d := dn_big h3 h4
    have hp : nn a * nn b < 21267647932558653966460912964485513216 := by
      have := Int.mul_le_mul a1 b1 (by omega) (show (0 : Int) ≤ 3221225472 by decide)
      omega
    obtain ⟨r, er, hr, rp⟩ := cos_eq k a b h
    obtain ⟨s, hi, lo, es, em, eq, hs⟩ := root_both k (nn a) (nn b) (by omega) (by omega) hp
    have rs := hr.only hs
    subst rs
    refine ⟨_, er, ?_⟩
    have q1 : G.vec_Dot.f a.x a.y a.z b.x b.y b.z = some (dn a b) := dot_eq h3 h4 (by decide)
    have q2 : G.vec_Dot.f a.x a.y a.z a.x a.y a.z = some (nn a) := dot_eq h3 h3 (by decide)
    have q3 : G.vec_Dot.f b.x b.y b.z b.x b.y b.z = some (nn b) := dot_eq h4 h4 (by decide)
    unfold G.relievoref19_Cos.f
    rw [z_beq, z_beq, decide_eq_false h1, if_neg (by decide), decide_eq_false h2, if_neg (by decide), withinR_eq _ _ _ _ (by decide) (by decide), Option.bind_some,
      decide_eq_true (show (⟨a.x, a.y, a.z⟩ : Vec).in_ 32768 from h3), if_pos rfl, withinR_eq _ _ _ _ (by decide) (by decide), Option.bind_some, decide_eq_true (show (⟨b.x, b.y, b.z⟩ : Vec).in_ 32768 from h4),
      G.relievoref19_Cos.j0, if_neg (by decide), dotR, q2, Option.bind_some, dotR, q3, Option.bind_some, em, Option.bind_some]
    dsimp only
    rw [eq, Option.bind_some, dotR, q1, Option.bind_some, w64 (n := 256 * dn a b) (by omega), floorR _ rp, floor_eq rp (by omega), Option.bind_some]
    rfl
  · refine ⟨0, cos_no (k + 65) a b h, ?_⟩
    unfold fineC at h
    unfold G.relievoref19_Cos.f
    rw [z_beq, z_beq]
    by_cases h1 : a.zero
    · rw [decide_eq_true h1, if_pos rfl, G.relievoref19_Cos.j0, if_pos rfl]
    rw [decide_eq_false h1, if_neg (by decide)]
    by_cases h2 : b.zero
    · rw [decide_eq_true h2, if_pos rfl, G.relievoref19_Cos.j0, if_pos rfl]
    rw [decide_eq_false h2, if_neg (by decide), withinR_eq _ _ _ _ (by decide) (by decide), Option.bind_some]
    by_cases h3 : a.in_ 32768
    · rw [decide_eq_true (show (⟨a.x, a.y, a.z⟩ : Vec).in_ 32768 from h3), if_pos rfl, withinR_eq _ _ _ _ (by decide) (by decide), Option.bind_some, decide_eq_false (show ¬ (⟨b.x, b.y, b.z⟩ : Vec).in_ 32768 from fun h4 => h ⟨h1, h2, h3, h4⟩), G.relievoref19_Cos.j0, if_pos (show (!false) = true from rfl)]
    · rw [decide_eq_false (show ¬ (⟨a.x, a.y, a.z⟩ : Vec).in_ 32768 from h3), if_neg (by decide), G.relievoref19_Cos.j0, if_pos rfl]
theorem powerR_loop {c : Int} (hc : 0 ≤ c ∧ c ≤ 256) : ∀ (r k : Nat) (p j : Int), 0 ≤ p ∧ p ≤ 256 → 0 ≤ j → j + r ≤ 64 → G.relievoref19_Power.l0 (k + r + 1) c (j + r) p j = some (pw c r p)
  | 0, k, p, j, hp, hj, h => by
    rw [G.relievoref19_Power.l0, if_neg (by omega)]
    rfl
  | r + 1, k, p, j, hp, hj, h => by
    have hs := step_in hc hp
    have h1 := Int.mul_nonneg hp.1 hc.1
    have h2 := Int.mul_le_mul_of_nonneg_left hc.2 hp.1
    rw [show k + (r + 1) + 1 = (k + r + 1) + 1 by omega, G.relievoref19_Power.l0, if_pos (by omega), w64 (n := p * c) (by omega), w64 (n := j + 1) (by omega), Int.tdiv_eq_ediv_of_nonneg h1, w64 (n := p * c / 256) (by omega)]
    rw [show j + ((r + 1 : Nat) : Int) = j + 1 + (r : Int) by omega]
    exact powerR_loop hc r k _ (j + 1) ⟨hs.1, by omega⟩ (by omega) (by omega)
theorem power_both (k : Nat) (c n : Int) : ∃ r, G.light_Power.f (k + 67) c n = some r ∧ G.relievoref19_Power.f (k + 67) c n = some r := by
  unfold G.relievoref19_Power.f
  by_cases a : c < 0
  · rw [if_pos a, G.relievoref19_Power.j0, if_pos rfl]
    refine ⟨0, ?_, rfl⟩
    unfold G.light_Power.f
    rw [if_pos a, G.light_Power.j0, if_pos rfl]
  rw [if_neg a]
  by_cases b : c > 256
  · rw [if_pos b, G.relievoref19_Power.j0, if_pos rfl]
    refine ⟨0, ?_, rfl⟩
    unfold G.light_Power.f
    rw [if_neg a, if_pos b, G.light_Power.j0, if_pos rfl]
  rw [if_neg b]
  by_cases d : n < 1
  · rw [if_pos d, G.relievoref19_Power.j0, if_pos rfl]
    refine ⟨0, ?_, rfl⟩
    unfold G.light_Power.f
    rw [if_neg a, if_neg b, if_pos d, G.light_Power.j0, if_pos rfl]
  rw [if_neg d]
  by_cases e : n > 64
  · rw [decide_eq_true e, G.relievoref19_Power.j0, if_pos rfl]
    refine ⟨0, ?_, rfl⟩
    unfold G.light_Power.f
    rw [if_neg a, if_neg b, if_neg d, decide_eq_true e, G.light_Power.j0, if_pos rfl]
  · refine ⟨_, power_eq k (by omega) (by omega), ?_⟩
    rw [decide_eq_false e, G.relievoref19_Power.j0, if_neg (by decide)]
    have h := powerR_loop (c := c) (by omega) n.toNat (k + 65 - n.toNat) 256 0 (by omega) (by omega) (by omega)
    rw [show k + 65 - n.toNat + n.toNat + 1 = k + 66 by omega, show (0 : Int) + (n.toNat : Int) = n by omega] at h
    exact h
theorem reflect_both (k : Nat) (d n : Vec) : ∃ r, G.light_Reflect.f (k + 36) d.x d.y d.z n.x n.y n.z = some r ∧ G.relievoref19_Reflect.f (k + 36) d.x d.y d.z n.x n.y n.z = some r := by
  by_cases f : fineB d n = true
  · obtain ⟨r, hr, _⟩ := reflect_some k d n f
    refine ⟨r, hr, ?_⟩
    obtain ⟨h0, h1, h2⟩ := fine_of f
    have q : G.vec_Dot.f n.x n.y n.z n.x n.y n.z = some (nn n) := dot_eq h1 h1 (by decide)
    have e : G.vec_Dot.f d.x d.y d.z n.x n.y n.z = some (dn d n) := dot_eq h2 h1 (by decide)
    have q0 := nn_pos h0
    have q1 := nn_in h1
    have e0 : -100564992 ≤ dn d n ∧ dn d n ≤ 100564992 := dot_in h2 h1
    unfold G.relievoref19_Reflect.f
    rw [fineR_eq, f, Option.bind_some, if_pos rfl, dotR, q, Option.bind_some, dotR, e, Option.bind_some, floorR _ q0, part_eq ⟨q0, q1⟩ e0 h2.1 h1.1, Option.bind_some, floorR _ q0, part_eq ⟨q0, q1⟩ e0 h2.2.1 h1.2.1, Option.bind_some, floorR _ q0, part_eq ⟨q0, q1⟩ e0 h2.2.2 h1.2.2, Option.bind_some, cutR, ← reflect_eq _ d n f, hr, Option.bind_some]
  · have f' : fineB d n = false := by simpa using f
    refine ⟨_, reflect_no (k + 36) d n f', ?_⟩
    unfold G.relievoref19_Reflect.f
    rw [fineR_eq, f', Option.bind_some, if_neg (by decide)]
theorem blend_both (q : Nat) (a0 a1 a2 b0 b1 b2 c0 c1 c2 k l : Int) : ∃ r, G.light_Blend.f a0 a1 a2 b0 b1 b2 c0 c1 c2 k l = some r ∧ G.relievoref19_Blend.f (q + 1) a0 a1 a2 b0 b1 b2 c0 c1 c2 k l = some r := by
  by_cases o : okL k l
  · refine ⟨_, blend_ok _ _ _ _ _ _ _ _ _ o, ?_⟩
    unfold okL at o
    unfold G.relievoref19_Blend.f
    rw [if_neg (by omega), if_neg (by omega), if_neg (by omega), if_neg (by omega), w64 (n := k + l) (by omega), decide_eq_false (by omega), G.relievoref19_Blend.j0, if_neg (by decide)]
    have pp : ∀ x y z : Int, wrap64 (Int.tdiv (wrap64 (wrap64 (wrap64 (G.cutB x * wrap64 (wrap64 (256 - k) - l)) + wrap64 (G.cutB y * k)) + wrap64 (G.cutB z * l))) 256) = G.partB x y z k l := fun x y z => by
      have i := part_in x y z (k := k) (l := l) (by omega) (by omega) (by omega)
      unfold G.partB at i ⊢
      generalize wrap64 (wrap64 (wrap64 (G.cutB x * wrap64 (wrap64 (256 - k) - l)) + wrap64 (G.cutB y * k)) + wrap64 (G.cutB z * l)) = t at *
      rw [Int.tdiv_eq_ediv_of_nonneg (by omega), w64 (by omega)]
    have cl : ∀ x : Int, G.relievoref19_clamp.f x = some (G.cutB x) := fun x => rfl
    simp only [cl, Option.bind_some, pp]
  · refine ⟨_, blend_no _ _ _ _ _ _ _ _ _ o, ?_⟩
    unfold okL at o
    unfold G.relievoref19_Blend.f
    by_cases x1 : k < 0
    · rw [if_pos x1, G.relievoref19_Blend.j0, if_pos rfl]
    rw [if_neg x1]
    by_cases x2 : l < 0
    · rw [if_pos x2, G.relievoref19_Blend.j0, if_pos rfl]
    rw [if_neg x2]
    by_cases x3 : k > 256
    · rw [if_pos x3, G.relievoref19_Blend.j0, if_pos rfl]
    rw [if_neg x3]
    by_cases x4 : l > 256
    · rw [if_pos x4, G.relievoref19_Blend.j0, if_pos rfl]
    rw [if_neg x4, w64 (n := k + l) (by omega), decide_eq_true (by omega), G.relievoref19_Blend.j0, if_pos rfl]
end Go.Proofs.Ytmhnidmbgicgeaa.Pure

namespace Go.Proofs.Ytmhnidmbgicgeaa.Pure
open Go.RowKit Go.Proofs.VecMath Go.Proofs.Ytmhnidmbgicgeaa.M Go.Proofs.YtmhnidmbgicgeaaW.PrintWords
set_option linter.unusedVariables false
theorem LightAnswers (a0_0 a0_1 a0_2 a1_0 a1_1 a1_2 a2 a3 a4 a5_0 a5_1 a5_2 a6_0 a6_1 a6_2 a7_0 a7_1 a7_2 : Int) (b0_0 : -9223372036854775808 ≤ a0_0 ∧ a0_0 ≤ 9223372036854775807) (b0_1 : -9223372036854775808 ≤ a0_1 ∧ a0_1 ≤ 9223372036854775807) (b0_2 : -9223372036854775808 ≤ a0_2 ∧ a0_2 ≤ 9223372036854775807) (b1_0 : -9223372036854775808 ≤ a1_0 ∧ a1_0 ≤ 9223372036854775807) (b1_1 : -9223372036854775808 ≤ a1_1 ∧ a1_1 ≤ 9223372036854775807) (b1_2 : -9223372036854775808 ≤ a1_2 ∧ a1_2 ≤ 9223372036854775807) (b2 : -9223372036854775808 ≤ a2 ∧ a2 ≤ 9223372036854775807) (b3 : -9223372036854775808 ≤ a3 ∧ a3 ≤ 9223372036854775807) (b4 : -9223372036854775808 ≤ a4 ∧ a4 ≤ 9223372036854775807) (b5_0 : -9223372036854775808 ≤ a5_0 ∧ a5_0 ≤ 9223372036854775807) (b5_1 : -9223372036854775808 ≤ a5_1 ∧ a5_1 ≤ 9223372036854775807) (b5_2 : -9223372036854775808 ≤ a5_2 ∧ a5_2 ≤ 9223372036854775807) (b6_0 : -9223372036854775808 ≤ a6_0 ∧ a6_0 ≤ 9223372036854775807) (b6_1 : -9223372036854775808 ≤ a6_1 ∧ a6_1 ≤ 9223372036854775807) (b6_2 : -9223372036854775808 ≤ a6_2 ∧ a6_2 ≤ 9223372036854775807) (b7_0 : -9223372036854775808 ≤ a7_0 ∧ a7_0 ≤ 9223372036854775807) (b7_1 : -9223372036854775808 ≤ a7_1 ∧ a7_1 ≤ 9223372036854775807) (b7_2 : -9223372036854775808 ≤ a7_2 ∧ a7_2 ≤ 9223372036854775807) :
    ∃ k, G.relievolaw19_LightAnswers.f k a0_0 a0_1 a0_2 a1_0 a1_1 a1_2 a2 a3 a4 a5_0 a5_1 a5_2 a6_0 a6_1 a6_2 a7_0 a7_1 a7_2 = some true := by
  refine ⟨80, ?_⟩
  unfold G.relievolaw19_LightAnswers.f
  rw [alive_80, Option.bind_some, if_pos rfl]
  obtain ⟨x, hx, rx⟩ := refract_both 14 ⟨a0_0, a0_1, a0_2⟩ ⟨a1_0, a1_1, a1_2⟩ a2
  obtain ⟨c, hc, rc⟩ := cos_both 14 ⟨a0_0, a0_1, a0_2⟩ ⟨a1_0, a1_1, a1_2⟩
  obtain ⟨p, hp, rp⟩ := power_both 13 a3 a4
  obtain ⟨f, hf, rf⟩ := reflect_both 44 ⟨a0_0, a0_1, a0_2⟩ ⟨a1_0, a1_1, a1_2⟩
  obtain ⟨b, hb, rb⟩ := blend_both 79 a5_0 a5_1 a5_2 a6_0 a6_1 a6_2 a7_0 a7_1 a7_2 a3 a4
  dsimp only at hx rx hc rc hf rf
  rw [hx, Option.bind_some, rx, Option.bind_some, hc, Option.bind_some, rc, Option.bind_some, if_pos rfl, hp, Option.bind_some, rp, Option.bind_some, if_pos rfl, hf, Option.bind_some, rf, Option.bind_some, if_pos (by simp), if_pos (by simp), if_pos (by simp), hb, Option.bind_some, rb, Option.bind_some]
  simp
end Go.Proofs.Ytmhnidmbgicgeaa.Pure
