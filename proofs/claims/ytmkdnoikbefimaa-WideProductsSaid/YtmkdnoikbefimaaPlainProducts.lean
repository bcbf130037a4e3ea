/- Every Mul, Div, Sqrt and Order answers what the document says: for all numbers (plain laws, put together). -/
import Derived.Laws.MathBits
import Derived.Test.YtmkdnoikbefimaaGx12
import Derived.Test.YtmkdnoikbefimaaGx26
import Derived.Test.YtmkdnoikbefimaaGx23
import Derived.Test.YtmkdnoikbefimaaGx13
import Derived.Lib.BitFns
import Derived.Test.YtmkdnoikbefimaaGx20
import Derived.Laws.Bits64b
import Derived.Test.YtmkdnoikbefimaaGx22
import Derived.Test.YtmkdnoikbefimaaGx24
import Derived.Test.YtmkdnoikbefimaaGx38
import Derived.Test.YtmkdnoikbefimaaNumProd
import Derived.Test.YtmkdnoikbefimaaGx44
namespace Go.Proofs.VecMath

structure Vec where
  x : Int
  y : Int
  z : Int

def Vec.in_ (m : Int) (a : Vec) : Prop := (-m ≤ a.x ∧ a.x ≤ m) ∧ (-m ≤ a.y ∧ a.y ≤ m) ∧ (-m ≤ a.z ∧ a.z ≤ m)
instance (m : Int) (a : Vec) : Decidable (a.in_ m) := by unfold Vec.in_; infer_instance
def Vec.zero (a : Vec) : Prop := a.x = 0 ∧ a.y = 0 ∧ a.z = 0
instance (a : Vec) : Decidable a.zero := by unfold Vec.zero; infer_instance

def V0 (o d a b : Vec) : Int :=
  d.x * ((a.y - o.y) * (b.z - o.z) - (a.z - o.z) * (b.y - o.y)) + d.y * ((a.z - o.z) * (b.x - o.x) - (a.x - o.x) * (b.z - o.z)) + d.z * ((a.x - o.x) * (b.y - o.y) - (a.y - o.y) * (b.x - o.x))
def Cx (d a b : Vec) : Int := (a.y - b.y) * d.z - (a.z - b.z) * d.y
def Cy (d a b : Vec) : Int := (a.z - b.z) * d.x - (a.x - b.x) * d.z
def Cz (d a b : Vec) : Int := (a.x - b.x) * d.y - (a.y - b.y) * d.x
def sg (n : Int) : Int := if n < 0 then -1 else if n > 0 then 1 else 0
def lex4 (v x y z : Int) : Int := if sg v = 0 then (if sg x = 0 then (if sg y = 0 then sg z else sg y) else sg x) else sg v
def pS (o d a b : Vec) : Int := lex4 (V0 o d a b) (Cx d a b) (Cy d a b) (Cz d a b)
/-- One number whose sign is the side. -/
def WW (o d a b : Vec) : Int := 1329227995784915872903807060280344576 * V0 o d a b + 1208925819614629174706176 * Cx d a b + 1099511627776 * Cy d a b + Cz d a b
def NX (a b c : Vec) : Int := (b.y - a.y) * (c.z - a.z) - (b.z - a.z) * (c.y - a.y)
def NY (a b c : Vec) : Int := (b.z - a.z) * (c.x - a.x) - (b.x - a.x) * (c.z - a.z)
def NZ (a b c : Vec) : Int := (b.x - a.x) * (c.y - a.y) - (b.y - a.y) * (c.x - a.x)
def num (o a b c : Vec) : Int := NX a b c * (a.x - o.x) + NY a b c * (a.y - o.y) + NZ a b c * (a.z - o.z)
def den (d a b c : Vec) : Int := NX a b c * d.x + NY a b c * d.y + NZ a b c * d.z

theorem mulb {x y A B : Int} (hx : -A ≤ x ∧ x ≤ A) (hy : -B ≤ y ∧ y ≤ B) : -(A * B) ≤ x * y ∧ x * y ≤ A * B := by
  obtain ⟨a, b⟩ := hx
  obtain ⟨c, d⟩ := hy
  have h1 := Int.mul_nonneg (show 0 ≤ A - x by omega) (show 0 ≤ B - y by omega)
  have h2 := Int.mul_nonneg (show 0 ≤ A + x by omega) (show 0 ≤ B + y by omega)
  have h3 := Int.mul_nonneg (show 0 ≤ A - x by omega) (show 0 ≤ B + y by omega)
  have h4 := Int.mul_nonneg (show 0 ≤ A + x by omega) (show 0 ≤ B - y by omega)
  constructor <;> grind

theorem sg_pos {n : Int} : sg n = 1 ↔ 0 < n := by unfold sg; split <;> (try split) <;> constructor <;> intro h <;> omega
theorem sg_neg {n : Int} : sg n = -1 ↔ n < 0 := by unfold sg; split <;> (try split) <;> constructor <;> intro h <;> omega
theorem sg_zero {n : Int} : sg n = 0 ↔ n = 0 := by unfold sg; split <;> (try split) <;> constructor <;> intro h <;> omega
theorem sg_or (n : Int) : sg n = -1 ∨ sg n = 0 ∨ sg n = 1 := by unfold sg; split <;> (try split) <;> simp

/-- The lexical sign is the sign of one number. -/
theorem lex_sg {v x y z : Int} (hx : -17179869184 ≤ x ∧ x ≤ 17179869184) (hy : -17179869184 ≤ y ∧ y ≤ 17179869184) (hz : -17179869184 ≤ z ∧ z ≤ 17179869184) :
    lex4 v x y z = sg (1329227995784915872903807060280344576 * v + 1208925819614629174706176 * x + 1099511627776 * y + z) := by
  unfold lex4 sg
  split <;> split <;> (try split) <;> (try split) <;> (try split) <;> (try split) <;> (try split) <;> (try split) <;> omega

theorem sub_in {a b : Vec} {m n : Int} (ha : a.in_ m) (hb : b.in_ n) : (-(m + n) ≤ a.x - b.x ∧ a.x - b.x ≤ m + n) ∧ (-(m + n) ≤ a.y - b.y ∧ a.y - b.y ≤ m + n) ∧ (-(m + n) ≤ a.z - b.z ∧ a.z - b.z ≤ m + n) := by
  unfold Vec.in_ at *
  omega

theorem C_in {d a b : Vec} (hd : d.in_ 32768) (ha : a.in_ 65536) (hb : b.in_ 65536) :
    (-8589934592 ≤ Cx d a b ∧ Cx d a b ≤ 8589934592) ∧ (-8589934592 ≤ Cy d a b ∧ Cy d a b ≤ 8589934592) ∧ (-8589934592 ≤ Cz d a b ∧ Cz d a b ≤ 8589934592) := by
  obtain ⟨sx, sy, sz⟩ := sub_in ha hb
  obtain ⟨dx, dy, dz⟩ := hd
  have h1 := mulb sy dz
  have h2 := mulb sz dy
  have h3 := mulb sz dx
  have h4 := mulb sx dz
  have h5 := mulb sx dy
  have h6 := mulb sy dx
  unfold Cx Cy Cz
  omega

theorem pS_sg {o d a b : Vec} (hd : d.in_ 32768) (ha : a.in_ 65536) (hb : b.in_ 65536) : pS o d a b = sg (WW o d a b) := by
  obtain ⟨h1, h2, h3⟩ := C_in hd ha hb
  unfold pS WW
  exact lex_sg (by omega) (by omega) (by omega)

theorem WW_anti (o d a b : Vec) : WW o d b a = -WW o d a b := by
  unfold WW V0 Cx Cy Cz
  grind
theorem WW_sum (o d a b c : Vec) : WW o d a b + WW o d b c + WW o d c a = 1329227995784915872903807060280344576 * den d a b c := by
  unfold WW V0 Cx Cy Cz den NX NY NZ
  grind
end Go.Proofs.VecMath

namespace Go.Proofs.Ytmkdnoikbefimaa.M
open Go.RowKit Go.Proofs.VecMath Go.Proofs.YtmkdnoikbefimaaW.PrintWords
set_option linter.unusedVariables false
set_option linter.unusedSimpArgs false

theorem w64 {n : Int} (h : -9223372036854775808 ≤ n ∧ n ≤ 9223372036854775807) : wrap64 n = n := by
  unfold wrap64
  omega
theorem u64w (n : Int) : IntKind.u64.wrap n = n % 18446744073709551616 := rfl

theorem mul64_eq (a b : Int) (ha : 0 ≤ a ∧ a < 18446744073709551616) (hb : 0 ≤ b ∧ b < 18446744073709551616) :
    G.bits_Mul64.f a b = some (a * b / 18446744073709551616, a * b % 18446744073709551616) := by
  unfold G.bits_Mul64.f
  simp only [u64w]
  rw [and_low32 a ha.1 ha.2, and_low32 b hb.1 hb.2, and_low32 _ (by omega) (by omega)]
  rw [mul64_arith a b ha.1 ha.2 hb.1 hb.2]

/-- The two halves of a whole number. -/
def hiW (n : Int) : Int := n / 18446744073709551616
def loW (n : Int) : Int := n % 18446744073709551616

def i64b (n : Int) : Prop := -9223372036854775808 ≤ n ∧ n ≤ 9223372036854775807

theorem prod_in {a b : Int} (ha : i64b a) (hb : i64b b) : -85070591730234615865843651857942052864 ≤ a * b ∧ a * b ≤ 85070591730234615865843651857942052864 :=
  mulb (A := 9223372036854775808) (B := 9223372036854775808) ⟨by unfold i64b at ha; omega, by unfold i64b at ha; omega⟩ ⟨by unfold i64b at hb; omega, by unfold i64b at hb; omega⟩

theorem mulW_eq (a b : Int) (ha : i64b a) (hb : i64b b) : G.wide_Mul.f a b = some (hiW (a * b), loW (a * b)) := by
  have hp := prod_in ha hb
  unfold i64b at ha hb
  unfold G.wide_Mul.f hiW loW
  rw [u64w, u64w, mul64_eq _ _ (by omega) (by omega), Option.bind_some]
  simp only [u64w]
  by_cases h1 : a < 0
  · have ea : a % 18446744073709551616 = a + 18446744073709551616 := by omega
    rw [if_pos h1, ea]
    by_cases h2 : b < 0
    · have eb : b % 18446744073709551616 = b + 18446744073709551616 := by omega
      rw [if_pos h2, eb]
      have e : (a + 18446744073709551616) * (b + 18446744073709551616) = a * b + 18446744073709551616 * (a + b + 18446744073709551616) := by grind
      rw [e]
      generalize a * b = p at *
      simp only [Option.some.injEq, Prod.mk.injEq, and_true]
      unfold wrap64
      omega
    · have eb : b % 18446744073709551616 = b := by omega
      rw [if_neg h2, eb]
      have e : (a + 18446744073709551616) * b = a * b + 18446744073709551616 * b := by grind
      rw [e]
      generalize a * b = p at *
      simp only [Option.some.injEq, Prod.mk.injEq, and_true]
      unfold wrap64
      omega
  · have ea : a % 18446744073709551616 = a := by omega
    rw [if_neg h1, ea]
    by_cases h2 : b < 0
    · have eb : b % 18446744073709551616 = b + 18446744073709551616 := by omega
      rw [if_pos h2, eb]
      have e : a * (b + 18446744073709551616) = a * b + 18446744073709551616 * a := by grind
      rw [e]
      generalize a * b = p at *
      simp only [Option.some.injEq, Prod.mk.injEq, and_true]
      unfold wrap64
      omega
    · have eb : b % 18446744073709551616 = b := by omega
      rw [if_neg h2, eb]
      generalize a * b = p at *
      simp only [Option.some.injEq, Prod.mk.injEq, and_true]
      unfold wrap64
      omega

theorem compare64_eq (a b : Int) : G.cmp_Compare_int64.f a b = some (sg (a - b)) := by
  unfold G.cmp_Compare_int64.f G.cmp_isNaN_int64.f sg
  simp only [Option.bind_some, bne_self_eq_false, Bool.false_eq_true, if_false]
  repeat' split
  all_goals first | rfl | omega
theorem compareU_eq (a b : Int) : G.cmp_Compare_uint64.f a b = some (sg (a - b)) := by
  unfold G.cmp_Compare_uint64.f G.cmp_isNaN_uint64.f sg
  simp only [Option.bind_some, bne_self_eq_false, Bool.false_eq_true, if_false]
  repeat' split
  all_goals first | rfl | omega

theorem or2_eq (k : Nat) (a b : Int) : G.cmp_Or_int.f (k + 3) [a, b] = some (if a = 0 then b else a) := by
  unfold G.cmp_Or_int.f
  have e1 : wrap64 (0 + 1) = 1 := by unfold wrap64; decide
  have e2 : wrap64 (1 + 1) = 2 := by unfold wrap64; decide
  have hl : (([a, b] : List Int).length : Int) = 2 := rfl
  have r0 : rd [a, b] 0 = a := rfl
  have r1 : rd [a, b] 1 = b := rfl
  rw [hl, G.cmp_Or_int.l0, if_pos (by decide), if_pos (by decide), if_pos (by rw [hl]; decide), r0, e1]
  by_cases h : a = 0
  · rw [if_pos h, if_pos h, G.cmp_Or_int.l0, if_pos (by decide), if_pos (by decide), if_pos (by rw [hl]; decide), r1, e2]
    by_cases h' : b = 0
    · rw [if_pos h', G.cmp_Or_int.l0, if_neg (by decide), h']
    · rw [if_neg h']
  · rw [if_neg h, if_neg h]

theorem cmpW_eq (k : Nat) (a b : Int) : G.wide_Cmp.f (k + 3) (hiW a) (loW a) (hiW b) (loW b) = some (sg (a - b)) := by
  unfold G.wide_Cmp.f
  rw [compare64_eq, Option.bind_some, compareU_eq, Option.bind_some, or2_eq, Option.bind_some]
  unfold hiW loW sg
  congr 1
  repeat' split
  all_goals first | rfl | omega

/-- A fraction. -/
structure Fr where
  n : Int
  d : Int
def Fr.right (p : Fr) : Prop := 0 < p.d ∨ (p.n = 1 ∧ p.d = 0)
instance (p : Fr) : Decidable p.right := by unfold Fr.right; infer_instance
def Fr.b64 (p : Fr) : Prop := i64b p.n ∧ i64b p.d

theorem right_eq (p : Fr) : G.wide_right.f p.n p.d = some (decide p.right) := by
  unfold G.wide_right.f
  by_cases h : p.d > 0
  · rw [if_pos h, decide_eq_true (show p.right from Or.inl h)]
  · rw [if_neg h]
    have e : (p.n == 1 && (p.d == 0)) = decide p.right := by
      rw [Bool.eq_iff_iff, Bool.and_eq_true, beq_iff_eq, beq_iff_eq, decide_eq_true_eq]
      unfold Fr.right
      omega
    rw [e]



theorem order_eq (k : Nat) (p q : Fr) (hp : p.b64) (hq : q.b64) (rp : p.right) (rq : q.right) :
    G.wide_Order.f (k + 4) p.n p.d q.n q.d = some (sg (p.n * q.d - q.n * p.d), true) := by
  unfold G.wide_Order.f
  rw [right_eq, right_eq, decide_eq_true rp, decide_eq_true rq, Option.bind_some, if_pos rfl, Option.bind_some, G.wide_Order.j0, if_neg (by decide), mulW_eq _ _ hp.1 hq.2, Option.bind_some,
    mulW_eq _ _ hq.1 hp.2, Option.bind_some, cmpW_eq, Option.bind_some]

theorem order_all (k : Nat) (p q : Fr) (hp : p.b64) (hq : q.b64) :
    G.wide_Order.f (k + 4) p.n p.d q.n q.d = some (if p.right ∧ q.right then (sg (p.n * q.d - q.n * p.d), true) else (0, false)) := by
  by_cases rp : p.right
  · by_cases rq : q.right
    · rw [if_pos ⟨rp, rq⟩, order_eq k p q hp hq rp rq]
    · rw [if_neg (fun h => rq h.2)]
      unfold G.wide_Order.f
      rw [right_eq, right_eq, decide_eq_true rp, decide_eq_false rq, Option.bind_some, if_pos rfl, Option.bind_some, G.wide_Order.j0, if_pos (show (!false) = true from rfl)]
  · rw [if_neg (fun h => rp h.1)]
    unfold G.wide_Order.f
    rw [right_eq, decide_eq_false rp, Option.bind_some, if_neg (by decide), G.wide_Order.j0, if_pos rfl]
/-- Whole numbers of 128 bits. -/
def i128 (n : Int) : Prop := -170141183460469231731687303715884105728 ≤ n ∧ n ≤ 170141183460469231731687303715884105727
theorem of_eq (n : Int) (h : i64b n) : G.wide_Of.f n = some (hiW n, loW n) := by
  unfold G.wide_Of.f hiW loW
  unfold i64b at h
  rw [u64w, show n / 9223372036854775808 = n / 18446744073709551616 by omega]
theorem sum_eq (n m : Int) (hn : i128 n) (hm : i128 m) (h : i128 (n + m)) : G.wide_sum.f (hiW n) (loW n) (hiW m) (loW m) = some (hiW (n + m), loW (n + m)) := by
  unfold i128 at *
  unfold G.wide_sum.f hiW loW
  rw [if_pos (by omega)]
  unfold wrap64
  congr 2 <;> omega
theorem turned_eq (n : Int) (hn : i128 n) (h : i128 (-n)) : G.wide_turned.f (hiW n) (loW n) = some (hiW (-n), loW (-n)) := by
  have hn' := hn
  unfold i128 at hn h
  unfold G.wide_turned.f
  rw [if_pos (by unfold hiW; omega)]
  have e := sum_eq (-1 - n) 1 (by unfold i128; omega) (by unfold i128; omega) (by unfold i128; omega)
  rw [show hiW (-1 - n) = -1 - hiW n by unfold hiW; omega, show loW (-1 - n) = 18446744073709551615 - loW n by unfold loW; omega, show -1 - n + 1 = -n by omega] at e
  exact e
theorem neg_eq (n : Int) (hn : i128 n) (h : i128 (-n)) : G.wide_Neg.f (hiW n) (loW n) = some (hiW (-n), loW (-n), true) := by
  unfold G.wide_Neg.f
  rw [turned_eq n hn h, Option.bind_some]
  unfold i128 at *
  by_cases a : hiW n = -9223372036854775808
  · rw [if_pos a, if_neg (by unfold hiW at a; unfold loW; omega)]
  · rw [if_neg a]
theorem add_eq (n m : Int) (hn : i128 n) (hm : i128 m) (h : i128 (n + m)) : G.wide_Add.f (hiW n) (loW n) (hiW m) (loW m) = some (hiW (n + m), loW (n + m), true) := by
  unfold G.wide_Add.f
  rw [sum_eq n m hn hm h, Option.bind_some]
  have e : ∀ x : Int, decide (hiW x < 0) = decide (x < 0) := fun x => by
    rw [Bool.eq_iff_iff, decide_eq_true_eq, decide_eq_true_eq]
    unfold hiW
    omega
  dsimp only
  rw [e n, e m, e (n + m)]
  by_cases a : n < 0 <;> by_cases b : m < 0
  · rw [decide_eq_true a, decide_eq_true b, decide_eq_true (show n + m < 0 by omega)]
    rfl
  · rw [decide_eq_true a, decide_eq_false b]
    rfl
  · rw [decide_eq_false a, decide_eq_true b]
    rfl
  · rw [decide_eq_false a, decide_eq_false b, decide_eq_false (show ¬ n + m < 0 by omega)]
    rfl
theorem prod128 {a b : Int} (ha : i64b a) (hb : i64b b) : i128 (a * b) := by
  have := prod_in ha hb
  unfold i128
  omega
end Go.Proofs.Ytmkdnoikbefimaa.M

namespace Go.Proofs.DivMath
set_option linter.unusedVariables false
/-- A divisor with its highest bit, in two halves; what is divided, its first part below the divisor. -/
structure Ok (y yn1 yn0 U u : Int) : Prop where
  e : y = yn1 * 4294967296 + yn0
  a : 0 ≤ yn0 ∧ yn0 < 4294967296
  b : 2147483648 ≤ yn1 ∧ yn1 < 4294967296
  c : 0 ≤ U ∧ U < y
  d : 0 ≤ u ∧ u < 4294967296
def Qd (y U u : Int) : Int := (U * 4294967296 + u) / y
def Rd (y U u : Int) : Int := (U * 4294967296 + u) % y
variable {y yn1 yn0 U u : Int}
theorem Ok.pos (h : Ok y yn1 yn0 U u) : 0 < y := by
  have := h.e; have := h.a; have := h.b
  omega
theorem Ok.sum (h : Ok y yn1 yn0 U u) : Qd y U u * y + Rd y U u = U * 4294967296 + u := by
  have := Int.mul_ediv_add_emod (U * 4294967296 + u) y
  unfold Qd Rd
  rw [Int.mul_comm]
  exact this
theorem Ok.rest (h : Ok y yn1 yn0 U u) : 0 ≤ Rd y U u ∧ Rd y U u < y := ⟨Int.emod_nonneg _ (by have := h.pos; omega), Int.emod_lt_of_pos _ h.pos⟩
theorem Ok.test (h : Ok y yn1 yn0 U u) {q r : Int} (hq : q * yn1 + r = U) : q ≤ Qd y U u ↔ q * yn0 ≤ 4294967296 * r + u := by
  unfold Qd
  rw [Int.le_ediv_iff_mul_le h.pos, h.e]
  have e : q * (yn1 * 4294967296 + yn0) = 4294967296 * (q * yn1) + q * yn0 := by grind
  rw [e]
  omega
theorem Ok.low (h : Ok y yn1 yn0 U u) : 0 ≤ Qd y U u := Int.ediv_nonneg (by have := h.c; have := h.d; omega) (by have := h.pos; omega)
theorem Ok.high (h : Ok y yn1 yn0 U u) : Qd y U u < 4294967296 := by
  unfold Qd
  apply Int.ediv_lt_of_lt_mul h.pos
  have := h.c; have := h.d
  omega
/-- The first guess. -/
theorem Ok.guess (h : Ok y yn1 yn0 U u) : Qd y U u ≤ U / yn1 ∧ U / yn1 ≤ 4294967297 ∧ U / yn1 * yn1 + (U - U / yn1 * yn1) = U ∧ 0 ≤ U - U / yn1 * yn1 ∧ U - U / yn1 * yn1 < yn1 := by
  have hy := h.e; have ha := h.a; have hb := h.b; have hc := h.c; have hd := h.d
  have e := Int.mul_ediv_add_emod U yn1
  have r0 := Int.emod_nonneg U (show yn1 ≠ 0 by omega)
  have r1 := Int.emod_lt_of_pos U (show 0 < yn1 by omega)
  rw [Int.mul_comm] at e
  refine ⟨?_, ?_, by omega, by omega, by omega⟩
  · apply (Int.le_ediv_iff_mul_le (show 0 < yn1 by omega)).mpr
    have s := h.sum
    have r := h.rest
    have l := h.low
    have q : Qd y U u * y = 4294967296 * (Qd y U u * yn1) + Qd y U u * yn0 := by
      conv => lhs; rw [hy]
      grind
    have p := Int.mul_nonneg l ha.1
    omega
  · have lt : U / yn1 < 4294967298 := by
      apply Int.ediv_lt_of_lt_mul (show 0 < yn1 by omega)
      omega
    omega
/-- The test is true: the guess is too great. -/
theorem Ok.down (h : Ok y yn1 yn0 U u) {q r : Int} (hq : q * yn1 + r = U) (hl : Qd y U u ≤ q) (t : 4294967296 ≤ q ∨ 4294967296 * r + u < q * yn0) : Qd y U u ≤ q - 1 ∧ (q - 1) * yn1 + (r + yn1) = U := by
  have hi := h.high
  have ts := h.test hq
  constructor
  · rcases t with t | t
    · omega
    · have : ¬ q ≤ Qd y U u := fun c => by have := ts.mp c; omega
      omega
  · have : (q - 1) * yn1 = q * yn1 - yn1 := by grind
    omega
/-- The test is false: the guess is right. -/
theorem Ok.stop (h : Ok y yn1 yn0 U u) {q r : Int} (hq : q * yn1 + r = U) (hl : Qd y U u ≤ q) (t : q * yn0 ≤ 4294967296 * r + u) : q = Qd y U u := by
  have := (h.test hq).mpr t
  omega
/-- The rest is so great that no test is wanted. -/
theorem Ok.great (h : Ok y yn1 yn0 U u) {q r : Int} (hq : q * yn1 + r = U) (hl : Qd y U u ≤ q) (g : q ≤ 4294967296) (t : 4294967296 ≤ r) : q = Qd y U u := by
  apply h.stop hq hl
  have ha := h.a; have hd := h.d; have l := h.low
  have := Int.mul_le_mul g (show yn0 ≤ 4294967295 by omega) ha.1 (show (0 : Int) ≤ 4294967296 by decide)
  omega
theorem Ok.fits (h : Ok y yn1 yn0 U u) {q : Int} (h0 : 0 ≤ q) (g : q ≤ 4294967297) : 0 ≤ q * yn0 ∧ q * yn0 < 18446744073709551616 := by
  have ha := h.a
  have := Int.mul_le_mul g (show yn0 ≤ 4294967295 by omega) ha.1 (show (0 : Int) ≤ 4294967297 by decide)
  exact ⟨Int.mul_nonneg h0 ha.1, by omega⟩
/-- Two digits make the whole quotient. -/
theorem two_digits {y U u1 u0 : Int} (hy : 0 < y) :
    (U * 18446744073709551616 + (u1 * 4294967296 + u0)) / y = Qd y U u1 * 4294967296 + Qd y (Rd y U u1) u0 ∧ (U * 18446744073709551616 + (u1 * 4294967296 + u0)) % y = Rd y (Rd y U u1) u0 := by
  have s1 : Qd y U u1 * y + Rd y U u1 = U * 4294967296 + u1 := by
    have := Int.mul_ediv_add_emod (U * 4294967296 + u1) y
    unfold Qd Rd
    rw [Int.mul_comm]
    exact this
  have s2 : Qd y (Rd y U u1) u0 * y + Rd y (Rd y U u1) u0 = Rd y U u1 * 4294967296 + u0 := by
    have := Int.mul_ediv_add_emod (Rd y U u1 * 4294967296 + u0) y
    unfold Qd
    conv => lhs; arg 2; unfold Rd
    rw [Int.mul_comm]
    exact this
  have r : 0 ≤ Rd y (Rd y U u1) u0 ∧ Rd y (Rd y U u1) u0 < y := ⟨Int.emod_nonneg _ (by omega), Int.emod_lt_of_pos _ hy⟩
  generalize Qd y (Rd y U u1) u0 = q0 at *
  generalize Rd y (Rd y U u1) u0 = r0 at *
  generalize Qd y U u1 = q1 at *
  generalize Rd y U u1 = r1 at *
  have e : U * 18446744073709551616 + (u1 * 4294967296 + u0) = r0 + y * (q1 * 4294967296 + q0) := by grind
  rw [e]
  constructor
  · rw [Int.add_mul_ediv_left _ _ (by omega), Int.ediv_eq_zero_of_lt r.1 r.2, Int.zero_add]
  · rw [Int.add_mul_emod_self_left, Int.emod_eq_of_lt r.1 r.2]
/-- How many bits a number has. -/
theorem aux_len : ∀ (f x : Nat), x < 2 ^ f → x ≠ 0 → ∃ j, Lib.bitLenAux f x = j + 1 ∧ j + 1 ≤ f ∧ 2 ^ j ≤ x ∧ x < 2 ^ (j + 1)
  | 0, x, h, h0 => by
    have : x < 1 := h
    omega
  | f + 1, x, h, h0 => by
    rw [Lib.bitLenAux, if_neg h0]
    by_cases c : x / 2 = 0
    · have e : x = 1 := by omega
      subst e
      refine ⟨0, ?_, by omega, by decide, by decide⟩
      have z : Lib.bitLenAux f (1 / 2) = 0 := by
        cases f with
        | zero => rfl
        | succ n => rfl
      rw [z]
    · obtain ⟨j, e, l, a, b⟩ := aux_len f (x / 2) (by rw [Nat.pow_succ] at h; omega) c
      refine ⟨j + 1, by rw [e]; omega, by omega, ?_, ?_⟩
      · rw [Nat.pow_succ]; omega
      · rw [Nat.pow_succ]; omega
theorem len_bounds {x : Int} (h0 : 0 < x) (h1 : x < 18446744073709551616) : ∃ s : Nat, (64 - (Lib.bitLen x.toNat : Int)) = (s : Int) ∧ s ≤ 63 ∧ 9223372036854775808 ≤ x * 2 ^ s ∧ x * 2 ^ s < 18446744073709551616 := by
  obtain ⟨j, e, l, a, b⟩ := aux_len 64 x.toNat (by omega) (by omega)
  refine ⟨63 - j, ?_, by omega, ?_, ?_⟩
  · unfold Lib.bitLen
    rw [e]
    omega
  · have p : (2 : Int) ^ j * 2 ^ (63 - j) = 2 ^ 63 := by rw [← Int.pow_add, show j + (63 - j) = 63 by omega]
    have a' : (2 : Int) ^ j ≤ x := by
      have : ((2 ^ j : Nat) : Int) ≤ (x.toNat : Int) := by exact_mod_cast a
      simpa [Int.toNat_of_nonneg (show 0 ≤ x by omega)] using this
    have := Int.mul_le_mul_of_nonneg_right a' (show (0 : Int) ≤ 2 ^ (63 - j) from Int.le_of_lt (Int.pow_pos (by decide)))
    rw [p] at this
    exact this
  · have p : (2 : Int) ^ (j + 1) * 2 ^ (63 - j) = 2 ^ 64 := by rw [← Int.pow_add, show j + 1 + (63 - j) = 64 by omega]
    have b' : x < (2 : Int) ^ (j + 1) := by
      have : (x.toNat : Int) < ((2 ^ (j + 1) : Nat) : Int) := by exact_mod_cast b
      simpa [Int.toNat_of_nonneg (show 0 ≤ x by omega)] using this
    have := Int.mul_lt_mul_of_pos_right b' (show (0 : Int) < 2 ^ (63 - j) from Int.pow_pos (by decide))
    rw [p] at this
    exact this
end Go.Proofs.DivMath

namespace Go.Proofs.Ytmkdnoikbefimaa.M
open Go.RowKit Go.Proofs.VecMath Go.Proofs.DivMath Go.Proofs.YtmkdnoikbefimaaW.PrintWords
set_option linter.unusedVariables false
set_option linter.unusedSimpArgs false
theorem uw {n : Int} (h : 0 ≤ n ∧ n < 18446744073709551616) : IntKind.u64.wrap n = n := by
  rw [u64w]
  omega
/-- What the second digit leaves. -/
def divR (y s q1 V u0 Q : Int) : Option (Int × Int) := some (IntKind.u64.wrap (IntKind.u64.wrap (q1 * 4294967296) + Q), shr .u64 (IntKind.u64.wrap (IntKind.u64.wrap (IntKind.u64.wrap (V * 4294967296) + u0) - IntKind.u64.wrap (Q * y))) s)
section
variable {y yn1 yn0 U u : Int}
theorem div_l1 (h : Ok y yn1 yn0 U u) (s q1 : Int) (hs : 0 ≤ s) : ∀ (n k : Nat) (q r : Int), q * yn1 + r = U → Qd y U u ≤ q → q ≤ 4294967297 → 0 ≤ r ∧ r < 4294967296 → 4294967296 ≤ r + n * yn1 →
    G.bits_Div64.l1 (k + 2 * n + 2) y s yn1 yn0 u q1 r U q = divR y s q1 U u (Qd y U u)
  | 0, k, q, r, hq, hl, hg, hr, hn => by
    rw [show ((0 : Nat) : Int) * yn1 = 0 by simp] at hn
    omega
  | n + 1, k, q, r, hq, hl, hg, hr, hn => by
    have ha := h.a; have hb := h.b; have hd := h.d; have l0 := h.low
    have f := h.fits (q := q) (by omega) hg
    have e1 : G.bits_Div64.l1 (k + 2 * (n + 1) + 2) y s yn1 yn0 u q1 r U q = G.bits_Div64.j4 (k + 2 * n + 2 + 1) y s yn1 yn0 u q1 r U q (decide (4294967296 ≤ q ∨ 4294967296 * r + u < q * yn0)) := by
      rw [show k + 2 * (n + 1) + 2 = (k + 2 * n + 2 + 1) + 1 by omega, G.bits_Div64.l1]
      by_cases c : q ≥ 4294967296
      · rw [if_pos c, decide_eq_true (Or.inl c)]
      · rw [if_neg c, uw f, uw (n := 4294967296 * r) (by omega), uw (n := 4294967296 * r + u) (by omega)]
        congr 1
        rw [decide_eq_decide]
        omega
    rw [e1, G.bits_Div64.j4]
    by_cases t : 4294967296 ≤ q ∨ 4294967296 * r + u < q * yn0
    · obtain ⟨d1, d2⟩ := h.down hq hl t
      rw [decide_eq_true t, if_pos rfl, uw (n := r + yn1) (by omega), uw (n := q - 1) (by omega)]
      by_cases c : r + yn1 ≥ 4294967296
      · have g := h.great d2 d1 (by omega) c
        rw [if_pos c, if_pos hs, g]
        rfl
      · rw [if_neg c]
        refine div_l1 h s q1 hs n k (q - 1) (r + yn1) d2 d1 (by omega) (by omega) ?_
        have : ((n + 1 : Nat) : Int) * yn1 = n * yn1 + yn1 := by push_cast; grind
        omega
    · rw [decide_eq_false t, if_neg (by decide), if_pos hs]
      have g := h.stop hq hl (by omega)
      rw [g]
      rfl
theorem div_l0 (h : Ok y yn1 yn0 U u) (s u0 : Int) (R : Option (Int × Int)) (HJ : ∀ k, G.bits_Div64.j2 (k + 7) y s yn1 yn0 U u u0 (Qd y U u) = R) : ∀ (n k : Nat) (q r : Int), q * yn1 + r = U → Qd y U u ≤ q → q ≤ 4294967297 → 0 ≤ r ∧ r < 4294967296 → 4294967296 ≤ r + n * yn1 →
    G.bits_Div64.l0 (k + 2 * n + 7) y s yn1 yn0 U u u0 q r = R
  | 0, k, q, r, hq, hl, hg, hr, hn => by
    rw [show ((0 : Nat) : Int) * yn1 = 0 by simp] at hn
    omega
  | n + 1, k, q, r, hq, hl, hg, hr, hn => by
    have ha := h.a; have hb := h.b; have hd := h.d; have l0 := h.low
    have f := h.fits (q := q) (by omega) hg
    have e1 : G.bits_Div64.l0 (k + 2 * (n + 1) + 7) y s yn1 yn0 U u u0 q r = G.bits_Div64.j1 (k + 2 * n + 7 + 1) y s yn1 yn0 U u u0 q r (decide (4294967296 ≤ q ∨ 4294967296 * r + u < q * yn0)) := by
      rw [show k + 2 * (n + 1) + 7 = (k + 2 * n + 7 + 1) + 1 by omega, G.bits_Div64.l0]
      by_cases c : q ≥ 4294967296
      · rw [if_pos c, decide_eq_true (Or.inl c)]
      · rw [if_neg c, uw f, uw (n := 4294967296 * r) (by omega), uw (n := 4294967296 * r + u) (by omega)]
        congr 1
        rw [decide_eq_decide]
        omega
    rw [e1, G.bits_Div64.j1]
    by_cases t : 4294967296 ≤ q ∨ 4294967296 * r + u < q * yn0
    · obtain ⟨d1, d2⟩ := h.down hq hl t
      rw [decide_eq_true t, if_pos rfl, uw (n := r + yn1) (by omega), uw (n := q - 1) (by omega)]
      by_cases c : r + yn1 ≥ 4294967296
      · have g := h.great d2 d1 (by omega) c
        rw [if_pos c, g]
        exact HJ (k + 2 * n)
      · rw [if_neg c]
        refine div_l0 h s u0 R HJ n k (q - 1) (r + yn1) d2 d1 (by omega) (by omega) ?_
        have : ((n + 1 : Nat) : Int) * yn1 = n * yn1 + yn1 := by push_cast; grind
        omega
    · rw [decide_eq_false t, if_neg (by decide)]
      have g := h.stop hq hl (by omega)
      rw [g]
      exact HJ (k + 2 * n)
/-- What is left behind a digit, in words of 64 bits. -/
theorem left_eq (h : Ok y yn1 yn0 U u) (hy : y < 18446744073709551616) : IntKind.u64.wrap (IntKind.u64.wrap (IntKind.u64.wrap (U * 4294967296) + u) - IntKind.u64.wrap (Qd y U u * y)) = Rd y U u := by
  have s := h.sum
  have r := h.rest
  have hc := h.c; have hd := h.d
  rw [u64w, u64w, u64w, u64w]
  generalize Qd y U u * y = p at *
  generalize Rd y U u = v at *
  omega
theorem guess_eq (h : Ok y yn1 yn0 U u) (hy : y < 18446744073709551616) : IntKind.u64.wrap (Int.tdiv U yn1) = U / yn1 ∧ IntKind.u64.wrap (U - IntKind.u64.wrap (U / yn1 * yn1)) = U - U / yn1 * yn1 := by
  have g := h.guess
  have hc := h.c; have hb := h.b; have l := h.low
  constructor
  · rw [Int.tdiv_eq_ediv_of_nonneg hc.1, uw (by omega)]
  · have p := Int.mul_nonneg (show 0 ≤ U / yn1 by omega) (show 0 ≤ yn1 by omega)
    rw [uw (n := U / yn1 * yn1) (by omega), uw (by omega)]
end
/-- Both digits. -/
theorem div_digits {y yn1 yn0 U u1 u0 s : Int} (h : Ok y yn1 yn0 U u1) (h' : 0 ≤ u0 ∧ u0 < 4294967296) (hy : y < 18446744073709551616) (hs : 0 ≤ s) (k : Nat) :
    G.bits_Div64.l0 (k + 11) y s yn1 yn0 U u1 u0 (IntKind.u64.wrap (Int.tdiv U yn1)) (IntKind.u64.wrap (U - IntKind.u64.wrap (IntKind.u64.wrap (Int.tdiv U yn1) * yn1))) =
      some (Qd y U u1 * 4294967296 + Qd y (Rd y U u1) u0, shr .u64 (Rd y (Rd y U u1) u0) s) := by
  obtain ⟨g1, g2⟩ := guess_eq h hy
  have g := h.guess
  have h2 : Ok y yn1 yn0 (Rd y U u1) u0 := ⟨h.e, h.a, h.b, h.rest, h'⟩
  have hb := h.b
  have q1 := h.low
  have q1' := h.high
  have q2 := h2.low
  have q2' := h2.high
  rw [g1, g2]
  refine div_l0 h s u0 _ (fun k => ?_) 2 k _ _ g.2.2.1 g.1 g.2.1 ⟨by omega, by omega⟩ (by omega)
  rw [G.bits_Div64.j2, if_neg (by omega), left_eq h hy]
  obtain ⟨i1, i2⟩ := guess_eq h2 hy
  have i := h2.guess
  rw [i1, i2]
  rw [show k + 6 = k + 2 * 2 + 2 by omega, div_l1 h2 s _ hs 2 k _ _ i.2.2.1 i.1 i.2.1 ⟨by omega, by omega⟩ (by omega)]
  unfold divR
  rw [left_eq h2 hy, uw (n := Qd y U u1 * 4294967296) (by omega), uw (by omega)]
theorem or_add (s : Nat) {A a : Int} (h0 : 0 ≤ A) (hA : A * 2 ^ s < 18446744073709551616) (ha : 0 ≤ a) (hb : a < 2 ^ s) (hs : s ≤ 63) : Go.bits .or .u64 (A * 2 ^ s) a = A * 2 ^ s + a := by
  obtain ⟨m, rfl⟩ : ∃ m : Nat, A = m := ⟨A.toNat, by omega⟩
  obtain ⟨n, rfl⟩ : ∃ n : Nat, a = n := ⟨a.toNat, by omega⟩
  have e : ((m : Int) * 2 ^ s) = ((2 ^ s * m : Nat) : Int) := by push_cast; rw [Int.mul_comm]
  have hn : n < 2 ^ s := by exact_mod_cast hb
  have p : 2 ^ s ≤ 2 ^ 63 := Nat.pow_le_pow_right (by decide) hs
  rw [e] at hA ⊢
  rw [bits_or_u64_nat _ _ (by omega) (by omega), ← Nat.two_pow_add_eq_or_of_lt hn]
  push_cast
  rfl
theorem shl_eq (s : Nat) {x : Int} (hs : s ≤ 63) : shl .u64 x (s : Int) = (x * 2 ^ s) % 18446744073709551616 := by
  unfold shl
  rw [u64w, show min ((s : Int)).toNat IntKind.u64.bits = s by rw [Int.toNat_natCast]; show min s 64 = s; omega]
theorem shr_eq (s : Nat) {x : Int} (hs : s ≤ 64) : shr .u64 x (s : Int) = x / 2 ^ s := by
  unfold shr
  rw [show min ((s : Int)).toNat IntKind.u64.bits = s by rw [Int.toNat_natCast]; show min s 64 = s; omega]
theorem div64_eq (k : Nat) (hi lo y0 : Int) (h0 : 0 ≤ hi ∧ hi < y0) (h1 : 0 ≤ lo ∧ lo < 18446744073709551616) (h2 : y0 < 18446744073709551616) :
    G.bits_Div64.f (k + 11) hi lo y0 = some ((hi * 18446744073709551616 + lo) / y0, (hi * 18446744073709551616 + lo) % y0) := by
  unfold G.bits_Div64.f
  rw [if_neg (by omega), if_neg (by omega)]
  by_cases c : hi = 0
  · have q1 : lo / y0 ≤ lo := Int.ediv_le_self _ h1.1
    have q0 : 0 ≤ lo / y0 := Int.ediv_nonneg h1.1 (by omega)
    rw [if_pos c, c, Int.zero_mul, Int.zero_add, Int.tdiv_eq_ediv_of_nonneg h1.1, Int.tmod_eq_emod_of_nonneg h1.1, uw (by omega)]
  rw [if_neg c]
  obtain ⟨s, es, s63, lo63, hi64⟩ := len_bounds (x := y0) (by omega) h2
  have ez : G.bits_LeadingZeros64.f y0 = some (s : Int) := by
    unfold G.bits_LeadingZeros64.f
    rw [if_pos (by omega), es]
  rw [ez, Option.bind_some, uw (n := (s : Int)) (by omega), if_pos (by omega), uw (n := 64 - (s : Int)) (by omega), if_pos (by omega)]
  rw [show (64 - (s : Int)) = ((64 - s : Nat) : Int) by omega, shl_eq s s63, shl_eq s s63, shl_eq s s63, shr_eq (64 - s) (by omega)]
  have P0 : (0 : Int) < 2 ^ s := Int.pow_pos (by decide)
  have R0 : (0 : Int) < 2 ^ (64 - s) := Int.pow_pos (by decide)
  have RP : (2 : Int) ^ (64 - s) * 2 ^ s = 18446744073709551616 := by rw [← Int.pow_add, show 64 - s + s = 64 by omega]; rfl
  have ey : y0 * 2 ^ s % 18446744073709551616 = y0 * 2 ^ s := Int.emod_eq_of_lt (by omega) (by omega)
  have hh := Int.mul_le_mul_of_nonneg_right (show hi ≤ y0 - 1 by omega) (Int.le_of_lt P0)
  have hm : (y0 - 1) * 2 ^ s = y0 * 2 ^ s - 2 ^ s := by rw [Int.sub_mul, Int.one_mul]
  have hn := Int.mul_nonneg h0.1 (Int.le_of_lt P0)
  have eh : hi * 2 ^ s % 18446744073709551616 = hi * 2 ^ s := Int.emod_eq_of_lt hn (by omega)
  have lsum := Int.mul_ediv_add_emod lo (2 ^ (64 - s))
  have c0 := Int.emod_nonneg lo (show (2 : Int) ^ (64 - s) ≠ 0 by omega)
  have c1 := Int.emod_lt_of_pos lo R0
  have a0 : 0 ≤ lo / 2 ^ (64 - s) := Int.ediv_nonneg h1.1 (Int.le_of_lt R0)
  have a1 : lo / 2 ^ (64 - s) < 2 ^ s := by
    apply Int.ediv_lt_of_lt_mul R0
    rw [Int.mul_comm, RP]
    exact h1.2
  have cp := Int.mul_lt_mul_of_pos_right c1 P0
  have cq := Int.mul_nonneg c0 (Int.le_of_lt P0)
  rw [RP] at cp
  have lP : lo * 2 ^ s = lo / 2 ^ (64 - s) * 18446744073709551616 + lo % 2 ^ (64 - s) * 2 ^ s := by
    conv => lhs; rw [← lsum]
    rw [Int.add_mul, ← RP]
    grind
  have el : lo * 2 ^ s % 18446744073709551616 = lo % 2 ^ (64 - s) * 2 ^ s := by
    rw [lP]
    generalize lo % 2 ^ (64 - s) * 2 ^ s = t at *
    omega
  rw [ey, eh, el, or_add s h0.1 (by omega) a0 a1 s63]
  have N : (hi * 2 ^ s + lo / 2 ^ (64 - s)) * 18446744073709551616 + lo % 2 ^ (64 - s) * 2 ^ s = (hi * 18446744073709551616 + lo) * 2 ^ s := by
    rw [Int.add_mul (hi * 18446744073709551616), lP, Int.add_mul]
    grind
  have y0P : 0 < y0 := by omega
  have bU : 0 ≤ hi * 2 ^ s + lo / 2 ^ (64 - s) ∧ hi * 2 ^ s + lo / 2 ^ (64 - s) < y0 * 2 ^ s := by omega
  have N0 : 0 ≤ hi * 18446744073709551616 + lo := by omega
  have D1 := Int.mul_ediv_mul_of_pos_left (hi * 18446744073709551616 + lo) y0 P0
  have D2 : (hi * 18446744073709551616 + lo) * 2 ^ s % (y0 * 2 ^ s) = (hi * 18446744073709551616 + lo) % y0 * 2 ^ s := by
    rw [Int.mul_comm _ (2 ^ s), Int.mul_comm y0, Int.mul_emod_mul_of_pos _ _ P0, Int.mul_comm]
  rw [← N] at D1 D2
  generalize hy : y0 * 2 ^ s = y at *
  generalize hU : hi * 2 ^ s + lo / 2 ^ (64 - s) = U at *
  generalize hx : lo % 2 ^ (64 - s) * 2 ^ s = x at *
  rw [and_low32 y (by omega) (by omega), and_low32 x (by omega) (by omega), if_neg (by omega)]
  have ok : Ok y (y / 4294967296) (y % 4294967296) U (x / 4294967296) := ⟨by omega, by omega, by omega, bU, by omega⟩
  rw [div_digits ok (u0 := x % 4294967296) (by omega) (by omega) (by omega) k]
  have T := two_digits (y := y) (U := U) (u1 := x / 4294967296) (u0 := x % 4294967296) (by omega)
  rw [show x / 4294967296 * 4294967296 + x % 4294967296 = x by omega] at T
  rw [← T.1, ← T.2, shr_eq s (by omega), D1, D2, Int.mul_ediv_cancel _ (by omega)]
end Go.Proofs.Ytmkdnoikbefimaa.M

namespace Go.Proofs.Ytmkdnoikbefimaa.M
open Go.RowKit Go.Proofs.VecMath Go.Proofs.DivMath Go.Proofs.YtmkdnoikbefimaaW.PrintWords
set_option linter.unusedVariables false
theorem alive_20 : G.relievolaw01_alive.f 20 = some true := by kernel_rfl
/-- A number without its sign, in two words: its quotient and rest by a number of one word. -/
theorem halves {M d : Int} (hM : 0 ≤ M) (hd : 0 < d) :
    M / d = M / 18446744073709551616 / d * 18446744073709551616 + (M / 18446744073709551616 % d * 18446744073709551616 + M % 18446744073709551616) / d ∧ M % d = (M / 18446744073709551616 % d * 18446744073709551616 + M % 18446744073709551616) % d ∧ 0 ≤ (M / 18446744073709551616 % d * 18446744073709551616 + M % 18446744073709551616) / d ∧ (M / 18446744073709551616 % d * 18446744073709551616 + M % 18446744073709551616) / d < 18446744073709551616 := by
  have e1 := Int.mul_ediv_add_emod (M / 18446744073709551616) d
  have r0 := Int.emod_nonneg (M / 18446744073709551616) (show d ≠ 0 by omega)
  have r1 := Int.emod_lt_of_pos (M / 18446744073709551616) hd
  have e3 : M = (M / 18446744073709551616 % d * 18446744073709551616 + M % 18446744073709551616) + d * (M / 18446744073709551616 / d * 18446744073709551616) := by
    have : d * (M / 18446744073709551616 / d * 18446744073709551616) = d * (M / 18446744073709551616 / d) * 18446744073709551616 := by grind
    rw [this]
    omega
  refine ⟨?_, ?_, ?_, ?_⟩
  · conv => lhs; rw [e3]
    rw [Int.add_mul_ediv_left _ _ (by omega)]
    omega
  · conv => lhs; rw [e3]
    rw [Int.add_mul_emod_self_left]
  · exact Int.ediv_nonneg (by omega) (by omega)
  · apply Int.ediv_lt_of_lt_mul hd
    omega
/-- A number's size: not too great. -/
def i127 (n : Int) : Prop := -85070591730234615865843651857942052864 ≤ n ∧ n ≤ 85070591730234615865843651857942052864
theorem size_eq (A : Int) (h : i127 A) : G.wide_size.f (hiW A) (loW A) = some ((if A < 0 then -A else A) / 18446744073709551616, (if A < 0 then -A else A) % 18446744073709551616) := by
  unfold i127 at h
  unfold G.wide_size.f
  by_cases c : A < 0
  · rw [if_pos c, if_pos (by unfold hiW; omega), turned_eq A (by unfold i128; omega) (by unfold i128; omega), Option.bind_some]
    dsimp only
    rw [uw (by unfold hiW; omega)]
    rfl
  · rw [if_neg c, if_neg (by unfold hiW; omega), uw (by unfold hiW; omega)]
    rfl
theorem div_no (k : Nat) (a b d : Int) (h : d < 1) : G.wide_Div.f k a b d = some (0, 0, 0, false) := by
  unfold G.wide_Div.f
  rw [if_pos h]
theorem div_eq (k : Nat) (A d : Int) (h : i127 A) (hd : 1 ≤ d ∧ d ≤ 9223372036854775807) : G.wide_Div.f (k + 11) (hiW A) (loW A) d = some (hiW (A / d), loW (A / d), A % d, true) := by
  have h' := h
  unfold i127 at h'
  unfold G.wide_Div.f
  rw [if_neg (by omega), size_eq A h, Option.bind_some, uw (n := d) (by omega)]
  dsimp only
  obtain ⟨M, hM⟩ : ∃ M, M = (if A < 0 then -A else A) := ⟨_, rfl⟩
  have hM0 : 0 ≤ M ∧ M ≤ 85070591730234615865843651857942052864 := by
    rw [hM]
    split <;> omega
  rw [← hM]
  obtain ⟨q, r, l0, l1⟩ := halves hM0.1 (show 0 < d by omega)
  have e1 := div64_eq k 0 (M / 18446744073709551616) d (by omega) (by omega) (by omega)
  rw [Int.zero_mul, Int.zero_add] at e1
  have t0 : 0 ≤ M / 18446744073709551616 / d := Int.ediv_nonneg (by omega) (by omega)
  have t1 : M / 18446744073709551616 / d ≤ M / 18446744073709551616 := Int.ediv_le_self _ (by omega)
  have r0 := Int.emod_nonneg (M / 18446744073709551616) (show d ≠ 0 by omega)
  have r1 := Int.emod_lt_of_pos (M / 18446744073709551616) (show 0 < d by omega)
  have e2 := div64_eq k (M / 18446744073709551616 % d) (M % 18446744073709551616) d ⟨r0, r1⟩ (by omega) (by omega)
  rw [e1, Option.bind_some]
  dsimp only
  rw [e2, Option.bind_some]
  dsimp only
  rw [← r]
  have m0 := Int.emod_nonneg M (show d ≠ 0 by omega)
  have m1 := Int.emod_lt_of_pos M (show 0 < d by omega)
  have mq := Int.mul_ediv_add_emod M d
  have qM : M / d ≤ M := Int.ediv_le_self _ hM0.1
  have q0 : 0 ≤ M / d := Int.ediv_nonneg hM0.1 (by omega)
  generalize M / 18446744073709551616 / d = t at *
  generalize (M / 18446744073709551616 % d * 18446744073709551616 + M % 18446744073709551616) / d = l at *
  have ht : t = hiW (M / d) := by unfold hiW; omega
  have hl : l = loW (M / d) := by unfold loW; omega
  rw [w64 (n := t) (by omega), w64 (n := M % d) (by omega), ht, hl]
  by_cases c : A < 0
  · rw [if_pos (by unfold hiW; omega), turned_eq (M / d) (by unfold i128; omega) (by unfold i128; omega), Option.bind_some]
    dsimp only
    rw [if_pos c] at hM
    by_cases g : M % d > 0
    · rw [if_pos g, of_eq (-1) (by unfold i64b; decide), Option.bind_some]
      dsimp only
      rw [sum_eq (-(M / d)) (-1) (by unfold i128; omega) (by unfold i128; decide) (by unfold i128; omega), Option.bind_some, w64 (by omega)]
      have e : A = (d - M % d) + d * (-(M / d) - 1) := by
        have : d * (-(M / d) - 1) = -(d * (M / d)) - d := by grind
        omega
      have a1 : A / d = -(M / d) + -1 := by
        conv => lhs; rw [e]
        rw [Int.add_mul_ediv_left _ _ (by omega), Int.ediv_eq_zero_of_lt (by omega) (by omega)]
        omega
      have a2 : A % d = d - M % d := by
        conv => lhs; rw [e]
        rw [Int.add_mul_emod_self_left, Int.emod_eq_of_lt (by omega) (by omega)]
      rw [a1, a2]
    · rw [if_neg g]
      have z : M % d = 0 := by omega
      have e : A = d * (-(M / d)) := by
        have : d * (-(M / d)) = -(d * (M / d)) := by grind
        omega
      have a1 : A / d = -(M / d) := by
        conv => lhs; rw [e]
        rw [Int.mul_ediv_cancel_left _ (by omega)]
      have a2 : A % d = M % d := by
        rw [z]
        conv => lhs; rw [e]
        rw [Int.mul_emod_right]
      rw [a1, a2]
  · rw [if_neg (by unfold hiW; omega)]
    rw [if_neg c] at hM
    rw [hM]
theorem int_yes (n : Int) (h : i64b n) : G.wide_Int.f (hiW n) (loW n) = some (n, true) := by
  unfold i64b at h
  have e : wrap64 (loW n) = n := by unfold wrap64 loW; omega
  unfold G.wide_Int.f
  rw [e, of_eq n h, Option.bind_some, if_neg (by simp)]
theorem int_no (n : Int) (h : ¬ i64b n) (hn : i128 n) : G.wide_Int.f (hiW n) (loW n) = some (0, false) := by
  unfold i64b at h
  unfold i128 at hn
  have e : i64b (wrap64 (loW n)) := by unfold i64b wrap64 loW; omega
  unfold G.wide_Int.f
  rw [of_eq _ e, Option.bind_some, if_pos]
  dsimp only
  have ne : hiW (wrap64 (loW n)) ≠ hiW n := by unfold hiW wrap64 loW; omega
  simp [ne]
end Go.Proofs.Ytmkdnoikbefimaa.M

namespace Go.Proofs.Ytmkdnoikbefimaa.M
open Go.RowKit Go.Proofs.VecMath Go.Proofs.DivMath Go.Proofs.YtmkdnoikbefimaaW.PrintWords
set_option linter.unusedVariables false
theorem size_all (A : Int) (h : i128 A) : G.wide_size.f (hiW A) (loW A) = some ((if A < 0 then -A else A) / 18446744073709551616, (if A < 0 then -A else A) % 18446744073709551616) := by
  by_cases e : A = -170141183460469231731687303715884105728
  · subst e
    kernel_rfl
  · unfold i128 at h
    unfold G.wide_size.f
    by_cases c : A < 0
    · rw [if_pos c, if_pos (by unfold hiW; omega), turned_eq A (by unfold i128; omega) (by unfold i128; omega), Option.bind_some]
      dsimp only
      rw [uw (by unfold hiW; omega)]
      rfl
    · rw [if_neg c, if_neg (by unfold hiW; omega), uw (by unfold hiW; omega)]
      rfl
theorem div_core (k : Nat) (A d : Int) (h : i128 A) (hd : 1 ≤ d ∧ d ≤ 9223372036854775807) (hq : (if A < 0 then -A else A) / d ≤ 170141183460469231731687303715884105727) : G.wide_Div.f (k + 11) (hiW A) (loW A) d = some (hiW (A / d), loW (A / d), A % d, true) := by
  have h' := h
  unfold i128 at h'
  unfold G.wide_Div.f
  rw [if_neg (by omega), size_all A h, Option.bind_some, uw (n := d) (by omega)]
  dsimp only
  obtain ⟨M, hM⟩ : ∃ M, M = (if A < 0 then -A else A) := ⟨_, rfl⟩
  have hM0 : 0 ≤ M ∧ M ≤ 170141183460469231731687303715884105728 := by
    rw [hM]
    split <;> omega
  rw [← hM]
  rw [← hM] at hq
  obtain ⟨q, r, l0, l1⟩ := halves hM0.1 (show 0 < d by omega)
  have e1 := div64_eq k 0 (M / 18446744073709551616) d (by omega) (by omega) (by omega)
  rw [Int.zero_mul, Int.zero_add] at e1
  have t0 : 0 ≤ M / 18446744073709551616 / d := Int.ediv_nonneg (by omega) (by omega)
  have t1 : M / 18446744073709551616 / d ≤ M / 18446744073709551616 := Int.ediv_le_self _ (by omega)
  have r0 := Int.emod_nonneg (M / 18446744073709551616) (show d ≠ 0 by omega)
  have r1 := Int.emod_lt_of_pos (M / 18446744073709551616) (show 0 < d by omega)
  have e2 := div64_eq k (M / 18446744073709551616 % d) (M % 18446744073709551616) d ⟨r0, r1⟩ (by omega) (by omega)
  rw [e1, Option.bind_some]
  dsimp only
  rw [e2, Option.bind_some]
  dsimp only
  rw [← r]
  have m0 := Int.emod_nonneg M (show d ≠ 0 by omega)
  have m1 := Int.emod_lt_of_pos M (show 0 < d by omega)
  have mq := Int.mul_ediv_add_emod M d
  have qM : M / d ≤ M := Int.ediv_le_self _ hM0.1
  have q0 : 0 ≤ M / d := Int.ediv_nonneg hM0.1 (by omega)
  generalize M / 18446744073709551616 / d = t at *
  generalize (M / 18446744073709551616 % d * 18446744073709551616 + M % 18446744073709551616) / d = l at *
  have ht : t = hiW (M / d) := by unfold hiW; omega
  have hl : l = loW (M / d) := by unfold loW; omega
  rw [w64 (n := t) (by omega), w64 (n := M % d) (by omega), ht, hl]
  by_cases c : A < 0
  · rw [if_pos (by unfold hiW; omega), turned_eq (M / d) (by unfold i128; omega) (by unfold i128; omega), Option.bind_some]
    dsimp only
    rw [if_pos c] at hM
    by_cases g : M % d > 0
    · rw [if_pos g, of_eq (-1) (by unfold i64b; decide), Option.bind_some]
      dsimp only
      rw [sum_eq (-(M / d)) (-1) (by unfold i128; omega) (by unfold i128; decide) (by unfold i128; omega), Option.bind_some, w64 (by omega)]
      have e : A = (d - M % d) + d * (-(M / d) - 1) := by
        have : d * (-(M / d) - 1) = -(d * (M / d)) - d := by grind
        omega
      have a1 : A / d = -(M / d) + -1 := by
        conv => lhs; rw [e]
        rw [Int.add_mul_ediv_left _ _ (by omega), Int.ediv_eq_zero_of_lt (by omega) (by omega)]
        omega
      have a2 : A % d = d - M % d := by
        conv => lhs; rw [e]
        rw [Int.add_mul_emod_self_left, Int.emod_eq_of_lt (by omega) (by omega)]
      rw [a1, a2]
    · rw [if_neg g]
      have z : M % d = 0 := by omega
      have e : A = d * (-(M / d)) := by
        have : d * (-(M / d)) = -(d * (M / d)) := by grind
        omega
      have a1 : A / d = -(M / d) := by
        conv => lhs; rw [e]
        rw [Int.mul_ediv_cancel_left _ (by omega)]
      have a2 : A % d = M % d := by
        rw [z]
        conv => lhs; rw [e]
        rw [Int.mul_emod_right]
      rw [a1, a2]
  · rw [if_neg (by unfold hiW; omega)]
    rw [if_neg c] at hM
    rw [hM]
theorem div_min : ∀ k, G.wide_Div.f (k + 11) (hiW (-170141183460469231731687303715884105728)) (loW (-170141183460469231731687303715884105728)) 1 = some (-9223372036854775808, 0, 0, true) := fun k => by
  unfold G.wide_Div.f
  have s := size_all (-170141183460469231731687303715884105728) (by unfold i128; decide)
  have e1 := div64_eq k 0 9223372036854775808 1 (by decide) (by decide) (by decide)
  have e2 := div64_eq k 0 0 1 (by decide) (by decide) (by decide)
  rw [if_neg (by decide), s, Option.bind_some, uw (n := 1) (by decide)]
  have p1 : (if (-170141183460469231731687303715884105728 : Int) < 0 then -(-170141183460469231731687303715884105728) else (-170141183460469231731687303715884105728 : Int)) / 18446744073709551616 = 9223372036854775808 := by decide
  have p2 : (if (-170141183460469231731687303715884105728 : Int) < 0 then -(-170141183460469231731687303715884105728) else (-170141183460469231731687303715884105728 : Int)) % 18446744073709551616 = 0 := by decide
  rw [p1, p2]
  dsimp only
  rw [e1, Option.bind_some]
  dsimp only
  have z : ((0 : Int) * 18446744073709551616 + 9223372036854775808) % 1 = 0 := by decide
  have z1 : ((0 : Int) * 18446744073709551616 + 9223372036854775808) / 1 = 9223372036854775808 := by decide
  have z2 : ((0 : Int) * 18446744073709551616 + 0) % 1 = 0 := by decide
  have z3 : ((0 : Int) * 18446744073709551616 + 0) / 1 = 0 := by decide
  rw [z, z1, e2, Option.bind_some, z2, z3]
  dsimp only
  have w1 : wrap64 9223372036854775808 = -9223372036854775808 := by unfold wrap64; decide
  have w2 : wrap64 0 = 0 := w64 (by decide)
  have tt : G.wide_turned.f (-9223372036854775808) 0 = some (-9223372036854775808, 0) := by kernel_rfl
  rw [if_pos (by decide), w1, tt, Option.bind_some, w2, if_neg (by decide)]
theorem div_all (k : Nat) (A d : Int) (h : i128 A) (hd : 1 ≤ d ∧ d ≤ 9223372036854775807) : G.wide_Div.f (k + 11) (hiW A) (loW A) d = some (hiW (A / d), loW (A / d), A % d, true) := by
  by_cases e : A = -170141183460469231731687303715884105728 ∧ d = 1
  · obtain ⟨rfl, rfl⟩ := e
    rw [div_min]
    decide
  · refine div_core k A d h hd ?_
    unfold i128 at h
    by_cases c : A = -170141183460469231731687303715884105728
    · have d2 : 2 ≤ d := by omega
      have q : (if A < 0 then -A else A) / d ≤ 85070591730234615865843651857942052864 := by
        apply Int.ediv_le_of_le_mul (by omega)
        have := Int.mul_le_mul_of_nonneg_left d2 (show (0 : Int) ≤ 85070591730234615865843651857942052864 by decide)
        split <;> omega
      omega
    · have q : (if A < 0 then -A else A) / d ≤ (if A < 0 then -A else A) := Int.ediv_le_self _ (by split <;> omega)
      have b : (if A < 0 then -A else A) ≤ 170141183460469231731687303715884105727 := by split <;> omega
      omega
def bitv : Nat → Int
  | 0 => 0
  | j + 1 => 2 ^ j
theorem bitv_half : ∀ j, bitv (j + 1) / 2 = bitv j
  | 0 => rfl
  | j + 1 => by
    show (2 : Int) ^ (j + 1) / 2 = 2 ^ j
    rw [Int.pow_succ]
    exact Int.mul_ediv_cancel _ (by decide)
theorem or_bit (a j : Nat) (h : 2 ^ (j + 1) * a + 2 ^ j < 2 ^ 64) : Go.bits .or .u64 ((2 ^ (j + 1) * a : Nat) : Int) ((2 ^ j : Nat) : Int) = ((2 ^ (j + 1) * a + 2 ^ j : Nat) : Int) := by
  have p : 2 ^ j < 2 ^ (j + 1) := Nat.pow_lt_pow_right (by decide) (by omega)
  rw [bits_or_u64_nat _ _ (by omega) (by omega), Nat.two_pow_add_eq_or_of_lt p]
theorem loop_eq (N : Int) (h0 : 0 ≤ N) (h1 : N < 170141183460469231731687303715884105728) : ∀ (j : Nat) (k : Nat) (a : Nat), j ≤ 64 → 2 ^ j * a + 2 ^ j ≤ 2 ^ 64 →
    ((2 ^ j * a : Nat) : Int) * ((2 ^ j * a : Nat) : Int) ≤ N → N < ((2 ^ j * a + 2 ^ j : Nat) : Int) * ((2 ^ j * a + 2 ^ j : Nat) : Int) →
    ∃ r : Int, 0 ≤ r ∧ r * r ≤ N ∧ N < (r + 1) * (r + 1) ∧ G.wide_Sqrt.l0 (k + j + 1) ((2 ^ j * a : Nat) : Int) (bitv j) (hiW N) (loW N) = (if r > 9223372036854775807 then some (0, false) else some (wrap64 r, true))
  | 0, k, a, _, hs, lo, hi => by
    refine ⟨((2 ^ 0 * a : Nat) : Int), by omega, lo, ?_, ?_⟩
    · rw [show ((2 ^ 0 * a : Nat) : Int) + 1 = ((2 ^ 0 * a + 2 ^ 0 : Nat) : Int) by omega]
      exact hi
    · rw [G.wide_Sqrt.l0, show bitv 0 = 0 from rfl, if_neg (by decide)]
  | j + 1, k, a, hj, hs, lo, hi => by
    have pj : 0 < 2 ^ j := Nat.pow_pos (by decide)
    have e2 : 2 ^ (j + 1) = 2 * 2 ^ j := by rw [Nat.pow_succ]; omega
    have hx : 2 ^ (j + 1) * a + 2 ^ j < 2 ^ 64 := by omega
    have eb : bitv (j + 1) = ((2 ^ j : Nat) : Int) := by unfold bitv; simp
    have e0 : 2 ^ j * (2 * a) = 2 ^ (j + 1) * a := by rw [e2, Nat.mul_comm 2 (2 ^ j), Nat.mul_assoc]
    have e1 : 2 ^ j * (2 * a + 1) = 2 ^ (j + 1) * a + 2 ^ j := by rw [Nat.mul_add, e0, Nat.mul_one]
    have b1 : bitv (j + 1) > 0 := by rw [eb]; omega
    rw [show k + (j + 1) + 1 = (k + j + 1) + 1 by omega, G.wide_Sqrt.l0, if_pos b1, bitv_half, eb, or_bit a j hx]
    have hX : (0 : Int) ≤ ((2 ^ (j + 1) * a + 2 ^ j : Nat) : Int) ∧ ((2 ^ (j + 1) * a + 2 ^ j : Nat) : Int) < 18446744073709551616 := by omega
    rw [mul64_eq _ _ hX hX, Option.bind_some]
    dsimp only
    have uh : IntKind.u64.wrap (hiW N) = hiW N := by rw [u64w]; unfold hiW; omega
    rw [uh]
    have up := loop_eq N h0 h1 j k (2 * a + 1) (by omega) (by rw [e1]; omega)
    have dn := loop_eq N h0 h1 j k (2 * a) (by omega) (by rw [e0]; omega)
    rw [e1] at up
    rw [e0] at dn
    have es : 2 ^ (j + 1) * a + 2 ^ j + 2 ^ j = 2 ^ (j + 1) * a + 2 ^ (j + 1) := by omega
    rw [es] at up
    generalize hX' : ((2 ^ (j + 1) * a + 2 ^ j : Nat) : Int) = X at *
    by_cases c : X * X ≤ N
    · obtain ⟨r, r0, r1, r2, er⟩ := up c hi
      refine ⟨r, r0, r1, r2, ?_⟩
      rw [← er]
      generalize X * X = Y at *
      by_cases c1 : Y / 18446744073709551616 < hiW N
      · rw [if_pos c1]
      · rw [if_neg c1, if_pos (by unfold hiW at *; omega), if_pos (by unfold hiW loW at *; omega)]
    · obtain ⟨r, r0, r1, r2, er⟩ := dn lo (by omega)
      refine ⟨r, r0, r1, r2, ?_⟩
      rw [← er]
      have Y0 : 0 ≤ X * X := Int.mul_nonneg hX.1 hX.1
      generalize X * X = Y at *
      rw [if_neg (by unfold hiW; omega)]
      by_cases c2 : Y / 18446744073709551616 = hiW N
      · rw [if_pos c2, if_neg (by unfold hiW loW at *; omega)]
      · rw [if_neg c2]
theorem sqrt_eq (k : Nat) (N : Int) (h0 : 0 ≤ N) (h1 : N < 170141183460469231731687303715884105728) :
    ∃ r : Int, 0 ≤ r ∧ r * r ≤ N ∧ N < (r + 1) * (r + 1) ∧ G.wide_Sqrt.f (k + 65) (hiW N) (loW N) = (if r > 9223372036854775807 then some (0, false) else some (wrap64 r, true)) := by
  unfold G.wide_Sqrt.f
  rw [if_neg (by unfold hiW; omega)]
  exact loop_eq N h0 h1 64 k 0 (Nat.le_refl _) (by decide) (by simpa using h0) (by
    rw [show ((2 ^ 64 * 0 + 2 ^ 64 : Nat) : Int) = 18446744073709551616 by decide]
    omega)
theorem sq_lt {a b : Int} (hb : 0 ≤ b) (h : a * a < (b + 1) * (b + 1)) (ha : 0 ≤ a) : a ≤ b := by
  by_cases c : a ≤ b
  · exact c
  · have := Int.mul_self_le_mul_self (show 0 ≤ b + 1 by omega) (show b + 1 ≤ a by omega)
    omega
/-- The whole square root. -/
structure Root (r N : Int) : Prop where
  r0 : 0 ≤ r
  lo : r * r ≤ N
  hi : N < (r + 1) * (r + 1)
theorem Root.only {r s N : Int} (h : Root r N) (g : Root s N) : r = s := by
  have a := sq_lt g.r0 (by have := h.lo; have := g.hi; omega : r * r < (s + 1) * (s + 1)) h.r0
  have b := sq_lt h.r0 (by have := g.lo; have := h.hi; omega : s * s < (r + 1) * (r + 1)) g.r0
  omega
theorem Root.pos {r N : Int} (h : Root r N) (hN : 0 < N) : 0 < r := by
  by_cases c : r = 0
  · have := h.hi
    rw [c] at this
    omega
  · have := h.r0
    omega
theorem sqN_root (A : Int) : ∀ (j : Nat) (s : Int), 0 ≤ s → s * s ≤ A → A < (s + 2 ^ j) * (s + 2 ^ j) → Root (G.sqN A j s) A
  | 0, s, h0, h1, h2 => ⟨h0, h1, h2⟩
  | j + 1, s, h0, h1, h2 => by
    have p : (0 : Int) < 2 ^ j := Int.pow_pos (by decide)
    have e : s + (2 : Int) ^ (j + 1) = s + 2 ^ j + 2 ^ j := by rw [Int.pow_succ]; omega
    rw [e] at h2
    rw [G.sqN]
    by_cases c : (s + 2 ^ j) * (s + 2 ^ j) ≤ A
    · rw [if_pos c]
      exact sqN_root A j _ (by omega) c h2
    · rw [if_neg c]
      exact sqN_root A j s h0 h1 (by omega)
theorem sqN_top (A : Int) : ∀ (j : Nat) (s : Int), 0 ≤ s → (s + 2 ^ j) * (s + 2 ^ j) ≤ A → G.sqN A j s = s + 2 ^ j - 1
  | 0, s, h0, h => by
    rw [G.sqN]
    omega
  | j + 1, s, h0, h => by
    have p : (0 : Int) < 2 ^ j := Int.pow_pos (by decide)
    have e : s + (2 : Int) ^ (j + 1) = s + 2 ^ j + 2 ^ j := by rw [Int.pow_succ]; omega
    rw [e] at h ⊢
    have le : (s + 2 ^ j) * (s + 2 ^ j) ≤ (s + 2 ^ j + 2 ^ j) * (s + 2 ^ j + 2 ^ j) := Int.mul_self_le_mul_self (by omega) (by omega)
    rw [G.sqN, if_pos (by omega), sqN_top A j (s + 2 ^ j) (by omega) h]
theorem sqrt_both (k : Nat) (A : Int) (h : i128 A) : ∃ r : Int × Bool, G.wide_Sqrt.f (k + 65) (hiW A) (loW A) = some r ∧ G.relievoref01_SqrtW.f (hiW A) (loW A) = some r := by
  unfold i128 at h
  have eA : hiW A * 18446744073709551616 + loW A = A := by unfold hiW loW; omega
  unfold G.relievoref01_SqrtW.f
  rw [if_pos (by unfold hiW loW; omega), eA]
  by_cases c : A < 0
  · refine ⟨(0, false), ?_, by rw [if_pos (by unfold hiW; omega)]⟩
    unfold G.wide_Sqrt.f
    rw [if_pos (by unfold hiW; omega)]
  rw [if_neg (by unfold hiW; omega)]
  obtain ⟨r, r0, r1, r2, er⟩ := sqrt_eq k A (by omega) (by omega)
  by_cases b : 85070591730234615865843651857942052864 ≤ A
  · have s := sqN_top A 63 0 (by decide) (by rw [Int.zero_add, show (2 : Int) ^ 63 * 2 ^ 63 = 85070591730234615865843651857942052864 by decide]; exact b)
    rw [show (0 : Int) + 2 ^ 63 - 1 = 9223372036854775807 by decide] at s
    have rb : r > 9223372036854775807 := by
      by_cases q : r > 9223372036854775807
      · exact q
      · have := Int.mul_self_le_mul_self (show 0 ≤ r + 1 by omega) (show r + 1 ≤ 9223372036854775808 by omega)
        omega
    rw [if_pos rb] at er
    exact ⟨_, er, by rw [if_pos s, if_pos b]⟩
  · have g := sqN_root A 63 0 (by decide) (by omega) (by rw [Int.zero_add, show (2 : Int) ^ 63 * 2 ^ 63 = 85070591730234615865843651857942052864 by decide]; omega)
    have e := Root.only ⟨r0, r1, r2⟩ g
    have rb : r ≤ 9223372036854775807 := sq_lt (a := r) (b := 9223372036854775807) (by decide) (by omega) r0
    rw [if_neg (by omega), w64 (by omega)] at er
    refine ⟨_, er, ?_⟩
    rw [← e]
    by_cases q : r = 9223372036854775807
    · rw [if_pos q, if_neg b, q]
    · rw [if_neg q]
theorem rightR (p : Fr) : G.relievoref01_right.f p.n p.d = some (decide p.right) := by
  unfold G.relievoref01_right.f
  by_cases a : p.d > 0
  · rw [if_pos a, decide_eq_true (show p.right from Or.inl a)]
  · rw [if_neg a]
    by_cases b : p.d = 0
    · rw [if_pos b]
      by_cases c : p.n = 1
      · rw [decide_eq_true (show p.right from Or.inr ⟨c, b⟩)]
        simp [c]
      · have nr : ¬ p.right := by unfold Fr.right; omega
        rw [decide_eq_false nr]
        simp [c]
    · have nr : ¬ p.right := by unfold Fr.right; omega
      rw [if_neg b, decide_eq_false nr]
theorem order_both (k : Nat) (p q : Fr) (hp : p.b64) (hq : q.b64) : ∃ r : Int × Bool, G.wide_Order.f (k + 4) p.n p.d q.n q.d = some r ∧ G.relievoref01_Order.f p.n p.d q.n q.d = some r := by
  refine ⟨_, order_all k p q hp hq, ?_⟩
  unfold G.relievoref01_Order.f
  have hp' := hp
  have hq' := hq
  unfold Fr.b64 i64b at hp' hq'
  rw [if_pos ⟨⟨hp'.1, hp'.2⟩, hq'.1, hq'.2⟩, rightR, rightR, Option.bind_some, Option.bind_some]
  by_cases a : p.right
  · by_cases b : q.right
    · rw [if_pos (show decide p.right = true ∧ decide q.right = true from ⟨decide_eq_true a, decide_eq_true b⟩), if_pos (show p.right ∧ q.right from ⟨a, b⟩)]
      rfl
    · rw [if_neg (show ¬ (decide p.right = true ∧ decide q.right = true) from fun h => b (of_decide_eq_true h.2)), if_neg (show ¬ (p.right ∧ q.right) from fun h => b h.2)]
  · rw [if_neg (show ¬ (decide p.right = true ∧ decide q.right = true) from fun h => a (of_decide_eq_true h.1)), if_neg (show ¬ (p.right ∧ q.right) from fun h => a h.1)]
theorem divR_eq (A d : Int) (h : i128 A) (hd : i64b d) : G.relievoref01_Div.f (hiW A) (loW A) d = some (if d < 1 then (0, 0, 0, false) else (hiW (A / d), loW (A / d), A % d, true)) := by
  have h' := h
  unfold i128 at h'
  unfold i64b at hd
  have eA : hiW A * 18446744073709551616 + loW A = A := by unfold hiW loW; omega
  unfold G.relievoref01_Div.f
  rw [if_pos ⟨by unfold hiW; omega, by unfold loW; omega, hd⟩, eA]
  by_cases c : d < 1
  · rw [if_pos c, if_pos c]
  · rw [if_neg c, if_neg c]
    have q : -170141183460469231731687303715884105728 ≤ A / d ∧ A / d ≤ 170141183460469231731687303715884105727 := by
      constructor
      · apply Int.le_ediv_of_mul_le (by omega)
        have := Int.mul_le_mul_of_nonneg_left (show 1 ≤ d by omega) (show (0 : Int) ≤ 170141183460469231731687303715884105728 by decide)
        omega
      · apply Int.ediv_le_of_le_mul (by omega)
        have := Int.mul_le_mul_of_nonneg_left (show 1 ≤ d by omega) (show (0 : Int) ≤ 170141183460469231731687303715884105727 by decide)
        omega
    have w : G.wideV (A / d) = (hiW (A / d), loW (A / d), true) := by unfold G.wideV; rw [if_pos q]; rfl
    rw [w]
end Go.Proofs.Ytmkdnoikbefimaa.M

namespace Go.Proofs.Ytmkdnoikbefimaa.Pure
open Go.RowKit Go.Proofs.VecMath Go.Proofs.Ytmkdnoikbefimaa.M Go.Proofs.YtmkdnoikbefimaaW.PrintWords
set_option linter.unusedVariables false
theorem WideProducts (a0_0 a0_1 a1 a2 a3_0 a3_1 a4_0 a4_1 : Int) (b0_0 : -9223372036854775808 ≤ a0_0 ∧ a0_0 ≤ 9223372036854775807) (b0_1 : 0 ≤ a0_1 ∧ a0_1 ≤ 18446744073709551615) (b1 : -9223372036854775808 ≤ a1 ∧ a1 ≤ 9223372036854775807) (b2 : -9223372036854775808 ≤ a2 ∧ a2 ≤ 9223372036854775807) (b3_0 : -9223372036854775808 ≤ a3_0 ∧ a3_0 ≤ 9223372036854775807) (b3_1 : -9223372036854775808 ≤ a3_1 ∧ a3_1 ≤ 9223372036854775807) (b4_0 : -9223372036854775808 ≤ a4_0 ∧ a4_0 ≤ 9223372036854775807) (b4_1 : -9223372036854775808 ≤ a4_1 ∧ a4_1 ≤ 9223372036854775807) :
    ∃ k, G.relievolaw01_WideProducts.f k a0_0 a0_1 a1 a2 a3_0 a3_1 a4_0 a4_1 = some true := by
  refine ⟨80, ?_⟩
  unfold G.relievolaw01_WideProducts.f
  have al : G.relievolaw01_alive.f 80 = some true := by kernel_rfl
  rw [al, Option.bind_some, if_pos rfl]
  obtain ⟨A, hA⟩ : ∃ A, a0_0 * 18446744073709551616 + a0_1 = A := ⟨_, rfl⟩
  have iA : i128 A := by unfold i128; omega
  rw [show a0_0 = hiW A by unfold hiW; omega, show a0_1 = loW A by unfold loW; omega]
  obtain ⟨s, s1, s2⟩ := sqrt_both 15 A iA
  obtain ⟨o, o1, o2⟩ := order_both 76 ⟨a3_0, a3_1⟩ ⟨a4_0, a4_1⟩ ⟨b3_0, b3_1⟩ ⟨b4_0, b4_1⟩
  dsimp only at o1 o2
  have m1 := mulW_eq a1 a2 b1 b2
  have m2 : G.relievoref01_Mul.f a1 a2 = some (hiW (a1 * a2), loW (a1 * a2)) := by
    unfold G.relievoref01_Mul.f
    rw [if_pos ⟨b1, b2⟩]
    rfl
  have d2 := divR_eq A a1 iA b1
  have d1 : G.wide_Div.f 80 (hiW A) (loW A) a1 = some (if a1 < 1 then (0, 0, 0, false) else (hiW (A / a1), loW (A / a1), A % a1, true)) := by
    by_cases c : a1 < 1
    · rw [if_pos c, div_no _ _ _ _ c]
    · rw [if_neg c, div_all 69 A a1 iA ⟨by omega, b1.2⟩]
  rw [d1, Option.bind_some, d2, Option.bind_some, s1, Option.bind_some, s2, Option.bind_some, o1, Option.bind_some, o2, Option.bind_some, m1, Option.bind_some, m2, Option.bind_some]
  rw [if_pos (by simp), if_pos (by simp), if_pos rfl, if_pos (by simp), if_pos rfl, if_pos (by simp), if_pos rfl]
  simp
end Go.Proofs.Ytmkdnoikbefimaa.Pure
