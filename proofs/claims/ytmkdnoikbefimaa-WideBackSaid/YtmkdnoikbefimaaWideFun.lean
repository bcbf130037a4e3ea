/- What the Go texts of package wide's products and order come to, in plain numbers: exact. -/
import Derived.Laws.MathBits
import Derived.Test.YtmkdnoikbefimaaGx12
import Derived.Test.YtmkdnoikbefimaaGx26
import Derived.Test.YtmkdnoikbefimaaGx23
import Derived.Test.YtmkdnoikbefimaaGx13
import Derived.Test.YtmkdnoikbefimaaVecMath
namespace Go.Proofs.Ytmkdnoikbefimaa.M
open Go.RowKit Go.Proofs.VecMath Go.Proofs.YtmkdnoikbefimaaW.PrintWords
set_option linter.unusedVariables false
set_option linter.unusedSimpArgs false

theorem w64 {n : Int} (h : -9223372036854775808 ≤ n ∧ n ≤ 9223372036854775807) : wrap64 n = n := by
  unfold wrap64
  omega
theorem u64w (n : Int) : IntKind.u64.wrap n = n % 18446744073709551616 := rfl

theorem mul64_eq (a b : Int) (ha : 0 ≤ a ∧ a < 18446744073709551616) (hb : 0 ≤ b ∧ b < 18446744073709551616) :
    G.bits_Mul64.f a b = some (a * b / 18446744073709551616, a * b % 18446744073709551616) := by
  unfold G.bits_Mul64.f
  simp only [u64w]
  rw [and_low32 a ha.1 ha.2, and_low32 b hb.1 hb.2, and_low32 _ (by omega) (by omega)]
  rw [mul64_arith a b ha.1 ha.2 hb.1 hb.2]

/-- The two halves of a whole number. -/
def hiW (n : Int) : Int := n / 18446744073709551616
def loW (n : Int) : Int := n % 18446744073709551616

def i64b (n : Int) : Prop := -9223372036854775808 ≤ n ∧ n ≤ 9223372036854775807

theorem prod_in {a b : Int} (ha : i64b a) (hb : i64b b) : -85070591730234615865843651857942052864 ≤ a * b ∧ a * b ≤ 85070591730234615865843651857942052864 :=
  mulb (A := 9223372036854775808) (B := 9223372036854775808) ⟨by unfold i64b at ha; omega, by unfold i64b at ha; omega⟩ ⟨by unfold i64b at hb; omega, by unfold i64b at hb; omega⟩

theorem mulW_eq (a b : Int) (ha : i64b a) (hb : i64b b) : G.wide_Mul.f a b = some (hiW (a * b), loW (a * b)) := by
  have hp := prod_in ha hb
  unfold i64b at ha hb
  unfold G.wide_Mul.f hiW loW
  rw [u64w, u64w, mul64_eq _ _ (by omega) (by omega), Option.bind_some]
  simp only [u64w]
  by_cases h1 : a < 0
  · have ea : a % 18446744073709551616 = a + 18446744073709551616 := by omega
    rw [if_pos h1, ea]
    by_cases h2 : b < 0
    · have eb : b % 18446744073709551616 = b + 18446744073709551616 := by omega
      rw [if_pos h2, eb]
      have e : (a + 18446744073709551616) * (b + 18446744073709551616) = a * b + 18446744073709551616 * (a + b + 18446744073709551616) := by grind
      rw [e]
      generalize a * b = p at *
      simp only [Option.some.injEq, Prod.mk.injEq, and_true]
      unfold wrap64
      omega
    · have eb : b % 18446744073709551616 = b := by omega
      rw [if_neg h2, eb]
      have e : (a + 18446744073709551616) * b = a * b + 18446744073709551616 * b := by grind
      rw [e]
      generalize a * b = p at *
      simp only [Option.some.injEq, Prod.mk.injEq, and_true]
      unfold wrap64
      omega
  · have ea : a % 18446744073709551616 = a := by omega
    rw [if_neg h1, ea]
    by_cases h2 : b < 0
    · have eb : b % 18446744073709551616 = b + 18446744073709551616 := by omega
      rw [if_pos h2, eb]
      have e : a * (b + 18446744073709551616) = a * b + 18446744073709551616 * a := by grind
      rw [e]
      generalize a * b = p at *
      simp only [Option.some.injEq, Prod.mk.injEq, and_true]
      unfold wrap64
      omega
    · have eb : b % 18446744073709551616 = b := by omega
      rw [if_neg h2, eb]
      generalize a * b = p at *
      simp only [Option.some.injEq, Prod.mk.injEq, and_true]
      unfold wrap64
      omega

theorem compare64_eq (a b : Int) : G.cmp_Compare_int64.f a b = some (sg (a - b)) := by
  unfold G.cmp_Compare_int64.f G.cmp_isNaN_int64.f sg
  simp only [Option.bind_some, bne_self_eq_false, Bool.false_eq_true, if_false]
  repeat' split
  all_goals first | rfl | omega
theorem compareU_eq (a b : Int) : G.cmp_Compare_uint64.f a b = some (sg (a - b)) := by
  unfold G.cmp_Compare_uint64.f G.cmp_isNaN_uint64.f sg
  simp only [Option.bind_some, bne_self_eq_false, Bool.false_eq_true, if_false]
  repeat' split
  all_goals first | rfl | omega

theorem or2_eq (k : Nat) (a b : Int) : G.cmp_Or_int.f (k + 3) [a, b] = some (if a = 0 then b else a) := by
  unfold G.cmp_Or_int.f
  have e1 : wrap64 (0 + 1) = 1 := by unfold wrap64; decide
  have e2 : wrap64 (1 + 1) = 2 := by unfold wrap64; decide
  have hl : (([a, b] : List Int).length : Int) = 2 := rfl
  have r0 : rd [a, b] 0 = a := rfl
  have r1 : rd [a, b] 1 = b := rfl
  rw [hl, G.cmp_Or_int.l0, if_pos (by decide), if_pos (by decide), if_pos (by rw [hl]; decide), r0, e1]
  by_cases h : a = 0
  · rw [if_pos h, if_pos h, G.cmp_Or_int.l0, if_pos (by decide), if_pos (by decide), if_pos (by rw [hl]; decide), r1, e2]
    by_cases h' : b = 0
    · rw [if_pos h', G.cmp_Or_int.l0, if_neg (by decide), h']
    · rw [if_neg h']
  · rw [if_neg h, if_neg h]

theorem cmpW_eq (k : Nat) (a b : Int) : G.wide_Cmp.f (k + 3) (hiW a) (loW a) (hiW b) (loW b) = some (sg (a - b)) := by
  unfold G.wide_Cmp.f
  rw [compare64_eq, Option.bind_some, compareU_eq, Option.bind_some, or2_eq, Option.bind_some]
  unfold hiW loW sg
  congr 1
  repeat' split
  all_goals first | rfl | omega

/-- A fraction. -/
structure Fr where
  n : Int
  d : Int
def Fr.right (p : Fr) : Prop := 0 < p.d ∨ (p.n = 1 ∧ p.d = 0)
instance (p : Fr) : Decidable p.right := by unfold Fr.right; infer_instance
def Fr.b64 (p : Fr) : Prop := i64b p.n ∧ i64b p.d

theorem right_eq (p : Fr) : G.wide_right.f p.n p.d = some (decide p.right) := by
  unfold G.wide_right.f
  by_cases h : p.d > 0
  · rw [if_pos h, decide_eq_true (show p.right from Or.inl h)]
  · rw [if_neg h]
    have e : (p.n == 1 && (p.d == 0)) = decide p.right := by
      rw [Bool.eq_iff_iff, Bool.and_eq_true, beq_iff_eq, beq_iff_eq, decide_eq_true_eq]
      unfold Fr.right
      omega
    rw [e]



theorem order_eq (k : Nat) (p q : Fr) (hp : p.b64) (hq : q.b64) (rp : p.right) (rq : q.right) :
    G.wide_Order.f (k + 4) p.n p.d q.n q.d = some (sg (p.n * q.d - q.n * p.d), true) := by
  unfold G.wide_Order.f
  rw [right_eq, right_eq, decide_eq_true rp, decide_eq_true rq, Option.bind_some, if_pos rfl, Option.bind_some, G.wide_Order.j0, if_neg (by decide), mulW_eq _ _ hp.1 hq.2, Option.bind_some,
    mulW_eq _ _ hq.1 hp.2, Option.bind_some, cmpW_eq, Option.bind_some]

theorem order_all (k : Nat) (p q : Fr) (hp : p.b64) (hq : q.b64) :
    G.wide_Order.f (k + 4) p.n p.d q.n q.d = some (if p.right ∧ q.right then (sg (p.n * q.d - q.n * p.d), true) else (0, false)) := by
  by_cases rp : p.right
  · by_cases rq : q.right
    · rw [if_pos ⟨rp, rq⟩, order_eq k p q hp hq rp rq]
    · rw [if_neg (fun h => rq h.2)]
      unfold G.wide_Order.f
      rw [right_eq, right_eq, decide_eq_true rp, decide_eq_false rq, Option.bind_some, if_pos rfl, Option.bind_some, G.wide_Order.j0, if_pos (show (!false) = true from rfl)]
  · rw [if_neg (fun h => rp h.1)]
    unfold G.wide_Order.f
    rw [right_eq, decide_eq_false rp, Option.bind_some, if_neg (by decide), G.wide_Order.j0, if_pos rfl]
/-- Whole numbers of 128 bits. -/
def i128 (n : Int) : Prop := -170141183460469231731687303715884105728 ≤ n ∧ n ≤ 170141183460469231731687303715884105727
theorem of_eq (n : Int) (h : i64b n) : G.wide_Of.f n = some (hiW n, loW n) := by
  unfold G.wide_Of.f hiW loW
  unfold i64b at h
  rw [u64w, show n / 9223372036854775808 = n / 18446744073709551616 by omega]
theorem sum_eq (n m : Int) (hn : i128 n) (hm : i128 m) (h : i128 (n + m)) : G.wide_sum.f (hiW n) (loW n) (hiW m) (loW m) = some (hiW (n + m), loW (n + m)) := by
  unfold i128 at *
  unfold G.wide_sum.f hiW loW
  rw [if_pos (by omega)]
  unfold wrap64
  congr 2 <;> omega
theorem turned_eq (n : Int) (hn : i128 n) (h : i128 (-n)) : G.wide_turned.f (hiW n) (loW n) = some (hiW (-n), loW (-n)) := by
  have hn' := hn
  unfold i128 at hn h
  unfold G.wide_turned.f
  rw [if_pos (by unfold hiW; omega)]
  have e := sum_eq (-1 - n) 1 (by unfold i128; omega) (by unfold i128; omega) (by unfold i128; omega)
  rw [show hiW (-1 - n) = -1 - hiW n by unfold hiW; omega, show loW (-1 - n) = 18446744073709551615 - loW n by unfold loW; omega, show -1 - n + 1 = -n by omega] at e
  exact e
theorem neg_eq (n : Int) (hn : i128 n) (h : i128 (-n)) : G.wide_Neg.f (hiW n) (loW n) = some (hiW (-n), loW (-n), true) := by
  unfold G.wide_Neg.f
  rw [turned_eq n hn h, Option.bind_some]
  unfold i128 at *
  by_cases a : hiW n = -9223372036854775808
  · rw [if_pos a, if_neg (by unfold hiW at a; unfold loW; omega)]
  · rw [if_neg a]
theorem add_eq (n m : Int) (hn : i128 n) (hm : i128 m) (h : i128 (n + m)) : G.wide_Add.f (hiW n) (loW n) (hiW m) (loW m) = some (hiW (n + m), loW (n + m), true) := by
  unfold G.wide_Add.f
  rw [sum_eq n m hn hm h, Option.bind_some]
  have e : ∀ x : Int, decide (hiW x < 0) = decide (x < 0) := fun x => by
    rw [Bool.eq_iff_iff, decide_eq_true_eq, decide_eq_true_eq]
    unfold hiW
    omega
  dsimp only
  rw [e n, e m, e (n + m)]
  by_cases a : n < 0 <;> by_cases b : m < 0
  · rw [decide_eq_true a, decide_eq_true b, decide_eq_true (show n + m < 0 by omega)]
    rfl
  · rw [decide_eq_true a, decide_eq_false b]
    rfl
  · rw [decide_eq_false a, decide_eq_true b]
    rfl
  · rw [decide_eq_false a, decide_eq_false b, decide_eq_false (show ¬ n + m < 0 by omega)]
    rfl
theorem prod128 {a b : Int} (ha : i64b a) (hb : i64b b) : i128 (a * b) := by
  have := prod_in ha hb
  unfold i128
  omega
end Go.Proofs.Ytmkdnoikbefimaa.M
