/- Plain laws, put together. -/
import Derived.Test.YtihklolcnfbbjaaGx5
import Derived.Laws.MathBits
import Derived.Test.YtihklolcnfbbjaaGx51
import Derived.Test.YtihklolcnfbbjaaGx53
import Derived.Test.YtihklolcnfbbjaaGx54
import Derived.Test.YtihklolcnfbbjaaGx67
import Derived.Test.YtihklolcnfbbjaaGx65
import Derived.Test.YtihklolcnfbbjaaGx60
namespace Go.Proofs.VecMath

structure Vec where
  x : Int
  y : Int
  z : Int

def Vec.in_ (m : Int) (a : Vec) : Prop := (-m ≤ a.x ∧ a.x ≤ m) ∧ (-m ≤ a.y ∧ a.y ≤ m) ∧ (-m ≤ a.z ∧ a.z ≤ m)
instance (m : Int) (a : Vec) : Decidable (a.in_ m) := by unfold Vec.in_; infer_instance
def Vec.zero (a : Vec) : Prop := a.x = 0 ∧ a.y = 0 ∧ a.z = 0
instance (a : Vec) : Decidable a.zero := by unfold Vec.zero; infer_instance

def V0 (o d a b : Vec) : Int :=
  d.x * ((a.y - o.y) * (b.z - o.z) - (a.z - o.z) * (b.y - o.y)) + d.y * ((a.z - o.z) * (b.x - o.x) - (a.x - o.x) * (b.z - o.z)) + d.z * ((a.x - o.x) * (b.y - o.y) - (a.y - o.y) * (b.x - o.x))
def Cx (d a b : Vec) : Int := (a.y - b.y) * d.z - (a.z - b.z) * d.y
def Cy (d a b : Vec) : Int := (a.z - b.z) * d.x - (a.x - b.x) * d.z
def Cz (d a b : Vec) : Int := (a.x - b.x) * d.y - (a.y - b.y) * d.x
def sg (n : Int) : Int := if n < 0 then -1 else if n > 0 then 1 else 0
def lex4 (v x y z : Int) : Int := if sg v = 0 then (if sg x = 0 then (if sg y = 0 then sg z else sg y) else sg x) else sg v
def pS (o d a b : Vec) : Int := lex4 (V0 o d a b) (Cx d a b) (Cy d a b) (Cz d a b)
/-- One number whose sign is the side. -/
def WW (o d a b : Vec) : Int := 1329227995784915872903807060280344576 * V0 o d a b + 1208925819614629174706176 * Cx d a b + 1099511627776 * Cy d a b + Cz d a b
def NX (a b c : Vec) : Int := (b.y - a.y) * (c.z - a.z) - (b.z - a.z) * (c.y - a.y)
def NY (a b c : Vec) : Int := (b.z - a.z) * (c.x - a.x) - (b.x - a.x) * (c.z - a.z)
def NZ (a b c : Vec) : Int := (b.x - a.x) * (c.y - a.y) - (b.y - a.y) * (c.x - a.x)
def num (o a b c : Vec) : Int := NX a b c * (a.x - o.x) + NY a b c * (a.y - o.y) + NZ a b c * (a.z - o.z)
def den (d a b c : Vec) : Int := NX a b c * d.x + NY a b c * d.y + NZ a b c * d.z

theorem mulb {x y A B : Int} (hx : -A ≤ x ∧ x ≤ A) (hy : -B ≤ y ∧ y ≤ B) : -(A * B) ≤ x * y ∧ x * y ≤ A * B := by
  obtain ⟨a, b⟩ := hx
  obtain ⟨c, d⟩ := hy
  have h1 := Int.mul_nonneg (show 0 ≤ A - x by omega) (show 0 ≤ B - y by omega)
  have h2 := Int.mul_nonneg (show 0 ≤ A + x by omega) (show 0 ≤ B + y by omega)
  have h3 := Int.mul_nonneg (show 0 ≤ A - x by omega) (show 0 ≤ B + y by omega)
  have h4 := Int.mul_nonneg (show 0 ≤ A + x by omega) (show 0 ≤ B - y by omega)
  constructor <;> grind

theorem sg_pos {n : Int} : sg n = 1 ↔ 0 < n := by unfold sg; split <;> (try split) <;> constructor <;> intro h <;> omega
theorem sg_neg {n : Int} : sg n = -1 ↔ n < 0 := by unfold sg; split <;> (try split) <;> constructor <;> intro h <;> omega
theorem sg_zero {n : Int} : sg n = 0 ↔ n = 0 := by unfold sg; split <;> (try split) <;> constructor <;> intro h <;> omega
theorem sg_or (n : Int) : sg n = -1 ∨ sg n = 0 ∨ sg n = 1 := by unfold sg; split <;> (try split) <;> simp

/-- The lexical sign is the sign of one number. -/
theorem lex_sg {v x y z : Int} (hx : -17179869184 ≤ x ∧ x ≤ 17179869184) (hy : -17179869184 ≤ y ∧ y ≤ 17179869184) (hz : -17179869184 ≤ z ∧ z ≤ 17179869184) :
    lex4 v x y z = sg (1329227995784915872903807060280344576 * v + 1208925819614629174706176 * x + 1099511627776 * y + z) := by
  unfold lex4 sg
  split <;> split <;> (try split) <;> (try split) <;> (try split) <;> (try split) <;> (try split) <;> (try split) <;> omega

theorem sub_in {a b : Vec} {m n : Int} (ha : a.in_ m) (hb : b.in_ n) : (-(m + n) ≤ a.x - b.x ∧ a.x - b.x ≤ m + n) ∧ (-(m + n) ≤ a.y - b.y ∧ a.y - b.y ≤ m + n) ∧ (-(m + n) ≤ a.z - b.z ∧ a.z - b.z ≤ m + n) := by
  unfold Vec.in_ at *
  omega

theorem C_in {d a b : Vec} (hd : d.in_ 32768) (ha : a.in_ 65536) (hb : b.in_ 65536) :
    (-8589934592 ≤ Cx d a b ∧ Cx d a b ≤ 8589934592) ∧ (-8589934592 ≤ Cy d a b ∧ Cy d a b ≤ 8589934592) ∧ (-8589934592 ≤ Cz d a b ∧ Cz d a b ≤ 8589934592) := by
  obtain ⟨sx, sy, sz⟩ := sub_in ha hb
  obtain ⟨dx, dy, dz⟩ := hd
  have h1 := mulb sy dz
  have h2 := mulb sz dy
  have h3 := mulb sz dx
  have h4 := mulb sx dz
  have h5 := mulb sx dy
  have h6 := mulb sy dx
  unfold Cx Cy Cz
  omega

theorem pS_sg {o d a b : Vec} (hd : d.in_ 32768) (ha : a.in_ 65536) (hb : b.in_ 65536) : pS o d a b = sg (WW o d a b) := by
  obtain ⟨h1, h2, h3⟩ := C_in hd ha hb
  unfold pS WW
  exact lex_sg (by omega) (by omega) (by omega)

theorem WW_anti (o d a b : Vec) : WW o d b a = -WW o d a b := by
  unfold WW V0 Cx Cy Cz
  grind
theorem WW_sum (o d a b c : Vec) : WW o d a b + WW o d b c + WW o d c a = 1329227995784915872903807060280344576 * den d a b c := by
  unfold WW V0 Cx Cy Cz den NX NY NZ
  grind
end Go.Proofs.VecMath

namespace Go.Proofs.Ytihklolcnfbbjaa.M
open Go.RowKit Go.Proofs.VecMath Go.Proofs.YtihklolcnfbbjaaW.PrintWords
set_option linter.unusedVariables false

theorem w64 {n : Int} (h : -9223372036854775808 ≤ n ∧ n ≤ 9223372036854775807) : wrap64 n = n := by
  unfold wrap64
  omega

theorem within_eq (x y z m : Int) (h0 : 0 ≤ m) (h1 : m ≤ 4611686018427387904) : G.vec_Within.f x y z m = some (decide ((⟨x, y, z⟩ : Vec).in_ m)) := by
  unfold G.vec_Within.f
  rw [w64 (by omega)]
  unfold mn mx Vec.in_
  dsimp only
  by_cases h : (-m ≤ x ∧ x ≤ m) ∧ (-m ≤ y ∧ y ≤ m) ∧ (-m ≤ z ∧ z ≤ m)
  · rw [decide_eq_true h]
    obtain ⟨⟨a, b⟩, ⟨c, d⟩, e, f⟩ := h
    repeat' split
    all_goals first | omega | (simp only [Option.some.injEq, decide_eq_true_eq]; omega)
  · rw [decide_eq_false h]
    repeat' split
    all_goals first | rfl | (simp only [Option.some.injEq, decide_eq_false_iff_not]; omega)
end Go.Proofs.Ytihklolcnfbbjaa.M

namespace Go.Proofs.Ytihklolcnfbbjaa.M
open Go.RowKit Go.Proofs.VecMath Go.Proofs.YtihklolcnfbbjaaW.PrintWords
set_option linter.unusedVariables false
set_option linter.unusedSimpArgs false

theorem u64w (n : Int) : IntKind.u64.wrap n = n % 18446744073709551616 := rfl

theorem mul64_eq (a b : Int) (ha : 0 ≤ a ∧ a < 18446744073709551616) (hb : 0 ≤ b ∧ b < 18446744073709551616) :
    G.bits_Mul64.f a b = some (a * b / 18446744073709551616, a * b % 18446744073709551616) := by
  unfold G.bits_Mul64.f
  simp only [u64w]
  rw [and_low32 a ha.1 ha.2, and_low32 b hb.1 hb.2, and_low32 _ (by omega) (by omega)]
  rw [mul64_arith a b ha.1 ha.2 hb.1 hb.2]

/-- The two halves of a whole number. -/
def hiW (n : Int) : Int := n / 18446744073709551616
def loW (n : Int) : Int := n % 18446744073709551616

def i64b (n : Int) : Prop := -9223372036854775808 ≤ n ∧ n ≤ 9223372036854775807

theorem prod_in {a b : Int} (ha : i64b a) (hb : i64b b) : -85070591730234615865843651857942052864 ≤ a * b ∧ a * b ≤ 85070591730234615865843651857942052864 :=
  mulb (A := 9223372036854775808) (B := 9223372036854775808) ⟨by unfold i64b at ha; omega, by unfold i64b at ha; omega⟩ ⟨by unfold i64b at hb; omega, by unfold i64b at hb; omega⟩

theorem mulW_eq (a b : Int) (ha : i64b a) (hb : i64b b) : G.wide_Mul.f a b = some (hiW (a * b), loW (a * b)) := by
  have hp := prod_in ha hb
  unfold i64b at ha hb
  unfold G.wide_Mul.f hiW loW
  rw [u64w, u64w, mul64_eq _ _ (by omega) (by omega), Option.bind_some]
  simp only [u64w]
  by_cases h1 : a < 0
  · have ea : a % 18446744073709551616 = a + 18446744073709551616 := by omega
    rw [if_pos h1, ea]
    by_cases h2 : b < 0
    · have eb : b % 18446744073709551616 = b + 18446744073709551616 := by omega
      rw [if_pos h2, eb]
      have e : (a + 18446744073709551616) * (b + 18446744073709551616) = a * b + 18446744073709551616 * (a + b + 18446744073709551616) := by grind
      rw [e]
      generalize a * b = p at *
      simp only [Option.some.injEq, Prod.mk.injEq, and_true]
      unfold wrap64
      omega
    · have eb : b % 18446744073709551616 = b := by omega
      rw [if_neg h2, eb]
      have e : (a + 18446744073709551616) * b = a * b + 18446744073709551616 * b := by grind
      rw [e]
      generalize a * b = p at *
      simp only [Option.some.injEq, Prod.mk.injEq, and_true]
      unfold wrap64
      omega
  · have ea : a % 18446744073709551616 = a := by omega
    rw [if_neg h1, ea]
    by_cases h2 : b < 0
    · have eb : b % 18446744073709551616 = b + 18446744073709551616 := by omega
      rw [if_pos h2, eb]
      have e : a * (b + 18446744073709551616) = a * b + 18446744073709551616 * a := by grind
      rw [e]
      generalize a * b = p at *
      simp only [Option.some.injEq, Prod.mk.injEq, and_true]
      unfold wrap64
      omega
    · have eb : b % 18446744073709551616 = b := by omega
      rw [if_neg h2, eb]
      generalize a * b = p at *
      simp only [Option.some.injEq, Prod.mk.injEq, and_true]
      unfold wrap64
      omega

theorem compare64_eq (a b : Int) : G.cmp_Compare_int64.f a b = some (sg (a - b)) := by
  unfold G.cmp_Compare_int64.f G.cmp_isNaN_int64.f sg
  simp only [Option.bind_some, bne_self_eq_false, Bool.false_eq_true, if_false]
  repeat' split
  all_goals first | rfl | omega
theorem compareU_eq (a b : Int) : G.cmp_Compare_uint64.f a b = some (sg (a - b)) := by
  unfold G.cmp_Compare_uint64.f G.cmp_isNaN_uint64.f sg
  simp only [Option.bind_some, bne_self_eq_false, Bool.false_eq_true, if_false]
  repeat' split
  all_goals first | rfl | omega

theorem or2_eq (k : Nat) (a b : Int) : G.cmp_Or_int.f (k + 3) [a, b] = some (if a = 0 then b else a) := by
  unfold G.cmp_Or_int.f
  have e1 : wrap64 (0 + 1) = 1 := by unfold wrap64; decide
  have e2 : wrap64 (1 + 1) = 2 := by unfold wrap64; decide
  have hl : (([a, b] : List Int).length : Int) = 2 := rfl
  have r0 : rd [a, b] 0 = a := rfl
  have r1 : rd [a, b] 1 = b := rfl
  rw [hl, G.cmp_Or_int.l0, if_pos (by decide), if_pos (by decide), if_pos (by rw [hl]; decide), r0, e1]
  by_cases h : a = 0
  · rw [if_pos h, if_pos h, G.cmp_Or_int.l0, if_pos (by decide), if_pos (by decide), if_pos (by rw [hl]; decide), r1, e2]
    by_cases h' : b = 0
    · rw [if_pos h', G.cmp_Or_int.l0, if_neg (by decide), h']
    · rw [if_neg h']
  · rw [if_neg h, if_neg h]

theorem cmpW_eq (k : Nat) (a b : Int) : G.wide_Cmp.f (k + 3) (hiW a) (loW a) (hiW b) (loW b) = some (sg (a - b)) := by
  unfold G.wide_Cmp.f
  rw [compare64_eq, Option.bind_some, compareU_eq, Option.bind_some, or2_eq, Option.bind_some]
  unfold hiW loW sg
  congr 1
  repeat' split
  all_goals first | rfl | omega

/-- A fraction. -/
structure Fr where
  n : Int
  d : Int
def Fr.right (p : Fr) : Prop := 0 < p.d ∨ (p.n = 1 ∧ p.d = 0)
instance (p : Fr) : Decidable p.right := by unfold Fr.right; infer_instance
def Fr.b64 (p : Fr) : Prop := i64b p.n ∧ i64b p.d

theorem right_eq (p : Fr) : G.wide_right.f p.n p.d = some (decide p.right) := by
  unfold G.wide_right.f
  by_cases h : p.d > 0
  · rw [if_pos h, decide_eq_true (show p.right from Or.inl h)]
  · rw [if_neg h]
    have e : (p.n == 1 && (p.d == 0)) = decide p.right := by
      rw [Bool.eq_iff_iff, Bool.and_eq_true, beq_iff_eq, beq_iff_eq, decide_eq_true_eq]
      unfold Fr.right
      omega
    rw [e]



theorem order_eq (k : Nat) (p q : Fr) (hp : p.b64) (hq : q.b64) (rp : p.right) (rq : q.right) :
    G.wide_Order.f (k + 4) p.n p.d q.n q.d = some (sg (p.n * q.d - q.n * p.d), true) := by
  unfold G.wide_Order.f
  rw [right_eq, right_eq, decide_eq_true rp, decide_eq_true rq, Option.bind_some, if_pos rfl, Option.bind_some, G.wide_Order.j0, if_neg (by decide), mulW_eq _ _ hp.1 hq.2, Option.bind_some,
    mulW_eq _ _ hq.1 hp.2, Option.bind_some, cmpW_eq, Option.bind_some]

end Go.Proofs.Ytihklolcnfbbjaa.M

namespace Go.Proofs.Ytihklolcnfbbjaa.M
open Go.RowKit Go.Proofs.VecMath Go.Proofs.YtihklolcnfbbjaaW.PrintWords
set_option linter.unusedVariables false

def Fr.lt (p q : Fr) : Prop := p.n * q.d < q.n * p.d
instance (p q : Fr) : Decidable (p.lt q) := by unfold Fr.lt; infer_instance
def Fr.ok (p : Fr) : Prop := p.right ∧ p.b64

theorem less_eq (k : Nat) (p q : Fr) (hp : p.ok) (hq : q.ok) : G.slab_less.f (k + 4) p.n p.d q.n q.d = some (decide (p.lt q)) := by
  unfold G.slab_less.f
  rw [order_eq k p q hp.2 hq.2 hp.1 hq.1, Option.bind_some]
  have e : (sg (p.n * q.d - q.n * p.d) < 0) ↔ p.lt q := by
    unfold Fr.lt sg
    repeat' split
    all_goals omega
  simp only [e]

def zeroF : Fr := ⟨0, 1⟩
def infF : Fr := ⟨1, 0⟩
def spanP (f s l h : Int) : Option (Fr × Fr) :=
  if l > h ∨ (s = 0 ∧ (f < l ∨ f > h)) then none else if s = 0 then some (zeroF, infF) else some (⟨l - f, s⟩, ⟨h - f, s⟩)
def spanO (f s l h : Int) : Option (Fr × Fr) := if s < 0 then spanP (-f) (-s) (-h) (-l) else spanP f s l h
def pack : Option (Fr × Fr) → Int × Int × Int × Int × Bool
  | none => (0, 0, 0, 0, false)
  | some (p, q) => (p.n, p.d, q.n, q.d, true)

theorem spanP_eq (k : Nat) (f s l h : Int) (hf : -131072 ≤ f ∧ f ≤ 131072) (hl : -131072 ≤ l ∧ l ≤ 131072) (hh : -131072 ≤ h ∧ h ≤ 131072) :
    G.slab_part_span.j0 (k + 2) f s l h = some (pack (spanP f s l h)) := by
  have e1 : wrap64 (l - f) = l - f := w64 (by omega)
  have e2 : wrap64 (h - f) = h - f := w64 (by omega)
  rw [G.slab_part_span.j0]
  unfold spanP
  by_cases h1 : l > h
  · rw [if_pos h1, if_pos (Or.inl h1), G.slab_part_span.j1, if_pos rfl]
    rfl
  · rw [if_neg h1]
    by_cases h2 : s = 0
    · rw [if_pos h2]
      by_cases h3 : f < l
      · rw [if_pos h3, if_pos (Or.inr ⟨h2, Or.inl h3⟩), G.slab_part_span.j1, if_pos rfl]
        rfl
      · rw [if_neg h3, G.slab_part_span.j1]
        by_cases h4 : f > h
        · rw [if_pos (decide_eq_true h4), if_pos (Or.inr ⟨h2, Or.inr h4⟩)]
          rfl
        · rw [if_neg (by rw [decide_eq_false h4]; decide), if_pos h2, if_neg (by omega), if_pos h2]
          rfl
    · rw [if_neg h2, if_neg (by omega), G.slab_part_span.j1, if_neg (by decide), if_neg h2, if_neg h2, e1, e2]
      rfl

theorem span_eq (k : Nat) (f s l h : Int) (hf : -131072 ≤ f ∧ f ≤ 131072) (hs : -131072 ≤ s ∧ s ≤ 131072) (hl : -131072 ≤ l ∧ l ≤ 131072) (hh : -131072 ≤ h ∧ h ≤ 131072) :
    G.slab_part_span.f (k + 2) f s l h = some (pack (spanO f s l h)) := by
  unfold G.slab_part_span.f spanO
  by_cases h1 : s < 0
  · rw [if_pos h1, if_pos h1, w64 (by omega), w64 (by omega), w64 (by omega), w64 (by omega), spanP_eq _ _ _ _ _ (by omega) (by omega) (by omega)]
  · rw [if_neg h1, if_neg h1, spanP_eq _ _ _ _ _ (by omega) (by omega) (by omega)]

/-- What a span can be. -/
theorem span_cases (f s l h : Int) : spanO f s l h = none ∨ (s = 0 ∧ spanO f s l h = some (zeroF, infF) ∧ l ≤ f ∧ f ≤ h) ∨ (0 < s ∧ l ≤ h ∧ spanO f s l h = some (⟨l - f, s⟩, ⟨h - f, s⟩)) ∨ (s < 0 ∧ l ≤ h ∧ spanO f s l h = some (⟨f - h, -s⟩, ⟨f - l, -s⟩)) := by
  unfold spanO spanP
  by_cases h1 : s < 0
  · rw [if_pos h1]
    by_cases h2 : l > h
    · rw [if_pos (Or.inl (by omega))]
      exact Or.inl rfl
    · rw [if_neg (by omega), if_neg (by omega)]
      refine Or.inr (Or.inr (Or.inr ⟨h1, by omega, ?_⟩))
      rw [show -h - -f = f - h by omega, show -l - -f = f - l by omega]
  · rw [if_neg h1]
    by_cases h2 : l > h ∨ (s = 0 ∧ (f < l ∨ f > h))
    · rw [if_pos h2]
      exact Or.inl rfl
    · rw [if_neg h2]
      by_cases h3 : s = 0
      · rw [if_pos h3]
        exact Or.inr (Or.inl ⟨h3, rfl, by omega, by omega⟩)
      · rw [if_neg h3]
        exact Or.inr (Or.inr (Or.inl ⟨by omega, by omega, rfl⟩))

/-- Small fractions. -/
def Fr.sm (p : Fr) : Prop := p.right ∧ -262144 ≤ p.n ∧ p.n ≤ 262144 ∧ 0 ≤ p.d ∧ p.d ≤ 262144
theorem Fr.sm.ok {p : Fr} (h : p.sm) : p.ok := ⟨h.1, by obtain ⟨_, _, _, _, _⟩ := h; unfold Fr.b64 i64b; omega⟩
theorem zero_sm : zeroF.sm := by unfold zeroF Fr.sm Fr.right; decide
theorem inf_sm : infF.sm := by unfold infF Fr.sm Fr.right; decide
theorem span_sm {f s l h : Int} (hf : -65536 ≤ f ∧ f ≤ 65536) (hs : -32768 ≤ s ∧ s ≤ 32768) (hl : -131072 ≤ l ∧ l ≤ 131072) (hh : -131072 ≤ h ∧ h ≤ 131072) {p q : Fr} (e : spanO f s l h = some (p, q)) : p.sm ∧ q.sm := by
  rcases span_cases f s l h with c | ⟨_, c, _⟩ | ⟨_, _, c⟩ | ⟨_, _, c⟩
  · rw [c] at e
    cases e
  all_goals
    rw [c] at e
    simp only [Option.some.injEq, Prod.mk.injEq] at e
    obtain ⟨rfl, rfl⟩ := e
  · exact ⟨zero_sm, inf_sm⟩
  · unfold Fr.sm Fr.right
    dsimp only
    omega
  · unfold Fr.sm Fr.right
    dsimp only
    omega

def mxF (a b : Fr) : Fr := if a.lt b then b else a
def mnF (a b : Fr) : Fr := if b.lt a then b else a
theorem mx_sm {a b : Fr} (ha : a.sm) (hb : b.sm) : (mxF a b).sm := by unfold mxF; split <;> assumption
theorem mn_sm {a b : Fr} (ha : a.sm) (hb : b.sm) : (mnF a b).sm := by unfold mnF; split <;> assumption

/-- Where three spans are at once. -/
def cut3 (s1 s2 s3 : Option (Fr × Fr)) : Option (Fr × Fr) :=
  match s1 with
  | none => none
  | some (p1, q1) => match s2 with
    | none => none
    | some (p2, q2) => match s3 with
      | none => none
      | some (p3, q3) => if (mnF (mnF (mnF infF q1) q2) q3).lt (mxF (mxF (mxF zeroF p1) p2) p3) then none else some (mxF (mxF (mxF zeroF p1) p2) p3, mnF (mnF (mnF infF q1) q2) q3)
def packE : Option (Fr × Fr) → Int × Int × Int × Int × Bool × Int
  | none => (0, 0, 0, 0, false, 0)
  | some (p, q) => (p.n, p.d, q.n, q.d, true, 0)

theorem j3_eq (k : Nat) (p q : Fr) (hp : p.sm) (hq : q.sm) : G.slab_Range.j3 (k + 5) p.n p.d q.n q.d = some (packE (if q.lt p then none else some (p, q))) := by
  rw [G.slab_Range.j3, less_eq _ _ _ hq.ok hp.ok, Option.bind_some]
  by_cases h : q.lt p
  · rw [if_pos (decide_eq_true h), if_pos h]
    rfl
  · rw [if_neg (by rw [decide_eq_false h]; decide), if_neg h]
    rfl

theorem fold_eq {α : Type} (k : Nat) (p q u v : Fr) (hp : p.sm) (hq : q.sm) (hu : u.sm) (hv : v.sm) (F : Int → Int → Int → Int → Option α) :
    ((G.slab_less.f (k + 4) p.n p.d u.n u.d).bind fun t => if t = true then ((G.slab_less.f (k + 4) v.n v.d q.n q.d).bind fun t' => if t' = true then F u.n u.d v.n v.d else F u.n u.d q.n q.d)
      else ((G.slab_less.f (k + 4) v.n v.d q.n q.d).bind fun t' => if t' = true then F p.n p.d v.n v.d else F p.n p.d q.n q.d)) = F (mxF p u).n (mxF p u).d (mnF q v).n (mnF q v).d := by
  rw [less_eq _ _ _ hp.ok hu.ok, less_eq _ _ _ hv.ok hq.ok]
  simp only [Option.bind_some, decide_eq_true_eq]
  unfold mxF mnF
  by_cases h1 : p.lt u
  · rw [if_pos h1, if_pos h1]
    by_cases h2 : v.lt q
    · rw [if_pos h2, if_pos h2]
    · rw [if_neg h2, if_neg h2]
  · rw [if_neg h1, if_neg h1]
    by_cases h2 : v.lt q
    · rw [if_pos h2, if_pos h2]
    · rw [if_neg h2, if_neg h2]

def bx (o d l h : Vec) : Prop := o.in_ 65536 ∧ d.in_ 32768 ∧ l.in_ 131072 ∧ h.in_ 131072

theorem j2_eq (k : Nat) (p q : Fr) (hp : p.sm) (hq : q.sm) (a b c d e f g h : Int) (o s l m : Int) (ho : -65536 ≤ o ∧ o ≤ 65536) (hs : -32768 ≤ s ∧ s ≤ 32768) (hl : -131072 ≤ l ∧ l ≤ 131072) (hm : -131072 ≤ m ∧ m ≤ 131072) :
    G.slab_Range.j2 (k + 6) p.n p.d q.n q.d a b c d e f g h o s l m = some (packE (match spanO o s l m with
      | none => none
      | some (p3, q3) => if (mnF q q3).lt (mxF p p3) then none else some (mxF p p3, mnF q q3))) := by
  rw [G.slab_Range.j2, span_eq _ _ _ _ _ (by omega) (by omega) hl hm, Option.bind_some]
  rcases e : spanO o s l m with _ | ⟨u, v⟩
  · rfl
  · obtain ⟨su, sv⟩ := span_sm ho hs hl hm e
    simp only [pack]
    rw [if_pos trivial, fold_eq (k + 1) p q u v hp hq su sv, j3_eq _ _ _ (mx_sm hp su) (mn_sm hq sv)]

theorem j1_eq (k : Nat) (p q : Fr) (hp : p.sm) (hq : q.sm) (a b c d : Int) (o s l m : Int) (ho : -65536 ≤ o ∧ o ≤ 65536) (hs : -32768 ≤ s ∧ s ≤ 32768) (hl : -131072 ≤ l ∧ l ≤ 131072) (hm : -131072 ≤ m ∧ m ≤ 131072)
    (o' s' l' m' : Int) (ho' : -65536 ≤ o' ∧ o' ≤ 65536) (hs' : -32768 ≤ s' ∧ s' ≤ 32768) (hl' : -131072 ≤ l' ∧ l' ≤ 131072) (hm' : -131072 ≤ m' ∧ m' ≤ 131072) :
    G.slab_Range.j1 (k + 7) p.n p.d q.n q.d a b c d o s l m o' s' l' m' = some (packE (match spanO o s l m with
      | none => none
      | some (p2, q2) => match spanO o' s' l' m' with
        | none => none
        | some (p3, q3) => if (mnF (mnF q q2) q3).lt (mxF (mxF p p2) p3) then none else some (mxF (mxF p p2) p3, mnF (mnF q q2) q3))) := by
  rw [G.slab_Range.j1, span_eq _ _ _ _ _ (by omega) (by omega) hl hm, Option.bind_some]
  rcases e : spanO o s l m with _ | ⟨u, v⟩
  · rfl
  · obtain ⟨su, sv⟩ := span_sm ho hs hl hm e
    simp only [pack]
    rw [if_pos trivial, fold_eq (k + 2) p q u v hp hq su sv (fun x y z t => G.slab_Range.j2 (k + 6) x y z t a b c d o s l m o' s' l' m'), j2_eq _ _ _ (mx_sm hp su) (mn_sm hq sv) _ _ _ _ _ _ _ _ _ _ _ _ ho' hs' hl' hm']

theorem j0_eq (k : Nat) (o d l h : Vec) (b : bx o d l h) :
    G.slab_Range.j0 (k + 8) false o.x o.y o.z d.x d.y d.z l.x l.y l.z h.x h.y h.z = some (packE (cut3 (spanO o.x d.x l.x h.x) (spanO o.y d.y l.y h.y) (spanO o.z d.z l.z h.z))) := by
  obtain ⟨⟨ox, oy, oz⟩, ⟨dx, dy, dz⟩, ⟨lx, ly, lz⟩, hx, hy, hz⟩ := b
  rw [G.slab_Range.j0, if_neg (by decide), span_eq _ _ _ _ _ (by omega) (by omega) lx hx, Option.bind_some]
  unfold cut3
  rcases e : spanO o.x d.x l.x h.x with _ | ⟨u, v⟩
  · rfl
  · obtain ⟨su, sv⟩ := span_sm ox dx lx hx e
    have F := fold_eq (k + 3) zeroF infF u v zero_sm inf_sm su sv (fun x y z t => G.slab_Range.j1 (k + 7) x y z t o.x d.x l.x h.x o.y d.y l.y h.y o.z d.z l.z h.z)
    simp only [pack]
    rw [if_pos trivial]
    refine F.trans ?_
    rw [j1_eq _ _ _ (mx_sm zero_sm su) (mn_sm inf_sm sv) _ _ _ _ _ _ _ _ oy dy ly hy _ _ _ _ oz dz lz hz]

def okS (o d l h : Vec) : Prop := ¬ d.zero ∧ bx o d l h
instance (o d l h : Vec) : Decidable (okS o d l h) := by unfold okS bx; infer_instance
def rangeS (o d l h : Vec) : Int × Int × Int × Int × Bool × Int :=
  if okS o d l h then packE (cut3 (spanO o.x d.x l.x h.x) (spanO o.y d.y l.y h.y) (spanO o.z d.z l.z h.z)) else (0, 0, 0, 0, false, 21)

theorem range_eq (k : Nat) (o d l h : Vec) : G.slab_Range.f (k + 8) o.x o.y o.z d.x d.y d.z l.x l.y l.z h.x h.y h.z = some (rangeS o d l h) := by
  unfold G.slab_Range.f rangeS
  have jt : G.slab_Range.j0 (k + 8) true o.x o.y o.z d.x d.y d.z l.x l.y l.z h.x h.y h.z = some (0, 0, 0, 0, false, 21) := by
    rw [G.slab_Range.j0, if_pos rfl]
  by_cases h0 : d.zero
  · rw [if_pos (by obtain ⟨a, b, c⟩ := h0; rw [a, b, c]; rfl), jt, if_neg (fun q => q.1 h0)]
  · rw [if_neg (by
      intro q
      rw [Bool.and_eq_true, Bool.and_eq_true, beq_iff_eq, beq_iff_eq, beq_iff_eq] at q
      exact h0 q)]
    rw [within_eq _ _ _ _ (by decide) (by decide), Option.bind_some]
    by_cases h1 : o.in_ 65536
    · rw [if_pos (decide_eq_true h1), within_eq _ _ _ _ (by decide) (by decide), Option.bind_some]
      by_cases h2 : d.in_ 32768
      · rw [if_pos (decide_eq_true h2), within_eq _ _ _ _ (by decide) (by decide), Option.bind_some]
        by_cases h3 : l.in_ 131072
        · rw [if_pos (decide_eq_true h3), within_eq _ _ _ _ (by decide) (by decide), Option.bind_some]
          by_cases h4 : h.in_ 131072
          · rw [decide_eq_true (show (⟨h.x, h.y, h.z⟩ : Vec).in_ 131072 from h4)]
            have b : bx o d l h := ⟨h1, h2, h3, h4⟩
            rw [if_pos ⟨h0, b⟩]
            exact j0_eq k o d l h b
          · rw [decide_eq_false (show ¬ (⟨h.x, h.y, h.z⟩ : Vec).in_ 131072 from h4), if_neg (fun q => h4 q.2.2.2.2)]
            exact jt
        · rw [if_neg (by rw [decide_eq_false (show ¬ (⟨l.x, l.y, l.z⟩ : Vec).in_ 131072 from h3)]; decide), if_neg (fun q => h3 q.2.2.2.1), jt]
      · rw [if_neg (by rw [decide_eq_false (show ¬ (⟨d.x, d.y, d.z⟩ : Vec).in_ 32768 from h2)]; decide), if_neg (fun q => h2 q.2.2.1), jt]
    · rw [if_neg (by rw [decide_eq_false (show ¬ (⟨o.x, o.y, o.z⟩ : Vec).in_ 65536 from h1)]; decide), if_neg (fun q => h1 q.2.1), jt]
end Go.Proofs.Ytihklolcnfbbjaa.M

namespace Go.Proofs.Ytihklolcnfbbjaa.M
open Go.RowKit Go.Proofs.VecMath Go.Proofs.YtihklolcnfbbjaaW.PrintWords
set_option linter.unusedVariables false

def Fr.le (p q : Fr) : Prop := p.n * q.d ≤ q.n * p.d
theorem not_lt_le {p q : Fr} : ¬ q.lt p ↔ p.le q := by unfold Fr.lt Fr.le; omega
theorem lt_le {p q : Fr} (h : p.lt q) : p.le q := by unfold Fr.lt Fr.le at *; omega
theorem le_refl (p : Fr) : p.le p := Int.le_refl _
theorem le_trans {p q r : Fr} (hp : p.right) (hq : q.right) (hr : r.right) (h1 : p.le q) (h2 : q.le r) : p.le r := by
  unfold Fr.le Fr.right at *
  rcases hq with hq | ⟨hq1, hq2⟩
  · have pd : 0 ≤ p.d := by omega
    have rd : 0 ≤ r.d := by omega
    have a := Int.mul_le_mul_of_nonneg_right h1 rd
    have b := Int.mul_le_mul_of_nonneg_right h2 pd
    have c : p.n * r.d * q.d ≤ r.n * p.d * q.d := by
      have e1 : p.n * q.d * r.d = p.n * r.d * q.d := by grind
      have e2 : q.n * p.d * r.d = q.n * r.d * p.d := by grind
      have e3 : r.n * q.d * p.d = r.n * p.d * q.d := by grind
      omega
    exact Int.le_of_mul_le_mul_right c hq
  · rw [hq1, hq2] at h2
    have hd : r.d = 0 := by omega
    have hn : r.n = 1 := by omega
    rw [hd, hn]
    omega

theorem mx_left {a b : Fr} (ra : a.right) (rb : b.right) : a.le (mxF a b) := by
  unfold mxF
  split
  · exact lt_le ‹_›
  · exact le_refl _
theorem mx_right {a b : Fr} : b.le (mxF a b) := by
  unfold mxF
  split
  · exact le_refl _
  · exact not_lt_le.mp ‹_›
theorem mn_left {a b : Fr} : (mnF a b).le a := by
  unfold mnF
  split
  · exact lt_le ‹_›
  · exact le_refl _
theorem mn_right {a b : Fr} : (mnF a b).le b := by
  unfold mnF
  split
  · exact le_refl _
  · exact not_lt_le.mp ‹_›
theorem mx_le {a b c : Fr} (h1 : a.le c) (h2 : b.le c) : (mxF a b).le c := by unfold mxF; split <;> assumption
theorem le_mn {a b c : Fr} (h1 : c.le a) (h2 : c.le b) : c.le (mnF a b) := by unfold mnF; split <;> assumption
theorem le_inf {a : Fr} (h : a.right) : a.le infF := by
  unfold Fr.le infF Fr.right at *
  dsimp only
  omega

theorem cut_mem {s1 s2 s3 : Option (Fr × Fr)} {p1 q1 p2 q2 p3 q3 T : Fr} (h1 : s1 = some (p1, q1)) (h2 : s2 = some (p2, q2)) (h3 : s3 = some (p3, q3)) (m1 : p1.sm ∧ q1.sm) (m2 : p2.sm ∧ q2.sm) (m3 : p3.sm ∧ q3.sm)
    (hT : T.right) (z : zeroF.le T) (a1 : p1.le T) (b1 : T.le q1) (a2 : p2.le T) (b2 : T.le q2) (a3 : p3.le T) (b3 : T.le q3) :
    ∃ lo hi : Fr, cut3 s1 s2 s3 = some (lo, hi) ∧ lo.sm ∧ hi.sm ∧ lo.le T ∧ T.le hi := by
  refine ⟨mxF (mxF (mxF zeroF p1) p2) p3, mnF (mnF (mnF infF q1) q2) q3, ?_, mx_sm (mx_sm (mx_sm zero_sm m1.1) m2.1) m3.1, mn_sm (mn_sm (mn_sm inf_sm m1.2) m2.2) m3.2, mx_le (mx_le (mx_le z a1) a2) a3, le_mn (le_mn (le_mn (le_inf hT) b1) b2) b3⟩
  rw [h1, h2, h3]
  unfold cut3
  dsimp only
  rw [if_neg (not_lt_le.mpr (le_trans (mx_sm (mx_sm (mx_sm zero_sm m1.1) m2.1) m3.1).1 hT (mn_sm (mn_sm (mn_sm inf_sm m1.2) m2.2) m3.2).1 (mx_le (mx_le (mx_le z a1) a2) a3) (le_mn (le_mn (le_mn (le_inf hT) b1) b2) b3)))]

theorem cut_of {s1 s2 s3 : Option (Fr × Fr)} {lo hi : Fr} (m1 : ∀ p q, s1 = some (p, q) → p.sm ∧ q.sm) (m2 : ∀ p q, s2 = some (p, q) → p.sm ∧ q.sm) (m3 : ∀ p q, s3 = some (p, q) → p.sm ∧ q.sm) (h : cut3 s1 s2 s3 = some (lo, hi)) :
    lo.sm ∧ hi.sm ∧ zeroF.le lo ∧ lo.le hi ∧ ∃ p1 q1 p2 q2 p3 q3 : Fr, s1 = some (p1, q1) ∧ s2 = some (p2, q2) ∧ s3 = some (p3, q3) ∧ p1.le lo ∧ hi.le q1 ∧ p2.le lo ∧ hi.le q2 ∧ p3.le lo ∧ hi.le q3 ∧
      lo = mxF (mxF (mxF zeroF p1) p2) p3 ∧ hi = mnF (mnF (mnF infF q1) q2) q3 := by
  unfold cut3 at h
  rcases s1 with _ | ⟨p1, q1⟩
  · cases h
  rcases s2 with _ | ⟨p2, q2⟩
  · cases h
  rcases s3 with _ | ⟨p3, q3⟩
  · cases h
  dsimp only at h
  by_cases c : (mnF (mnF (mnF infF q1) q2) q3).lt (mxF (mxF (mxF zeroF p1) p2) p3)
  · rw [if_pos c] at h
    cases h
  · rw [if_neg c] at h
    simp only [Option.some.injEq, Prod.mk.injEq] at h
    obtain ⟨rfl, rfl⟩ := h
    have m1 := m1 _ _ rfl
    have m2 := m2 _ _ rfl
    have m3 := m3 _ _ rfl
    have A1 := mx_sm zero_sm m1.1
    have A2 := mx_sm A1 m2.1
    have A3 := mx_sm A2 m3.1
    have B1 := mn_sm inf_sm m1.2
    have B2 := mn_sm B1 m2.2
    have B3 := mn_sm B2 m3.2
    have x2 := mx_left A2.1 m3.1.1
    have x1 := le_trans A1.1 A2.1 A3.1 (mx_left A1.1 m2.1.1) x2
    have x0 := le_trans zero_sm.1 A1.1 A3.1 (mx_left zero_sm.1 m1.1.1) x1
    have y2 : (mnF (mnF (mnF infF q1) q2) q3).le (mnF (mnF infF q1) q2) := mn_left
    have y1 := le_trans B3.1 B2.1 B1.1 y2 mn_left
    exact ⟨A3, B3, x0, not_lt_le.mp c, p1, q1, p2, q2, p3, q3, rfl, rfl, rfl, le_trans m1.1.1 A1.1 A3.1 mx_right x1, le_trans B3.1 B1.1 m1.2.1 y1 mn_right,
      le_trans m2.1.1 A2.1 A3.1 mx_right x2, le_trans B3.1 B2.1 m2.2.1 y2 mn_right, mx_right, mn_right, rfl, rfl⟩

/-- A wider span. -/
theorem span_wider {f s l h l' h' : Int} (a : l' ≤ l) (b : h ≤ h') {p q T : Fr} (hT : T.right) (e : spanO f s l h = some (p, q)) (hp : p.le T) (hq : T.le q) : ∃ p' q', spanO f s l' h' = some (p', q') ∧ p'.le T ∧ T.le q' := by
  have td : 0 ≤ T.d := by unfold Fr.right at hT; omega
  rcases span_cases f s l h with c | ⟨s0, c, i1, i2⟩ | ⟨s0, lh, c⟩ | ⟨s0, lh, c⟩
  · rw [c] at e
    cases e
  all_goals
    rw [c] at e
    simp only [Option.some.injEq, Prod.mk.injEq] at e
    obtain ⟨rfl, rfl⟩ := e
  · refine ⟨_, _, ?_, hp, hq⟩
    unfold spanO spanP
    rw [if_neg (by omega), if_neg (by omega), if_pos s0]
  · refine ⟨⟨l' - f, s⟩, ⟨h' - f, s⟩, ?_, ?_, ?_⟩
    · unfold spanO spanP
      rw [if_neg (by omega), if_neg (by omega), if_neg (by omega)]
    · unfold Fr.le at *
      dsimp only at *
      have := Int.mul_le_mul_of_nonneg_right (show l' - f ≤ l - f by omega) td
      omega
    · unfold Fr.le at *
      dsimp only at *
      have := Int.mul_le_mul_of_nonneg_right (show h - f ≤ h' - f by omega) td
      omega
  · refine ⟨⟨f - h', -s⟩, ⟨f - l', -s⟩, ?_, ?_, ?_⟩
    · unfold spanO spanP
      rw [if_pos (by omega), if_neg (by omega), if_neg (by omega), show -h' - -f = f - h' by omega, show -l' - -f = f - l' by omega]
    · unfold Fr.le at *
      dsimp only at *
      have := Int.mul_le_mul_of_nonneg_right (show f - h' ≤ f - h by omega) td
      omega
    · unfold Fr.le at *
      dsimp only at *
      have := Int.mul_le_mul_of_nonneg_right (show f - l ≤ f - l' by omega) td
      omega

theorem rangeS_ok {o d l h : Vec} (k : okS o d l h) : rangeS o d l h = packE (cut3 (spanO o.x d.x l.x h.x) (spanO o.y d.y l.y h.y) (spanO o.z d.z l.z h.z)) := by unfold rangeS; rw [if_pos k]
theorem rangeS_no {o d l h : Vec} (k : ¬ okS o d l h) : rangeS o d l h = (0, 0, 0, 0, false, 21) := by unfold rangeS; rw [if_neg k]
theorem packE_e (x : Option (Fr × Fr)) : (packE x).2.2.2.2.2 = 0 := by rcases x with _ | ⟨p, q⟩ <;> rfl

/-- The three spans of a box. -/
def cutV (o d l h : Vec) : Option (Fr × Fr) := cut3 (spanO o.x d.x l.x h.x) (spanO o.y d.y l.y h.y) (spanO o.z d.z l.z h.z)
theorem range_cases (o d l h : Vec) : (¬ okS o d l h ∧ rangeS o d l h = (0, 0, 0, 0, false, 21)) ∨ (okS o d l h ∧ cutV o d l h = none ∧ rangeS o d l h = (0, 0, 0, 0, false, 0)) ∨
    (okS o d l h ∧ ∃ lo hi, cutV o d l h = some (lo, hi) ∧ rangeS o d l h = (lo.n, lo.d, hi.n, hi.d, true, 0)) := by
  by_cases k : okS o d l h
  · rw [rangeS_ok k]
    rcases e : cutV o d l h with _ | ⟨p, q⟩
    · refine Or.inr (Or.inl ⟨k, rfl, ?_⟩)
      unfold cutV at e
      rw [e]
      rfl
    · refine Or.inr (Or.inr ⟨k, p, q, rfl, ?_⟩)
      unfold cutV at e
      rw [e]
      rfl
  · exact Or.inl ⟨k, rangeS_no k⟩

theorem cutV_of {o d l h : Vec} (k : okS o d l h) {lo hi : Fr} (e : cutV o d l h = some (lo, hi)) :
    lo.sm ∧ hi.sm ∧ zeroF.le lo ∧ lo.le hi ∧ ∃ p1 q1 p2 q2 p3 q3 : Fr, spanO o.x d.x l.x h.x = some (p1, q1) ∧ spanO o.y d.y l.y h.y = some (p2, q2) ∧ spanO o.z d.z l.z h.z = some (p3, q3) ∧ p1.le lo ∧ hi.le q1 ∧ p2.le lo ∧ hi.le q2 ∧ p3.le lo ∧ hi.le q3 ∧
      lo = mxF (mxF (mxF zeroF p1) p2) p3 ∧ hi = mnF (mnF (mnF infF q1) q2) q3 := by
  obtain ⟨_, ⟨ox, oy, oz⟩, ⟨dx, dy, dz⟩, ⟨lx, ly, lz⟩, hx, hy, hz⟩ := k
  exact cut_of (fun p q e => span_sm ox dx lx hx e) (fun p q e => span_sm oy dy ly hy e) (fun p q e => span_sm oz dz lz hz e) e

theorem cutV_mem {o d l h : Vec} (k : okS o d l h) {p1 q1 p2 q2 p3 q3 T : Fr} (h1 : spanO o.x d.x l.x h.x = some (p1, q1)) (h2 : spanO o.y d.y l.y h.y = some (p2, q2)) (h3 : spanO o.z d.z l.z h.z = some (p3, q3))
    (hT : T.right) (z : zeroF.le T) (a1 : p1.le T) (b1 : T.le q1) (a2 : p2.le T) (b2 : T.le q2) (a3 : p3.le T) (b3 : T.le q3) :
    ∃ lo hi : Fr, cutV o d l h = some (lo, hi) ∧ lo.sm ∧ hi.sm ∧ lo.le T ∧ T.le hi := by
  obtain ⟨_, ⟨ox, oy, oz⟩, ⟨dx, dy, dz⟩, ⟨lx, ly, lz⟩, hx, hy, hz⟩ := k
  exact cut_mem h1 h2 h3 (span_sm ox dx lx hx h1) (span_sm oy dy ly hy h2) (span_sm oz dz lz hz h3) hT z a1 b1 a2 b2 a3 b3

theorem order_sm (k : Nat) {p q : Fr} (hp : p.sm) (hq : q.sm) : G.wide_Order.f (k + 4) p.n p.d q.n q.d = some (sg (p.n * q.d - q.n * p.d), true) := order_eq k p q hp.ok.2 hq.ok.2 hp.1 hq.1
theorem sg_le {p q : Fr} : sg (p.n * q.d - q.n * p.d) ≤ 0 ↔ p.le q := by
  unfold sg Fr.le
  repeat' split
  all_goals omega

theorem aliveSlab_at (k : Nat) : G.relievolaw04_alive.f (k + 8) = some true := by
  unfold G.relievolaw04_alive.f
  rw [range_eq k ⟨0, 0, 0⟩ ⟨2, 0, 0⟩ ⟨3, 0, 0⟩ ⟨5, 1, 1⟩]
  rfl
end Go.Proofs.Ytihklolcnfbbjaa.M

namespace Go.Proofs.Ytihklolcnfbbjaa.Pure
open Go.RowKit Go.Proofs.VecMath Go.Proofs.Ytihklolcnfbbjaa.M Go.Proofs.YtihklolcnfbbjaaW.PrintWords
set_option linter.unusedVariables false

theorem refWithinS_eq (x y z m : Int) (h0 : 0 ≤ m) (h1 : m ≤ 4611686018427387904) : G.relievoref00_Within.f x y z m = some (decide ((⟨x, y, z⟩ : Vec).in_ m)) := by
  unfold G.relievoref00_Within.f
  rw [w64 (by omega)]
  unfold Vec.in_
  dsimp only
  by_cases h : (-m ≤ x ∧ x ≤ m) ∧ (-m ≤ y ∧ y ≤ m) ∧ (-m ≤ z ∧ z ≤ m)
  · rw [decide_eq_true h]
    obtain ⟨⟨a, b⟩, ⟨c, d⟩, e, f⟩ := h
    repeat' split
    all_goals first | omega | (simp only [Option.some.injEq, decide_eq_true_eq]; omega)
  · rw [decide_eq_false h]
    repeat' split
    all_goals first | rfl | (simp only [Option.some.injEq, decide_eq_false_iff_not]; omega)
theorem refLineS_eq (o d : Vec) : G.relievoref03_Line.f o.x o.y o.z d.x d.y d.z = some (decide (o.in_ 65536 ∧ d.in_ 32768 ∧ ¬ d.zero)) := by
  unfold G.relievoref03_Line.f
  rw [refWithinS_eq _ _ _ _ (by decide) (by decide), refWithinS_eq _ _ _ _ (by decide) (by decide)]
  simp only [Option.bind_some]
  by_cases h1 : o.in_ 65536
  · rw [decide_eq_true h1]
    by_cases h2 : d.in_ 32768
    · rw [decide_eq_true h2]
      simp only [if_true, Option.some.injEq]
      by_cases h3 : d.zero
      · obtain ⟨a, b, c⟩ := h3
        rw [decide_eq_false (show ¬ (o.in_ 65536 ∧ d.in_ 32768 ∧ ¬ d.zero) from fun q => q.2.2 ⟨a, b, c⟩), a, b, c]
        rfl
      · rw [decide_eq_true (show o.in_ 65536 ∧ d.in_ 32768 ∧ ¬ d.zero from ⟨h1, h2, h3⟩)]
        unfold Vec.zero at h3
        by_cases a : d.x = 0 <;> by_cases b : d.y = 0 <;> by_cases c : d.z = 0 <;> simp_all
    · rw [decide_eq_false (show ¬ (⟨d.x, d.y, d.z⟩ : Vec).in_ 32768 from h2), decide_eq_false (show ¬ (o.in_ 65536 ∧ d.in_ 32768 ∧ ¬ d.zero) from fun q => h2 q.2.1)]
      simp
  · rw [decide_eq_false (show ¬ (⟨o.x, o.y, o.z⟩ : Vec).in_ 65536 from h1), decide_eq_false (show ¬ (o.in_ 65536 ∧ d.in_ 32768 ∧ ¬ d.zero) from fun q => h1 q.1)]
    simp
theorem refRight_eq (p : Fr) : G.relievoref01_right.f p.n p.d = some (decide p.right) := by
  unfold G.relievoref01_right.f
  by_cases h : p.d > 0
  · rw [if_pos h, decide_eq_true (show p.right from .inl h)]
  · rw [if_neg h]
    by_cases h0 : p.d = 0
    · rw [if_pos h0]
      by_cases h1 : p.n = 1
      · rw [decide_eq_true (show p.right from .inr ⟨h1, h0⟩), h1]
        rfl
      · rw [decide_eq_false (show ¬ p.right from fun q => by unfold Fr.right at q; omega), beq_eq_false_iff_ne.2 h1]
    · rw [if_neg h0, decide_eq_false (show ¬ p.right from fun q => by unfold Fr.right at q; omega)]
theorem refLess_eq (p q : Fr) (hp : p.ok) (hq : q.ok) : G.relievoref04_less.f p.n p.d q.n q.d = some (decide (p.lt q)) := by
  obtain ⟨rp, bp, bp'⟩ := hp
  obtain ⟨rq, bq, bq'⟩ := hq
  unfold G.relievoref04_less.f G.relievoref01_Order.f
  rw [if_pos ⟨⟨bp, bp'⟩, bq, bq'⟩, refRight_eq, refRight_eq, decide_eq_true rp, decide_eq_true rq]
  have e : (Go.Proofs.NumMath.sgn (p.n * q.d - q.n * p.d) < 0) ↔ p.lt q := by
    unfold Fr.lt Go.Proofs.NumMath.sgn
    repeat' split
    all_goals omega
  simp only [Option.bind_some, and_self, if_true, e]
theorem rfold2 {α : Type} (p q u v : Fr) (hp : p.sm) (hq : q.sm) (hu : u.sm) (hv : v.sm) (F : Int → Int → Int → Int → Option α) :
    ((G.relievoref04_less.f p.n p.d u.n u.d).bind fun t => (G.relievoref04_less.f v.n v.d q.n q.d).bind fun t' => F (if t = true then u.n else p.n) (if t = true then u.d else p.d) (if t' = true then v.n else q.n) (if t' = true then v.d else q.d)) =
      F (mxF p u).n (mxF p u).d (mnF q v).n (mnF q v).d := by
  rw [refLess_eq _ _ hp.ok hu.ok, refLess_eq _ _ hv.ok hq.ok]
  simp only [Option.bind_some, decide_eq_true_eq]
  unfold mxF mnF
  by_cases h1 : p.lt u
  · rw [if_pos h1, if_pos h1, if_pos h1]
    by_cases h2 : v.lt q
    · rw [if_pos h2, if_pos h2, if_pos h2]
    · rw [if_neg h2, if_neg h2, if_neg h2]
  · rw [if_neg h1, if_neg h1, if_neg h1]
    by_cases h2 : v.lt q
    · rw [if_pos h2, if_pos h2, if_pos h2]
    · rw [if_neg h2, if_neg h2, if_neg h2]
theorem mx_pos {p u : Fr} (hp : p.sm) (hu : u.sm) (h : 0 ≤ p.n) : 0 ≤ (mxF p u).n := by
  unfold mxF
  split
  · rename_i c
    unfold Fr.lt at c
    obtain ⟨_, _, _, pd, _⟩ := hp
    obtain ⟨_, _, _, ud, _⟩ := hu
    have a := Int.mul_nonneg h ud
    by_cases n : 0 ≤ u.n
    · exact n
    · have b := Int.mul_nonneg (show 0 ≤ -u.n by omega) pd
      rw [Int.neg_mul] at b
      omega
  · exact h
theorem mx_zeroF {p : Fr} (h : 0 ≤ p.n) : mxF p zeroF = p := by
  unfold mxF
  rw [if_neg (by unfold Fr.lt zeroF; dsimp only; omega)]
theorem mn_infF {q : Fr} (h : q.sm) : mnF q infF = q := by
  obtain ⟨_, _, _, qd, _⟩ := h
  unfold mnF
  rw [if_neg (by unfold Fr.lt infF; dsimp only; omega)]
/-- One part of a ray. -/
theorem ax_eq {α : Type} (o s l h : Int) (ho : -65536 ≤ o ∧ o ≤ 65536) (hs : -32768 ≤ s ∧ s ≤ 32768) (hl : -131072 ≤ l ∧ l ≤ 131072) (hh : -131072 ≤ h ∧ h ≤ 131072) (p q : Fr) (hp : p.sm) (hq : q.sm) (p0 : 0 ≤ p.n)
    (N K : Option α) (J : Int → Int → Int → Int → Option α) (R : Fr → Fr → Option α) (hK : K = R p q) (hJ : ∀ u v : Fr, u.sm → v.sm → J u.n u.d v.n v.d = R (mxF p u) (mnF q v)) :
    (if l > h then N else if s = 0 then (if o < l then N else if o > h then N else K) else if s < 0 then J (wrap64 (o - h)) (wrap64 (-s)) (wrap64 (o - l)) (wrap64 (-s)) else J (wrap64 (l - o)) s (wrap64 (h - o)) s) =
      match spanO o s l h with
      | none => N
      | some (u, v) => R (mxF p u) (mnF q v) := by
  rw [w64 (n := o - h) (by omega), w64 (n := -s) (by omega), w64 (n := o - l) (by omega), w64 (n := l - o) (by omega), w64 (n := h - o) (by omega)]
  by_cases c1 : l > h
  · rw [if_pos c1, show spanO o s l h = none by
      rcases span_cases o s l h with c | ⟨_, _, _, _⟩ | ⟨_, _, _⟩ | ⟨_, _, _⟩
      · exact c
      all_goals omega]
  rw [if_neg c1]
  by_cases c2 : s = 0
  · rw [if_pos c2]
    by_cases c3 : o < l
    · rw [if_pos c3, show spanO o s l h = none by
        rcases span_cases o s l h with c | ⟨_, _, _, _⟩ | ⟨_, _, _⟩ | ⟨_, _, _⟩
        · exact c
        all_goals omega]
    rw [if_neg c3]
    by_cases c4 : o > h
    · rw [if_pos c4, show spanO o s l h = none by
        rcases span_cases o s l h with c | ⟨_, _, _, _⟩ | ⟨_, _, _⟩ | ⟨_, _, _⟩
        · exact c
        all_goals omega]
    have e : spanO o s l h = some (zeroF, infF) := by
      unfold spanO spanP
      rw [if_neg (by omega), if_neg (by omega), if_pos c2]
    rw [if_neg c4, e, hK]
    dsimp only
    rw [mx_zeroF p0, mn_infF hq]
  rw [if_neg c2]
  by_cases c3 : s < 0
  · have e : spanO o s l h = some (⟨o - h, -s⟩, ⟨o - l, -s⟩) := by
      unfold spanO spanP
      rw [if_pos c3, if_neg (by omega), if_neg (by omega), show -h - -o = o - h by omega, show -l - -o = o - l by omega]
    obtain ⟨su, sv⟩ := span_sm ho hs hl hh e
    rw [if_pos c3, e]
    exact hJ ⟨o - h, -s⟩ ⟨o - l, -s⟩ su sv
  · have e : spanO o s l h = some (⟨l - o, s⟩, ⟨h - o, s⟩) := by
      unfold spanO spanP
      rw [if_neg c3, if_neg (by omega), if_neg c2]
    obtain ⟨su, sv⟩ := span_sm ho hs hl hh e
    rw [if_neg c3, e]
    exact hJ ⟨l - o, s⟩ ⟨h - o, s⟩ su sv
theorem rng_end (F S Lo Hi : List Int) (i : Nat) (p q : Fr) (hp : p.sm) (hq : q.sm) : G.rngL F S Lo Hi 0 i p.n p.d q.n q.d = some (packE (if q.lt p then none else some (p, q))) := by
  rw [G.rngL, refLess_eq _ _ hq.ok hp.ok, Option.bind_some]
  by_cases h : q.lt p
  · rw [if_pos (decide_eq_true h), if_pos h]
    rfl
  · rw [if_neg (by rw [decide_eq_false h]; decide), if_neg h]
    rfl
theorem rng_step (F S Lo Hi : List Int) (r i : Nat) (o s l h : Int) (eF : F.getD i 0 = o) (eS : S.getD i 0 = s) (eL : Lo.getD i 0 = l) (eH : Hi.getD i 0 = h) (ho : -65536 ≤ o ∧ o ≤ 65536) (hs : -32768 ≤ s ∧ s ≤ 32768) (hl : -131072 ≤ l ∧ l ≤ 131072) (hh : -131072 ≤ h ∧ h ≤ 131072)
    (p q : Fr) (hp : p.sm) (hq : q.sm) (p0 : 0 ≤ p.n) : G.rngL F S Lo Hi (r + 1) i p.n p.d q.n q.d = match spanO o s l h with
      | none => some (packE none)
      | some (u, v) => G.rngL F S Lo Hi r (i + 1) (mxF p u).n (mxF p u).d (mnF q v).n (mnF q v).d := by
  rw [G.rngL, eF, eS, eL, eH]
  exact ax_eq o s l h ho hs hl hh p q hp hq p0 (some (0, 0, 0, 0, false, 0)) _
    (fun a b c d => (G.relievoref04_less.f p.n p.d a b).bind fun t => (G.relievoref04_less.f c d q.n q.d).bind fun t' => G.rngL F S Lo Hi r (i + 1) (if t = true then a else p.n) (if t = true then b else p.d) (if t' = true then c else q.n) (if t' = true then d else q.d))
    (fun p' q' => G.rngL F S Lo Hi r (i + 1) p'.n p'.d q'.n q'.d) rfl (fun u v hu hv => rfold2 p q u v hp hq hu hv (fun a b c d => G.rngL F S Lo Hi r (i + 1) a b c d))
theorem j0_eqR (k : Nat) (o d l h : Vec) (b : bx o d l h) :
    G.relievoref04_Range.j0 (k + 1) false o.x o.y o.z d.x d.y d.z l.x l.y l.z h.x h.y h.z = some (packE (cut3 (spanO o.x d.x l.x h.x) (spanO o.y d.y l.y h.y) (spanO o.z d.z l.z h.z))) := by
  obtain ⟨⟨ox, oy, oz⟩, ⟨dx, dy, dz⟩, ⟨lx, ly, lz⟩, hx, hy, hz⟩ := b
  rw [G.relievoref04_Range.j0, if_neg (by decide)]
  show G.rngL [o.x, o.y, o.z] [d.x, d.y, d.z] [l.x, l.y, l.z] [h.x, h.y, h.z] 3 0 zeroF.n zeroF.d infF.n infF.d = _
  rw [rng_step _ _ _ _ 2 0 o.x d.x l.x h.x rfl rfl rfl rfl ox dx lx hx zeroF infF zero_sm inf_sm (by decide)]
  unfold cut3
  rcases e1 : spanO o.x d.x l.x h.x with _ | ⟨u, v⟩
  · rfl
  obtain ⟨su, sv⟩ := span_sm ox dx lx hx e1
  dsimp only
  rw [rng_step _ _ _ _ 1 1 o.y d.y l.y h.y rfl rfl rfl rfl oy dy ly hy _ _ (mx_sm zero_sm su) (mn_sm inf_sm sv) (mx_pos zero_sm su (by decide))]
  rcases e2 : spanO o.y d.y l.y h.y with _ | ⟨u', v'⟩
  · rfl
  obtain ⟨su', sv'⟩ := span_sm oy dy ly hy e2
  dsimp only
  rw [rng_step _ _ _ _ 0 2 o.z d.z l.z h.z rfl rfl rfl rfl oz dz lz hz _ _ (mx_sm (mx_sm zero_sm su) su') (mn_sm (mn_sm inf_sm sv) sv') (mx_pos (mx_sm zero_sm su) su' (mx_pos zero_sm su (by decide)))]
  rcases e3 : spanO o.z d.z l.z h.z with _ | ⟨u'', v''⟩
  · rfl
  obtain ⟨su'', sv''⟩ := span_sm oz dz lz hz e3
  dsimp only
  rw [rng_end _ _ _ _ _ _ _ (mx_sm (mx_sm (mx_sm zero_sm su) su') su'') (mn_sm (mn_sm (mn_sm inf_sm sv) sv') sv'')]
theorem refRange_eq (k : Nat) (o d l h : Vec) : G.relievoref04_Range.f (k + 1) o.x o.y o.z d.x d.y d.z l.x l.y l.z h.x h.y h.z = some (rangeS o d l h) := by
  unfold G.relievoref04_Range.f rangeS
  have jt : G.relievoref04_Range.j0 (k + 1) true o.x o.y o.z d.x d.y d.z l.x l.y l.z h.x h.y h.z = some (0, 0, 0, 0, false, 21) := by
    rw [G.relievoref04_Range.j0, if_pos rfl]
  rw [refLineS_eq, Option.bind_some]
  by_cases h1 : o.in_ 65536 ∧ d.in_ 32768 ∧ ¬ d.zero
  case neg => rw [decide_eq_false h1, if_neg (by decide), jt, if_neg (fun q => h1 ⟨q.2.1, q.2.2.1, q.1⟩)]
  rw [decide_eq_true h1, if_pos rfl, refWithinS_eq _ _ _ _ (by decide) (by decide), Option.bind_some]
  by_cases h3 : l.in_ 131072
  case neg => rw [decide_eq_false (show ¬ (⟨l.x, l.y, l.z⟩ : Vec).in_ 131072 from h3), if_neg (by decide), jt, if_neg (fun q => h3 q.2.2.2.1)]
  rw [decide_eq_true (show (⟨l.x, l.y, l.z⟩ : Vec).in_ 131072 from h3), if_pos rfl, refWithinS_eq _ _ _ _ (by decide) (by decide), Option.bind_some]
  by_cases h4 : h.in_ 131072
  case neg =>
    rw [decide_eq_false (show ¬ (⟨h.x, h.y, h.z⟩ : Vec).in_ 131072 from h4), if_neg (fun q => h4 q.2.2.2.2)]
    exact jt
  rw [decide_eq_true (show (⟨h.x, h.y, h.z⟩ : Vec).in_ 131072 from h4)]
  have b : bx o d l h := ⟨h1.1, h1.2.1, h3, h4⟩
  rw [if_pos ⟨h1.2.2, b⟩]
  exact j0_eqR k o d l h b

theorem ranges (k : Nat) (o d l h : Vec) : G.relievolaw04_SlabRanges.f (k + 8) o.x o.y o.z d.x d.y d.z l.x l.y l.z h.x h.y h.z = some true := by
  unfold G.relievolaw04_SlabRanges.f
  rw [aliveSlab_at k, Option.bind_some, if_pos rfl, range_eq k, Option.bind_some, refRange_eq (k + 7), Option.bind_some]
  simp only [beq_self_eq_true, Bool.and_self, if_true]

theorem SlabRanges (a0_0 a0_1 a0_2 a1_0 a1_1 a1_2 a2_0 a2_1 a2_2 a2_3 a2_4 a2_5 : Int) (_b0_0 : -9223372036854775808 ≤ a0_0 ∧ a0_0 ≤ 9223372036854775807) (_b0_1 : -9223372036854775808 ≤ a0_1 ∧ a0_1 ≤ 9223372036854775807) (_b0_2 : -9223372036854775808 ≤ a0_2 ∧ a0_2 ≤ 9223372036854775807) (_b1_0 : -9223372036854775808 ≤ a1_0 ∧ a1_0 ≤ 9223372036854775807) (_b1_1 : -9223372036854775808 ≤ a1_1 ∧ a1_1 ≤ 9223372036854775807) (_b1_2 : -9223372036854775808 ≤ a1_2 ∧ a1_2 ≤ 9223372036854775807) (_b2_0 : -9223372036854775808 ≤ a2_0 ∧ a2_0 ≤ 9223372036854775807) (_b2_1 : -9223372036854775808 ≤ a2_1 ∧ a2_1 ≤ 9223372036854775807) (_b2_2 : -9223372036854775808 ≤ a2_2 ∧ a2_2 ≤ 9223372036854775807) (_b2_3 : -9223372036854775808 ≤ a2_3 ∧ a2_3 ≤ 9223372036854775807) (_b2_4 : -9223372036854775808 ≤ a2_4 ∧ a2_4 ≤ 9223372036854775807) (_b2_5 : -9223372036854775808 ≤ a2_5 ∧ a2_5 ≤ 9223372036854775807) :
    ∃ k, G.relievolaw04_SlabRanges.f k a0_0 a0_1 a0_2 a1_0 a1_1 a1_2 a2_0 a2_1 a2_2 a2_3 a2_4 a2_5 = some true := by
  exact ⟨8, ranges 0 ⟨a0_0, a0_1, a0_2⟩ ⟨a1_0, a1_1, a1_2⟩ ⟨a2_0, a2_1, a2_2⟩ ⟨a2_3, a2_4, a2_5⟩⟩
end Go.Proofs.Ytihklolcnfbbjaa.Pure
