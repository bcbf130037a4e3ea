/- What Side, Meet, Normal and At of the program answer is what the document answers: for all ints (plain laws, put together). -/
import Derived.Test.YtfmbophennepdaaGx8
import Derived.Test.YtfmbophennepdaaGx16
import Derived.Lib.BitFns
import Derived.Laws.MathBits
import Derived.Test.YtfmbophennepdaaGxWords
import Derived.Test.YtfmbophennepdaaGx38
import Derived.Test.YtfmbophennepdaaGx35
import Derived.Laws.Bits64b
import Derived.Test.YtfmbophennepdaaGx36
import Derived.Test.YtfmbophennepdaaGx39
import Derived.Test.YtfmbophennepdaaNumMore
import Derived.Test.YtfmbophennepdaaGx27
import Derived.Test.YtfmbophennepdaaGx25
import Derived.Test.YtfmbophennepdaaGx56
import Derived.Test.YtfmbophennepdaaGx17
import Derived.Test.YtfmbophennepdaaGx41
import Derived.Test.YtfmbophennepdaaGx57
namespace Go.Proofs.VecMath

structure Vec where
  x : Int
  y : Int
  z : Int

def Vec.in_ (m : Int) (a : Vec) : Prop := (-m ≤ a.x ∧ a.x ≤ m) ∧ (-m ≤ a.y ∧ a.y ≤ m) ∧ (-m ≤ a.z ∧ a.z ≤ m)
instance (m : Int) (a : Vec) : Decidable (a.in_ m) := by unfold Vec.in_; infer_instance
def Vec.zero (a : Vec) : Prop := a.x = 0 ∧ a.y = 0 ∧ a.z = 0
instance (a : Vec) : Decidable a.zero := by unfold Vec.zero; infer_instance

def V0 (o d a b : Vec) : Int :=
  d.x * ((a.y - o.y) * (b.z - o.z) - (a.z - o.z) * (b.y - o.y)) + d.y * ((a.z - o.z) * (b.x - o.x) - (a.x - o.x) * (b.z - o.z)) + d.z * ((a.x - o.x) * (b.y - o.y) - (a.y - o.y) * (b.x - o.x))
def Cx (d a b : Vec) : Int := (a.y - b.y) * d.z - (a.z - b.z) * d.y
def Cy (d a b : Vec) : Int := (a.z - b.z) * d.x - (a.x - b.x) * d.z
def Cz (d a b : Vec) : Int := (a.x - b.x) * d.y - (a.y - b.y) * d.x
def sg (n : Int) : Int := if n < 0 then -1 else if n > 0 then 1 else 0
def lex4 (v x y z : Int) : Int := if sg v = 0 then (if sg x = 0 then (if sg y = 0 then sg z else sg y) else sg x) else sg v
def pS (o d a b : Vec) : Int := lex4 (V0 o d a b) (Cx d a b) (Cy d a b) (Cz d a b)
/-- One number whose sign is the side. -/
def WW (o d a b : Vec) : Int := 1329227995784915872903807060280344576 * V0 o d a b + 1208925819614629174706176 * Cx d a b + 1099511627776 * Cy d a b + Cz d a b
def NX (a b c : Vec) : Int := (b.y - a.y) * (c.z - a.z) - (b.z - a.z) * (c.y - a.y)
def NY (a b c : Vec) : Int := (b.z - a.z) * (c.x - a.x) - (b.x - a.x) * (c.z - a.z)
def NZ (a b c : Vec) : Int := (b.x - a.x) * (c.y - a.y) - (b.y - a.y) * (c.x - a.x)
def num (o a b c : Vec) : Int := NX a b c * (a.x - o.x) + NY a b c * (a.y - o.y) + NZ a b c * (a.z - o.z)
def den (d a b c : Vec) : Int := NX a b c * d.x + NY a b c * d.y + NZ a b c * d.z

theorem mulb {x y A B : Int} (hx : -A ≤ x ∧ x ≤ A) (hy : -B ≤ y ∧ y ≤ B) : -(A * B) ≤ x * y ∧ x * y ≤ A * B := by
  obtain ⟨a, b⟩ := hx
  obtain ⟨c, d⟩ := hy
  have h1 := Int.mul_nonneg (show 0 ≤ A - x by omega) (show 0 ≤ B - y by omega)
  have h2 := Int.mul_nonneg (show 0 ≤ A + x by omega) (show 0 ≤ B + y by omega)
  have h3 := Int.mul_nonneg (show 0 ≤ A - x by omega) (show 0 ≤ B + y by omega)
  have h4 := Int.mul_nonneg (show 0 ≤ A + x by omega) (show 0 ≤ B - y by omega)
  constructor <;> grind

theorem sg_pos {n : Int} : sg n = 1 ↔ 0 < n := by unfold sg; split <;> (try split) <;> constructor <;> intro h <;> omega
theorem sg_neg {n : Int} : sg n = -1 ↔ n < 0 := by unfold sg; split <;> (try split) <;> constructor <;> intro h <;> omega
theorem sg_zero {n : Int} : sg n = 0 ↔ n = 0 := by unfold sg; split <;> (try split) <;> constructor <;> intro h <;> omega
theorem sg_or (n : Int) : sg n = -1 ∨ sg n = 0 ∨ sg n = 1 := by unfold sg; split <;> (try split) <;> simp

/-- The lexical sign is the sign of one number. -/
theorem lex_sg {v x y z : Int} (hx : -17179869184 ≤ x ∧ x ≤ 17179869184) (hy : -17179869184 ≤ y ∧ y ≤ 17179869184) (hz : -17179869184 ≤ z ∧ z ≤ 17179869184) :
    lex4 v x y z = sg (1329227995784915872903807060280344576 * v + 1208925819614629174706176 * x + 1099511627776 * y + z) := by
  unfold lex4 sg
  split <;> split <;> (try split) <;> (try split) <;> (try split) <;> (try split) <;> (try split) <;> (try split) <;> omega

theorem sub_in {a b : Vec} {m n : Int} (ha : a.in_ m) (hb : b.in_ n) : (-(m + n) ≤ a.x - b.x ∧ a.x - b.x ≤ m + n) ∧ (-(m + n) ≤ a.y - b.y ∧ a.y - b.y ≤ m + n) ∧ (-(m + n) ≤ a.z - b.z ∧ a.z - b.z ≤ m + n) := by
  unfold Vec.in_ at *
  omega

theorem C_in {d a b : Vec} (hd : d.in_ 32768) (ha : a.in_ 65536) (hb : b.in_ 65536) :
    (-8589934592 ≤ Cx d a b ∧ Cx d a b ≤ 8589934592) ∧ (-8589934592 ≤ Cy d a b ∧ Cy d a b ≤ 8589934592) ∧ (-8589934592 ≤ Cz d a b ∧ Cz d a b ≤ 8589934592) := by
  obtain ⟨sx, sy, sz⟩ := sub_in ha hb
  obtain ⟨dx, dy, dz⟩ := hd
  have h1 := mulb sy dz
  have h2 := mulb sz dy
  have h3 := mulb sz dx
  have h4 := mulb sx dz
  have h5 := mulb sx dy
  have h6 := mulb sy dx
  unfold Cx Cy Cz
  omega

theorem pS_sg {o d a b : Vec} (hd : d.in_ 32768) (ha : a.in_ 65536) (hb : b.in_ 65536) : pS o d a b = sg (WW o d a b) := by
  obtain ⟨h1, h2, h3⟩ := C_in hd ha hb
  unfold pS WW
  exact lex_sg (by omega) (by omega) (by omega)

theorem WW_anti (o d a b : Vec) : WW o d b a = -WW o d a b := by
  unfold WW V0 Cx Cy Cz
  grind
theorem WW_sum (o d a b c : Vec) : WW o d a b + WW o d b c + WW o d c a = 1329227995784915872903807060280344576 * den d a b c := by
  unfold WW V0 Cx Cy Cz den NX NY NZ
  grind
end Go.Proofs.VecMath

namespace Go.Proofs.Ytfmbophennepdaa.M
open Go.RowKit Go.Proofs.VecMath Go.Proofs.YtfmbophennepdaaW.PrintWords
set_option linter.unusedVariables false

theorem w64 {n : Int} (h : -9223372036854775808 ≤ n ∧ n ≤ 9223372036854775807) : wrap64 n = n := by
  unfold wrap64
  omega

theorem within_eq (x y z m : Int) (h0 : 0 ≤ m) (h1 : m ≤ 4611686018427387904) : G.vec_Within.f x y z m = some (decide ((⟨x, y, z⟩ : Vec).in_ m)) := by
  unfold G.vec_Within.f
  rw [w64 (by omega)]
  unfold mn mx Vec.in_
  dsimp only
  by_cases h : (-m ≤ x ∧ x ≤ m) ∧ (-m ≤ y ∧ y ≤ m) ∧ (-m ≤ z ∧ z ≤ m)
  · rw [decide_eq_true h]
    obtain ⟨⟨a, b⟩, ⟨c, d⟩, e, f⟩ := h
    repeat' split
    all_goals first | omega | (simp only [Option.some.injEq, decide_eq_true_eq]; omega)
  · rw [decide_eq_false h]
    repeat' split
    all_goals first | rfl | (simp only [Option.some.injEq, decide_eq_false_iff_not]; omega)
end Go.Proofs.Ytfmbophennepdaa.M

namespace Go.Proofs.Ytfmbophennepdaa.M
open Go.RowKit Go.Proofs.VecMath Go.Proofs.YtfmbophennepdaaW.PrintWords
set_option linter.unusedVariables false

def lineB (o d : Vec) : Bool := decide (o.in_ 65536) && (decide (d.in_ 32768) && !decide d.zero)

theorem line_eq (o d : Vec) : G.side_line.f o.x o.y o.z d.x d.y d.z = some (lineB o d) := by
  unfold G.side_line.f lineB
  rw [within_eq _ _ _ _ (by decide) (by decide), within_eq _ _ _ _ (by decide) (by decide)]
  simp only [Option.bind_some]
  by_cases h1 : o.in_ 65536
  · rw [decide_eq_true h1]
    by_cases h2 : d.in_ 32768
    · rw [decide_eq_true h2]
      simp only [if_true, Bool.true_and, Option.some.injEq]
      by_cases h3 : d.zero
      · have := h3
        obtain ⟨a, b, c⟩ := this
        simp [a, b, c, decide_eq_true h3]
      · rw [decide_eq_false h3]
        unfold Vec.zero at h3
        simp only [Bool.not_false]
        by_cases a : d.x = 0 <;> by_cases b : d.y = 0 <;> by_cases c : d.z = 0 <;> simp_all
    · rw [decide_eq_false h2]
      simp
  · rw [decide_eq_false h1]
    simp

theorem compare_eq (a b : Int) : G.cmp_Compare_int.f a b = some (sg (a - b)) := by
  unfold G.cmp_Compare_int.f G.cmp_isNaN_int.f sg
  simp only [Option.bind_some, bne_self_eq_false, Bool.false_eq_true, if_false]
  repeat' split
  all_goals first | rfl | omega

theorem or_eq (k : Nat) (a b c d : Int) : G.cmp_Or_int.f (k + 5) [a, b, c, d] = some (if a = 0 then (if b = 0 then (if c = 0 then d else c) else b) else a) := by
  unfold G.cmp_Or_int.f
  have e1 : wrap64 (0 + 1) = 1 := by unfold wrap64; decide
  have e2 : wrap64 (1 + 1) = 2 := by unfold wrap64; decide
  have e3 : wrap64 (2 + 1) = 3 := by unfold wrap64; decide
  have e4 : wrap64 (3 + 1) = 4 := by unfold wrap64; decide
  have r0 : rd [a, b, c, d] 0 = a := rfl
  have r1 : rd [a, b, c, d] 1 = b := rfl
  have r2 : rd [a, b, c, d] 2 = c := rfl
  have r3 : rd [a, b, c, d] 3 = d := rfl
  have hl : (([a, b, c, d] : List Int).length : Int) = 4 := rfl
  rw [hl, G.cmp_Or_int.l0, if_pos (by decide), if_pos (by decide), if_pos (by simp), r0]
  by_cases ha : a = 0
  · rw [if_pos ha, if_pos ha, e1, G.cmp_Or_int.l0, if_pos (by decide), if_pos (by decide), if_pos (by simp), r1]
    by_cases hb : b = 0
    · rw [if_pos hb, if_pos hb, e2, G.cmp_Or_int.l0, if_pos (by decide), if_pos (by decide), if_pos (by simp), r2]
      by_cases hc : c = 0
      · rw [if_pos hc, if_pos hc, e3, G.cmp_Or_int.l0, if_pos (by decide), if_pos (by decide), if_pos (by simp), r3]
        by_cases hd : d = 0
        · rw [if_pos hd, e4, G.cmp_Or_int.l0, if_neg (by decide), hd]
        · rw [if_neg hd]
      · rw [if_neg hc, if_neg hc]
    · rw [if_neg hb, if_neg hb]
  · rw [if_neg ha, if_neg ha]

theorem sub_eq {x y z x1 y1 z1 m n : Int} (ha : (⟨x, y, z⟩ : Vec).in_ m) (hb : (⟨x1, y1, z1⟩ : Vec).in_ n) (h : m + n ≤ 9223372036854775807) : G.vec_Sub.f x y z x1 y1 z1 = some (x - x1, y - y1, z - z1) := by
  obtain ⟨h1, h2, h3⟩ := sub_in ha hb
  dsimp only at h1 h2 h3
  unfold G.vec_Sub.f
  rw [w64 (by omega), w64 (by omega), w64 (by omega)]

theorem cross_eq {x y z x1 y1 z1 m n : Int} (ha : (⟨x, y, z⟩ : Vec).in_ m) (hb : (⟨x1, y1, z1⟩ : Vec).in_ n) (h : m * n ≤ 4611686018427387903) :
    G.vec_Cross.f x y z x1 y1 z1 = some (y * z1 - z * y1, z * x1 - x * z1, x * y1 - y * x1) := by
  obtain ⟨a1, a2, a3⟩ := ha
  obtain ⟨b1, b2, b3⟩ := hb
  dsimp only at *
  have h1 := mulb a2 b3
  have h2 := mulb a3 b2
  have h3 := mulb a3 b1
  have h4 := mulb a1 b3
  have h5 := mulb a1 b2
  have h6 := mulb a2 b1
  unfold G.vec_Cross.f
  rw [w64 (n := y * z1) (by omega), w64 (n := z * y1) (by omega), w64 (n := z * x1) (by omega), w64 (n := x * z1) (by omega), w64 (n := x * y1) (by omega), w64 (n := y * x1) (by omega)]
  rw [w64 (by omega), w64 (by omega), w64 (by omega)]

theorem dot_eq {x y z x1 y1 z1 m n : Int} (ha : (⟨x, y, z⟩ : Vec).in_ m) (hb : (⟨x1, y1, z1⟩ : Vec).in_ n) (h : m * n ≤ 3074457345618258602) :
    G.vec_Dot.f x y z x1 y1 z1 = some (x * x1 + y * y1 + z * z1) := by
  obtain ⟨a1, a2, a3⟩ := ha
  obtain ⟨b1, b2, b3⟩ := hb
  dsimp only at *
  have h1 := mulb a1 b1
  have h2 := mulb a2 b2
  have h3 := mulb a3 b3
  unfold G.vec_Dot.f
  rw [w64 (n := x * x1) (by omega), w64 (n := y * y1) (by omega), w64 (n := z * z1) (by omega)]
  rw [w64 (n := x * x1 + y * y1) (by omega), w64 (by omega)]

theorem in_sub {x y z x1 y1 z1 m n : Int} (ha : (⟨x, y, z⟩ : Vec).in_ m) (hb : (⟨x1, y1, z1⟩ : Vec).in_ n) : (⟨x - x1, y - y1, z - z1⟩ : Vec).in_ (m + n) := sub_in ha hb
theorem in_cross {x y z x1 y1 z1 m n : Int} (ha : (⟨x, y, z⟩ : Vec).in_ m) (hb : (⟨x1, y1, z1⟩ : Vec).in_ n) : (⟨y * z1 - z * y1, z * x1 - x * z1, x * y1 - y * x1⟩ : Vec).in_ (2 * (m * n)) := by
  obtain ⟨a1, a2, a3⟩ := ha
  obtain ⟨b1, b2, b3⟩ := hb
  dsimp only at *
  have h1 := mulb a2 b3
  have h2 := mulb a3 b2
  have h3 := mulb a3 b1
  have h4 := mulb a1 b3
  have h5 := mulb a1 b2
  have h6 := mulb a2 b1
  unfold Vec.in_
  dsimp only
  omega

theorem pass_eq (k : Nat) (o d a b : Vec) (ho : o.in_ 65536) (hd : d.in_ 32768) (ha : a.in_ 65536) (hb : b.in_ 65536) :
    G.side_pass.f (k + 5) o.x o.y o.z d.x d.y d.z a.x a.y a.z b.x b.y b.z = some (pS o d a b) := by
  have ea := in_sub ha ho
  have eb := in_sub hb ho
  have eab := in_sub ha hb
  have ec := in_cross ea eb
  unfold G.side_pass.f
  rw [sub_eq ha ho (by decide), Option.bind_some, sub_eq hb ho (by decide), Option.bind_some]
  dsimp only
  rw [cross_eq ea eb (by decide), Option.bind_some]
  dsimp only
  rw [dot_eq hd ec (by decide), Option.bind_some, compare_eq, Option.bind_some, sub_eq ha hb (by decide), Option.bind_some]
  dsimp only
  rw [cross_eq eab hd (by decide), Option.bind_some]
  dsimp only
  rw [compare_eq, Option.bind_some, compare_eq, Option.bind_some, compare_eq, Option.bind_some, or_eq, Option.bind_some]
  simp only [Int.sub_zero]
  rfl

/-- What Meet comes to. -/
def okB (o d a b c : Vec) : Bool := lineB o d && (decide (a.in_ 65536) && (decide (b.in_ 65536) && decide (c.in_ 65536)))
def meetS (o d a b c : Vec) : Int × Int × Bool × Int × Int × Bool × Int :=
  if okB o d a b c = true then
    (if pS o d a b ≠ 0 ∧ pS o d b c = pS o d a b ∧ pS o d c a = pS o d a b then
      (if den d a b c = 0 then (0, 0, false, 0, 0, false, 0) else if den d a b c < 0 then (-num o a b c, -den d a b c, decide (pS o d a b < 0), 0, 0, true, 0) else (num o a b c, den d a b c, decide (pS o d a b < 0), 0, 0, true, 0))
    else (0, 0, false, 0, 0, false, 0))
  else (0, 0, false, 0, 0, false, 21)

theorem normal_eq (a b c : Vec) (ha : a.in_ 65536) (hb : b.in_ 65536) (hc : c.in_ 65536) :
    G.side_Normal.f a.x a.y a.z b.x b.y b.z c.x c.y c.z = some (NX a b c, NY a b c, NZ a b c) := by
  unfold G.side_Normal.f
  rw [sub_eq hb ha (by decide), Option.bind_some, sub_eq hc ha (by decide), Option.bind_some]
  dsimp only
  rw [cross_eq (in_sub hb ha) (in_sub hc ha) (by decide), Option.bind_some]
  rfl

theorem normal_in (a b c : Vec) (ha : a.in_ 65536) (hb : b.in_ 65536) (hc : c.in_ 65536) : (⟨NX a b c, NY a b c, NZ a b c⟩ : Vec).in_ 34359738368 := in_cross (in_sub hb ha) (in_sub hc ha)

theorem num_in (o a b c : Vec) (ho : o.in_ 65536) (ha : a.in_ 65536) (hb : b.in_ 65536) (hc : c.in_ 65536) : -13510798882111488 ≤ num o a b c ∧ num o a b c ≤ 13510798882111488 := by
  obtain ⟨n1, n2, n3⟩ := normal_in a b c ha hb hc
  obtain ⟨s1, s2, s3⟩ := sub_in ha ho
  dsimp only at *
  have h1 := mulb n1 s1
  have h2 := mulb n2 s2
  have h3 := mulb n3 s3
  unfold num
  omega
theorem den_in (d a b c : Vec) (hd : d.in_ 32768) (ha : a.in_ 65536) (hb : b.in_ 65536) (hc : c.in_ 65536) : -3377699720527872 ≤ den d a b c ∧ den d a b c ≤ 3377699720527872 := by
  obtain ⟨n1, n2, n3⟩ := normal_in a b c ha hb hc
  obtain ⟨s1, s2, s3⟩ := hd
  dsimp only at *
  have h1 := mulb n1 s1
  have h2 := mulb n2 s2
  have h3 := mulb n3 s3
  unfold den
  omega

theorem meet_eq (k : Nat) (o d a b c : Vec) :
    G.side_Meet.f (k + 20) o.x o.y o.z d.x d.y d.z a.x a.y a.z b.x b.y b.z c.x c.y c.z = some (meetS o d a b c) := by
  unfold G.side_Meet.f meetS okB
  rw [line_eq, within_eq _ _ _ _ (by decide) (by decide), within_eq _ _ _ _ (by decide) (by decide), within_eq _ _ _ _ (by decide) (by decide)]
  simp only [Option.bind_some]
  cases h1 : lineB o d
  · simp [G.side_Meet.j0]
  by_cases ha : a.in_ 65536
  case neg => rw [decide_eq_false ha]; simp [G.side_Meet.j0]
  by_cases hb : b.in_ 65536
  case neg => rw [decide_eq_true ha, decide_eq_false hb]; simp [G.side_Meet.j0]
  by_cases hc : c.in_ 65536
  case neg => rw [decide_eq_true ha, decide_eq_true hb, decide_eq_false hc]; simp [G.side_Meet.j0]
  rw [decide_eq_true ha, decide_eq_true hb, decide_eq_true hc]
  have h2 := h1
  unfold lineB at h2
  simp only [Bool.and_eq_true, decide_eq_true_eq] at h2
  obtain ⟨ho, hd, _⟩ := h2
  simp only [if_true, Bool.and_self]
  rw [G.side_Meet.j0, if_pos rfl, pass_eq _ o d a b ho hd ha hb, Option.bind_some]
  by_cases s0 : pS o d a b = 0
  · rw [if_pos s0, G.side_Meet.j1, if_pos rfl, if_neg (by simp [s0])]
  rw [if_neg s0, Option.bind_some]
  rw [bne_self_eq_false, G.side_Meet.j1, if_neg (by decide), G.side_Meet.j2, if_neg s0, pass_eq (k + 12) o d b c ho hd hb hc, Option.bind_some, G.side_Meet.j3]
  by_cases s1 : pS o d b c = pS o d a b
  case neg => rw [if_pos (by simpa using s1), if_neg (by simp [s1])]
  rw [if_neg (by simp [s1]), G.side_Meet.j4, if_neg s0, pass_eq (k + 10) o d c a ho hd hc ha, Option.bind_some, G.side_Meet.j5]
  by_cases s2 : pS o d c a = pS o d a b
  case neg => rw [if_pos (by simpa using s2), if_neg (by simp [s2])]
  rw [if_neg (by simp [s2]), if_pos ⟨s0, s1, s2⟩, G.side_Meet.j6, G.side_Meet.j7, normal_eq a b c ha hb hc, Option.bind_some, sub_eq ha ho (by decide), Option.bind_some]
  dsimp only
  have hn := normal_in a b c ha hb hc
  have eN := num_in o a b c ho ha hb hc
  have eD := den_in d a b c hd ha hb hc
  rw [dot_eq hn (in_sub ha ho) (by decide), Option.bind_some, dot_eq hn hd (by decide), Option.bind_some]
  show (if den d a b c = 0 then _ else _) = _
  by_cases d0 : den d a b c = 0
  · rw [if_pos d0, if_pos d0]
  rw [if_neg d0, if_neg d0]
  show (if den d a b c < 0 then _ else _) = _
  by_cases d1 : den d a b c < 0
  · rw [if_pos d1, if_pos d1]
    show G.side_Meet.j8 _ _ (wrap64 (-num o a b c)) (wrap64 (-den d a b c)) = _
    rw [w64 (by omega), w64 (by omega), G.side_Meet.j8]
  · rw [if_neg d1, if_neg d1]
    show G.side_Meet.j8 _ _ (num o a b c) (den d a b c) = _
    rw [G.side_Meet.j8]

theorem alive_eq : G.relievolaw03_alive.f 20 = some true := by
  unfold G.relievolaw03_alive.f
  have h1 := meet_eq 0 ⟨1, 1, -5⟩ ⟨0, 0, 1⟩ ⟨0, 0, 0⟩ ⟨9, 0, 0⟩ ⟨0, 9, 0⟩
  have h2 := meet_eq 0 ⟨0, 0, 0⟩ ⟨0, 0, 0⟩ ⟨0, 0, 0⟩ ⟨0, 0, 0⟩ ⟨0, 0, 0⟩
  have e1 : meetS ⟨1, 1, -5⟩ ⟨0, 0, 1⟩ ⟨0, 0, 0⟩ ⟨9, 0, 0⟩ ⟨0, 9, 0⟩ = (405, 81, false, 0, 0, true, 0) := by decide +kernel
  have e2 : meetS ⟨0, 0, 0⟩ ⟨0, 0, 0⟩ ⟨0, 0, 0⟩ ⟨0, 0, 0⟩ ⟨0, 0, 0⟩ = (0, 0, false, 0, 0, false, 21) := by decide +kernel
  dsimp only at h1 h2
  rw [Nat.zero_add] at h1 h2
  rw [h1, h2, e1, e2]
  rfl
end Go.Proofs.Ytfmbophennepdaa.M

namespace Go.Proofs.DivMath
set_option linter.unusedVariables false
/-- A divisor with its highest bit, in two halves; what is divided, its first part below the divisor. -/
structure Ok (y yn1 yn0 U u : Int) : Prop where
  e : y = yn1 * 4294967296 + yn0
  a : 0 ≤ yn0 ∧ yn0 < 4294967296
  b : 2147483648 ≤ yn1 ∧ yn1 < 4294967296
  c : 0 ≤ U ∧ U < y
  d : 0 ≤ u ∧ u < 4294967296
def Qd (y U u : Int) : Int := (U * 4294967296 + u) / y
def Rd (y U u : Int) : Int := (U * 4294967296 + u) % y
variable {y yn1 yn0 U u : Int}
theorem Ok.pos (h : Ok y yn1 yn0 U u) : 0 < y := by
  have := h.e; have := h.a; have := h.b
  omega
theorem Ok.sum (h : Ok y yn1 yn0 U u) : Qd y U u * y + Rd y U u = U * 4294967296 + u := by
  have := Int.mul_ediv_add_emod (U * 4294967296 + u) y
  unfold Qd Rd
  rw [Int.mul_comm]
  exact this
theorem Ok.rest (h : Ok y yn1 yn0 U u) : 0 ≤ Rd y U u ∧ Rd y U u < y := ⟨Int.emod_nonneg _ (by have := h.pos; omega), Int.emod_lt_of_pos _ h.pos⟩
theorem Ok.test (h : Ok y yn1 yn0 U u) {q r : Int} (hq : q * yn1 + r = U) : q ≤ Qd y U u ↔ q * yn0 ≤ 4294967296 * r + u := by
  unfold Qd
  rw [Int.le_ediv_iff_mul_le h.pos, h.e]
  have e : q * (yn1 * 4294967296 + yn0) = 4294967296 * (q * yn1) + q * yn0 := by grind
  rw [e]
  omega
theorem Ok.low (h : Ok y yn1 yn0 U u) : 0 ≤ Qd y U u := Int.ediv_nonneg (by have := h.c; have := h.d; omega) (by have := h.pos; omega)
theorem Ok.high (h : Ok y yn1 yn0 U u) : Qd y U u < 4294967296 := by
  unfold Qd
  apply Int.ediv_lt_of_lt_mul h.pos
  have := h.c; have := h.d
  omega
/-- The first guess. -/
theorem Ok.guess (h : Ok y yn1 yn0 U u) : Qd y U u ≤ U / yn1 ∧ U / yn1 ≤ 4294967297 ∧ U / yn1 * yn1 + (U - U / yn1 * yn1) = U ∧ 0 ≤ U - U / yn1 * yn1 ∧ U - U / yn1 * yn1 < yn1 := by
  have hy := h.e; have ha := h.a; have hb := h.b; have hc := h.c; have hd := h.d
  have e := Int.mul_ediv_add_emod U yn1
  have r0 := Int.emod_nonneg U (show yn1 ≠ 0 by omega)
  have r1 := Int.emod_lt_of_pos U (show 0 < yn1 by omega)
  rw [Int.mul_comm] at e
  refine ⟨?_, ?_, by omega, by omega, by omega⟩
  · apply (Int.le_ediv_iff_mul_le (show 0 < yn1 by omega)).mpr
    have s := h.sum
    have r := h.rest
    have l := h.low
    have q : Qd y U u * y = 4294967296 * (Qd y U u * yn1) + Qd y U u * yn0 := by
      conv => lhs; rw [hy]
      grind
    have p := Int.mul_nonneg l ha.1
    omega
  · have lt : U / yn1 < 4294967298 := by
      apply Int.ediv_lt_of_lt_mul (show 0 < yn1 by omega)
      omega
    omega
/-- The test is true: the guess is too great. -/
theorem Ok.down (h : Ok y yn1 yn0 U u) {q r : Int} (hq : q * yn1 + r = U) (hl : Qd y U u ≤ q) (t : 4294967296 ≤ q ∨ 4294967296 * r + u < q * yn0) : Qd y U u ≤ q - 1 ∧ (q - 1) * yn1 + (r + yn1) = U := by
  have hi := h.high
  have ts := h.test hq
  constructor
  · rcases t with t | t
    · omega
    · have : ¬ q ≤ Qd y U u := fun c => by have := ts.mp c; omega
      omega
  · have : (q - 1) * yn1 = q * yn1 - yn1 := by grind
    omega
/-- The test is false: the guess is right. -/
theorem Ok.stop (h : Ok y yn1 yn0 U u) {q r : Int} (hq : q * yn1 + r = U) (hl : Qd y U u ≤ q) (t : q * yn0 ≤ 4294967296 * r + u) : q = Qd y U u := by
  have := (h.test hq).mpr t
  omega
/-- The rest is so great that no test is wanted. -/
theorem Ok.great (h : Ok y yn1 yn0 U u) {q r : Int} (hq : q * yn1 + r = U) (hl : Qd y U u ≤ q) (g : q ≤ 4294967296) (t : 4294967296 ≤ r) : q = Qd y U u := by
  apply h.stop hq hl
  have ha := h.a; have hd := h.d; have l := h.low
  have := Int.mul_le_mul g (show yn0 ≤ 4294967295 by omega) ha.1 (show (0 : Int) ≤ 4294967296 by decide)
  omega
theorem Ok.fits (h : Ok y yn1 yn0 U u) {q : Int} (h0 : 0 ≤ q) (g : q ≤ 4294967297) : 0 ≤ q * yn0 ∧ q * yn0 < 18446744073709551616 := by
  have ha := h.a
  have := Int.mul_le_mul g (show yn0 ≤ 4294967295 by omega) ha.1 (show (0 : Int) ≤ 4294967297 by decide)
  exact ⟨Int.mul_nonneg h0 ha.1, by omega⟩
/-- Two digits make the whole quotient. -/
theorem two_digits {y U u1 u0 : Int} (hy : 0 < y) :
    (U * 18446744073709551616 + (u1 * 4294967296 + u0)) / y = Qd y U u1 * 4294967296 + Qd y (Rd y U u1) u0 ∧ (U * 18446744073709551616 + (u1 * 4294967296 + u0)) % y = Rd y (Rd y U u1) u0 := by
  have s1 : Qd y U u1 * y + Rd y U u1 = U * 4294967296 + u1 := by
    have := Int.mul_ediv_add_emod (U * 4294967296 + u1) y
    unfold Qd Rd
    rw [Int.mul_comm]
    exact this
  have s2 : Qd y (Rd y U u1) u0 * y + Rd y (Rd y U u1) u0 = Rd y U u1 * 4294967296 + u0 := by
    have := Int.mul_ediv_add_emod (Rd y U u1 * 4294967296 + u0) y
    unfold Qd
    conv => lhs; arg 2; unfold Rd
    rw [Int.mul_comm]
    exact this
  have r : 0 ≤ Rd y (Rd y U u1) u0 ∧ Rd y (Rd y U u1) u0 < y := ⟨Int.emod_nonneg _ (by omega), Int.emod_lt_of_pos _ hy⟩
  generalize Qd y (Rd y U u1) u0 = q0 at *
  generalize Rd y (Rd y U u1) u0 = r0 at *
  generalize Qd y U u1 = q1 at *
  generalize Rd y U u1 = r1 at *
  have e : U * 18446744073709551616 + (u1 * 4294967296 + u0) = r0 + y * (q1 * 4294967296 + q0) := by grind
  rw [e]
  constructor
  · rw [Int.add_mul_ediv_left _ _ (by omega), Int.ediv_eq_zero_of_lt r.1 r.2, Int.zero_add]
  · rw [Int.add_mul_emod_self_left, Int.emod_eq_of_lt r.1 r.2]
/-- How many bits a number has. -/
theorem aux_len : ∀ (f x : Nat), x < 2 ^ f → x ≠ 0 → ∃ j, Lib.bitLenAux f x = j + 1 ∧ j + 1 ≤ f ∧ 2 ^ j ≤ x ∧ x < 2 ^ (j + 1)
  | 0, x, h, h0 => by
    have : x < 1 := h
    omega
  | f + 1, x, h, h0 => by
    rw [Lib.bitLenAux, if_neg h0]
    by_cases c : x / 2 = 0
    · have e : x = 1 := by omega
      subst e
      refine ⟨0, ?_, by omega, by decide, by decide⟩
      have z : Lib.bitLenAux f (1 / 2) = 0 := by
        cases f with
        | zero => rfl
        | succ n => rfl
      rw [z]
    · obtain ⟨j, e, l, a, b⟩ := aux_len f (x / 2) (by rw [Nat.pow_succ] at h; omega) c
      refine ⟨j + 1, by rw [e]; omega, by omega, ?_, ?_⟩
      · rw [Nat.pow_succ]; omega
      · rw [Nat.pow_succ]; omega
theorem len_bounds {x : Int} (h0 : 0 < x) (h1 : x < 18446744073709551616) : ∃ s : Nat, (64 - (Lib.bitLen x.toNat : Int)) = (s : Int) ∧ s ≤ 63 ∧ 9223372036854775808 ≤ x * 2 ^ s ∧ x * 2 ^ s < 18446744073709551616 := by
  obtain ⟨j, e, l, a, b⟩ := aux_len 64 x.toNat (by omega) (by omega)
  refine ⟨63 - j, ?_, by omega, ?_, ?_⟩
  · unfold Lib.bitLen
    rw [e]
    omega
  · have p : (2 : Int) ^ j * 2 ^ (63 - j) = 2 ^ 63 := by rw [← Int.pow_add, show j + (63 - j) = 63 by omega]
    have a' : (2 : Int) ^ j ≤ x := by
      have : ((2 ^ j : Nat) : Int) ≤ (x.toNat : Int) := by exact_mod_cast a
      simpa [Int.toNat_of_nonneg (show 0 ≤ x by omega)] using this
    have := Int.mul_le_mul_of_nonneg_right a' (show (0 : Int) ≤ 2 ^ (63 - j) from Int.le_of_lt (Int.pow_pos (by decide)))
    rw [p] at this
    exact this
  · have p : (2 : Int) ^ (j + 1) * 2 ^ (63 - j) = 2 ^ 64 := by rw [← Int.pow_add, show j + 1 + (63 - j) = 64 by omega]
    have b' : x < (2 : Int) ^ (j + 1) := by
      have : (x.toNat : Int) < ((2 ^ (j + 1) : Nat) : Int) := by exact_mod_cast b
      simpa [Int.toNat_of_nonneg (show 0 ≤ x by omega)] using this
    have := Int.mul_lt_mul_of_pos_right b' (show (0 : Int) < 2 ^ (63 - j) from Int.pow_pos (by decide))
    rw [p] at this
    exact this
end Go.Proofs.DivMath

namespace Go.Proofs.Ytfmbophennepdaa.M
open Go.RowKit Go.Proofs.VecMath Go.Proofs.YtfmbophennepdaaW.PrintWords
set_option linter.unusedVariables false
set_option linter.unusedSimpArgs false

theorem u64w (n : Int) : IntKind.u64.wrap n = n % 18446744073709551616 := rfl

theorem mul64_eq (a b : Int) (ha : 0 ≤ a ∧ a < 18446744073709551616) (hb : 0 ≤ b ∧ b < 18446744073709551616) :
    G.bits_Mul64.f a b = some (a * b / 18446744073709551616, a * b % 18446744073709551616) := by
  unfold G.bits_Mul64.f
  simp only [u64w]
  rw [and_low32 a ha.1 ha.2, and_low32 b hb.1 hb.2, and_low32 _ (by omega) (by omega)]
  rw [mul64_arith a b ha.1 ha.2 hb.1 hb.2]

/-- The two halves of a whole number. -/
def hiW (n : Int) : Int := n / 18446744073709551616
def loW (n : Int) : Int := n % 18446744073709551616

def i64b (n : Int) : Prop := -9223372036854775808 ≤ n ∧ n ≤ 9223372036854775807

theorem prod_in {a b : Int} (ha : i64b a) (hb : i64b b) : -85070591730234615865843651857942052864 ≤ a * b ∧ a * b ≤ 85070591730234615865843651857942052864 :=
  mulb (A := 9223372036854775808) (B := 9223372036854775808) ⟨by unfold i64b at ha; omega, by unfold i64b at ha; omega⟩ ⟨by unfold i64b at hb; omega, by unfold i64b at hb; omega⟩

theorem mulW_eq (a b : Int) (ha : i64b a) (hb : i64b b) : G.wide_Mul.f a b = some (hiW (a * b), loW (a * b)) := by
  have hp := prod_in ha hb
  unfold i64b at ha hb
  unfold G.wide_Mul.f hiW loW
  rw [u64w, u64w, mul64_eq _ _ (by omega) (by omega), Option.bind_some]
  simp only [u64w]
  by_cases h1 : a < 0
  · have ea : a % 18446744073709551616 = a + 18446744073709551616 := by omega
    rw [if_pos h1, ea]
    by_cases h2 : b < 0
    · have eb : b % 18446744073709551616 = b + 18446744073709551616 := by omega
      rw [if_pos h2, eb]
      have e : (a + 18446744073709551616) * (b + 18446744073709551616) = a * b + 18446744073709551616 * (a + b + 18446744073709551616) := by grind
      rw [e]
      generalize a * b = p at *
      simp only [Option.some.injEq, Prod.mk.injEq, and_true]
      unfold wrap64
      omega
    · have eb : b % 18446744073709551616 = b := by omega
      rw [if_neg h2, eb]
      have e : (a + 18446744073709551616) * b = a * b + 18446744073709551616 * b := by grind
      rw [e]
      generalize a * b = p at *
      simp only [Option.some.injEq, Prod.mk.injEq, and_true]
      unfold wrap64
      omega
  · have ea : a % 18446744073709551616 = a := by omega
    rw [if_neg h1, ea]
    by_cases h2 : b < 0
    · have eb : b % 18446744073709551616 = b + 18446744073709551616 := by omega
      rw [if_pos h2, eb]
      have e : a * (b + 18446744073709551616) = a * b + 18446744073709551616 * a := by grind
      rw [e]
      generalize a * b = p at *
      simp only [Option.some.injEq, Prod.mk.injEq, and_true]
      unfold wrap64
      omega
    · have eb : b % 18446744073709551616 = b := by omega
      rw [if_neg h2, eb]
      generalize a * b = p at *
      simp only [Option.some.injEq, Prod.mk.injEq, and_true]
      unfold wrap64
      omega

/-- Whole numbers of 128 bits. -/
def i128 (n : Int) : Prop := -170141183460469231731687303715884105728 ≤ n ∧ n ≤ 170141183460469231731687303715884105727
theorem of_eq (n : Int) (h : i64b n) : G.wide_Of.f n = some (hiW n, loW n) := by
  unfold G.wide_Of.f hiW loW
  unfold i64b at h
  rw [u64w, show n / 9223372036854775808 = n / 18446744073709551616 by omega]
theorem sum_eq (n m : Int) (hn : i128 n) (hm : i128 m) (h : i128 (n + m)) : G.wide_sum.f (hiW n) (loW n) (hiW m) (loW m) = some (hiW (n + m), loW (n + m)) := by
  unfold i128 at *
  unfold G.wide_sum.f hiW loW
  rw [if_pos (by omega)]
  unfold wrap64
  congr 2 <;> omega
theorem turned_eq (n : Int) (hn : i128 n) (h : i128 (-n)) : G.wide_turned.f (hiW n) (loW n) = some (hiW (-n), loW (-n)) := by
  have hn' := hn
  unfold i128 at hn h
  unfold G.wide_turned.f
  rw [if_pos (by unfold hiW; omega)]
  have e := sum_eq (-1 - n) 1 (by unfold i128; omega) (by unfold i128; omega) (by unfold i128; omega)
  rw [show hiW (-1 - n) = -1 - hiW n by unfold hiW; omega, show loW (-1 - n) = 18446744073709551615 - loW n by unfold loW; omega, show -1 - n + 1 = -n by omega] at e
  exact e
theorem prod128 {a b : Int} (ha : i64b a) (hb : i64b b) : i128 (a * b) := by
  have := prod_in ha hb
  unfold i128
  omega
end Go.Proofs.Ytfmbophennepdaa.M

namespace Go.Proofs.Ytfmbophennepdaa.M
open Go.RowKit Go.Proofs.VecMath Go.Proofs.DivMath Go.Proofs.YtfmbophennepdaaW.PrintWords
set_option linter.unusedVariables false
set_option linter.unusedSimpArgs false
theorem uw {n : Int} (h : 0 ≤ n ∧ n < 18446744073709551616) : IntKind.u64.wrap n = n := by
  rw [u64w]
  omega
/-- What the second digit leaves. -/
def divR (y s q1 V u0 Q : Int) : Option (Int × Int) := some (IntKind.u64.wrap (IntKind.u64.wrap (q1 * 4294967296) + Q), shr .u64 (IntKind.u64.wrap (IntKind.u64.wrap (IntKind.u64.wrap (V * 4294967296) + u0) - IntKind.u64.wrap (Q * y))) s)
section
variable {y yn1 yn0 U u : Int}
theorem div_l1 (h : Ok y yn1 yn0 U u) (s q1 : Int) (hs : 0 ≤ s) : ∀ (n k : Nat) (q r : Int), q * yn1 + r = U → Qd y U u ≤ q → q ≤ 4294967297 → 0 ≤ r ∧ r < 4294967296 → 4294967296 ≤ r + n * yn1 →
    G.bits_Div64.l1 (k + 2 * n + 2) y s yn1 yn0 u q1 r U q = divR y s q1 U u (Qd y U u)
  | 0, k, q, r, hq, hl, hg, hr, hn => by
    rw [show ((0 : Nat) : Int) * yn1 = 0 by simp] at hn
    omega
  | n + 1, k, q, r, hq, hl, hg, hr, hn => by
    have ha := h.a; have hb := h.b; have hd := h.d; have l0 := h.low
    have f := h.fits (q := q) (by omega) hg
    have e1 : G.bits_Div64.l1 (k + 2 * (n + 1) + 2) y s yn1 yn0 u q1 r U q = G.bits_Div64.j4 (k + 2 * n + 2 + 1) y s yn1 yn0 u q1 r U q (decide (4294967296 ≤ q ∨ 4294967296 * r + u < q * yn0)) := by
      rw [show k + 2 * (n + 1) + 2 = (k + 2 * n + 2 + 1) + 1 by omega, G.bits_Div64.l1]
      by_cases c : q ≥ 4294967296
      · rw [if_pos c, decide_eq_true (Or.inl c)]
      · rw [if_neg c, uw f, uw (n := 4294967296 * r) (by omega), uw (n := 4294967296 * r + u) (by omega)]
        congr 1
        rw [decide_eq_decide]
        omega
    rw [e1, G.bits_Div64.j4]
    by_cases t : 4294967296 ≤ q ∨ 4294967296 * r + u < q * yn0
    · obtain ⟨d1, d2⟩ := h.down hq hl t
      rw [decide_eq_true t, if_pos rfl, uw (n := r + yn1) (by omega), uw (n := q - 1) (by omega)]
      by_cases c : r + yn1 ≥ 4294967296
      · have g := h.great d2 d1 (by omega) c
        rw [if_pos c, if_pos hs, g]
        rfl
      · rw [if_neg c]
        refine div_l1 h s q1 hs n k (q - 1) (r + yn1) d2 d1 (by omega) (by omega) ?_
        have : ((n + 1 : Nat) : Int) * yn1 = n * yn1 + yn1 := by push_cast; grind
        omega
    · rw [decide_eq_false t, if_neg (by decide), if_pos hs]
      have g := h.stop hq hl (by omega)
      rw [g]
      rfl
theorem div_l0 (h : Ok y yn1 yn0 U u) (s u0 : Int) (R : Option (Int × Int)) (HJ : ∀ k, G.bits_Div64.j2 (k + 7) y s yn1 yn0 U u u0 (Qd y U u) = R) : ∀ (n k : Nat) (q r : Int), q * yn1 + r = U → Qd y U u ≤ q → q ≤ 4294967297 → 0 ≤ r ∧ r < 4294967296 → 4294967296 ≤ r + n * yn1 →
    G.bits_Div64.l0 (k + 2 * n + 7) y s yn1 yn0 U u u0 q r = R
  | 0, k, q, r, hq, hl, hg, hr, hn => by
    rw [show ((0 : Nat) : Int) * yn1 = 0 by simp] at hn
    omega
  | n + 1, k, q, r, hq, hl, hg, hr, hn => by
    have ha := h.a; have hb := h.b; have hd := h.d; have l0 := h.low
    have f := h.fits (q := q) (by omega) hg
    have e1 : G.bits_Div64.l0 (k + 2 * (n + 1) + 7) y s yn1 yn0 U u u0 q r = G.bits_Div64.j1 (k + 2 * n + 7 + 1) y s yn1 yn0 U u u0 q r (decide (4294967296 ≤ q ∨ 4294967296 * r + u < q * yn0)) := by
      rw [show k + 2 * (n + 1) + 7 = (k + 2 * n + 7 + 1) + 1 by omega, G.bits_Div64.l0]
      by_cases c : q ≥ 4294967296
      · rw [if_pos c, decide_eq_true (Or.inl c)]
      · rw [if_neg c, uw f, uw (n := 4294967296 * r) (by omega), uw (n := 4294967296 * r + u) (by omega)]
        congr 1
        rw [decide_eq_decide]
        omega
    rw [e1, G.bits_Div64.j1]
    by_cases t : 4294967296 ≤ q ∨ 4294967296 * r + u < q * yn0
    · obtain ⟨d1, d2⟩ := h.down hq hl t
      rw [decide_eq_true t, if_pos rfl, uw (n := r + yn1) (by omega), uw (n := q - 1) (by omega)]
      by_cases c : r + yn1 ≥ 4294967296
      · have g := h.great d2 d1 (by omega) c
        rw [if_pos c, g]
        exact HJ (k + 2 * n)
      · rw [if_neg c]
        refine div_l0 h s u0 R HJ n k (q - 1) (r + yn1) d2 d1 (by omega) (by omega) ?_
        have : ((n + 1 : Nat) : Int) * yn1 = n * yn1 + yn1 := by push_cast; grind
        omega
    · rw [decide_eq_false t, if_neg (by decide)]
      have g := h.stop hq hl (by omega)
      rw [g]
      exact HJ (k + 2 * n)
/-- What is left behind a digit, in words of 64 bits. -/
theorem left_eq (h : Ok y yn1 yn0 U u) (hy : y < 18446744073709551616) : IntKind.u64.wrap (IntKind.u64.wrap (IntKind.u64.wrap (U * 4294967296) + u) - IntKind.u64.wrap (Qd y U u * y)) = Rd y U u := by
  have s := h.sum
  have r := h.rest
  have hc := h.c; have hd := h.d
  rw [u64w, u64w, u64w, u64w]
  generalize Qd y U u * y = p at *
  generalize Rd y U u = v at *
  omega
theorem guess_eq (h : Ok y yn1 yn0 U u) (hy : y < 18446744073709551616) : IntKind.u64.wrap (Int.tdiv U yn1) = U / yn1 ∧ IntKind.u64.wrap (U - IntKind.u64.wrap (U / yn1 * yn1)) = U - U / yn1 * yn1 := by
  have g := h.guess
  have hc := h.c; have hb := h.b; have l := h.low
  constructor
  · rw [Int.tdiv_eq_ediv_of_nonneg hc.1, uw (by omega)]
  · have p := Int.mul_nonneg (show 0 ≤ U / yn1 by omega) (show 0 ≤ yn1 by omega)
    rw [uw (n := U / yn1 * yn1) (by omega), uw (by omega)]
end
/-- Both digits. -/
theorem div_digits {y yn1 yn0 U u1 u0 s : Int} (h : Ok y yn1 yn0 U u1) (h' : 0 ≤ u0 ∧ u0 < 4294967296) (hy : y < 18446744073709551616) (hs : 0 ≤ s) (k : Nat) :
    G.bits_Div64.l0 (k + 11) y s yn1 yn0 U u1 u0 (IntKind.u64.wrap (Int.tdiv U yn1)) (IntKind.u64.wrap (U - IntKind.u64.wrap (IntKind.u64.wrap (Int.tdiv U yn1) * yn1))) =
      some (Qd y U u1 * 4294967296 + Qd y (Rd y U u1) u0, shr .u64 (Rd y (Rd y U u1) u0) s) := by
  obtain ⟨g1, g2⟩ := guess_eq h hy
  have g := h.guess
  have h2 : Ok y yn1 yn0 (Rd y U u1) u0 := ⟨h.e, h.a, h.b, h.rest, h'⟩
  have hb := h.b
  have q1 := h.low
  have q1' := h.high
  have q2 := h2.low
  have q2' := h2.high
  rw [g1, g2]
  refine div_l0 h s u0 _ (fun k => ?_) 2 k _ _ g.2.2.1 g.1 g.2.1 ⟨by omega, by omega⟩ (by omega)
  rw [G.bits_Div64.j2, if_neg (by omega), left_eq h hy]
  obtain ⟨i1, i2⟩ := guess_eq h2 hy
  have i := h2.guess
  rw [i1, i2]
  rw [show k + 6 = k + 2 * 2 + 2 by omega, div_l1 h2 s _ hs 2 k _ _ i.2.2.1 i.1 i.2.1 ⟨by omega, by omega⟩ (by omega)]
  unfold divR
  rw [left_eq h2 hy, uw (n := Qd y U u1 * 4294967296) (by omega), uw (by omega)]
theorem or_add (s : Nat) {A a : Int} (h0 : 0 ≤ A) (hA : A * 2 ^ s < 18446744073709551616) (ha : 0 ≤ a) (hb : a < 2 ^ s) (hs : s ≤ 63) : Go.bits .or .u64 (A * 2 ^ s) a = A * 2 ^ s + a := by
  obtain ⟨m, rfl⟩ : ∃ m : Nat, A = m := ⟨A.toNat, by omega⟩
  obtain ⟨n, rfl⟩ : ∃ n : Nat, a = n := ⟨a.toNat, by omega⟩
  have e : ((m : Int) * 2 ^ s) = ((2 ^ s * m : Nat) : Int) := by push_cast; rw [Int.mul_comm]
  have hn : n < 2 ^ s := by exact_mod_cast hb
  have p : 2 ^ s ≤ 2 ^ 63 := Nat.pow_le_pow_right (by decide) hs
  rw [e] at hA ⊢
  rw [bits_or_u64_nat _ _ (by omega) (by omega), ← Nat.two_pow_add_eq_or_of_lt hn]
  push_cast
  rfl
theorem shl_eq (s : Nat) {x : Int} (hs : s ≤ 63) : shl .u64 x (s : Int) = (x * 2 ^ s) % 18446744073709551616 := by
  unfold shl
  rw [u64w, show min ((s : Int)).toNat IntKind.u64.bits = s by rw [Int.toNat_natCast]; show min s 64 = s; omega]
theorem shr_eq (s : Nat) {x : Int} (hs : s ≤ 64) : shr .u64 x (s : Int) = x / 2 ^ s := by
  unfold shr
  rw [show min ((s : Int)).toNat IntKind.u64.bits = s by rw [Int.toNat_natCast]; show min s 64 = s; omega]
theorem div64_eq (k : Nat) (hi lo y0 : Int) (h0 : 0 ≤ hi ∧ hi < y0) (h1 : 0 ≤ lo ∧ lo < 18446744073709551616) (h2 : y0 < 18446744073709551616) :
    G.bits_Div64.f (k + 11) hi lo y0 = some ((hi * 18446744073709551616 + lo) / y0, (hi * 18446744073709551616 + lo) % y0) := by
  unfold G.bits_Div64.f
  rw [if_neg (by omega), if_neg (by omega)]
  by_cases c : hi = 0
  · have q1 : lo / y0 ≤ lo := Int.ediv_le_self _ h1.1
    have q0 : 0 ≤ lo / y0 := Int.ediv_nonneg h1.1 (by omega)
    rw [if_pos c, c, Int.zero_mul, Int.zero_add, Int.tdiv_eq_ediv_of_nonneg h1.1, Int.tmod_eq_emod_of_nonneg h1.1, uw (by omega)]
  rw [if_neg c]
  obtain ⟨s, es, s63, lo63, hi64⟩ := len_bounds (x := y0) (by omega) h2
  have ez : G.bits_LeadingZeros64.f y0 = some (s : Int) := by
    unfold G.bits_LeadingZeros64.f
    rw [if_pos (by omega), es]
  rw [ez, Option.bind_some, uw (n := (s : Int)) (by omega), if_pos (by omega), uw (n := 64 - (s : Int)) (by omega), if_pos (by omega)]
  rw [show (64 - (s : Int)) = ((64 - s : Nat) : Int) by omega, shl_eq s s63, shl_eq s s63, shl_eq s s63, shr_eq (64 - s) (by omega)]
  have P0 : (0 : Int) < 2 ^ s := Int.pow_pos (by decide)
  have R0 : (0 : Int) < 2 ^ (64 - s) := Int.pow_pos (by decide)
  have RP : (2 : Int) ^ (64 - s) * 2 ^ s = 18446744073709551616 := by rw [← Int.pow_add, show 64 - s + s = 64 by omega]; rfl
  have ey : y0 * 2 ^ s % 18446744073709551616 = y0 * 2 ^ s := Int.emod_eq_of_lt (by omega) (by omega)
  have hh := Int.mul_le_mul_of_nonneg_right (show hi ≤ y0 - 1 by omega) (Int.le_of_lt P0)
  have hm : (y0 - 1) * 2 ^ s = y0 * 2 ^ s - 2 ^ s := by rw [Int.sub_mul, Int.one_mul]
  have hn := Int.mul_nonneg h0.1 (Int.le_of_lt P0)
  have eh : hi * 2 ^ s % 18446744073709551616 = hi * 2 ^ s := Int.emod_eq_of_lt hn (by omega)
  have lsum := Int.mul_ediv_add_emod lo (2 ^ (64 - s))
  have c0 := Int.emod_nonneg lo (show (2 : Int) ^ (64 - s) ≠ 0 by omega)
  have c1 := Int.emod_lt_of_pos lo R0
  have a0 : 0 ≤ lo / 2 ^ (64 - s) := Int.ediv_nonneg h1.1 (Int.le_of_lt R0)
  have a1 : lo / 2 ^ (64 - s) < 2 ^ s := by
    apply Int.ediv_lt_of_lt_mul R0
    rw [Int.mul_comm, RP]
    exact h1.2
  have cp := Int.mul_lt_mul_of_pos_right c1 P0
  have cq := Int.mul_nonneg c0 (Int.le_of_lt P0)
  rw [RP] at cp
  have lP : lo * 2 ^ s = lo / 2 ^ (64 - s) * 18446744073709551616 + lo % 2 ^ (64 - s) * 2 ^ s := by
    conv => lhs; rw [← lsum]
    rw [Int.add_mul, ← RP]
    grind
  have el : lo * 2 ^ s % 18446744073709551616 = lo % 2 ^ (64 - s) * 2 ^ s := by
    rw [lP]
    generalize lo % 2 ^ (64 - s) * 2 ^ s = t at *
    omega
  rw [ey, eh, el, or_add s h0.1 (by omega) a0 a1 s63]
  have N : (hi * 2 ^ s + lo / 2 ^ (64 - s)) * 18446744073709551616 + lo % 2 ^ (64 - s) * 2 ^ s = (hi * 18446744073709551616 + lo) * 2 ^ s := by
    rw [Int.add_mul (hi * 18446744073709551616), lP, Int.add_mul]
    grind
  have y0P : 0 < y0 := by omega
  have bU : 0 ≤ hi * 2 ^ s + lo / 2 ^ (64 - s) ∧ hi * 2 ^ s + lo / 2 ^ (64 - s) < y0 * 2 ^ s := by omega
  have N0 : 0 ≤ hi * 18446744073709551616 + lo := by omega
  have D1 := Int.mul_ediv_mul_of_pos_left (hi * 18446744073709551616 + lo) y0 P0
  have D2 : (hi * 18446744073709551616 + lo) * 2 ^ s % (y0 * 2 ^ s) = (hi * 18446744073709551616 + lo) % y0 * 2 ^ s := by
    rw [Int.mul_comm _ (2 ^ s), Int.mul_comm y0, Int.mul_emod_mul_of_pos _ _ P0, Int.mul_comm]
  rw [← N] at D1 D2
  generalize hy : y0 * 2 ^ s = y at *
  generalize hU : hi * 2 ^ s + lo / 2 ^ (64 - s) = U at *
  generalize hx : lo % 2 ^ (64 - s) * 2 ^ s = x at *
  rw [and_low32 y (by omega) (by omega), and_low32 x (by omega) (by omega), if_neg (by omega)]
  have ok : Ok y (y / 4294967296) (y % 4294967296) U (x / 4294967296) := ⟨by omega, by omega, by omega, bU, by omega⟩
  rw [div_digits ok (u0 := x % 4294967296) (by omega) (by omega) (by omega) k]
  have T := two_digits (y := y) (U := U) (u1 := x / 4294967296) (u0 := x % 4294967296) (by omega)
  rw [show x / 4294967296 * 4294967296 + x % 4294967296 = x by omega] at T
  rw [← T.1, ← T.2, shr_eq s (by omega), D1, D2, Int.mul_ediv_cancel _ (by omega)]
end Go.Proofs.Ytfmbophennepdaa.M

namespace Go.Proofs.Ytfmbophennepdaa.M
open Go.RowKit Go.Proofs.VecMath Go.Proofs.DivMath Go.Proofs.YtfmbophennepdaaW.PrintWords
set_option linter.unusedVariables false
/-- A number without its sign, in two words: its quotient and rest by a number of one word. -/
theorem halves {M d : Int} (hM : 0 ≤ M) (hd : 0 < d) :
    M / d = M / 18446744073709551616 / d * 18446744073709551616 + (M / 18446744073709551616 % d * 18446744073709551616 + M % 18446744073709551616) / d ∧ M % d = (M / 18446744073709551616 % d * 18446744073709551616 + M % 18446744073709551616) % d ∧ 0 ≤ (M / 18446744073709551616 % d * 18446744073709551616 + M % 18446744073709551616) / d ∧ (M / 18446744073709551616 % d * 18446744073709551616 + M % 18446744073709551616) / d < 18446744073709551616 := by
  have e1 := Int.mul_ediv_add_emod (M / 18446744073709551616) d
  have r0 := Int.emod_nonneg (M / 18446744073709551616) (show d ≠ 0 by omega)
  have r1 := Int.emod_lt_of_pos (M / 18446744073709551616) hd
  have e3 : M = (M / 18446744073709551616 % d * 18446744073709551616 + M % 18446744073709551616) + d * (M / 18446744073709551616 / d * 18446744073709551616) := by
    have : d * (M / 18446744073709551616 / d * 18446744073709551616) = d * (M / 18446744073709551616 / d) * 18446744073709551616 := by grind
    rw [this]
    omega
  refine ⟨?_, ?_, ?_, ?_⟩
  · conv => lhs; rw [e3]
    rw [Int.add_mul_ediv_left _ _ (by omega)]
    omega
  · conv => lhs; rw [e3]
    rw [Int.add_mul_emod_self_left]
  · exact Int.ediv_nonneg (by omega) (by omega)
  · apply Int.ediv_lt_of_lt_mul hd
    omega
/-- A number's size: not too great. -/
def i127 (n : Int) : Prop := -85070591730234615865843651857942052864 ≤ n ∧ n ≤ 85070591730234615865843651857942052864
theorem size_eq (A : Int) (h : i127 A) : G.wide_size.f (hiW A) (loW A) = some ((if A < 0 then -A else A) / 18446744073709551616, (if A < 0 then -A else A) % 18446744073709551616) := by
  unfold i127 at h
  unfold G.wide_size.f
  by_cases c : A < 0
  · rw [if_pos c, if_pos (by unfold hiW; omega), turned_eq A (by unfold i128; omega) (by unfold i128; omega), Option.bind_some]
    dsimp only
    rw [uw (by unfold hiW; omega)]
    rfl
  · rw [if_neg c, if_neg (by unfold hiW; omega), uw (by unfold hiW; omega)]
    rfl
theorem div_no (k : Nat) (a b d : Int) (h : d < 1) : G.wide_Div.f k a b d = some (0, 0, 0, false) := by
  unfold G.wide_Div.f
  rw [if_pos h]
theorem div_eq (k : Nat) (A d : Int) (h : i127 A) (hd : 1 ≤ d ∧ d ≤ 9223372036854775807) : G.wide_Div.f (k + 11) (hiW A) (loW A) d = some (hiW (A / d), loW (A / d), A % d, true) := by
  have h' := h
  unfold i127 at h'
  unfold G.wide_Div.f
  rw [if_neg (by omega), size_eq A h, Option.bind_some, uw (n := d) (by omega)]
  dsimp only
  obtain ⟨M, hM⟩ : ∃ M, M = (if A < 0 then -A else A) := ⟨_, rfl⟩
  have hM0 : 0 ≤ M ∧ M ≤ 85070591730234615865843651857942052864 := by
    rw [hM]
    split <;> omega
  rw [← hM]
  obtain ⟨q, r, l0, l1⟩ := halves hM0.1 (show 0 < d by omega)
  have e1 := div64_eq k 0 (M / 18446744073709551616) d (by omega) (by omega) (by omega)
  rw [Int.zero_mul, Int.zero_add] at e1
  have t0 : 0 ≤ M / 18446744073709551616 / d := Int.ediv_nonneg (by omega) (by omega)
  have t1 : M / 18446744073709551616 / d ≤ M / 18446744073709551616 := Int.ediv_le_self _ (by omega)
  have r0 := Int.emod_nonneg (M / 18446744073709551616) (show d ≠ 0 by omega)
  have r1 := Int.emod_lt_of_pos (M / 18446744073709551616) (show 0 < d by omega)
  have e2 := div64_eq k (M / 18446744073709551616 % d) (M % 18446744073709551616) d ⟨r0, r1⟩ (by omega) (by omega)
  rw [e1, Option.bind_some]
  dsimp only
  rw [e2, Option.bind_some]
  dsimp only
  rw [← r]
  have m0 := Int.emod_nonneg M (show d ≠ 0 by omega)
  have m1 := Int.emod_lt_of_pos M (show 0 < d by omega)
  have mq := Int.mul_ediv_add_emod M d
  have qM : M / d ≤ M := Int.ediv_le_self _ hM0.1
  have q0 : 0 ≤ M / d := Int.ediv_nonneg hM0.1 (by omega)
  generalize M / 18446744073709551616 / d = t at *
  generalize (M / 18446744073709551616 % d * 18446744073709551616 + M % 18446744073709551616) / d = l at *
  have ht : t = hiW (M / d) := by unfold hiW; omega
  have hl : l = loW (M / d) := by unfold loW; omega
  rw [w64 (n := t) (by omega), w64 (n := M % d) (by omega), ht, hl]
  by_cases c : A < 0
  · rw [if_pos (by unfold hiW; omega), turned_eq (M / d) (by unfold i128; omega) (by unfold i128; omega), Option.bind_some]
    dsimp only
    rw [if_pos c] at hM
    by_cases g : M % d > 0
    · rw [if_pos g, of_eq (-1) (by unfold i64b; decide), Option.bind_some]
      dsimp only
      rw [sum_eq (-(M / d)) (-1) (by unfold i128; omega) (by unfold i128; decide) (by unfold i128; omega), Option.bind_some, w64 (by omega)]
      have e : A = (d - M % d) + d * (-(M / d) - 1) := by
        have : d * (-(M / d) - 1) = -(d * (M / d)) - d := by grind
        omega
      have a1 : A / d = -(M / d) + -1 := by
        conv => lhs; rw [e]
        rw [Int.add_mul_ediv_left _ _ (by omega), Int.ediv_eq_zero_of_lt (by omega) (by omega)]
        omega
      have a2 : A % d = d - M % d := by
        conv => lhs; rw [e]
        rw [Int.add_mul_emod_self_left, Int.emod_eq_of_lt (by omega) (by omega)]
      rw [a1, a2]
    · rw [if_neg g]
      have z : M % d = 0 := by omega
      have e : A = d * (-(M / d)) := by
        have : d * (-(M / d)) = -(d * (M / d)) := by grind
        omega
      have a1 : A / d = -(M / d) := by
        conv => lhs; rw [e]
        rw [Int.mul_ediv_cancel_left _ (by omega)]
      have a2 : A % d = M % d := by
        rw [z]
        conv => lhs; rw [e]
        rw [Int.mul_emod_right]
      rw [a1, a2]
  · rw [if_neg (by unfold hiW; omega)]
    rw [if_neg c] at hM
    rw [hM]
theorem int_yes (n : Int) (h : i64b n) : G.wide_Int.f (hiW n) (loW n) = some (n, true) := by
  unfold i64b at h
  have e : wrap64 (loW n) = n := by unfold wrap64 loW; omega
  unfold G.wide_Int.f
  rw [e, of_eq n h, Option.bind_some, if_neg (by simp)]
theorem int_no (n : Int) (h : ¬ i64b n) (hn : i128 n) : G.wide_Int.f (hiW n) (loW n) = some (0, false) := by
  unfold i64b at h
  unfold i128 at hn
  have e : i64b (wrap64 (loW n)) := by unfold i64b wrap64 loW; omega
  unfold G.wide_Int.f
  rw [of_eq _ e, Option.bind_some, if_pos]
  dsimp only
  have ne : hiW (wrap64 (loW n)) ≠ hiW n := by unfold hiW wrap64 loW; omega
  simp [ne]
theorem divR_eq (A d : Int) (h : i127 A) (hd : i64b d) : G.relievoref01_Div.f (hiW A) (loW A) d = some (if d < 1 then (0, 0, 0, false) else (hiW (A / d), loW (A / d), A % d, true)) := by
  have h' := h
  unfold i127 at h'
  unfold i64b at hd
  have eA : hiW A * 18446744073709551616 + loW A = A := by unfold hiW loW; omega
  unfold G.relievoref01_Div.f
  rw [if_pos ⟨by unfold hiW; omega, by unfold loW; omega, hd⟩, eA]
  by_cases c : d < 1
  · rw [if_pos c, if_pos c]
  · rw [if_neg c, if_neg c]
    have q : -170141183460469231731687303715884105728 ≤ A / d ∧ A / d ≤ 170141183460469231731687303715884105727 := by
      constructor
      · apply Int.le_ediv_of_mul_le (by omega)
        have := Int.mul_le_mul_of_nonneg_left (show 1 ≤ d by omega) (show (0 : Int) ≤ 170141183460469231731687303715884105728 by decide)
        omega
      · apply Int.ediv_le_of_le_mul (by omega)
        have := Int.mul_le_mul_of_nonneg_left (show 1 ≤ d by omega) (show (0 : Int) ≤ 170141183460469231731687303715884105727 by decide)
        omega
    have w : G.wideV (A / d) = (hiW (A / d), loW (A / d), true) := by unfold G.wideV; rw [if_pos q]; rfl
    rw [w]
end Go.Proofs.Ytfmbophennepdaa.M

namespace Go.Proofs.Ytfmbophennepdaa.M
open Go.RowKit Go.Proofs.VecMath Go.Proofs.YtfmbophennepdaaW.PrintWords Go.Proofs.YtfmbophennepdaaW.PrintMore
set_option linter.unusedVariables false
theorem refWithin_eq (x y z m : Int) (h0 : 0 ≤ m) (h1 : m ≤ 4611686018427387904) : G.relievoref00_Within.f x y z m = some (decide ((⟨x, y, z⟩ : Vec).in_ m)) := by
  unfold G.relievoref00_Within.f
  rw [w64 (by omega)]
  unfold Vec.in_
  dsimp only
  by_cases h : (-m ≤ x ∧ x ≤ m) ∧ (-m ≤ y ∧ y ≤ m) ∧ (-m ≤ z ∧ z ≤ m)
  · rw [decide_eq_true h]
    obtain ⟨⟨a, b⟩, ⟨c, d⟩, e, f⟩ := h
    repeat' split
    all_goals first | omega | (simp only [Option.some.injEq, decide_eq_true_eq]; omega)
  · rw [decide_eq_false h]
    repeat' split
    all_goals first | rfl | (simp only [Option.some.injEq, decide_eq_false_iff_not]; omega)
theorem refLine_eq (o d : Vec) : G.relievoref03_Line.f o.x o.y o.z d.x d.y d.z = some (lineB o d) := by
  rw [← line_eq]
  unfold G.relievoref03_Line.f G.side_line.f
  rw [within_eq _ _ _ _ (by decide) (by decide), within_eq _ _ _ _ (by decide) (by decide), refWithin_eq _ _ _ _ (by decide) (by decide), refWithin_eq _ _ _ _ (by decide) (by decide)]
theorem refSub_eq {x y z x1 y1 z1 m n : Int} (ha : (⟨x, y, z⟩ : Vec).in_ m) (hb : (⟨x1, y1, z1⟩ : Vec).in_ n) (h : m + n ≤ 9223372036854775807) : G.relievoref02_Sub.f x y z x1 y1 z1 = some (x - x1, y - y1, z - z1) := sub_eq ha hb h
theorem refCross_eq {x y z x1 y1 z1 m n : Int} (ha : (⟨x, y, z⟩ : Vec).in_ m) (hb : (⟨x1, y1, z1⟩ : Vec).in_ n) (h : m * n ≤ 4611686018427387903) :
    G.relievoref02_Cross.f x y z x1 y1 z1 = some (y * z1 - z * y1, z * x1 - x * z1, x * y1 - y * x1) := cross_eq ha hb h
theorem refDot_eq {x y z x1 y1 z1 m n : Int} (ha : (⟨x, y, z⟩ : Vec).in_ m) (hb : (⟨x1, y1, z1⟩ : Vec).in_ n) (h : m * n ≤ 3074457345618258602) :
    G.relievoref02_Dot.f x y z x1 y1 z1 = some (x * x1 + y * y1 + z * z1) := dot_eq ha hb h
theorem sign_eq (n : Int) : G.relievoref03_sign.f n = some (sg n) := by
  unfold G.relievoref03_sign.f sg
  split
  · rfl
  · split <;> rfl
theorem refPass_eq (k : Nat) (o d a b : Vec) (ho : o.in_ 65536) (hd : d.in_ 32768) (ha : a.in_ 65536) (hb : b.in_ 65536) :
    G.relievoref03_pass.f (k + 1) o.x o.y o.z d.x d.y d.z a.x a.y a.z b.x b.y b.z = some (pS o d a b) := by
  have ea := in_sub ha ho
  have eb := in_sub hb ho
  have eab := in_sub ha hb
  have ec := in_cross ea eb
  unfold G.relievoref03_pass.f
  rw [refSub_eq ha ho (by decide), Option.bind_some, refSub_eq hb ho (by decide), Option.bind_some]
  dsimp only
  rw [refCross_eq ea eb (by decide), Option.bind_some]
  dsimp only
  rw [refDot_eq hd ec (by decide), Option.bind_some, sign_eq, Option.bind_some, refSub_eq ha hb (by decide), Option.bind_some]
  dsimp only
  rw [refCross_eq eab hd (by decide), Option.bind_some]
  dsimp only
  show (if sg (V0 o d a b) = 0 then (G.relievoref03_sign.f (Cx d a b)).bind fun t => G.relievoref03_pass.j0 (k + 1) t (Cx d a b) (Cy d a b) (Cz d a b) else G.relievoref03_pass.j0 (k + 1) (sg (V0 o d a b)) (Cx d a b) (Cy d a b) (Cz d a b)) = some (pS o d a b)
  unfold pS lex4
  by_cases v : sg (V0 o d a b) = 0
  · rw [if_pos v, if_pos v, sign_eq, Option.bind_some, G.relievoref03_pass.j0]
    by_cases x : sg (Cx d a b) = 0
    · rw [if_pos x, if_pos x, sign_eq, Option.bind_some]
      by_cases y : sg (Cy d a b) = 0
      · rw [if_pos y, if_pos y, sign_eq]
        rfl
      · rw [if_neg y, if_neg y]
    · rw [if_neg x, if_neg x]
  · rw [if_neg v, if_neg v, G.relievoref03_pass.j0, if_neg v]
def sideS (o d a b : Vec) : Int × Int := if lineB o d && (decide (a.in_ 65536) && decide (b.in_ 65536)) then (pS o d a b, 0) else (0, 21)
theorem side_eq (k : Nat) (o d a b : Vec) : G.side_Side.f (k + 5) o.x o.y o.z d.x d.y d.z a.x a.y a.z b.x b.y b.z = some (sideS o d a b) := by
  unfold G.side_Side.f sideS
  rw [line_eq, within_eq _ _ _ _ (by decide) (by decide), within_eq _ _ _ _ (by decide) (by decide)]
  simp only [Option.bind_some]
  cases h1 : lineB o d
  · simp
  by_cases ha : a.in_ 65536
  case neg => rw [decide_eq_false ha]; simp
  by_cases hb : b.in_ 65536
  case neg => rw [decide_eq_true ha, decide_eq_false hb]; simp
  rw [decide_eq_true ha, decide_eq_true hb]
  have h2 := h1
  unfold lineB at h2
  simp only [Bool.and_eq_true, decide_eq_true_eq] at h2
  obtain ⟨ho, hd, _⟩ := h2
  simp only [if_true, Bool.and_self]
  rw [pass_eq k o d a b ho hd ha hb]
  rfl
theorem refSide_eq (k : Nat) (o d a b : Vec) : G.relievoref03_Side.f (k + 5) o.x o.y o.z d.x d.y d.z a.x a.y a.z b.x b.y b.z = some (sideS o d a b) := by
  unfold G.relievoref03_Side.f sideS
  rw [refLine_eq, refWithin_eq _ _ _ _ (by decide) (by decide), refWithin_eq _ _ _ _ (by decide) (by decide)]
  simp only [Option.bind_some]
  cases h1 : lineB o d
  · simp
  by_cases ha : a.in_ 65536
  case neg => rw [decide_eq_false ha]; simp
  by_cases hb : b.in_ 65536
  case neg => rw [decide_eq_true ha, decide_eq_false hb]; simp
  rw [decide_eq_true ha, decide_eq_true hb]
  have h2 := h1
  unfold lineB at h2
  simp only [Bool.and_eq_true, decide_eq_true_eq] at h2
  obtain ⟨ho, hd, _⟩ := h2
  simp only [if_true, Bool.and_self]
  rw [refPass_eq (k + 4) o d a b ho hd ha hb]
  rfl
theorem refNormal_eq (a0 a1 a2 b0 b1 b2 c0 c1 c2 : Int) : G.relievoref03_Normal.f a0 a1 a2 b0 b1 b2 c0 c1 c2 = G.side_Normal.f a0 a1 a2 b0 b1 b2 c0 c1 c2 := rfl
theorem normal_some (a0 a1 a2 b0 b1 b2 c0 c1 c2 : Int) : ∃ x y z, G.side_Normal.f a0 a1 a2 b0 b1 b2 c0 c1 c2 = some (x, y, z) := ⟨_, _, _, rfl⟩
theorem refMeet_eq (k : Nat) (o d a b c : Vec) :
    G.relievoref03_Meet.f (k + 20) o.x o.y o.z d.x d.y d.z a.x a.y a.z b.x b.y b.z c.x c.y c.z = some (meetS o d a b c) := by
  unfold G.relievoref03_Meet.f meetS okB
  rw [refLine_eq, refWithin_eq _ _ _ _ (by decide) (by decide), refWithin_eq _ _ _ _ (by decide) (by decide), refWithin_eq _ _ _ _ (by decide) (by decide)]
  simp only [Option.bind_some]
  cases h1 : lineB o d
  · simp [G.relievoref03_Meet.j0]
  by_cases ha : a.in_ 65536
  case neg => rw [decide_eq_false ha]; simp [G.relievoref03_Meet.j0]
  by_cases hb : b.in_ 65536
  case neg => rw [decide_eq_true ha, decide_eq_false hb]; simp [G.relievoref03_Meet.j0]
  by_cases hc : c.in_ 65536
  case neg => rw [decide_eq_true ha, decide_eq_true hb, decide_eq_false hc]; simp [G.relievoref03_Meet.j0]
  rw [decide_eq_true ha, decide_eq_true hb, decide_eq_true hc]
  have h2 := h1
  unfold lineB at h2
  simp only [Bool.and_eq_true, decide_eq_true_eq] at h2
  obtain ⟨ho, hd, _⟩ := h2
  simp only [if_true, Bool.and_self, Bool.not_true]
  rw [G.relievoref03_Meet.j0, if_neg (by decide), refPass_eq (k + 18) o d a b ho hd ha hb, Option.bind_some]
  by_cases s0 : pS o d a b = 0
  · rw [if_pos s0, G.relievoref03_Meet.j1, if_pos rfl, if_neg (by simp [s0])]
  rw [if_neg s0, refPass_eq (k + 18) o d b c ho hd hb hc, Option.bind_some]
  by_cases s1 : pS o d b c = pS o d a b
  case neg => rw [if_neg s1, G.relievoref03_Meet.j1, if_pos rfl, if_neg (by simp [s1])]
  rw [if_pos s1, refPass_eq (k + 18) o d c a ho hd hc ha, Option.bind_some, G.relievoref03_Meet.j1]
  by_cases s2 : pS o d c a = pS o d a b
  case neg => rw [if_pos (by simpa using s2), if_neg (by simp [s2])]
  rw [if_neg (by simp [s2]), if_pos ⟨s0, s1, s2⟩, refNormal_eq, normal_eq a b c ha hb hc, Option.bind_some, refSub_eq ha ho (by decide), Option.bind_some]
  dsimp only
  have hn := normal_in a b c ha hb hc
  have eN := num_in o a b c ho ha hb hc
  have eD := den_in d a b c hd ha hb hc
  rw [refDot_eq hn (in_sub ha ho) (by decide), Option.bind_some, refDot_eq hn hd (by decide), Option.bind_some]
  show (if den d a b c = 0 then _ else _) = _
  by_cases d0 : den d a b c = 0
  · rw [if_pos d0, if_pos d0]
  rw [if_neg d0, if_neg d0]
  show (if den d a b c < 0 then _ else _) = _
  by_cases d1 : den d a b c < 0
  · rw [if_pos d1, if_pos d1]
    show some (wrap64 (-num o a b c), wrap64 (-den d a b c), _, _) = _
    rw [w64 (by omega), w64 (by omega)]
  · rw [if_neg d1, if_neg d1]
    rfl
/-- The greatest whole number that is no more than o + n: none, if it isn't within bounds. -/
def floorS (o q : Int) : Option Int := if (-2199023255552 ≤ q ∧ q ≤ 2199023255552) ∧ (-1099511627776 ≤ q + o ∧ q + o ≤ 1099511627776) then some (q + o) else none
theorem mulR_eq (a b : Int) (ha : i64b a) (hb : i64b b) : G.relievoref01_Mul.f a b = some (hiW (a * b), loW (a * b)) := if_pos ⟨ha, hb⟩
theorem intB (n : Int) (h : i128 n) : ∃ v b, G.wide_Int.f (hiW n) (loW n) = some (v, b) ∧ G.relievoref01_Int.f (hiW n) (loW n) = some (v, b) ∧ (b = true → v = n ∧ i64b n) ∧ (b = false → ¬ i64b n) := by
  have h' := h
  unfold i128 at h'
  have en : hiW n * 18446744073709551616 + loW n = n := by unfold hiW loW; omega
  have hr : (-9223372036854775808 ≤ hiW n ∧ hiW n ≤ 9223372036854775807) ∧ (0 ≤ loW n ∧ loW n < 18446744073709551616) := by unfold hiW loW; omega
  by_cases y : i64b n
  · refine ⟨n, true, int_yes n y, ?_, fun _ => ⟨rfl, y⟩, fun e => by cases e⟩
    unfold G.relievoref01_Int.f
    have y' := y
    unfold i64b at y'
    rw [if_pos hr, en, if_pos y']
  · refine ⟨0, false, int_no n y h, ?_, fun e => (by cases e), fun _ => y⟩
    unfold G.relievoref01_Int.f
    have y' := y
    unfold i64b at y'
    rw [if_pos hr, en, if_neg y']
theorem floor_both (k : Nat) (o d n q : Int) (ho : -65536 ≤ o ∧ o ≤ 65536) (hd : i64b d) (hn : i64b n) (hq : 1 ≤ q ∧ q ≤ 9223372036854775807) :
    ∃ v u b, G.side_floor.f (k + 11) o d n q = some (v, b) ∧ G.relievoref03_floor.f o d n q = some (u, b) ∧ (b = true → v = u) := by
  have hp := prod_in hd hn
  have h7 : i127 (d * n) := by unfold i127; omega
  have iq : i64b q := by unfold i64b; omega
  have qb : i128 (d * n / q) := by
    unfold i128
    constructor
    · apply Int.le_ediv_of_mul_le (by omega)
      have := Int.mul_le_mul_of_nonneg_left (show 1 ≤ q by omega) (show (0 : Int) ≤ 170141183460469231731687303715884105728 by decide)
      omega
    · apply Int.ediv_le_of_le_mul (by omega)
      have := Int.mul_le_mul_of_nonneg_left (show 1 ≤ q by omega) (show (0 : Int) ≤ 170141183460469231731687303715884105727 by decide)
      omega
  have eD := div_eq k (d * n) q h7 hq
  have eR := divR_eq (d * n) q h7 iq
  rw [if_neg (by omega)] at eR
  unfold G.side_floor.f G.relievoref03_floor.f
  rw [mulW_eq d n hd hn, mulR_eq d n hd hn, Option.bind_some, Option.bind_some]
  dsimp only
  rw [eD, eR, Option.bind_some, Option.bind_some]
  dsimp only
  generalize d * n / q = m at *
  obtain ⟨x, b, e1, e2, t, f⟩ := intB m qb
  rw [e1, e2, Option.bind_some, Option.bind_some]
  dsimp only
  rw [if_pos rfl, if_pos rfl]
  clear e1 e2 eD eR hp h7
  cases b
  · exact ⟨0, 0, false, rfl, rfl, fun e => by cases e⟩
  obtain ⟨rfl, hx⟩ := t rfl
  unfold i64b at hx
  rw [if_pos rfl, if_pos rfl]
  clear t f qb hd hn hq iq
  by_cases l : x < -2199023255552
  · rw [if_pos l, if_pos l, ite_self]
    exact ⟨0, 0, false, rfl, rfl, fun e => by cases e⟩
  by_cases g : x > 2199023255552
  · have gm : mx x (wrap64 (-x)) > 2199023255552 := by unfold mx wrap64; split <;> omega
    rw [if_pos gm, if_neg l, if_pos g]
    exact ⟨0, 0, false, rfl, rfl, fun e => by cases e⟩
  have gm : ¬ mx x (wrap64 (-x)) > 2199023255552 := by unfold mx wrap64; split <;> omega
  rw [if_neg gm, if_neg l, if_neg l, if_neg g, w64 (n := o + x) (by omega), w64 (n := x + o) (by omega), w64 (n := -o) (by omega), w64 (n := -o - x) (by omega)]
  by_cases c1 : x + o < -1099511627776
  · rw [if_pos c1, decide_eq_false (by unfold mx; split <;> omega)]
    exact ⟨_, 0, false, rfl, rfl, fun e => by cases e⟩
  by_cases c2 : x + o > 1099511627776
  · rw [if_neg c1, if_pos c2, decide_eq_false (by unfold mx; split <;> omega)]
    exact ⟨_, 0, false, rfl, rfl, fun e => by cases e⟩
  rw [if_neg c1, if_neg c2, decide_eq_true (by unfold mx; split <;> omega)]
  exact ⟨_, _, true, rfl, rfl, fun _ => by omega⟩
theorem at_both (k : Nat) (o d : Vec) (n q : Int) (hn : i64b n) (hq : i64b q) :
    ∃ r, G.side_At.f (k + 12) o.x o.y o.z d.x d.y d.z n q = some r ∧ G.relievoref03_At.f (k + 12) o.x o.y o.z d.x d.y d.z n q = some r := by
  unfold G.side_At.f G.relievoref03_At.f
  rw [line_eq, refLine_eq, Option.bind_some, Option.bind_some]
  cases h1 : lineB o d
  · rw [if_neg (by decide), if_neg (by decide), G.side_At.j0, G.relievoref03_At.j0, if_pos rfl, if_pos rfl]
    exact ⟨_, rfl, rfl⟩
  rw [if_pos rfl, if_pos rfl, G.side_At.j0, G.relievoref03_At.j0]
  by_cases c : q < 1
  · rw [decide_eq_true c, if_pos rfl, if_pos rfl]
    exact ⟨_, rfl, rfl⟩
  rw [decide_eq_false c, if_neg (by decide), if_neg (by decide)]
  unfold lineB at h1
  simp only [Bool.and_eq_true, decide_eq_true_eq] at h1
  obtain ⟨ho, hd, _⟩ := h1
  unfold Vec.in_ at ho hd
  unfold i64b at hq
  obtain ⟨v1, u1, b1, e1, f1, g1⟩ := floor_both k o.x d.x n q ho.1 (by unfold i64b; omega) hn (by omega)
  obtain ⟨v2, u2, b2, e2, f2, g2⟩ := floor_both k o.y d.y n q ho.2.1 (by unfold i64b; omega) hn (by omega)
  obtain ⟨v3, u3, b3, e3, f3, g3⟩ := floor_both k o.z d.z n q ho.2.2 (by unfold i64b; omega) hn (by omega)
  rw [e1, e2, e3, f1, f2, f3]
  simp only [Option.bind_some]
  cases b1
  · exact ⟨_, rfl, rfl⟩
  cases b2
  · exact ⟨_, rfl, rfl⟩
  cases b3
  · exact ⟨_, rfl, rfl⟩
  rw [g1 rfl, g2 rfl, g3 rfl]
  exact ⟨_, rfl, rfl⟩
end Go.Proofs.Ytfmbophennepdaa.M

namespace Go.Proofs.Ytfmbophennepdaa.Pure
open Go.RowKit Go.Proofs.VecMath Go.Proofs.Ytfmbophennepdaa.M
theorem SideMeets (a0_0 a0_1 a0_2 a1_0 a1_1 a1_2 a2_0 a2_1 a2_2 a2_3 a2_4 a2_5 a2_6 a2_7 a2_8 a3_0 a3_1 : Int) (_b0_0 : -9223372036854775808 ≤ a0_0 ∧ a0_0 ≤ 9223372036854775807) (_b0_1 : -9223372036854775808 ≤ a0_1 ∧ a0_1 ≤ 9223372036854775807) (_b0_2 : -9223372036854775808 ≤ a0_2 ∧ a0_2 ≤ 9223372036854775807) (_b1_0 : -9223372036854775808 ≤ a1_0 ∧ a1_0 ≤ 9223372036854775807) (_b1_1 : -9223372036854775808 ≤ a1_1 ∧ a1_1 ≤ 9223372036854775807) (_b1_2 : -9223372036854775808 ≤ a1_2 ∧ a1_2 ≤ 9223372036854775807) (_b2_0 : -9223372036854775808 ≤ a2_0 ∧ a2_0 ≤ 9223372036854775807) (_b2_1 : -9223372036854775808 ≤ a2_1 ∧ a2_1 ≤ 9223372036854775807) (_b2_2 : -9223372036854775808 ≤ a2_2 ∧ a2_2 ≤ 9223372036854775807) (_b2_3 : -9223372036854775808 ≤ a2_3 ∧ a2_3 ≤ 9223372036854775807) (_b2_4 : -9223372036854775808 ≤ a2_4 ∧ a2_4 ≤ 9223372036854775807) (_b2_5 : -9223372036854775808 ≤ a2_5 ∧ a2_5 ≤ 9223372036854775807) (_b2_6 : -9223372036854775808 ≤ a2_6 ∧ a2_6 ≤ 9223372036854775807) (_b2_7 : -9223372036854775808 ≤ a2_7 ∧ a2_7 ≤ 9223372036854775807) (_b2_8 : -9223372036854775808 ≤ a2_8 ∧ a2_8 ≤ 9223372036854775807) (b3_0 : -9223372036854775808 ≤ a3_0 ∧ a3_0 ≤ 9223372036854775807) (b3_1 : -9223372036854775808 ≤ a3_1 ∧ a3_1 ≤ 9223372036854775807) :
    ∃ k, G.relievolaw03_SideMeets.f k a0_0 a0_1 a0_2 a1_0 a1_1 a1_2 a2_0 a2_1 a2_2 a2_3 a2_4 a2_5 a2_6 a2_7 a2_8 a3_0 a3_1 = some true := by
  refine ⟨40, ?_⟩
  obtain ⟨o, ho⟩ : ∃ o : Vec, o = ⟨a0_0, a0_1, a0_2⟩ := ⟨_, rfl⟩
  obtain ⟨d, hd⟩ : ∃ o : Vec, o = ⟨a1_0, a1_1, a1_2⟩ := ⟨_, rfl⟩
  obtain ⟨a, ha⟩ : ∃ o : Vec, o = ⟨a2_0, a2_1, a2_2⟩ := ⟨_, rfl⟩
  obtain ⟨b, hb⟩ : ∃ o : Vec, o = ⟨a2_3, a2_4, a2_5⟩ := ⟨_, rfl⟩
  obtain ⟨c, hc⟩ : ∃ o : Vec, o = ⟨a2_6, a2_7, a2_8⟩ := ⟨_, rfl⟩
  have m1 := meet_eq 20 o d a b c
  have m2 := refMeet_eq 20 o d a b c
  have s1 := side_eq 35 o d a b
  have s2 := refSide_eq 35 o d a b
  obtain ⟨r, e1, e2⟩ := at_both 28 o d a3_0 a3_1 b3_0 b3_1
  obtain ⟨x, y, z, n1⟩ := normal_some a2_0 a2_1 a2_2 a2_3 a2_4 a2_5 a2_6 a2_7 a2_8
  have n2 := refNormal_eq a2_0 a2_1 a2_2 a2_3 a2_4 a2_5 a2_6 a2_7 a2_8
  rw [n1] at n2
  have al := alive_eq
  have up : ∀ j, G.relievolaw03_alive.f (20 + j) = some true := fun j => by
    induction j with
    | zero => exact al
    | succ j ih => exact G.relievolaw03_alive.mono (20 + j) _ ih
  have al1 := up 20
  unfold G.relievolaw03_SideMeets.f
  simp only [ho, hd, ha, hb, hc] at m1 m2 s1 s2 e1 e2
  rw [← ho, ← hd, ← ha, ← hb, ← hc] at *
  rw [al1, s1, s2, m1, m2, e1, e2, n1, n2]
  simp only [Option.bind_some, if_true, beq_self_eq_true, Bool.and_self]
end Go.Proofs.Ytfmbophennepdaa.Pure
