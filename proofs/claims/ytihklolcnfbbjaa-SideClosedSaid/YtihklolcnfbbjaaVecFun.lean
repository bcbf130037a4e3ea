/- What the Go texts of packages vec and side come to, in plain numbers: for every input within an int's bounds. -/
import Derived.Test.YtihklolcnfbbjaaGx16
import Derived.Test.YtihklolcnfbbjaaBaseFun
namespace Go.Proofs.Ytihklolcnfbbjaa.M
open Go.RowKit Go.Proofs.VecMath Go.Proofs.YtihklolcnfbbjaaW.PrintWords
set_option linter.unusedVariables false

def lineB (o d : Vec) : Bool := decide (o.in_ 65536) && (decide (d.in_ 32768) && !decide d.zero)

theorem line_eq (o d : Vec) : G.side_line.f o.x o.y o.z d.x d.y d.z = some (lineB o d) := by
  unfold G.side_line.f lineB
  rw [within_eq _ _ _ _ (by decide) (by decide), within_eq _ _ _ _ (by decide) (by decide)]
  simp only [Option.bind_some]
  by_cases h1 : o.in_ 65536
  · rw [decide_eq_true h1]
    by_cases h2 : d.in_ 32768
    · rw [decide_eq_true h2]
      simp only [if_true, Bool.true_and, Option.some.injEq]
      by_cases h3 : d.zero
      · have := h3
        obtain ⟨a, b, c⟩ := this
        simp [a, b, c, decide_eq_true h3]
      · rw [decide_eq_false h3]
        unfold Vec.zero at h3
        simp only [Bool.not_false]
        by_cases a : d.x = 0 <;> by_cases b : d.y = 0 <;> by_cases c : d.z = 0 <;> simp_all
    · rw [decide_eq_false h2]
      simp
  · rw [decide_eq_false h1]
    simp

theorem compare_eq (a b : Int) : G.cmp_Compare_int.f a b = some (sg (a - b)) := by
  unfold G.cmp_Compare_int.f G.cmp_isNaN_int.f sg
  simp only [Option.bind_some, bne_self_eq_false, Bool.false_eq_true, if_false]
  repeat' split
  all_goals first | rfl | omega

theorem or_eq (k : Nat) (a b c d : Int) : G.cmp_Or_int.f (k + 5) [a, b, c, d] = some (if a = 0 then (if b = 0 then (if c = 0 then d else c) else b) else a) := by
  unfold G.cmp_Or_int.f
  have e1 : wrap64 (0 + 1) = 1 := by unfold wrap64; decide
  have e2 : wrap64 (1 + 1) = 2 := by unfold wrap64; decide
  have e3 : wrap64 (2 + 1) = 3 := by unfold wrap64; decide
  have e4 : wrap64 (3 + 1) = 4 := by unfold wrap64; decide
  have r0 : rd [a, b, c, d] 0 = a := rfl
  have r1 : rd [a, b, c, d] 1 = b := rfl
  have r2 : rd [a, b, c, d] 2 = c := rfl
  have r3 : rd [a, b, c, d] 3 = d := rfl
  have hl : (([a, b, c, d] : List Int).length : Int) = 4 := rfl
  rw [hl, G.cmp_Or_int.l0, if_pos (by decide), if_pos (by decide), if_pos (by simp), r0]
  by_cases ha : a = 0
  · rw [if_pos ha, if_pos ha, e1, G.cmp_Or_int.l0, if_pos (by decide), if_pos (by decide), if_pos (by simp), r1]
    by_cases hb : b = 0
    · rw [if_pos hb, if_pos hb, e2, G.cmp_Or_int.l0, if_pos (by decide), if_pos (by decide), if_pos (by simp), r2]
      by_cases hc : c = 0
      · rw [if_pos hc, if_pos hc, e3, G.cmp_Or_int.l0, if_pos (by decide), if_pos (by decide), if_pos (by simp), r3]
        by_cases hd : d = 0
        · rw [if_pos hd, e4, G.cmp_Or_int.l0, if_neg (by decide), hd]
        · rw [if_neg hd]
      · rw [if_neg hc, if_neg hc]
    · rw [if_neg hb, if_neg hb]
  · rw [if_neg ha, if_neg ha]

theorem sub_eq {x y z x1 y1 z1 m n : Int} (ha : (⟨x, y, z⟩ : Vec).in_ m) (hb : (⟨x1, y1, z1⟩ : Vec).in_ n) (h : m + n ≤ 9223372036854775807) : G.vec_Sub.f x y z x1 y1 z1 = some (x - x1, y - y1, z - z1) := by
  obtain ⟨h1, h2, h3⟩ := sub_in ha hb
  dsimp only at h1 h2 h3
  unfold G.vec_Sub.f
  rw [w64 (by omega), w64 (by omega), w64 (by omega)]

theorem cross_eq {x y z x1 y1 z1 m n : Int} (ha : (⟨x, y, z⟩ : Vec).in_ m) (hb : (⟨x1, y1, z1⟩ : Vec).in_ n) (h : m * n ≤ 4611686018427387903) :
    G.vec_Cross.f x y z x1 y1 z1 = some (y * z1 - z * y1, z * x1 - x * z1, x * y1 - y * x1) := by
  obtain ⟨a1, a2, a3⟩ := ha
  obtain ⟨b1, b2, b3⟩ := hb
  dsimp only at *
  have h1 := mulb a2 b3
  have h2 := mulb a3 b2
  have h3 := mulb a3 b1
  have h4 := mulb a1 b3
  have h5 := mulb a1 b2
  have h6 := mulb a2 b1
  unfold G.vec_Cross.f
  rw [w64 (n := y * z1) (by omega), w64 (n := z * y1) (by omega), w64 (n := z * x1) (by omega), w64 (n := x * z1) (by omega), w64 (n := x * y1) (by omega), w64 (n := y * x1) (by omega)]
  rw [w64 (by omega), w64 (by omega), w64 (by omega)]

theorem dot_eq {x y z x1 y1 z1 m n : Int} (ha : (⟨x, y, z⟩ : Vec).in_ m) (hb : (⟨x1, y1, z1⟩ : Vec).in_ n) (h : m * n ≤ 3074457345618258602) :
    G.vec_Dot.f x y z x1 y1 z1 = some (x * x1 + y * y1 + z * z1) := by
  obtain ⟨a1, a2, a3⟩ := ha
  obtain ⟨b1, b2, b3⟩ := hb
  dsimp only at *
  have h1 := mulb a1 b1
  have h2 := mulb a2 b2
  have h3 := mulb a3 b3
  unfold G.vec_Dot.f
  rw [w64 (n := x * x1) (by omega), w64 (n := y * y1) (by omega), w64 (n := z * z1) (by omega)]
  rw [w64 (n := x * x1 + y * y1) (by omega), w64 (by omega)]

theorem in_sub {x y z x1 y1 z1 m n : Int} (ha : (⟨x, y, z⟩ : Vec).in_ m) (hb : (⟨x1, y1, z1⟩ : Vec).in_ n) : (⟨x - x1, y - y1, z - z1⟩ : Vec).in_ (m + n) := sub_in ha hb
theorem in_cross {x y z x1 y1 z1 m n : Int} (ha : (⟨x, y, z⟩ : Vec).in_ m) (hb : (⟨x1, y1, z1⟩ : Vec).in_ n) : (⟨y * z1 - z * y1, z * x1 - x * z1, x * y1 - y * x1⟩ : Vec).in_ (2 * (m * n)) := by
  obtain ⟨a1, a2, a3⟩ := ha
  obtain ⟨b1, b2, b3⟩ := hb
  dsimp only at *
  have h1 := mulb a2 b3
  have h2 := mulb a3 b2
  have h3 := mulb a3 b1
  have h4 := mulb a1 b3
  have h5 := mulb a1 b2
  have h6 := mulb a2 b1
  unfold Vec.in_
  dsimp only
  omega

theorem pass_eq (k : Nat) (o d a b : Vec) (ho : o.in_ 65536) (hd : d.in_ 32768) (ha : a.in_ 65536) (hb : b.in_ 65536) :
    G.side_pass.f (k + 5) o.x o.y o.z d.x d.y d.z a.x a.y a.z b.x b.y b.z = some (pS o d a b) := by
  have ea := in_sub ha ho
  have eb := in_sub hb ho
  have eab := in_sub ha hb
  have ec := in_cross ea eb
  unfold G.side_pass.f
  rw [sub_eq ha ho (by decide), Option.bind_some, sub_eq hb ho (by decide), Option.bind_some]
  dsimp only
  rw [cross_eq ea eb (by decide), Option.bind_some]
  dsimp only
  rw [dot_eq hd ec (by decide), Option.bind_some, compare_eq, Option.bind_some, sub_eq ha hb (by decide), Option.bind_some]
  dsimp only
  rw [cross_eq eab hd (by decide), Option.bind_some]
  dsimp only
  rw [compare_eq, Option.bind_some, compare_eq, Option.bind_some, compare_eq, Option.bind_some, or_eq, Option.bind_some]
  simp only [Int.sub_zero]
  rfl

/-- What Meet comes to. -/
def okB (o d a b c : Vec) : Bool := lineB o d && (decide (a.in_ 65536) && (decide (b.in_ 65536) && decide (c.in_ 65536)))
def meetS (o d a b c : Vec) : Int × Int × Bool × Int × Int × Bool × Int :=
  if okB o d a b c = true then
    (if pS o d a b ≠ 0 ∧ pS o d b c = pS o d a b ∧ pS o d c a = pS o d a b then
      (if den d a b c = 0 then (0, 0, false, 0, 0, false, 0) else if den d a b c < 0 then (-num o a b c, -den d a b c, decide (pS o d a b < 0), 0, 0, true, 0) else (num o a b c, den d a b c, decide (pS o d a b < 0), 0, 0, true, 0))
    else (0, 0, false, 0, 0, false, 0))
  else (0, 0, false, 0, 0, false, 21)

theorem normal_eq (a b c : Vec) (ha : a.in_ 65536) (hb : b.in_ 65536) (hc : c.in_ 65536) :
    G.side_Normal.f a.x a.y a.z b.x b.y b.z c.x c.y c.z = some (NX a b c, NY a b c, NZ a b c) := by
  unfold G.side_Normal.f
  rw [sub_eq hb ha (by decide), Option.bind_some, sub_eq hc ha (by decide), Option.bind_some]
  dsimp only
  rw [cross_eq (in_sub hb ha) (in_sub hc ha) (by decide), Option.bind_some]
  rfl

theorem normal_in (a b c : Vec) (ha : a.in_ 65536) (hb : b.in_ 65536) (hc : c.in_ 65536) : (⟨NX a b c, NY a b c, NZ a b c⟩ : Vec).in_ 34359738368 := in_cross (in_sub hb ha) (in_sub hc ha)

theorem num_in (o a b c : Vec) (ho : o.in_ 65536) (ha : a.in_ 65536) (hb : b.in_ 65536) (hc : c.in_ 65536) : -13510798882111488 ≤ num o a b c ∧ num o a b c ≤ 13510798882111488 := by
  obtain ⟨n1, n2, n3⟩ := normal_in a b c ha hb hc
  obtain ⟨s1, s2, s3⟩ := sub_in ha ho
  dsimp only at *
  have h1 := mulb n1 s1
  have h2 := mulb n2 s2
  have h3 := mulb n3 s3
  unfold num
  omega
theorem den_in (d a b c : Vec) (hd : d.in_ 32768) (ha : a.in_ 65536) (hb : b.in_ 65536) (hc : c.in_ 65536) : -3377699720527872 ≤ den d a b c ∧ den d a b c ≤ 3377699720527872 := by
  obtain ⟨n1, n2, n3⟩ := normal_in a b c ha hb hc
  obtain ⟨s1, s2, s3⟩ := hd
  dsimp only at *
  have h1 := mulb n1 s1
  have h2 := mulb n2 s2
  have h3 := mulb n3 s3
  unfold den
  omega

theorem meet_eq (k : Nat) (o d a b c : Vec) :
    G.side_Meet.f (k + 20) o.x o.y o.z d.x d.y d.z a.x a.y a.z b.x b.y b.z c.x c.y c.z = some (meetS o d a b c) := by
  unfold G.side_Meet.f meetS okB
  rw [line_eq, within_eq _ _ _ _ (by decide) (by decide), within_eq _ _ _ _ (by decide) (by decide), within_eq _ _ _ _ (by decide) (by decide)]
  simp only [Option.bind_some]
  cases h1 : lineB o d
  · simp [G.side_Meet.j0]
  by_cases ha : a.in_ 65536
  case neg => rw [decide_eq_false ha]; simp [G.side_Meet.j0]
  by_cases hb : b.in_ 65536
  case neg => rw [decide_eq_true ha, decide_eq_false hb]; simp [G.side_Meet.j0]
  by_cases hc : c.in_ 65536
  case neg => rw [decide_eq_true ha, decide_eq_true hb, decide_eq_false hc]; simp [G.side_Meet.j0]
  rw [decide_eq_true ha, decide_eq_true hb, decide_eq_true hc]
  have h2 := h1
  unfold lineB at h2
  simp only [Bool.and_eq_true, decide_eq_true_eq] at h2
  obtain ⟨ho, hd, _⟩ := h2
  simp only [if_true, Bool.and_self]
  rw [G.side_Meet.j0, if_pos rfl, pass_eq _ o d a b ho hd ha hb, Option.bind_some]
  by_cases s0 : pS o d a b = 0
  · rw [if_pos s0, G.side_Meet.j1, if_pos rfl, if_neg (by simp [s0])]
  rw [if_neg s0, Option.bind_some]
  rw [bne_self_eq_false, G.side_Meet.j1, if_neg (by decide), G.side_Meet.j2, if_neg s0, pass_eq (k + 12) o d b c ho hd hb hc, Option.bind_some, G.side_Meet.j3]
  by_cases s1 : pS o d b c = pS o d a b
  case neg => rw [if_pos (by simpa using s1), if_neg (by simp [s1])]
  rw [if_neg (by simp [s1]), G.side_Meet.j4, if_neg s0, pass_eq (k + 10) o d c a ho hd hc ha, Option.bind_some, G.side_Meet.j5]
  by_cases s2 : pS o d c a = pS o d a b
  case neg => rw [if_pos (by simpa using s2), if_neg (by simp [s2])]
  rw [if_neg (by simp [s2]), if_pos ⟨s0, s1, s2⟩, G.side_Meet.j6, G.side_Meet.j7, normal_eq a b c ha hb hc, Option.bind_some, sub_eq ha ho (by decide), Option.bind_some]
  dsimp only
  have hn := normal_in a b c ha hb hc
  have eN := num_in o a b c ho ha hb hc
  have eD := den_in d a b c hd ha hb hc
  rw [dot_eq hn (in_sub ha ho) (by decide), Option.bind_some, dot_eq hn hd (by decide), Option.bind_some]
  show (if den d a b c = 0 then _ else _) = _
  by_cases d0 : den d a b c = 0
  · rw [if_pos d0, if_pos d0]
  rw [if_neg d0, if_neg d0]
  show (if den d a b c < 0 then _ else _) = _
  by_cases d1 : den d a b c < 0
  · rw [if_pos d1, if_pos d1]
    show G.side_Meet.j8 _ _ (wrap64 (-num o a b c)) (wrap64 (-den d a b c)) = _
    rw [w64 (by omega), w64 (by omega), G.side_Meet.j8]
  · rw [if_neg d1, if_neg d1]
    show G.side_Meet.j8 _ _ (num o a b c) (den d a b c) = _
    rw [G.side_Meet.j8]

theorem alive_eq : G.relievolaw03_alive.f 20 = some true := by
  unfold G.relievolaw03_alive.f
  have h1 := meet_eq 0 ⟨1, 1, -5⟩ ⟨0, 0, 1⟩ ⟨0, 0, 0⟩ ⟨9, 0, 0⟩ ⟨0, 9, 0⟩
  have h2 := meet_eq 0 ⟨0, 0, 0⟩ ⟨0, 0, 0⟩ ⟨0, 0, 0⟩ ⟨0, 0, 0⟩ ⟨0, 0, 0⟩
  have e1 : meetS ⟨1, 1, -5⟩ ⟨0, 0, 1⟩ ⟨0, 0, 0⟩ ⟨9, 0, 0⟩ ⟨0, 9, 0⟩ = (405, 81, false, 0, 0, true, 0) := by decide +kernel
  have e2 : meetS ⟨0, 0, 0⟩ ⟨0, 0, 0⟩ ⟨0, 0, 0⟩ ⟨0, 0, 0⟩ ⟨0, 0, 0⟩ = (0, 0, false, 0, 0, false, 21) := by decide +kernel
  dsimp only at h1 h2
  rw [Nat.zero_add] at h1 h2
  rw [h1, h2, e1, e2]
  rfl
end Go.Proofs.Ytihklolcnfbbjaa.M
