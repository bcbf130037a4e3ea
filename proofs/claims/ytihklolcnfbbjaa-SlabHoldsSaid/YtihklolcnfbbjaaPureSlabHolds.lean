/- Plain laws, put together. -/
import Derived.WideShapes
import Derived.Below
import Derived.Test.YtihklolcnfbbjaaGx5
import Derived.Test.YtihklolcnfbbjaaGx16
import Derived.Laws.MathBits
import Derived.Test.YtihklolcnfbbjaaGx51
import Derived.Test.YtihklolcnfbbjaaGx53
import Derived.Test.YtihklolcnfbbjaaGx54
import Derived.Test.YtihklolcnfbbjaaGx67
import Derived.Test.YtihklolcnfbbjaaGx65
import Derived.Test.YtihklolcnfbbjaaGx70
namespace Go.Proofs.FlatOpen

/-- Each number is of its kind. -/
def HasAll : List IntKind → List Int → Prop
  | k :: ks, x :: xs => k.has x ∧ HasAll ks xs
  | [], [] => True
  | _, _ => False

theorem cell_int {P : Program} {w : World} {r : Reach} {base : Nat} {u : TypeId} {v : Value} {k : IntKind} (hu : P.underlying u = some (.int k)) (h : Cell.okWide P w r base u v) : ∃ x, v = .int k x ∧ k.has x := by
  unfold Cell.okWide at h
  rw [hu] at h
  cases v <;> simp [Cell.ok, hu] at h
  obtain ⟨rfl, h2⟩ := h
  exact ⟨_, rfl, h2⟩

theorem row_ints {P : Program} {w : World} {r : Reach} {base : Nat} : ∀ (ts : List TypeId) (ks : List IntKind) (cs : List Value), ts.map P.underlying = ks.map (fun k => some (TypeDesc.int k)) → cs.length = ts.length →
    (∀ (i : Nat) (v : Value), cs[i]? = some v → ∃ u, ts[i]? = some u ∧ Cell.okWide P w r base u v) → ∃ xs : List Int, cs = List.zipWith Value.int ks xs ∧ HasAll ks xs
  | [], [], [], _, _, _ => ⟨[], rfl, trivial⟩
  | [], _ :: _, _, h, _, _ => by simp at h
  | _ :: _, [], _, h, _, _ => by simp at h
  | [], [], _ :: _, _, h, _ => by simp at h
  | _ :: _, _ :: _, [], _, h, _ => by simp at h
  | t :: ts, k :: ks, c :: cs, h, hl, hc => by
    simp only [List.map_cons, List.cons.injEq] at h
    obtain ⟨u, hu, hok⟩ := hc 0 c rfl
    simp only [List.getElem?_cons_zero, Option.some.injEq] at hu
    subst hu
    obtain ⟨x, rfl, hx⟩ := cell_int h.1 hok
    obtain ⟨xs, rfl, hxs⟩ := row_ints ts ks cs h.2 (by simpa using hl) (fun i v hv => by simpa using hc (i + 1) v (by simpa using hv))
    exact ⟨x :: xs, rfl, hx, hxs⟩

/-- A struct all of whose cells are whole numbers, by value. -/
theorem open_flat {P : Program} {w : World} {r : Reach} {base : Nat} {t : TypeId} {fs : Array Field} {v : Value} (ts : List TypeId) (ks : List IntKind) (hu : P.underlying t = some (.struct fs))
    (hct : P.cellTypes P.depth t = some ts) (hk : ts.map P.underlying = ks.map (fun k => some (TypeDesc.int k))) (hn : P.cellsOf t = ts.length) (h : Value.okWide P w r base t v) :
    ∃ xs : List Int, v = .agg (List.zipWith Value.int ks xs).toArray ∧ HasAll ks xs := by
  unfold Value.okWide at h
  rw [hu] at h
  obtain ⟨cs, rfl, hsz, ts', hts, _, hcell⟩ := h
  rw [hct] at hts
  injection hts with hts
  subst hts
  obtain ⟨xs, hx, hh⟩ := row_ints (P := P) (w := w) (r := r) (base := base) ts ks cs.toList hk (by simpa using hsz.trans hn) (fun i v hv => by
    have hi : i < ts.length := by
      have := (List.getElem?_eq_some_iff.1 hv).1
      rw [← hn, ← hsz]
      simpa using this
    obtain ⟨u, h1, h2⟩ := hcell i v (by simpa using hv)
    rw [Nat.mod_eq_of_lt hi] at h1
    exact ⟨u, h1, h2⟩)
  exact ⟨xs, by rw [← hx], hh⟩

theorem two {k0 k1 : IntKind} {xs : List Int} (h : HasAll [k0, k1] xs) : ∃ x0 x1, xs = [x0, x1] ∧ k0.has x0 ∧ k1.has x1 := by
  match xs, h with
  | [a, b], ⟨h0, h1, _⟩ => exact ⟨a, b, rfl, h0, h1⟩
theorem three {k0 k1 k2 : IntKind} {xs : List Int} (h : HasAll [k0, k1, k2] xs) : ∃ x0 x1 x2, xs = [x0, x1, x2] ∧ k0.has x0 ∧ k1.has x1 ∧ k2.has x2 := by
  match xs, h with
  | [a, b, c], ⟨h0, h1, h2, _⟩ => exact ⟨a, b, c, rfl, h0, h1, h2⟩
theorem six {k0 k1 k2 k3 k4 k5 : IntKind} {xs : List Int} (h : HasAll [k0, k1, k2, k3, k4, k5] xs) : ∃ x0 x1 x2 x3 x4 x5, xs = [x0, x1, x2, x3, x4, x5] ∧ k0.has x0 ∧ k1.has x1 ∧ k2.has x2 ∧ k3.has x3 ∧ k4.has x4 ∧ k5.has x5 := by
  match xs, h with
  | [a, b, c, d, e, f], ⟨h0, h1, h2, h3, h4, h5, _⟩ => exact ⟨a, b, c, d, e, f, rfl, h0, h1, h2, h3, h4, h5⟩
theorem nine {k0 k1 k2 k3 k4 k5 k6 k7 k8 : IntKind} {xs : List Int} (h : HasAll [k0, k1, k2, k3, k4, k5, k6, k7, k8] xs) : ∃ x0 x1 x2 x3 x4 x5 x6 x7 x8, xs = [x0, x1, x2, x3, x4, x5, x6, x7, x8] ∧ k0.has x0 ∧ k1.has x1 ∧ k2.has x2 ∧ k3.has x3 ∧ k4.has x4 ∧ k5.has x5 ∧ k6.has x6 ∧ k7.has x7 ∧ k8.has x8 := by
  match xs, h with
  | [a, b, c, d, e, f, g, i, j], ⟨h0, h1, h2, h3, h4, h5, h6, h7, h8, _⟩ => exact ⟨a, b, c, d, e, f, g, i, j, rfl, h0, h1, h2, h3, h4, h5, h6, h7, h8⟩
theorem has_i64 {x : Int} (h : IntKind.i64.has x) : -9223372036854775808 ≤ x ∧ x ≤ 9223372036854775807 := by
  obtain ⟨h1, h2⟩ := h
  have e1 : IntKind.i64.min = -9223372036854775808 := by decide +kernel
  have e2 : IntKind.i64.max = 9223372036854775807 := by decide +kernel
  omega
theorem has_u64 {x : Int} (h : IntKind.u64.has x) : 0 ≤ x ∧ x ≤ 18446744073709551615 := by
  obtain ⟨h1, h2⟩ := h
  have e1 : IntKind.u64.min = 0 := by decide +kernel
  have e2 : IntKind.u64.max = 18446744073709551615 := by decide +kernel
  omega
theorem wf_i64 {x : Int} (h : (Lit.int .i64 x).wf = true) : -9223372036854775808 ≤ x ∧ x ≤ 9223372036854775807 := by
  simp only [Lit.wf, Bool.and_eq_true, decide_eq_true_eq] at h
  exact has_i64 h
end Go.Proofs.FlatOpen

namespace Go.Proofs.VecMath

structure Vec where
  x : Int
  y : Int
  z : Int

def Vec.in_ (m : Int) (a : Vec) : Prop := (-m ≤ a.x ∧ a.x ≤ m) ∧ (-m ≤ a.y ∧ a.y ≤ m) ∧ (-m ≤ a.z ∧ a.z ≤ m)
instance (m : Int) (a : Vec) : Decidable (a.in_ m) := by unfold Vec.in_; infer_instance
def Vec.zero (a : Vec) : Prop := a.x = 0 ∧ a.y = 0 ∧ a.z = 0
instance (a : Vec) : Decidable a.zero := by unfold Vec.zero; infer_instance

def V0 (o d a b : Vec) : Int :=
  d.x * ((a.y - o.y) * (b.z - o.z) - (a.z - o.z) * (b.y - o.y)) + d.y * ((a.z - o.z) * (b.x - o.x) - (a.x - o.x) * (b.z - o.z)) + d.z * ((a.x - o.x) * (b.y - o.y) - (a.y - o.y) * (b.x - o.x))
def Cx (d a b : Vec) : Int := (a.y - b.y) * d.z - (a.z - b.z) * d.y
def Cy (d a b : Vec) : Int := (a.z - b.z) * d.x - (a.x - b.x) * d.z
def Cz (d a b : Vec) : Int := (a.x - b.x) * d.y - (a.y - b.y) * d.x
def sg (n : Int) : Int := if n < 0 then -1 else if n > 0 then 1 else 0
def lex4 (v x y z : Int) : Int := if sg v = 0 then (if sg x = 0 then (if sg y = 0 then sg z else sg y) else sg x) else sg v
def pS (o d a b : Vec) : Int := lex4 (V0 o d a b) (Cx d a b) (Cy d a b) (Cz d a b)
/-- One number whose sign is the side. -/
def WW (o d a b : Vec) : Int := 1329227995784915872903807060280344576 * V0 o d a b + 1208925819614629174706176 * Cx d a b + 1099511627776 * Cy d a b + Cz d a b
def NX (a b c : Vec) : Int := (b.y - a.y) * (c.z - a.z) - (b.z - a.z) * (c.y - a.y)
def NY (a b c : Vec) : Int := (b.z - a.z) * (c.x - a.x) - (b.x - a.x) * (c.z - a.z)
def NZ (a b c : Vec) : Int := (b.x - a.x) * (c.y - a.y) - (b.y - a.y) * (c.x - a.x)
def num (o a b c : Vec) : Int := NX a b c * (a.x - o.x) + NY a b c * (a.y - o.y) + NZ a b c * (a.z - o.z)
def den (d a b c : Vec) : Int := NX a b c * d.x + NY a b c * d.y + NZ a b c * d.z

theorem mulb {x y A B : Int} (hx : -A ≤ x ∧ x ≤ A) (hy : -B ≤ y ∧ y ≤ B) : -(A * B) ≤ x * y ∧ x * y ≤ A * B := by
  obtain ⟨a, b⟩ := hx
  obtain ⟨c, d⟩ := hy
  have h1 := Int.mul_nonneg (show 0 ≤ A - x by omega) (show 0 ≤ B - y by omega)
  have h2 := Int.mul_nonneg (show 0 ≤ A + x by omega) (show 0 ≤ B + y by omega)
  have h3 := Int.mul_nonneg (show 0 ≤ A - x by omega) (show 0 ≤ B + y by omega)
  have h4 := Int.mul_nonneg (show 0 ≤ A + x by omega) (show 0 ≤ B - y by omega)
  constructor <;> grind

theorem sg_pos {n : Int} : sg n = 1 ↔ 0 < n := by unfold sg; split <;> (try split) <;> constructor <;> intro h <;> omega
theorem sg_neg {n : Int} : sg n = -1 ↔ n < 0 := by unfold sg; split <;> (try split) <;> constructor <;> intro h <;> omega
theorem sg_zero {n : Int} : sg n = 0 ↔ n = 0 := by unfold sg; split <;> (try split) <;> constructor <;> intro h <;> omega
theorem sg_or (n : Int) : sg n = -1 ∨ sg n = 0 ∨ sg n = 1 := by unfold sg; split <;> (try split) <;> simp

/-- The lexical sign is the sign of one number. -/
theorem lex_sg {v x y z : Int} (hx : -17179869184 ≤ x ∧ x ≤ 17179869184) (hy : -17179869184 ≤ y ∧ y ≤ 17179869184) (hz : -17179869184 ≤ z ∧ z ≤ 17179869184) :
    lex4 v x y z = sg (1329227995784915872903807060280344576 * v + 1208925819614629174706176 * x + 1099511627776 * y + z) := by
  unfold lex4 sg
  split <;> split <;> (try split) <;> (try split) <;> (try split) <;> (try split) <;> (try split) <;> (try split) <;> omega

theorem sub_in {a b : Vec} {m n : Int} (ha : a.in_ m) (hb : b.in_ n) : (-(m + n) ≤ a.x - b.x ∧ a.x - b.x ≤ m + n) ∧ (-(m + n) ≤ a.y - b.y ∧ a.y - b.y ≤ m + n) ∧ (-(m + n) ≤ a.z - b.z ∧ a.z - b.z ≤ m + n) := by
  unfold Vec.in_ at *
  omega

theorem C_in {d a b : Vec} (hd : d.in_ 32768) (ha : a.in_ 65536) (hb : b.in_ 65536) :
    (-8589934592 ≤ Cx d a b ∧ Cx d a b ≤ 8589934592) ∧ (-8589934592 ≤ Cy d a b ∧ Cy d a b ≤ 8589934592) ∧ (-8589934592 ≤ Cz d a b ∧ Cz d a b ≤ 8589934592) := by
  obtain ⟨sx, sy, sz⟩ := sub_in ha hb
  obtain ⟨dx, dy, dz⟩ := hd
  have h1 := mulb sy dz
  have h2 := mulb sz dy
  have h3 := mulb sz dx
  have h4 := mulb sx dz
  have h5 := mulb sx dy
  have h6 := mulb sy dx
  unfold Cx Cy Cz
  omega

theorem pS_sg {o d a b : Vec} (hd : d.in_ 32768) (ha : a.in_ 65536) (hb : b.in_ 65536) : pS o d a b = sg (WW o d a b) := by
  obtain ⟨h1, h2, h3⟩ := C_in hd ha hb
  unfold pS WW
  exact lex_sg (by omega) (by omega) (by omega)

theorem WW_anti (o d a b : Vec) : WW o d b a = -WW o d a b := by
  unfold WW V0 Cx Cy Cz
  grind
theorem WW_sum (o d a b c : Vec) : WW o d a b + WW o d b c + WW o d c a = 1329227995784915872903807060280344576 * den d a b c := by
  unfold WW V0 Cx Cy Cz den NX NY NZ
  grind
end Go.Proofs.VecMath

namespace Go.Proofs.Ytihklolcnfbbjaa.M
open Go.RowKit Go.Proofs.VecMath Go.Proofs.YtihklolcnfbbjaaW.PrintWords
set_option linter.unusedVariables false

theorem w64 {n : Int} (h : -9223372036854775808 ≤ n ∧ n ≤ 9223372036854775807) : wrap64 n = n := by
  unfold wrap64
  omega

theorem within_eq (x y z m : Int) (h0 : 0 ≤ m) (h1 : m ≤ 4611686018427387904) : G.vec_Within.f x y z m = some (decide ((⟨x, y, z⟩ : Vec).in_ m)) := by
  unfold G.vec_Within.f
  rw [w64 (by omega)]
  unfold mn mx Vec.in_
  dsimp only
  by_cases h : (-m ≤ x ∧ x ≤ m) ∧ (-m ≤ y ∧ y ≤ m) ∧ (-m ≤ z ∧ z ≤ m)
  · rw [decide_eq_true h]
    obtain ⟨⟨a, b⟩, ⟨c, d⟩, e, f⟩ := h
    repeat' split
    all_goals first | omega | (simp only [Option.some.injEq, decide_eq_true_eq]; omega)
  · rw [decide_eq_false h]
    repeat' split
    all_goals first | rfl | (simp only [Option.some.injEq, decide_eq_false_iff_not]; omega)
end Go.Proofs.Ytihklolcnfbbjaa.M

namespace Go.Proofs.Ytihklolcnfbbjaa.M
open Go.RowKit Go.Proofs.VecMath Go.Proofs.YtihklolcnfbbjaaW.PrintWords
set_option linter.unusedVariables false

def lineB (o d : Vec) : Bool := decide (o.in_ 65536) && (decide (d.in_ 32768) && !decide d.zero)

theorem line_eq (o d : Vec) : G.side_line.f o.x o.y o.z d.x d.y d.z = some (lineB o d) := by
  unfold G.side_line.f lineB
  rw [within_eq _ _ _ _ (by decide) (by decide), within_eq _ _ _ _ (by decide) (by decide)]
  simp only [Option.bind_some]
  by_cases h1 : o.in_ 65536
  · rw [decide_eq_true h1]
    by_cases h2 : d.in_ 32768
    · rw [decide_eq_true h2]
      simp only [if_true, Bool.true_and, Option.some.injEq]
      by_cases h3 : d.zero
      · have := h3
        obtain ⟨a, b, c⟩ := this
        simp [a, b, c, decide_eq_true h3]
      · rw [decide_eq_false h3]
        unfold Vec.zero at h3
        simp only [Bool.not_false]
        by_cases a : d.x = 0 <;> by_cases b : d.y = 0 <;> by_cases c : d.z = 0 <;> simp_all
    · rw [decide_eq_false h2]
      simp
  · rw [decide_eq_false h1]
    simp

theorem compare_eq (a b : Int) : G.cmp_Compare_int.f a b = some (sg (a - b)) := by
  unfold G.cmp_Compare_int.f G.cmp_isNaN_int.f sg
  simp only [Option.bind_some, bne_self_eq_false, Bool.false_eq_true, if_false]
  repeat' split
  all_goals first | rfl | omega

theorem or_eq (k : Nat) (a b c d : Int) : G.cmp_Or_int.f (k + 5) [a, b, c, d] = some (if a = 0 then (if b = 0 then (if c = 0 then d else c) else b) else a) := by
  unfold G.cmp_Or_int.f
  have e1 : wrap64 (0 + 1) = 1 := by unfold wrap64; decide
  have e2 : wrap64 (1 + 1) = 2 := by unfold wrap64; decide
  have e3 : wrap64 (2 + 1) = 3 := by unfold wrap64; decide
  have e4 : wrap64 (3 + 1) = 4 := by unfold wrap64; decide
  have r0 : rd [a, b, c, d] 0 = a := rfl
  have r1 : rd [a, b, c, d] 1 = b := rfl
  have r2 : rd [a, b, c, d] 2 = c := rfl
  have r3 : rd [a, b, c, d] 3 = d := rfl
  have hl : (([a, b, c, d] : List Int).length : Int) = 4 := rfl
  rw [hl, G.cmp_Or_int.l0, if_pos (by decide), if_pos (by decide), if_pos (by simp), r0]
  by_cases ha : a = 0
  · rw [if_pos ha, if_pos ha, e1, G.cmp_Or_int.l0, if_pos (by decide), if_pos (by decide), if_pos (by simp), r1]
    by_cases hb : b = 0
    · rw [if_pos hb, if_pos hb, e2, G.cmp_Or_int.l0, if_pos (by decide), if_pos (by decide), if_pos (by simp), r2]
      by_cases hc : c = 0
      · rw [if_pos hc, if_pos hc, e3, G.cmp_Or_int.l0, if_pos (by decide), if_pos (by decide), if_pos (by simp), r3]
        by_cases hd : d = 0
        · rw [if_pos hd, e4, G.cmp_Or_int.l0, if_neg (by decide), hd]
        · rw [if_neg hd]
      · rw [if_neg hc, if_neg hc]
    · rw [if_neg hb, if_neg hb]
  · rw [if_neg ha, if_neg ha]

theorem sub_eq {x y z x1 y1 z1 m n : Int} (ha : (⟨x, y, z⟩ : Vec).in_ m) (hb : (⟨x1, y1, z1⟩ : Vec).in_ n) (h : m + n ≤ 9223372036854775807) : G.vec_Sub.f x y z x1 y1 z1 = some (x - x1, y - y1, z - z1) := by
  obtain ⟨h1, h2, h3⟩ := sub_in ha hb
  dsimp only at h1 h2 h3
  unfold G.vec_Sub.f
  rw [w64 (by omega), w64 (by omega), w64 (by omega)]

theorem cross_eq {x y z x1 y1 z1 m n : Int} (ha : (⟨x, y, z⟩ : Vec).in_ m) (hb : (⟨x1, y1, z1⟩ : Vec).in_ n) (h : m * n ≤ 4611686018427387903) :
    G.vec_Cross.f x y z x1 y1 z1 = some (y * z1 - z * y1, z * x1 - x * z1, x * y1 - y * x1) := by
  obtain ⟨a1, a2, a3⟩ := ha
  obtain ⟨b1, b2, b3⟩ := hb
  dsimp only at *
  have h1 := mulb a2 b3
  have h2 := mulb a3 b2
  have h3 := mulb a3 b1
  have h4 := mulb a1 b3
  have h5 := mulb a1 b2
  have h6 := mulb a2 b1
  unfold G.vec_Cross.f
  rw [w64 (n := y * z1) (by omega), w64 (n := z * y1) (by omega), w64 (n := z * x1) (by omega), w64 (n := x * z1) (by omega), w64 (n := x * y1) (by omega), w64 (n := y * x1) (by omega)]
  rw [w64 (by omega), w64 (by omega), w64 (by omega)]

theorem dot_eq {x y z x1 y1 z1 m n : Int} (ha : (⟨x, y, z⟩ : Vec).in_ m) (hb : (⟨x1, y1, z1⟩ : Vec).in_ n) (h : m * n ≤ 3074457345618258602) :
    G.vec_Dot.f x y z x1 y1 z1 = some (x * x1 + y * y1 + z * z1) := by
  obtain ⟨a1, a2, a3⟩ := ha
  obtain ⟨b1, b2, b3⟩ := hb
  dsimp only at *
  have h1 := mulb a1 b1
  have h2 := mulb a2 b2
  have h3 := mulb a3 b3
  unfold G.vec_Dot.f
  rw [w64 (n := x * x1) (by omega), w64 (n := y * y1) (by omega), w64 (n := z * z1) (by omega)]
  rw [w64 (n := x * x1 + y * y1) (by omega), w64 (by omega)]

theorem in_sub {x y z x1 y1 z1 m n : Int} (ha : (⟨x, y, z⟩ : Vec).in_ m) (hb : (⟨x1, y1, z1⟩ : Vec).in_ n) : (⟨x - x1, y - y1, z - z1⟩ : Vec).in_ (m + n) := sub_in ha hb
theorem in_cross {x y z x1 y1 z1 m n : Int} (ha : (⟨x, y, z⟩ : Vec).in_ m) (hb : (⟨x1, y1, z1⟩ : Vec).in_ n) : (⟨y * z1 - z * y1, z * x1 - x * z1, x * y1 - y * x1⟩ : Vec).in_ (2 * (m * n)) := by
  obtain ⟨a1, a2, a3⟩ := ha
  obtain ⟨b1, b2, b3⟩ := hb
  dsimp only at *
  have h1 := mulb a2 b3
  have h2 := mulb a3 b2
  have h3 := mulb a3 b1
  have h4 := mulb a1 b3
  have h5 := mulb a1 b2
  have h6 := mulb a2 b1
  unfold Vec.in_
  dsimp only
  omega

theorem pass_eq (k : Nat) (o d a b : Vec) (ho : o.in_ 65536) (hd : d.in_ 32768) (ha : a.in_ 65536) (hb : b.in_ 65536) :
    G.side_pass.f (k + 5) o.x o.y o.z d.x d.y d.z a.x a.y a.z b.x b.y b.z = some (pS o d a b) := by
  have ea := in_sub ha ho
  have eb := in_sub hb ho
  have eab := in_sub ha hb
  have ec := in_cross ea eb
  unfold G.side_pass.f
  rw [sub_eq ha ho (by decide), Option.bind_some, sub_eq hb ho (by decide), Option.bind_some]
  dsimp only
  rw [cross_eq ea eb (by decide), Option.bind_some]
  dsimp only
  rw [dot_eq hd ec (by decide), Option.bind_some, compare_eq, Option.bind_some, sub_eq ha hb (by decide), Option.bind_some]
  dsimp only
  rw [cross_eq eab hd (by decide), Option.bind_some]
  dsimp only
  rw [compare_eq, Option.bind_some, compare_eq, Option.bind_some, compare_eq, Option.bind_some, or_eq, Option.bind_some]
  simp only [Int.sub_zero]
  rfl

/-- What Meet comes to. -/
def okB (o d a b c : Vec) : Bool := lineB o d && (decide (a.in_ 65536) && (decide (b.in_ 65536) && decide (c.in_ 65536)))
def meetS (o d a b c : Vec) : Int × Int × Bool × Int × Int × Bool × Int :=
  if okB o d a b c = true then
    (if pS o d a b ≠ 0 ∧ pS o d b c = pS o d a b ∧ pS o d c a = pS o d a b then
      (if den d a b c = 0 then (0, 0, false, 0, 0, false, 0) else if den d a b c < 0 then (-num o a b c, -den d a b c, decide (pS o d a b < 0), 0, 0, true, 0) else (num o a b c, den d a b c, decide (pS o d a b < 0), 0, 0, true, 0))
    else (0, 0, false, 0, 0, false, 0))
  else (0, 0, false, 0, 0, false, 21)

theorem normal_eq (a b c : Vec) (ha : a.in_ 65536) (hb : b.in_ 65536) (hc : c.in_ 65536) :
    G.side_Normal.f a.x a.y a.z b.x b.y b.z c.x c.y c.z = some (NX a b c, NY a b c, NZ a b c) := by
  unfold G.side_Normal.f
  rw [sub_eq hb ha (by decide), Option.bind_some, sub_eq hc ha (by decide), Option.bind_some]
  dsimp only
  rw [cross_eq (in_sub hb ha) (in_sub hc ha) (by decide), Option.bind_some]
  rfl

theorem normal_in (a b c : Vec) (ha : a.in_ 65536) (hb : b.in_ 65536) (hc : c.in_ 65536) : (⟨NX a b c, NY a b c, NZ a b c⟩ : Vec).in_ 34359738368 := in_cross (in_sub hb ha) (in_sub hc ha)

theorem num_in (o a b c : Vec) (ho : o.in_ 65536) (ha : a.in_ 65536) (hb : b.in_ 65536) (hc : c.in_ 65536) : -13510798882111488 ≤ num o a b c ∧ num o a b c ≤ 13510798882111488 := by
  obtain ⟨n1, n2, n3⟩ := normal_in a b c ha hb hc
  obtain ⟨s1, s2, s3⟩ := sub_in ha ho
  dsimp only at *
  have h1 := mulb n1 s1
  have h2 := mulb n2 s2
  have h3 := mulb n3 s3
  unfold num
  omega
theorem den_in (d a b c : Vec) (hd : d.in_ 32768) (ha : a.in_ 65536) (hb : b.in_ 65536) (hc : c.in_ 65536) : -3377699720527872 ≤ den d a b c ∧ den d a b c ≤ 3377699720527872 := by
  obtain ⟨n1, n2, n3⟩ := normal_in a b c ha hb hc
  obtain ⟨s1, s2, s3⟩ := hd
  dsimp only at *
  have h1 := mulb n1 s1
  have h2 := mulb n2 s2
  have h3 := mulb n3 s3
  unfold den
  omega

theorem meet_eq (k : Nat) (o d a b c : Vec) :
    G.side_Meet.f (k + 20) o.x o.y o.z d.x d.y d.z a.x a.y a.z b.x b.y b.z c.x c.y c.z = some (meetS o d a b c) := by
  unfold G.side_Meet.f meetS okB
  rw [line_eq, within_eq _ _ _ _ (by decide) (by decide), within_eq _ _ _ _ (by decide) (by decide), within_eq _ _ _ _ (by decide) (by decide)]
  simp only [Option.bind_some]
  cases h1 : lineB o d
  · simp [G.side_Meet.j0]
  by_cases ha : a.in_ 65536
  case neg => rw [decide_eq_false ha]; simp [G.side_Meet.j0]
  by_cases hb : b.in_ 65536
  case neg => rw [decide_eq_true ha, decide_eq_false hb]; simp [G.side_Meet.j0]
  by_cases hc : c.in_ 65536
  case neg => rw [decide_eq_true ha, decide_eq_true hb, decide_eq_false hc]; simp [G.side_Meet.j0]
  rw [decide_eq_true ha, decide_eq_true hb, decide_eq_true hc]
  have h2 := h1
  unfold lineB at h2
  simp only [Bool.and_eq_true, decide_eq_true_eq] at h2
  obtain ⟨ho, hd, _⟩ := h2
  simp only [if_true, Bool.and_self]
  rw [G.side_Meet.j0, if_pos rfl, pass_eq _ o d a b ho hd ha hb, Option.bind_some]
  by_cases s0 : pS o d a b = 0
  · rw [if_pos s0, G.side_Meet.j1, if_pos rfl, if_neg (by simp [s0])]
  rw [if_neg s0, Option.bind_some]
  rw [bne_self_eq_false, G.side_Meet.j1, if_neg (by decide), G.side_Meet.j2, if_neg s0, pass_eq (k + 12) o d b c ho hd hb hc, Option.bind_some, G.side_Meet.j3]
  by_cases s1 : pS o d b c = pS o d a b
  case neg => rw [if_pos (by simpa using s1), if_neg (by simp [s1])]
  rw [if_neg (by simp [s1]), G.side_Meet.j4, if_neg s0, pass_eq (k + 10) o d c a ho hd hc ha, Option.bind_some, G.side_Meet.j5]
  by_cases s2 : pS o d c a = pS o d a b
  case neg => rw [if_pos (by simpa using s2), if_neg (by simp [s2])]
  rw [if_neg (by simp [s2]), if_pos ⟨s0, s1, s2⟩, G.side_Meet.j6, G.side_Meet.j7, normal_eq a b c ha hb hc, Option.bind_some, sub_eq ha ho (by decide), Option.bind_some]
  dsimp only
  have hn := normal_in a b c ha hb hc
  have eN := num_in o a b c ho ha hb hc
  have eD := den_in d a b c hd ha hb hc
  rw [dot_eq hn (in_sub ha ho) (by decide), Option.bind_some, dot_eq hn hd (by decide), Option.bind_some]
  show (if den d a b c = 0 then _ else _) = _
  by_cases d0 : den d a b c = 0
  · rw [if_pos d0, if_pos d0]
  rw [if_neg d0, if_neg d0]
  show (if den d a b c < 0 then _ else _) = _
  by_cases d1 : den d a b c < 0
  · rw [if_pos d1, if_pos d1]
    show G.side_Meet.j8 _ _ (wrap64 (-num o a b c)) (wrap64 (-den d a b c)) = _
    rw [w64 (by omega), w64 (by omega), G.side_Meet.j8]
  · rw [if_neg d1, if_neg d1]
    show G.side_Meet.j8 _ _ (num o a b c) (den d a b c) = _
    rw [G.side_Meet.j8]

theorem alive_eq : G.relievolaw03_alive.f 20 = some true := by
  unfold G.relievolaw03_alive.f
  have h1 := meet_eq 0 ⟨1, 1, -5⟩ ⟨0, 0, 1⟩ ⟨0, 0, 0⟩ ⟨9, 0, 0⟩ ⟨0, 9, 0⟩
  have h2 := meet_eq 0 ⟨0, 0, 0⟩ ⟨0, 0, 0⟩ ⟨0, 0, 0⟩ ⟨0, 0, 0⟩ ⟨0, 0, 0⟩
  have e1 : meetS ⟨1, 1, -5⟩ ⟨0, 0, 1⟩ ⟨0, 0, 0⟩ ⟨9, 0, 0⟩ ⟨0, 9, 0⟩ = (405, 81, false, 0, 0, true, 0) := by decide +kernel
  have e2 : meetS ⟨0, 0, 0⟩ ⟨0, 0, 0⟩ ⟨0, 0, 0⟩ ⟨0, 0, 0⟩ ⟨0, 0, 0⟩ = (0, 0, false, 0, 0, false, 21) := by decide +kernel
  dsimp only at h1 h2
  rw [Nat.zero_add] at h1 h2
  rw [h1, h2, e1, e2]
  rfl
end Go.Proofs.Ytihklolcnfbbjaa.M

namespace Go.Proofs.Ytihklolcnfbbjaa.M
open Go.RowKit Go.Proofs.VecMath
set_option linter.unusedVariables false

structure Ok (o d a b c : Vec) : Prop where
  ho : o.in_ 65536
  hd : d.in_ 32768
  nz : ¬ d.zero
  ha : a.in_ 65536
  hb : b.in_ 65536
  hc : c.in_ 65536

theorem ok_iff (o d a b c : Vec) : okB o d a b c = true ↔ Ok o d a b c := by
  unfold okB lineB
  simp only [Bool.and_eq_true, decide_eq_true_eq, Bool.not_eq_true', decide_eq_false_iff_not]
  exact ⟨fun ⟨⟨h1, h2, h3⟩, h4, h5, h6⟩ => ⟨h1, h2, h3, h4, h5, h6⟩, fun ⟨h1, h2, h3, h4, h5, h6⟩ => ⟨⟨h1, h2, h3⟩, h4, h5, h6⟩⟩

/-- Is it met? -/
def Hits (o d a b c : Vec) : Prop := pS o d a b ≠ 0 ∧ pS o d b c = pS o d a b ∧ pS o d c a = pS o d a b

theorem den_sign {o d a b c : Vec} (ok : Ok o d a b c) (h : Hits o d a b c) : 0 < pS o d a b * den d a b c ∧ (pS o d a b = 1 ∨ pS o d a b = -1) := by
  obtain ⟨h0, h1, h2⟩ := h
  have e := WW_sum o d a b c
  rw [pS_sg ok.hd ok.hb ok.hc] at h1
  rw [pS_sg ok.hd ok.hc ok.ha] at h2
  rw [pS_sg ok.hd ok.ha ok.hb] at h0 h1 h2 ⊢
  rcases sg_or (WW o d a b) with h | h | h
  · rw [h] at h1 h2 ⊢
    have := sg_neg.1 h
    have := sg_neg.1 h1
    have := sg_neg.1 h2
    exact ⟨by omega, .inr rfl⟩
  · exact absurd h h0
  · rw [h] at h1 h2 ⊢
    have := sg_pos.1 h
    have := sg_pos.1 h1
    have := sg_pos.1 h2
    exact ⟨by omega, .inl rfl⟩

theorem meet_hit {o d a b c : Vec} (ok : Ok o d a b c) (h : Hits o d a b c) :
    meetS o d a b c = (pS o d a b * num o a b c, pS o d a b * den d a b c, decide (pS o d a b < 0), 0, 0, true, 0) := by
  obtain ⟨hs, hp⟩ := den_sign ok h
  unfold meetS
  rw [if_pos ((ok_iff ..).2 ok), if_pos (show pS o d a b ≠ 0 ∧ pS o d b c = pS o d a b ∧ pS o d c a = pS o d a b from h)]
  rcases hp with e | e
  · rw [e] at hs ⊢
    rw [if_neg (by omega), if_neg (by omega)]
    simp
  · rw [e] at hs ⊢
    rw [if_neg (by omega), if_pos (by omega)]
    simp
theorem meet_miss {o d a b c : Vec} (ok : Ok o d a b c) (h : ¬ Hits o d a b c) : meetS o d a b c = (0, 0, false, 0, 0, false, 0) := by
  unfold meetS
  rw [if_pos ((ok_iff ..).2 ok), if_neg (show ¬ (pS o d a b ≠ 0 ∧ pS o d b c = pS o d a b ∧ pS o d c a = pS o d a b) from h)]
theorem meet_large {o d a b c : Vec} (h : ¬ Ok o d a b c) : meetS o d a b c = (0, 0, false, 0, 0, false, 21) := by
  unfold meetS
  rw [if_neg (fun h' => h ((ok_iff ..).1 h'))]

theorem pS_anti {o d a b : Vec} (hd : d.in_ 32768) (ha : a.in_ 65536) (hb : b.in_ 65536) : pS o d b a = -pS o d a b := by
  rw [pS_sg hd hb ha, pS_sg hd ha hb, WW_anti]
  rcases Int.lt_trichotomy (WW o d a b) 0 with h | h | h
  · rw [sg_neg.2 h, sg_pos.2 (by omega)]
    rfl
  · rw [h]
    rfl
  · rw [sg_pos.2 h, sg_neg.2 (by omega)]
theorem pS_or (o d a b : Vec) : pS o d a b = -1 ∨ pS o d a b = 0 ∨ pS o d a b = 1 := by
  unfold pS lex4
  split
  · split
    · split
      · exact sg_or _
      · exact sg_or _
    · exact sg_or _
  · exact sg_or _

theorem ok_swap {o d a b c : Vec} (h : Ok o d a b c) : Ok o d a c b := ⟨h.ho, h.hd, h.nz, h.ha, h.hc, h.hb⟩
theorem den_swap (d a b c : Vec) : den d a c b = -den d a b c := by
  unfold den NX NY NZ
  grind
theorem num_swap (o a b c : Vec) : num o a c b = -num o a b c := by
  unfold num NX NY NZ
  grind
theorem hits_swap {o d a b c : Vec} (ok : Ok o d a b c) (h : Hits o d a b c) : Hits o d a c b ∧ pS o d a c = -pS o d a b := by
  obtain ⟨h0, h1, h2⟩ := h
  have e1 := pS_anti (o := o) ok.hd ok.hc ok.ha
  have e2 := pS_anti (o := o) ok.hd ok.hb ok.hc
  have e3 := pS_anti (o := o) ok.hd ok.ha ok.hb
  refine ⟨⟨?_, ?_, ?_⟩, ?_⟩ <;> omega

theorem alive_at (k : Nat) : G.relievolaw03_alive.f (k + 20) = some true := by
  induction k with
  | zero => exact alive_eq
  | succ k ih => rw [show k + 1 + 20 = k + 20 + 1 by omega]; exact G.relievolaw03_alive.mono (k + 20) _ ih

/-! ### Moved alike -/
def Vec.add (a t : Vec) : Vec := ⟨a.x + t.x, a.y + t.y, a.z + t.z⟩
theorem pS_moved (o d a b t : Vec) : pS (Vec.add o t) d (Vec.add a t) (Vec.add b t) = pS o d a b := by
  have h1 : V0 (Vec.add o t) d (Vec.add a t) (Vec.add b t) = V0 o d a b := by unfold V0 Vec.add; grind
  have h2 : Cx d (Vec.add a t) (Vec.add b t) = Cx d a b := by unfold Cx Vec.add; grind
  have h3 : Cy d (Vec.add a t) (Vec.add b t) = Cy d a b := by unfold Cy Vec.add; grind
  have h4 : Cz d (Vec.add a t) (Vec.add b t) = Cz d a b := by unfold Cz Vec.add; grind
  unfold pS
  rw [h1, h2, h3, h4]
theorem den_moved (d a b c t : Vec) : den d (Vec.add a t) (Vec.add b t) (Vec.add c t) = den d a b c := by
  unfold den NX NY NZ Vec.add
  grind
theorem num_moved (o a b c t : Vec) : num (Vec.add o t) (Vec.add a t) (Vec.add b t) (Vec.add c t) = num o a b c := by
  unfold num NX NY NZ Vec.add
  grind
theorem meet_moved {o d a b c t : Vec} (ok : Ok o d a b c) (ok' : Ok (Vec.add o t) d (Vec.add a t) (Vec.add b t) (Vec.add c t)) : meetS (Vec.add o t) d (Vec.add a t) (Vec.add b t) (Vec.add c t) = meetS o d a b c := by
  by_cases h : Hits o d a b c
  · have h' : Hits (Vec.add o t) d (Vec.add a t) (Vec.add b t) (Vec.add c t) := by
      unfold Hits at *
      rw [pS_moved, pS_moved, pS_moved]
      exact h
    rw [meet_hit ok h, meet_hit ok' h', pS_moved, num_moved, den_moved]
  · have h' : ¬ Hits (Vec.add o t) d (Vec.add a t) (Vec.add b t) (Vec.add c t) := by
      unfold Hits at *
      rw [pS_moved, pS_moved, pS_moved]
      exact h
    rw [meet_miss ok h, meet_miss ok' h']
theorem hits_iff {o d a b c : Vec} (ok : Ok o d a b c) : Hits o d a b c ↔ (0 < WW o d a b ∧ 0 < WW o d b c ∧ 0 < WW o d c a) ∨ (WW o d a b < 0 ∧ WW o d b c < 0 ∧ WW o d c a < 0) := by
  unfold Hits
  rw [pS_sg ok.hd ok.hb ok.hc, pS_sg ok.hd ok.hc ok.ha, pS_sg ok.hd ok.ha ok.hb]
  rcases sg_or (WW o d a b) with h | h | h
  · rw [h]
    have := sg_neg.1 h
    rw [sg_neg, sg_neg]
    omega
  · rw [h]
    have := sg_zero.1 h
    omega
  · rw [h]
    have := sg_pos.1 h
    rw [sg_pos, sg_pos]
    omega
/-- Where the number is 0, both ends are one point to the line. -/
theorem WW_same {o d a m : Vec} (hd : d.in_ 32768) (ha : a.in_ 65536) (hm : m.in_ 65536) (h : WW o d a m = 0) (b : Vec) : WW o d a b = WW o d m b := by
  obtain ⟨h1, h2, h3⟩ := C_in hd ha hm
  unfold WW at h
  have v : V0 o d a m = 0 := by omega
  have x : Cx d a m = 0 := by omega
  have y : Cy d a m = 0 := by omega
  have z : Cz d a m = 0 := by omega
  have e : WW o d a b - WW o d m b = -1329227995784915872903807060280344576 * ((b.x - o.x) * Cx d a m + (b.y - o.y) * Cy d a m + (b.z - o.z) * Cz d a m) + 1208925819614629174706176 * Cx d a m + 1099511627776 * Cy d a m + Cz d a m := by
    unfold WW V0 Cx Cy Cz
    grind
  rw [x, y, z] at e
  omega
/-! ### Four points: three products come to nothing -/
def om (d u v : Vec) : Int := d.x * (u.y * v.z - u.z * v.y) + d.y * (u.z * v.x - u.x * v.z) + d.z * (u.x * v.y - u.y * v.x)
def UU (o a : Vec) : Vec := ⟨1329227995784915872903807060280344576 * (a.x - o.x) - 1208925819614629174706176, 1329227995784915872903807060280344576 * (a.y - o.y) - 1099511627776, 1329227995784915872903807060280344576 * (a.z - o.z) - 1⟩
theorem om_WW (o d a b : Vec) : om d (UU o a) (UU o b) = 1329227995784915872903807060280344576 * WW o d a b := by
  unfold om UU WW V0 Cx Cy Cz
  grind
theorem om_pluecker (d a b c p : Vec) : om d b c * om d a p + om d c a * om d b p + om d a b * om d c p = 0 := by
  unfold om
  grind
theorem pluecker (o d a b c p : Vec) : WW o d b c * WW o d a p + WW o d c a * WW o d b p + WW o d a b * WW o d c p = 0 := by
  have h := om_pluecker d (UU o a) (UU o b) (UU o c) (UU o p)
  rw [om_WW, om_WW, om_WW, om_WW, om_WW, om_WW] at h
  generalize WW o d b c = x1 at *
  generalize WW o d a p = x2 at *
  generalize WW o d c a = x3 at *
  generalize WW o d b p = x4 at *
  generalize WW o d a b = x5 at *
  generalize WW o d c p = x6 at *
  have e : (1329227995784915872903807060280344576 * 1329227995784915872903807060280344576 : Int) * (x1 * x2 + x3 * x4 + x5 * x6) = 0 := by grind
  rcases Int.mul_eq_zero.1 e with h' | h'
  · exact absurd h' (by decide)
  · exact h'
theorem sg_mul (x y : Int) : sg (x * y) = sg x * sg y := by
  rcases Int.lt_trichotomy x 0 with hx | hx | hx <;> rcases Int.lt_trichotomy y 0 with hy | hy | hy
  · rw [sg_neg.2 hx, sg_neg.2 hy, sg_pos.2 (Int.mul_pos_of_neg_of_neg hx hy)]; rfl
  · rw [hy, Int.mul_zero]; unfold sg; simp
  · rw [sg_neg.2 hx, sg_pos.2 hy, sg_neg.2 (Int.mul_neg_of_neg_of_pos hx hy)]; rfl
  · rw [hx, Int.zero_mul]; unfold sg; simp
  · rw [hx, Int.zero_mul]; unfold sg; simp
  · rw [hx, Int.zero_mul]; unfold sg; simp
  · rw [sg_pos.2 hx, sg_neg.2 hy, sg_neg.2 (Int.mul_neg_of_pos_of_neg hx hy)]; rfl
  · rw [hy, Int.mul_zero]; unfold sg; simp
  · rw [sg_pos.2 hx, sg_pos.2 hy, sg_pos.2 (Int.mul_pos hx hy)]; rfl
/-- What a face counts. -/
def FF (x y z : Int) : Int := if x ≠ 0 ∧ y = x ∧ z = x then -x else 0
def CC (ab bc ca ap bp cp : Int) : Bool :=
  (!(decide (0 ≤ bc * ap) && decide (0 ≤ ca * bp) && decide (0 ≤ ab * cp) && (decide (0 < bc * ap) || decide (0 < ca * bp) || decide (0 < ab * cp)))) &&
  (!(decide (bc * ap ≤ 0) && decide (ca * bp ≤ 0) && decide (ab * cp ≤ 0) && (decide (bc * ap < 0) || decide (ca * bp < 0) || decide (ab * cp < 0)))) &&
  (!(ab == 0) || (decide (-ca = bc) && decide (ap = bp))) && (!(bc == 0) || (decide (-ab = ca) && decide (bp = cp))) && (!(ca == 0) || (decide (-bc = ab) && decide (cp = ap))) &&
  (!(ap == 0) || (decide (ab = -bp) && decide (-ca = -cp))) && (!(bp == 0) || (decide (bc = -cp) && decide (-ab = -ap))) && (!(cp == 0) || (decide (ca = -ap) && decide (-bc = -bp)))
theorem comb : ∀ ab ∈ ([-1, 0, 1] : List Int), ∀ bc ∈ ([-1, 0, 1] : List Int), ∀ ca ∈ ([-1, 0, 1] : List Int), ∀ ap ∈ ([-1, 0, 1] : List Int), ∀ bp ∈ ([-1, 0, 1] : List Int), ∀ cp ∈ ([-1, 0, 1] : List Int),
    CC ab bc ca ap bp cp = true → FF ab bc ca + FF (-ca) cp (-ap) + FF ap (-bp) (-ab) + FF bp (-cp) (-bc) = 0 := by decide +kernel
theorem errno_zero {o d a b c : Vec} : (meetS o d a b c).2.2.2.2.2.2 = 0 ↔ Ok o d a b c := by
  constructor
  · intro h
    by_cases ok : Ok o d a b c
    · exact ok
    · rw [meet_large ok] at h
      exact absurd h (by decide)
  · intro ok
    by_cases h : Hits o d a b c
    · rw [meet_hit ok h]
    · rw [meet_miss ok h]
end Go.Proofs.Ytihklolcnfbbjaa.M

namespace Go.Proofs.Ytihklolcnfbbjaa.M
open Go.RowKit Go.Proofs.VecMath Go.Proofs.YtihklolcnfbbjaaW.PrintWords
set_option linter.unusedVariables false
set_option linter.unusedSimpArgs false

theorem u64w (n : Int) : IntKind.u64.wrap n = n % 18446744073709551616 := rfl

theorem mul64_eq (a b : Int) (ha : 0 ≤ a ∧ a < 18446744073709551616) (hb : 0 ≤ b ∧ b < 18446744073709551616) :
    G.bits_Mul64.f a b = some (a * b / 18446744073709551616, a * b % 18446744073709551616) := by
  unfold G.bits_Mul64.f
  simp only [u64w]
  rw [and_low32 a ha.1 ha.2, and_low32 b hb.1 hb.2, and_low32 _ (by omega) (by omega)]
  rw [mul64_arith a b ha.1 ha.2 hb.1 hb.2]

/-- The two halves of a whole number. -/
def hiW (n : Int) : Int := n / 18446744073709551616
def loW (n : Int) : Int := n % 18446744073709551616

def i64b (n : Int) : Prop := -9223372036854775808 ≤ n ∧ n ≤ 9223372036854775807

theorem prod_in {a b : Int} (ha : i64b a) (hb : i64b b) : -85070591730234615865843651857942052864 ≤ a * b ∧ a * b ≤ 85070591730234615865843651857942052864 :=
  mulb (A := 9223372036854775808) (B := 9223372036854775808) ⟨by unfold i64b at ha; omega, by unfold i64b at ha; omega⟩ ⟨by unfold i64b at hb; omega, by unfold i64b at hb; omega⟩

theorem mulW_eq (a b : Int) (ha : i64b a) (hb : i64b b) : G.wide_Mul.f a b = some (hiW (a * b), loW (a * b)) := by
  have hp := prod_in ha hb
  unfold i64b at ha hb
  unfold G.wide_Mul.f hiW loW
  rw [u64w, u64w, mul64_eq _ _ (by omega) (by omega), Option.bind_some]
  simp only [u64w]
  by_cases h1 : a < 0
  · have ea : a % 18446744073709551616 = a + 18446744073709551616 := by omega
    rw [if_pos h1, ea]
    by_cases h2 : b < 0
    · have eb : b % 18446744073709551616 = b + 18446744073709551616 := by omega
      rw [if_pos h2, eb]
      have e : (a + 18446744073709551616) * (b + 18446744073709551616) = a * b + 18446744073709551616 * (a + b + 18446744073709551616) := by grind
      rw [e]
      generalize a * b = p at *
      simp only [Option.some.injEq, Prod.mk.injEq, and_true]
      unfold wrap64
      omega
    · have eb : b % 18446744073709551616 = b := by omega
      rw [if_neg h2, eb]
      have e : (a + 18446744073709551616) * b = a * b + 18446744073709551616 * b := by grind
      rw [e]
      generalize a * b = p at *
      simp only [Option.some.injEq, Prod.mk.injEq, and_true]
      unfold wrap64
      omega
  · have ea : a % 18446744073709551616 = a := by omega
    rw [if_neg h1, ea]
    by_cases h2 : b < 0
    · have eb : b % 18446744073709551616 = b + 18446744073709551616 := by omega
      rw [if_pos h2, eb]
      have e : a * (b + 18446744073709551616) = a * b + 18446744073709551616 * a := by grind
      rw [e]
      generalize a * b = p at *
      simp only [Option.some.injEq, Prod.mk.injEq, and_true]
      unfold wrap64
      omega
    · have eb : b % 18446744073709551616 = b := by omega
      rw [if_neg h2, eb]
      generalize a * b = p at *
      simp only [Option.some.injEq, Prod.mk.injEq, and_true]
      unfold wrap64
      omega

theorem compare64_eq (a b : Int) : G.cmp_Compare_int64.f a b = some (sg (a - b)) := by
  unfold G.cmp_Compare_int64.f G.cmp_isNaN_int64.f sg
  simp only [Option.bind_some, bne_self_eq_false, Bool.false_eq_true, if_false]
  repeat' split
  all_goals first | rfl | omega
theorem compareU_eq (a b : Int) : G.cmp_Compare_uint64.f a b = some (sg (a - b)) := by
  unfold G.cmp_Compare_uint64.f G.cmp_isNaN_uint64.f sg
  simp only [Option.bind_some, bne_self_eq_false, Bool.false_eq_true, if_false]
  repeat' split
  all_goals first | rfl | omega

theorem or2_eq (k : Nat) (a b : Int) : G.cmp_Or_int.f (k + 3) [a, b] = some (if a = 0 then b else a) := by
  unfold G.cmp_Or_int.f
  have e1 : wrap64 (0 + 1) = 1 := by unfold wrap64; decide
  have e2 : wrap64 (1 + 1) = 2 := by unfold wrap64; decide
  have hl : (([a, b] : List Int).length : Int) = 2 := rfl
  have r0 : rd [a, b] 0 = a := rfl
  have r1 : rd [a, b] 1 = b := rfl
  rw [hl, G.cmp_Or_int.l0, if_pos (by decide), if_pos (by decide), if_pos (by rw [hl]; decide), r0, e1]
  by_cases h : a = 0
  · rw [if_pos h, if_pos h, G.cmp_Or_int.l0, if_pos (by decide), if_pos (by decide), if_pos (by rw [hl]; decide), r1, e2]
    by_cases h' : b = 0
    · rw [if_pos h', G.cmp_Or_int.l0, if_neg (by decide), h']
    · rw [if_neg h']
  · rw [if_neg h, if_neg h]

theorem cmpW_eq (k : Nat) (a b : Int) : G.wide_Cmp.f (k + 3) (hiW a) (loW a) (hiW b) (loW b) = some (sg (a - b)) := by
  unfold G.wide_Cmp.f
  rw [compare64_eq, Option.bind_some, compareU_eq, Option.bind_some, or2_eq, Option.bind_some]
  unfold hiW loW sg
  congr 1
  repeat' split
  all_goals first | rfl | omega

/-- A fraction. -/
structure Fr where
  n : Int
  d : Int
def Fr.right (p : Fr) : Prop := 0 < p.d ∨ (p.n = 1 ∧ p.d = 0)
instance (p : Fr) : Decidable p.right := by unfold Fr.right; infer_instance
def Fr.b64 (p : Fr) : Prop := i64b p.n ∧ i64b p.d

theorem right_eq (p : Fr) : G.wide_right.f p.n p.d = some (decide p.right) := by
  unfold G.wide_right.f
  by_cases h : p.d > 0
  · rw [if_pos h, decide_eq_true (show p.right from Or.inl h)]
  · rw [if_neg h]
    have e : (p.n == 1 && (p.d == 0)) = decide p.right := by
      rw [Bool.eq_iff_iff, Bool.and_eq_true, beq_iff_eq, beq_iff_eq, decide_eq_true_eq]
      unfold Fr.right
      omega
    rw [e]



theorem order_eq (k : Nat) (p q : Fr) (hp : p.b64) (hq : q.b64) (rp : p.right) (rq : q.right) :
    G.wide_Order.f (k + 4) p.n p.d q.n q.d = some (sg (p.n * q.d - q.n * p.d), true) := by
  unfold G.wide_Order.f
  rw [right_eq, right_eq, decide_eq_true rp, decide_eq_true rq, Option.bind_some, if_pos rfl, Option.bind_some, G.wide_Order.j0, if_neg (by decide), mulW_eq _ _ hp.1 hq.2, Option.bind_some,
    mulW_eq _ _ hq.1 hp.2, Option.bind_some, cmpW_eq, Option.bind_some]

end Go.Proofs.Ytihklolcnfbbjaa.M

namespace Go.Proofs.Ytihklolcnfbbjaa.M
open Go.RowKit Go.Proofs.VecMath Go.Proofs.YtihklolcnfbbjaaW.PrintWords
set_option linter.unusedVariables false

def Fr.lt (p q : Fr) : Prop := p.n * q.d < q.n * p.d
instance (p q : Fr) : Decidable (p.lt q) := by unfold Fr.lt; infer_instance
def Fr.ok (p : Fr) : Prop := p.right ∧ p.b64

theorem less_eq (k : Nat) (p q : Fr) (hp : p.ok) (hq : q.ok) : G.slab_less.f (k + 4) p.n p.d q.n q.d = some (decide (p.lt q)) := by
  unfold G.slab_less.f
  rw [order_eq k p q hp.2 hq.2 hp.1 hq.1, Option.bind_some]
  have e : (sg (p.n * q.d - q.n * p.d) < 0) ↔ p.lt q := by
    unfold Fr.lt sg
    repeat' split
    all_goals omega
  simp only [e]

def zeroF : Fr := ⟨0, 1⟩
def infF : Fr := ⟨1, 0⟩
def spanP (f s l h : Int) : Option (Fr × Fr) :=
  if l > h ∨ (s = 0 ∧ (f < l ∨ f > h)) then none else if s = 0 then some (zeroF, infF) else some (⟨l - f, s⟩, ⟨h - f, s⟩)
def spanO (f s l h : Int) : Option (Fr × Fr) := if s < 0 then spanP (-f) (-s) (-h) (-l) else spanP f s l h
def pack : Option (Fr × Fr) → Int × Int × Int × Int × Bool
  | none => (0, 0, 0, 0, false)
  | some (p, q) => (p.n, p.d, q.n, q.d, true)

theorem spanP_eq (k : Nat) (f s l h : Int) (hf : -131072 ≤ f ∧ f ≤ 131072) (hl : -131072 ≤ l ∧ l ≤ 131072) (hh : -131072 ≤ h ∧ h ≤ 131072) :
    G.slab_part_span.j0 (k + 2) f s l h = some (pack (spanP f s l h)) := by
  have e1 : wrap64 (l - f) = l - f := w64 (by omega)
  have e2 : wrap64 (h - f) = h - f := w64 (by omega)
  rw [G.slab_part_span.j0]
  unfold spanP
  by_cases h1 : l > h
  · rw [if_pos h1, if_pos (Or.inl h1), G.slab_part_span.j1, if_pos rfl]
    rfl
  · rw [if_neg h1]
    by_cases h2 : s = 0
    · rw [if_pos h2]
      by_cases h3 : f < l
      · rw [if_pos h3, if_pos (Or.inr ⟨h2, Or.inl h3⟩), G.slab_part_span.j1, if_pos rfl]
        rfl
      · rw [if_neg h3, G.slab_part_span.j1]
        by_cases h4 : f > h
        · rw [if_pos (decide_eq_true h4), if_pos (Or.inr ⟨h2, Or.inr h4⟩)]
          rfl
        · rw [if_neg (by rw [decide_eq_false h4]; decide), if_pos h2, if_neg (by omega), if_pos h2]
          rfl
    · rw [if_neg h2, if_neg (by omega), G.slab_part_span.j1, if_neg (by decide), if_neg h2, if_neg h2, e1, e2]
      rfl

theorem span_eq (k : Nat) (f s l h : Int) (hf : -131072 ≤ f ∧ f ≤ 131072) (hs : -131072 ≤ s ∧ s ≤ 131072) (hl : -131072 ≤ l ∧ l ≤ 131072) (hh : -131072 ≤ h ∧ h ≤ 131072) :
    G.slab_part_span.f (k + 2) f s l h = some (pack (spanO f s l h)) := by
  unfold G.slab_part_span.f spanO
  by_cases h1 : s < 0
  · rw [if_pos h1, if_pos h1, w64 (by omega), w64 (by omega), w64 (by omega), w64 (by omega), spanP_eq _ _ _ _ _ (by omega) (by omega) (by omega)]
  · rw [if_neg h1, if_neg h1, spanP_eq _ _ _ _ _ (by omega) (by omega) (by omega)]

/-- What a span can be. -/
theorem span_cases (f s l h : Int) : spanO f s l h = none ∨ (s = 0 ∧ spanO f s l h = some (zeroF, infF) ∧ l ≤ f ∧ f ≤ h) ∨ (0 < s ∧ l ≤ h ∧ spanO f s l h = some (⟨l - f, s⟩, ⟨h - f, s⟩)) ∨ (s < 0 ∧ l ≤ h ∧ spanO f s l h = some (⟨f - h, -s⟩, ⟨f - l, -s⟩)) := by
  unfold spanO spanP
  by_cases h1 : s < 0
  · rw [if_pos h1]
    by_cases h2 : l > h
    · rw [if_pos (Or.inl (by omega))]
      exact Or.inl rfl
    · rw [if_neg (by omega), if_neg (by omega)]
      refine Or.inr (Or.inr (Or.inr ⟨h1, by omega, ?_⟩))
      rw [show -h - -f = f - h by omega, show -l - -f = f - l by omega]
  · rw [if_neg h1]
    by_cases h2 : l > h ∨ (s = 0 ∧ (f < l ∨ f > h))
    · rw [if_pos h2]
      exact Or.inl rfl
    · rw [if_neg h2]
      by_cases h3 : s = 0
      · rw [if_pos h3]
        exact Or.inr (Or.inl ⟨h3, rfl, by omega, by omega⟩)
      · rw [if_neg h3]
        exact Or.inr (Or.inr (Or.inl ⟨by omega, by omega, rfl⟩))

/-- Small fractions. -/
def Fr.sm (p : Fr) : Prop := p.right ∧ -262144 ≤ p.n ∧ p.n ≤ 262144 ∧ 0 ≤ p.d ∧ p.d ≤ 262144
theorem Fr.sm.ok {p : Fr} (h : p.sm) : p.ok := ⟨h.1, by obtain ⟨_, _, _, _, _⟩ := h; unfold Fr.b64 i64b; omega⟩
theorem zero_sm : zeroF.sm := by unfold zeroF Fr.sm Fr.right; decide
theorem inf_sm : infF.sm := by unfold infF Fr.sm Fr.right; decide
theorem span_sm {f s l h : Int} (hf : -65536 ≤ f ∧ f ≤ 65536) (hs : -32768 ≤ s ∧ s ≤ 32768) (hl : -131072 ≤ l ∧ l ≤ 131072) (hh : -131072 ≤ h ∧ h ≤ 131072) {p q : Fr} (e : spanO f s l h = some (p, q)) : p.sm ∧ q.sm := by
  rcases span_cases f s l h with c | ⟨_, c, _⟩ | ⟨_, _, c⟩ | ⟨_, _, c⟩
  · rw [c] at e
    cases e
  all_goals
    rw [c] at e
    simp only [Option.some.injEq, Prod.mk.injEq] at e
    obtain ⟨rfl, rfl⟩ := e
  · exact ⟨zero_sm, inf_sm⟩
  · unfold Fr.sm Fr.right
    dsimp only
    omega
  · unfold Fr.sm Fr.right
    dsimp only
    omega

def mxF (a b : Fr) : Fr := if a.lt b then b else a
def mnF (a b : Fr) : Fr := if b.lt a then b else a
theorem mx_sm {a b : Fr} (ha : a.sm) (hb : b.sm) : (mxF a b).sm := by unfold mxF; split <;> assumption
theorem mn_sm {a b : Fr} (ha : a.sm) (hb : b.sm) : (mnF a b).sm := by unfold mnF; split <;> assumption

/-- Where three spans are at once. -/
def cut3 (s1 s2 s3 : Option (Fr × Fr)) : Option (Fr × Fr) :=
  match s1 with
  | none => none
  | some (p1, q1) => match s2 with
    | none => none
    | some (p2, q2) => match s3 with
      | none => none
      | some (p3, q3) => if (mnF (mnF (mnF infF q1) q2) q3).lt (mxF (mxF (mxF zeroF p1) p2) p3) then none else some (mxF (mxF (mxF zeroF p1) p2) p3, mnF (mnF (mnF infF q1) q2) q3)
def packE : Option (Fr × Fr) → Int × Int × Int × Int × Bool × Int
  | none => (0, 0, 0, 0, false, 0)
  | some (p, q) => (p.n, p.d, q.n, q.d, true, 0)

theorem j3_eq (k : Nat) (p q : Fr) (hp : p.sm) (hq : q.sm) : G.slab_Range.j3 (k + 5) p.n p.d q.n q.d = some (packE (if q.lt p then none else some (p, q))) := by
  rw [G.slab_Range.j3, less_eq _ _ _ hq.ok hp.ok, Option.bind_some]
  by_cases h : q.lt p
  · rw [if_pos (decide_eq_true h), if_pos h]
    rfl
  · rw [if_neg (by rw [decide_eq_false h]; decide), if_neg h]
    rfl

theorem fold_eq {α : Type} (k : Nat) (p q u v : Fr) (hp : p.sm) (hq : q.sm) (hu : u.sm) (hv : v.sm) (F : Int → Int → Int → Int → Option α) :
    ((G.slab_less.f (k + 4) p.n p.d u.n u.d).bind fun t => if t = true then ((G.slab_less.f (k + 4) v.n v.d q.n q.d).bind fun t' => if t' = true then F u.n u.d v.n v.d else F u.n u.d q.n q.d)
      else ((G.slab_less.f (k + 4) v.n v.d q.n q.d).bind fun t' => if t' = true then F p.n p.d v.n v.d else F p.n p.d q.n q.d)) = F (mxF p u).n (mxF p u).d (mnF q v).n (mnF q v).d := by
  rw [less_eq _ _ _ hp.ok hu.ok, less_eq _ _ _ hv.ok hq.ok]
  simp only [Option.bind_some, decide_eq_true_eq]
  unfold mxF mnF
  by_cases h1 : p.lt u
  · rw [if_pos h1, if_pos h1]
    by_cases h2 : v.lt q
    · rw [if_pos h2, if_pos h2]
    · rw [if_neg h2, if_neg h2]
  · rw [if_neg h1, if_neg h1]
    by_cases h2 : v.lt q
    · rw [if_pos h2, if_pos h2]
    · rw [if_neg h2, if_neg h2]

def bx (o d l h : Vec) : Prop := o.in_ 65536 ∧ d.in_ 32768 ∧ l.in_ 131072 ∧ h.in_ 131072

theorem j2_eq (k : Nat) (p q : Fr) (hp : p.sm) (hq : q.sm) (a b c d e f g h : Int) (o s l m : Int) (ho : -65536 ≤ o ∧ o ≤ 65536) (hs : -32768 ≤ s ∧ s ≤ 32768) (hl : -131072 ≤ l ∧ l ≤ 131072) (hm : -131072 ≤ m ∧ m ≤ 131072) :
    G.slab_Range.j2 (k + 6) p.n p.d q.n q.d a b c d e f g h o s l m = some (packE (match spanO o s l m with
      | none => none
      | some (p3, q3) => if (mnF q q3).lt (mxF p p3) then none else some (mxF p p3, mnF q q3))) := by
  rw [G.slab_Range.j2, span_eq _ _ _ _ _ (by omega) (by omega) hl hm, Option.bind_some]
  rcases e : spanO o s l m with _ | ⟨u, v⟩
  · rfl
  · obtain ⟨su, sv⟩ := span_sm ho hs hl hm e
    simp only [pack]
    rw [if_pos trivial, fold_eq (k + 1) p q u v hp hq su sv, j3_eq _ _ _ (mx_sm hp su) (mn_sm hq sv)]

theorem j1_eq (k : Nat) (p q : Fr) (hp : p.sm) (hq : q.sm) (a b c d : Int) (o s l m : Int) (ho : -65536 ≤ o ∧ o ≤ 65536) (hs : -32768 ≤ s ∧ s ≤ 32768) (hl : -131072 ≤ l ∧ l ≤ 131072) (hm : -131072 ≤ m ∧ m ≤ 131072)
    (o' s' l' m' : Int) (ho' : -65536 ≤ o' ∧ o' ≤ 65536) (hs' : -32768 ≤ s' ∧ s' ≤ 32768) (hl' : -131072 ≤ l' ∧ l' ≤ 131072) (hm' : -131072 ≤ m' ∧ m' ≤ 131072) :
    G.slab_Range.j1 (k + 7) p.n p.d q.n q.d a b c d o s l m o' s' l' m' = some (packE (match spanO o s l m with
      | none => none
      | some (p2, q2) => match spanO o' s' l' m' with
        | none => none
        | some (p3, q3) => if (mnF (mnF q q2) q3).lt (mxF (mxF p p2) p3) then none else some (mxF (mxF p p2) p3, mnF (mnF q q2) q3))) := by
  rw [G.slab_Range.j1, span_eq _ _ _ _ _ (by omega) (by omega) hl hm, Option.bind_some]
  rcases e : spanO o s l m with _ | ⟨u, v⟩
  · rfl
  · obtain ⟨su, sv⟩ := span_sm ho hs hl hm e
    simp only [pack]
    rw [if_pos trivial, fold_eq (k + 2) p q u v hp hq su sv (fun x y z t => G.slab_Range.j2 (k + 6) x y z t a b c d o s l m o' s' l' m'), j2_eq _ _ _ (mx_sm hp su) (mn_sm hq sv) _ _ _ _ _ _ _ _ _ _ _ _ ho' hs' hl' hm']

theorem j0_eq (k : Nat) (o d l h : Vec) (b : bx o d l h) :
    G.slab_Range.j0 (k + 8) false o.x o.y o.z d.x d.y d.z l.x l.y l.z h.x h.y h.z = some (packE (cut3 (spanO o.x d.x l.x h.x) (spanO o.y d.y l.y h.y) (spanO o.z d.z l.z h.z))) := by
  obtain ⟨⟨ox, oy, oz⟩, ⟨dx, dy, dz⟩, ⟨lx, ly, lz⟩, hx, hy, hz⟩ := b
  rw [G.slab_Range.j0, if_neg (by decide), span_eq _ _ _ _ _ (by omega) (by omega) lx hx, Option.bind_some]
  unfold cut3
  rcases e : spanO o.x d.x l.x h.x with _ | ⟨u, v⟩
  · rfl
  · obtain ⟨su, sv⟩ := span_sm ox dx lx hx e
    have F := fold_eq (k + 3) zeroF infF u v zero_sm inf_sm su sv (fun x y z t => G.slab_Range.j1 (k + 7) x y z t o.x d.x l.x h.x o.y d.y l.y h.y o.z d.z l.z h.z)
    simp only [pack]
    rw [if_pos trivial]
    refine F.trans ?_
    rw [j1_eq _ _ _ (mx_sm zero_sm su) (mn_sm inf_sm sv) _ _ _ _ _ _ _ _ oy dy ly hy _ _ _ _ oz dz lz hz]

def okS (o d l h : Vec) : Prop := ¬ d.zero ∧ bx o d l h
instance (o d l h : Vec) : Decidable (okS o d l h) := by unfold okS bx; infer_instance
def rangeS (o d l h : Vec) : Int × Int × Int × Int × Bool × Int :=
  if okS o d l h then packE (cut3 (spanO o.x d.x l.x h.x) (spanO o.y d.y l.y h.y) (spanO o.z d.z l.z h.z)) else (0, 0, 0, 0, false, 21)

theorem range_eq (k : Nat) (o d l h : Vec) : G.slab_Range.f (k + 8) o.x o.y o.z d.x d.y d.z l.x l.y l.z h.x h.y h.z = some (rangeS o d l h) := by
  unfold G.slab_Range.f rangeS
  have jt : G.slab_Range.j0 (k + 8) true o.x o.y o.z d.x d.y d.z l.x l.y l.z h.x h.y h.z = some (0, 0, 0, 0, false, 21) := by
    rw [G.slab_Range.j0, if_pos rfl]
  by_cases h0 : d.zero
  · rw [if_pos (by obtain ⟨a, b, c⟩ := h0; rw [a, b, c]; rfl), jt, if_neg (fun q => q.1 h0)]
  · rw [if_neg (by
      intro q
      rw [Bool.and_eq_true, Bool.and_eq_true, beq_iff_eq, beq_iff_eq, beq_iff_eq] at q
      exact h0 q)]
    rw [within_eq _ _ _ _ (by decide) (by decide), Option.bind_some]
    by_cases h1 : o.in_ 65536
    · rw [if_pos (decide_eq_true h1), within_eq _ _ _ _ (by decide) (by decide), Option.bind_some]
      by_cases h2 : d.in_ 32768
      · rw [if_pos (decide_eq_true h2), within_eq _ _ _ _ (by decide) (by decide), Option.bind_some]
        by_cases h3 : l.in_ 131072
        · rw [if_pos (decide_eq_true h3), within_eq _ _ _ _ (by decide) (by decide), Option.bind_some]
          by_cases h4 : h.in_ 131072
          · rw [decide_eq_true (show (⟨h.x, h.y, h.z⟩ : Vec).in_ 131072 from h4)]
            have b : bx o d l h := ⟨h1, h2, h3, h4⟩
            rw [if_pos ⟨h0, b⟩]
            exact j0_eq k o d l h b
          · rw [decide_eq_false (show ¬ (⟨h.x, h.y, h.z⟩ : Vec).in_ 131072 from h4), if_neg (fun q => h4 q.2.2.2.2)]
            exact jt
        · rw [if_neg (by rw [decide_eq_false (show ¬ (⟨l.x, l.y, l.z⟩ : Vec).in_ 131072 from h3)]; decide), if_neg (fun q => h3 q.2.2.2.1), jt]
      · rw [if_neg (by rw [decide_eq_false (show ¬ (⟨d.x, d.y, d.z⟩ : Vec).in_ 32768 from h2)]; decide), if_neg (fun q => h2 q.2.2.1), jt]
    · rw [if_neg (by rw [decide_eq_false (show ¬ (⟨o.x, o.y, o.z⟩ : Vec).in_ 65536 from h1)]; decide), if_neg (fun q => h1 q.2.1), jt]
end Go.Proofs.Ytihklolcnfbbjaa.M

namespace Go.Proofs.Ytihklolcnfbbjaa.M
open Go.RowKit Go.Proofs.VecMath Go.Proofs.YtihklolcnfbbjaaW.PrintWords
set_option linter.unusedVariables false

def Fr.le (p q : Fr) : Prop := p.n * q.d ≤ q.n * p.d
theorem not_lt_le {p q : Fr} : ¬ q.lt p ↔ p.le q := by unfold Fr.lt Fr.le; omega
theorem lt_le {p q : Fr} (h : p.lt q) : p.le q := by unfold Fr.lt Fr.le at *; omega
theorem le_refl (p : Fr) : p.le p := Int.le_refl _
theorem le_trans {p q r : Fr} (hp : p.right) (hq : q.right) (hr : r.right) (h1 : p.le q) (h2 : q.le r) : p.le r := by
  unfold Fr.le Fr.right at *
  rcases hq with hq | ⟨hq1, hq2⟩
  · have pd : 0 ≤ p.d := by omega
    have rd : 0 ≤ r.d := by omega
    have a := Int.mul_le_mul_of_nonneg_right h1 rd
    have b := Int.mul_le_mul_of_nonneg_right h2 pd
    have c : p.n * r.d * q.d ≤ r.n * p.d * q.d := by
      have e1 : p.n * q.d * r.d = p.n * r.d * q.d := by grind
      have e2 : q.n * p.d * r.d = q.n * r.d * p.d := by grind
      have e3 : r.n * q.d * p.d = r.n * p.d * q.d := by grind
      omega
    exact Int.le_of_mul_le_mul_right c hq
  · rw [hq1, hq2] at h2
    have hd : r.d = 0 := by omega
    have hn : r.n = 1 := by omega
    rw [hd, hn]
    omega

theorem mx_left {a b : Fr} (ra : a.right) (rb : b.right) : a.le (mxF a b) := by
  unfold mxF
  split
  · exact lt_le ‹_›
  · exact le_refl _
theorem mx_right {a b : Fr} : b.le (mxF a b) := by
  unfold mxF
  split
  · exact le_refl _
  · exact not_lt_le.mp ‹_›
theorem mn_left {a b : Fr} : (mnF a b).le a := by
  unfold mnF
  split
  · exact lt_le ‹_›
  · exact le_refl _
theorem mn_right {a b : Fr} : (mnF a b).le b := by
  unfold mnF
  split
  · exact le_refl _
  · exact not_lt_le.mp ‹_›
theorem mx_le {a b c : Fr} (h1 : a.le c) (h2 : b.le c) : (mxF a b).le c := by unfold mxF; split <;> assumption
theorem le_mn {a b c : Fr} (h1 : c.le a) (h2 : c.le b) : c.le (mnF a b) := by unfold mnF; split <;> assumption
theorem le_inf {a : Fr} (h : a.right) : a.le infF := by
  unfold Fr.le infF Fr.right at *
  dsimp only
  omega

theorem cut_mem {s1 s2 s3 : Option (Fr × Fr)} {p1 q1 p2 q2 p3 q3 T : Fr} (h1 : s1 = some (p1, q1)) (h2 : s2 = some (p2, q2)) (h3 : s3 = some (p3, q3)) (m1 : p1.sm ∧ q1.sm) (m2 : p2.sm ∧ q2.sm) (m3 : p3.sm ∧ q3.sm)
    (hT : T.right) (z : zeroF.le T) (a1 : p1.le T) (b1 : T.le q1) (a2 : p2.le T) (b2 : T.le q2) (a3 : p3.le T) (b3 : T.le q3) :
    ∃ lo hi : Fr, cut3 s1 s2 s3 = some (lo, hi) ∧ lo.sm ∧ hi.sm ∧ lo.le T ∧ T.le hi := by
  refine ⟨mxF (mxF (mxF zeroF p1) p2) p3, mnF (mnF (mnF infF q1) q2) q3, ?_, mx_sm (mx_sm (mx_sm zero_sm m1.1) m2.1) m3.1, mn_sm (mn_sm (mn_sm inf_sm m1.2) m2.2) m3.2, mx_le (mx_le (mx_le z a1) a2) a3, le_mn (le_mn (le_mn (le_inf hT) b1) b2) b3⟩
  rw [h1, h2, h3]
  unfold cut3
  dsimp only
  rw [if_neg (not_lt_le.mpr (le_trans (mx_sm (mx_sm (mx_sm zero_sm m1.1) m2.1) m3.1).1 hT (mn_sm (mn_sm (mn_sm inf_sm m1.2) m2.2) m3.2).1 (mx_le (mx_le (mx_le z a1) a2) a3) (le_mn (le_mn (le_mn (le_inf hT) b1) b2) b3)))]

theorem cut_of {s1 s2 s3 : Option (Fr × Fr)} {lo hi : Fr} (m1 : ∀ p q, s1 = some (p, q) → p.sm ∧ q.sm) (m2 : ∀ p q, s2 = some (p, q) → p.sm ∧ q.sm) (m3 : ∀ p q, s3 = some (p, q) → p.sm ∧ q.sm) (h : cut3 s1 s2 s3 = some (lo, hi)) :
    lo.sm ∧ hi.sm ∧ zeroF.le lo ∧ lo.le hi ∧ ∃ p1 q1 p2 q2 p3 q3 : Fr, s1 = some (p1, q1) ∧ s2 = some (p2, q2) ∧ s3 = some (p3, q3) ∧ p1.le lo ∧ hi.le q1 ∧ p2.le lo ∧ hi.le q2 ∧ p3.le lo ∧ hi.le q3 ∧
      lo = mxF (mxF (mxF zeroF p1) p2) p3 ∧ hi = mnF (mnF (mnF infF q1) q2) q3 := by
  unfold cut3 at h
  rcases s1 with _ | ⟨p1, q1⟩
  · cases h
  rcases s2 with _ | ⟨p2, q2⟩
  · cases h
  rcases s3 with _ | ⟨p3, q3⟩
  · cases h
  dsimp only at h
  by_cases c : (mnF (mnF (mnF infF q1) q2) q3).lt (mxF (mxF (mxF zeroF p1) p2) p3)
  · rw [if_pos c] at h
    cases h
  · rw [if_neg c] at h
    simp only [Option.some.injEq, Prod.mk.injEq] at h
    obtain ⟨rfl, rfl⟩ := h
    have m1 := m1 _ _ rfl
    have m2 := m2 _ _ rfl
    have m3 := m3 _ _ rfl
    have A1 := mx_sm zero_sm m1.1
    have A2 := mx_sm A1 m2.1
    have A3 := mx_sm A2 m3.1
    have B1 := mn_sm inf_sm m1.2
    have B2 := mn_sm B1 m2.2
    have B3 := mn_sm B2 m3.2
    have x2 := mx_left A2.1 m3.1.1
    have x1 := le_trans A1.1 A2.1 A3.1 (mx_left A1.1 m2.1.1) x2
    have x0 := le_trans zero_sm.1 A1.1 A3.1 (mx_left zero_sm.1 m1.1.1) x1
    have y2 : (mnF (mnF (mnF infF q1) q2) q3).le (mnF (mnF infF q1) q2) := mn_left
    have y1 := le_trans B3.1 B2.1 B1.1 y2 mn_left
    exact ⟨A3, B3, x0, not_lt_le.mp c, p1, q1, p2, q2, p3, q3, rfl, rfl, rfl, le_trans m1.1.1 A1.1 A3.1 mx_right x1, le_trans B3.1 B1.1 m1.2.1 y1 mn_right,
      le_trans m2.1.1 A2.1 A3.1 mx_right x2, le_trans B3.1 B2.1 m2.2.1 y2 mn_right, mx_right, mn_right, rfl, rfl⟩

/-- A wider span. -/
theorem span_wider {f s l h l' h' : Int} (a : l' ≤ l) (b : h ≤ h') {p q T : Fr} (hT : T.right) (e : spanO f s l h = some (p, q)) (hp : p.le T) (hq : T.le q) : ∃ p' q', spanO f s l' h' = some (p', q') ∧ p'.le T ∧ T.le q' := by
  have td : 0 ≤ T.d := by unfold Fr.right at hT; omega
  rcases span_cases f s l h with c | ⟨s0, c, i1, i2⟩ | ⟨s0, lh, c⟩ | ⟨s0, lh, c⟩
  · rw [c] at e
    cases e
  all_goals
    rw [c] at e
    simp only [Option.some.injEq, Prod.mk.injEq] at e
    obtain ⟨rfl, rfl⟩ := e
  · refine ⟨_, _, ?_, hp, hq⟩
    unfold spanO spanP
    rw [if_neg (by omega), if_neg (by omega), if_pos s0]
  · refine ⟨⟨l' - f, s⟩, ⟨h' - f, s⟩, ?_, ?_, ?_⟩
    · unfold spanO spanP
      rw [if_neg (by omega), if_neg (by omega), if_neg (by omega)]
    · unfold Fr.le at *
      dsimp only at *
      have := Int.mul_le_mul_of_nonneg_right (show l' - f ≤ l - f by omega) td
      omega
    · unfold Fr.le at *
      dsimp only at *
      have := Int.mul_le_mul_of_nonneg_right (show h - f ≤ h' - f by omega) td
      omega
  · refine ⟨⟨f - h', -s⟩, ⟨f - l', -s⟩, ?_, ?_, ?_⟩
    · unfold spanO spanP
      rw [if_pos (by omega), if_neg (by omega), if_neg (by omega), show -h' - -f = f - h' by omega, show -l' - -f = f - l' by omega]
    · unfold Fr.le at *
      dsimp only at *
      have := Int.mul_le_mul_of_nonneg_right (show f - h' ≤ f - h by omega) td
      omega
    · unfold Fr.le at *
      dsimp only at *
      have := Int.mul_le_mul_of_nonneg_right (show f - l ≤ f - l' by omega) td
      omega

theorem rangeS_ok {o d l h : Vec} (k : okS o d l h) : rangeS o d l h = packE (cut3 (spanO o.x d.x l.x h.x) (spanO o.y d.y l.y h.y) (spanO o.z d.z l.z h.z)) := by unfold rangeS; rw [if_pos k]
theorem rangeS_no {o d l h : Vec} (k : ¬ okS o d l h) : rangeS o d l h = (0, 0, 0, 0, false, 21) := by unfold rangeS; rw [if_neg k]
theorem packE_e (x : Option (Fr × Fr)) : (packE x).2.2.2.2.2 = 0 := by rcases x with _ | ⟨p, q⟩ <;> rfl

/-- The three spans of a box. -/
def cutV (o d l h : Vec) : Option (Fr × Fr) := cut3 (spanO o.x d.x l.x h.x) (spanO o.y d.y l.y h.y) (spanO o.z d.z l.z h.z)
theorem range_cases (o d l h : Vec) : (¬ okS o d l h ∧ rangeS o d l h = (0, 0, 0, 0, false, 21)) ∨ (okS o d l h ∧ cutV o d l h = none ∧ rangeS o d l h = (0, 0, 0, 0, false, 0)) ∨
    (okS o d l h ∧ ∃ lo hi, cutV o d l h = some (lo, hi) ∧ rangeS o d l h = (lo.n, lo.d, hi.n, hi.d, true, 0)) := by
  by_cases k : okS o d l h
  · rw [rangeS_ok k]
    rcases e : cutV o d l h with _ | ⟨p, q⟩
    · refine Or.inr (Or.inl ⟨k, rfl, ?_⟩)
      unfold cutV at e
      rw [e]
      rfl
    · refine Or.inr (Or.inr ⟨k, p, q, rfl, ?_⟩)
      unfold cutV at e
      rw [e]
      rfl
  · exact Or.inl ⟨k, rangeS_no k⟩

theorem cutV_of {o d l h : Vec} (k : okS o d l h) {lo hi : Fr} (e : cutV o d l h = some (lo, hi)) :
    lo.sm ∧ hi.sm ∧ zeroF.le lo ∧ lo.le hi ∧ ∃ p1 q1 p2 q2 p3 q3 : Fr, spanO o.x d.x l.x h.x = some (p1, q1) ∧ spanO o.y d.y l.y h.y = some (p2, q2) ∧ spanO o.z d.z l.z h.z = some (p3, q3) ∧ p1.le lo ∧ hi.le q1 ∧ p2.le lo ∧ hi.le q2 ∧ p3.le lo ∧ hi.le q3 ∧
      lo = mxF (mxF (mxF zeroF p1) p2) p3 ∧ hi = mnF (mnF (mnF infF q1) q2) q3 := by
  obtain ⟨_, ⟨ox, oy, oz⟩, ⟨dx, dy, dz⟩, ⟨lx, ly, lz⟩, hx, hy, hz⟩ := k
  exact cut_of (fun p q e => span_sm ox dx lx hx e) (fun p q e => span_sm oy dy ly hy e) (fun p q e => span_sm oz dz lz hz e) e

theorem cutV_mem {o d l h : Vec} (k : okS o d l h) {p1 q1 p2 q2 p3 q3 T : Fr} (h1 : spanO o.x d.x l.x h.x = some (p1, q1)) (h2 : spanO o.y d.y l.y h.y = some (p2, q2)) (h3 : spanO o.z d.z l.z h.z = some (p3, q3))
    (hT : T.right) (z : zeroF.le T) (a1 : p1.le T) (b1 : T.le q1) (a2 : p2.le T) (b2 : T.le q2) (a3 : p3.le T) (b3 : T.le q3) :
    ∃ lo hi : Fr, cutV o d l h = some (lo, hi) ∧ lo.sm ∧ hi.sm ∧ lo.le T ∧ T.le hi := by
  obtain ⟨_, ⟨ox, oy, oz⟩, ⟨dx, dy, dz⟩, ⟨lx, ly, lz⟩, hx, hy, hz⟩ := k
  exact cut_mem h1 h2 h3 (span_sm ox dx lx hx h1) (span_sm oy dy ly hy h2) (span_sm oz dz lz hz h3) hT z a1 b1 a2 b2 a3 b3

theorem order_sm (k : Nat) {p q : Fr} (hp : p.sm) (hq : q.sm) : G.wide_Order.f (k + 4) p.n p.d q.n q.d = some (sg (p.n * q.d - q.n * p.d), true) := order_eq k p q hp.ok.2 hq.ok.2 hp.1 hq.1
theorem sg_le {p q : Fr} : sg (p.n * q.d - q.n * p.d) ≤ 0 ↔ p.le q := by
  unfold sg Fr.le
  repeat' split
  all_goals omega

theorem aliveSlab_at (k : Nat) : G.relievolaw04_alive.f (k + 8) = some true := by
  unfold G.relievolaw04_alive.f
  rw [range_eq k ⟨0, 0, 0⟩ ⟨2, 0, 0⟩ ⟨3, 0, 0⟩ ⟨5, 1, 1⟩]
  rfl
end Go.Proofs.Ytihklolcnfbbjaa.M

namespace Go.Proofs.Ytihklolcnfbbjaa.Pure
open Go.RowKit Go.Proofs.VecMath Go.Proofs.Ytihklolcnfbbjaa.M Go.Proofs.YtihklolcnfbbjaaW.PrintWords
set_option linter.unusedVariables false


/-- A point of a triangle, as a sum of its corners. -/
theorem bary (d u v w : Vec) :
    (d.x * (v.y * w.z - v.z * w.y) + d.y * (v.z * w.x - v.x * w.z) + d.z * (v.x * w.y - v.y * w.x)) * u.x + (d.x * (w.y * u.z - w.z * u.y) + d.y * (w.z * u.x - w.x * u.z) + d.z * (w.x * u.y - w.y * u.x)) * v.x
      + (d.x * (u.y * v.z - u.z * v.y) + d.y * (u.z * v.x - u.x * v.z) + d.z * (u.x * v.y - u.y * v.x)) * w.x =
    (((v.y - u.y) * (w.z - u.z) - (v.z - u.z) * (w.y - u.y)) * u.x + ((v.z - u.z) * (w.x - u.x) - (v.x - u.x) * (w.z - u.z)) * u.y + ((v.x - u.x) * (w.y - u.y) - (v.y - u.y) * (w.x - u.x)) * u.z) * d.x := by
  grind

theorem bary_x (o d a b c : Vec) : V0 o d b c * (a.x - o.x) + V0 o d c a * (b.x - o.x) + V0 o d a b * (c.x - o.x) = num o a b c * d.x := by
  have h := bary d ⟨a.x - o.x, a.y - o.y, a.z - o.z⟩ ⟨b.x - o.x, b.y - o.y, b.z - o.z⟩ ⟨c.x - o.x, c.y - o.y, c.z - o.z⟩
  dsimp only at h
  unfold V0 num NX NY NZ
  rw [h]
  have e : ∀ x y z : Int, x - z - (y - z) = x - y := fun x y z => by omega
  simp only [e]
def rot (a : Vec) : Vec := ⟨a.y, a.z, a.x⟩
theorem V0_rot (o d a b : Vec) : V0 (rot o) (rot d) (rot a) (rot b) = V0 o d a b := by
  unfold V0 rot
  dsimp only
  grind
theorem num_rot (o a b c : Vec) : num (rot o) (rot a) (rot b) (rot c) = num o a b c := by
  unfold num NX NY NZ rot
  dsimp only
  grind
theorem bary_y (o d a b c : Vec) : V0 o d b c * (a.y - o.y) + V0 o d c a * (b.y - o.y) + V0 o d a b * (c.y - o.y) = num o a b c * d.y := by
  have h := bary_x (rot o) (rot d) (rot a) (rot b) (rot c)
  rw [V0_rot, V0_rot, V0_rot, num_rot] at h
  exact h
theorem bary_z (o d a b c : Vec) : V0 o d b c * (a.z - o.z) + V0 o d c a * (b.z - o.z) + V0 o d a b * (c.z - o.z) = num o a b c * d.z := by
  have h := bary_y (rot o) (rot d) (rot a) (rot b) (rot c)
  rw [V0_rot, V0_rot, V0_rot, num_rot] at h
  exact h
theorem V0_sum (o d a b c : Vec) : V0 o d b c + V0 o d c a + V0 o d a b = den d a b c := by
  unfold V0 den NX NY NZ
  grind

/-- The side's sign is that of the volume, where that isn't 0. -/
theorem pS_V0 (o d a b : Vec) : 0 ≤ pS o d a b * V0 o d a b := by
  unfold pS lex4
  by_cases h : sg (V0 o d a b) = 0
  · rw [sg_zero.1 h, Int.mul_zero]
    exact Int.le_refl _
  · rw [if_neg h]
    rcases sg_or (V0 o d a b) with e | e | e
    · rw [e]
      have := sg_neg.1 e
      omega
    · exact absurd e h
    · rw [e]
      have := sg_pos.1 e
      omega

theorem hull {wa wb wc N D : Int} (ha : 0 ≤ wa) (hb : 0 ≤ wb) (hc : 0 ≤ wc) (hs : wa + wb + wc = D) {a b c f s l h : Int} (e : wa * (a - f) + wb * (b - f) + wc * (c - f) = N * s) (la : l ≤ a ∧ a ≤ h) (lb : l ≤ b ∧ b ≤ h) (lc : l ≤ c ∧ c ≤ h) :
    D * (l - f) ≤ N * s ∧ N * s ≤ D * (h - f) := by
  have a1 := Int.mul_le_mul_of_nonneg_left (show l - f ≤ a - f by omega) ha
  have a2 := Int.mul_le_mul_of_nonneg_left (show a - f ≤ h - f by omega) ha
  have b1 := Int.mul_le_mul_of_nonneg_left (show l - f ≤ b - f by omega) hb
  have b2 := Int.mul_le_mul_of_nonneg_left (show b - f ≤ h - f by omega) hb
  have c1 := Int.mul_le_mul_of_nonneg_left (show l - f ≤ c - f by omega) hc
  have c2 := Int.mul_le_mul_of_nonneg_left (show c - f ≤ h - f by omega) hc
  rw [← hs, Int.add_mul, Int.add_mul, Int.add_mul, Int.add_mul]
  omega

theorem span_hull {f s l h : Int} {T : Fr} (hD : 0 < T.d) (hN : 0 ≤ T.n) (lh : l ≤ h) (e : T.d * (l - f) ≤ T.n * s ∧ T.n * s ≤ T.d * (h - f)) : ∃ p q, spanO f s l h = some (p, q) ∧ p.le T ∧ T.le q := by
  by_cases h0 : s = 0
  · rw [h0, Int.mul_zero] at e
    have i1 : l ≤ f := by
      have := Int.nonpos_of_mul_nonpos_right e.1 hD
      omega
    have i2 : f ≤ h := by
      have : 0 ≤ h - f := Int.nonneg_of_mul_nonneg_right e.2 hD
      omega
    refine ⟨zeroF, infF, ?_, ?_, ?_⟩
    · unfold spanO spanP
      rw [if_neg (by omega), if_neg (by omega), if_pos h0]
    · unfold Fr.le zeroF
      dsimp only
      omega
    · unfold Fr.le infF
      dsimp only
      omega
  · have c1 : (l - f) * T.d = T.d * (l - f) := Int.mul_comm _ _
    have c2 : (h - f) * T.d = T.d * (h - f) := Int.mul_comm _ _
    by_cases h1 : s < 0
    · refine ⟨⟨f - h, -s⟩, ⟨f - l, -s⟩, ?_, ?_, ?_⟩
      · unfold spanO spanP
        rw [if_pos h1, if_neg (by omega), if_neg (by omega), show -h - -f = f - h by omega, show -l - -f = f - l by omega]
      · unfold Fr.le
        dsimp only
        have : (f - h) * T.d = -(T.d * (h - f)) := by grind
        have : T.n * -s = -(T.n * s) := by grind
        omega
      · unfold Fr.le
        dsimp only
        have : (f - l) * T.d = -(T.d * (l - f)) := by grind
        have : T.n * -s = -(T.n * s) := by grind
        omega
    · refine ⟨⟨l - f, s⟩, ⟨h - f, s⟩, ?_, ?_, ?_⟩
      · unfold spanO spanP
        rw [if_neg h1, if_neg (by omega), if_neg (by omega)]
      · unfold Fr.le
        dsimp only
        omega
      · unfold Fr.le
        dsimp only
        omega

theorem hit_cut {o d a b c l h : Vec} (ok : Ok o d a b c) (hh : Hits o d a b c) (hN : 0 ≤ pS o d a b * num o a b c) (os : okS o d l h) (la : (l.x ≤ a.x ∧ a.x ≤ h.x) ∧ (l.y ≤ a.y ∧ a.y ≤ h.y) ∧ l.z ≤ a.z ∧ a.z ≤ h.z)
    (lb : (l.x ≤ b.x ∧ b.x ≤ h.x) ∧ (l.y ≤ b.y ∧ b.y ≤ h.y) ∧ l.z ≤ b.z ∧ b.z ≤ h.z) (lc : (l.x ≤ c.x ∧ c.x ≤ h.x) ∧ (l.y ≤ c.y ∧ c.y ≤ h.y) ∧ l.z ≤ c.z ∧ c.z ≤ h.z) :
    ∃ lo hi : Fr, cutV o d l h = some (lo, hi) ∧ lo.sm ∧ hi.sm ∧ lo.le ⟨pS o d a b * num o a b c, pS o d a b * den d a b c⟩ ∧ (⟨pS o d a b * num o a b c, pS o d a b * den d a b c⟩ : Fr).le hi := by
  obtain ⟨hD, _⟩ := den_sign ok hh
  obtain ⟨h0, h1, h2⟩ := hh
  have wc := pS_V0 o d a b
  have wa := pS_V0 o d b c
  have wb := pS_V0 o d c a
  rw [h1] at wa
  rw [h2] at wb
  have s := V0_sum o d a b c
  have hs : pS o d a b * V0 o d b c + pS o d a b * V0 o d c a + pS o d a b * V0 o d a b = pS o d a b * den d a b c := by
    rw [← s]
    grind
  have ex : pS o d a b * V0 o d b c * (a.x - o.x) + pS o d a b * V0 o d c a * (b.x - o.x) + pS o d a b * V0 o d a b * (c.x - o.x) = pS o d a b * num o a b c * d.x := by
    have := bary_x o d a b c
    rw [Int.mul_assoc (pS o d a b) (num o a b c), ← this]
    grind
  have ey : pS o d a b * V0 o d b c * (a.y - o.y) + pS o d a b * V0 o d c a * (b.y - o.y) + pS o d a b * V0 o d a b * (c.y - o.y) = pS o d a b * num o a b c * d.y := by
    have := bary_y o d a b c
    rw [Int.mul_assoc (pS o d a b) (num o a b c), ← this]
    grind
  have ez : pS o d a b * V0 o d b c * (a.z - o.z) + pS o d a b * V0 o d c a * (b.z - o.z) + pS o d a b * V0 o d a b * (c.z - o.z) = pS o d a b * num o a b c * d.z := by
    have := bary_z o d a b c
    rw [Int.mul_assoc (pS o d a b) (num o a b c), ← this]
    grind
  have x := hull wa wb wc hs ex la.1 lb.1 lc.1
  have y := hull wa wb wc hs ey la.2.1 lb.2.1 lc.2.1
  have z := hull wa wb wc hs ez la.2.2 lb.2.2 lc.2.2
  have hT : (⟨pS o d a b * num o a b c, pS o d a b * den d a b c⟩ : Fr).right := Or.inl hD
  obtain ⟨p1, q1, e1, u1, v1⟩ := span_hull (T := ⟨pS o d a b * num o a b c, pS o d a b * den d a b c⟩) hD hN (by omega) x
  obtain ⟨p2, q2, e2, u2, v2⟩ := span_hull (T := ⟨pS o d a b * num o a b c, pS o d a b * den d a b c⟩) hD hN (by omega) y
  obtain ⟨p3, q3, e3, u3, v3⟩ := span_hull (T := ⟨pS o d a b * num o a b c, pS o d a b * den d a b c⟩) hD hN (by omega) z
  exact cutV_mem os e1 e2 e3 hT (by unfold Fr.le zeroF; dsimp only; omega) u1 v1 u2 v2 u3 v3

theorem bound_eq (k : Nat) (a b c : Vec) : G.vec_Bound.f (k + 3) [⟨a.x, a.y, a.z⟩, ⟨b.x, b.y, b.z⟩, ⟨c.x, c.y, c.z⟩] = some (mn (mn a.x b.x) c.x, mn (mn a.y b.y) c.y, mn (mn a.z b.z) c.z, mx (mx a.x b.x) c.x, mx (mx a.y b.y) c.y, mx (mx a.z b.z) c.z, true) := by
  unfold G.vec_Bound.f
  have e1 : wrap64 (0 + 1) = 1 := by unfold wrap64; decide
  have e2 : wrap64 (1 + 1) = 2 := by unfold wrap64; decide
  have hl : (([⟨a.x, a.y, a.z⟩, ⟨b.x, b.y, b.z⟩, ⟨c.x, c.y, c.z⟩] : List G.S23).length : Int) = 3 := rfl
  have hd : ([⟨a.x, a.y, a.z⟩, ⟨b.x, b.y, b.z⟩, ⟨c.x, c.y, c.z⟩] : List G.S23).drop 1 = [⟨b.x, b.y, b.z⟩, ⟨c.x, c.y, c.z⟩] := rfl
  have hl2 : (([⟨b.x, b.y, b.z⟩, ⟨c.x, c.y, c.z⟩] : List G.S23).length : Int) = 2 := rfl
  have r0 : G.rd_T23 [⟨a.x, a.y, a.z⟩, ⟨b.x, b.y, b.z⟩, ⟨c.x, c.y, c.z⟩] 0 = ⟨a.x, a.y, a.z⟩ := rfl
  have s0 : G.rd_T23 [⟨b.x, b.y, b.z⟩, ⟨c.x, c.y, c.z⟩] 0 = ⟨b.x, b.y, b.z⟩ := rfl
  have s1 : G.rd_T23 [⟨b.x, b.y, b.z⟩, ⟨c.x, c.y, c.z⟩] 1 = ⟨c.x, c.y, c.z⟩ := rfl
  rw [hl, if_neg (by decide), if_pos (by decide), if_pos (by decide), hd, Option.bind_some, hl2, r0]
  dsimp only
  rw [G.vec_Bound.l0, if_pos (by decide), if_pos (by decide), if_pos (by rw [hl2]; decide), s0, e1]
  unfold G.vec_Join.f
  rw [Option.bind_some]
  dsimp only
  rw [G.vec_Bound.l0, if_pos (by decide), if_pos (by decide), if_pos (by rw [hl2]; decide), s1, e2]
  unfold G.vec_Join.f
  rw [Option.bind_some]
  dsimp only
  rw [G.vec_Bound.l0, if_neg (by decide)]

theorem mn4 (a b c d : Int) : mn (mn (mn a b) c) d ≤ a ∧ mn (mn (mn a b) c) d ≤ b ∧ mn (mn (mn a b) c) d ≤ c := by
  unfold mn
  repeat' split
  all_goals omega
theorem mx4 (a b c d : Int) : a ≤ mx (mx (mx a b) c) d ∧ b ≤ mx (mx (mx a b) c) d ∧ c ≤ mx (mx (mx a b) c) d := by
  unfold mx
  repeat' split
  all_goals omega

theorem jt (k : Nat) (x1 x2 x3 x4 x5 x6 y1 y2 y3 y4 y5 y6 y7 y8 y9 z1 z2 z3 z4 z5 z6 t1 t2 : Int) (t3 : Bool) (t4 t5 : Int) :
    G.relievolaw04_SlabHolds.j0 (k + 1) true x1 x2 x3 x4 x5 x6 y1 y2 y3 y4 y5 y6 y7 y8 y9 z1 z2 z3 z4 z5 z6 t1 t2 t3 t4 t5 = some true := by
  rw [G.relievolaw04_SlabHolds.j0, if_pos rfl]

theorem holds (k : Nat) (o d a b c m n : Vec) : G.relievolaw04_SlabHolds.f (k + 24) o.x o.y o.z d.x d.y d.z a.x a.y a.z b.x b.y b.z c.x c.y c.z m.x m.y m.z n.x n.y n.z = some true := by
  unfold G.relievolaw04_SlabHolds.f
  rw [aliveSlab_at (k + 16), Option.bind_some, if_pos rfl, meet_eq (k + 4), Option.bind_some]
  by_cases ok : Ok o d a b c
  case neg => rw [meet_large ok, if_neg (by decide), jt]
  by_cases hh : Hits o d a b c
  case neg => rw [meet_miss ok hh, if_pos rfl, if_neg (by decide), jt]
  rw [meet_hit ok hh, if_pos rfl, if_pos rfl]
  dsimp only
  by_cases hN : pS o d a b * num o a b c < 0
  · rw [decide_eq_true hN, jt]
  rw [decide_eq_false hN, G.relievolaw04_SlabHolds.j0, if_neg (by decide), G.relievolaw04_SlabHolds.j1, bound_eq (k + 19) a b c, Option.bind_some]
  unfold G.vec_Join.f
  rw [Option.bind_some]
  dsimp only
  have key := fun os => hit_cut (l := ⟨mn (mn (mn a.x b.x) c.x) m.x, mn (mn (mn a.y b.y) c.y) m.y, mn (mn (mn a.z b.z) c.z) m.z⟩) (h := ⟨mx (mx (mx a.x b.x) c.x) n.x, mx (mx (mx a.y b.y) c.y) n.y, mx (mx (mx a.z b.z) c.z) n.z⟩) ok hh (by omega) os
    ⟨⟨(mn4 ..).1, (mx4 ..).1⟩, ⟨(mn4 ..).1, (mx4 ..).1⟩, (mn4 ..).1, (mx4 ..).1⟩ ⟨⟨(mn4 ..).2.1, (mx4 ..).2.1⟩, ⟨(mn4 ..).2.1, (mx4 ..).2.1⟩, (mn4 ..).2.1, (mx4 ..).2.1⟩ ⟨⟨(mn4 ..).2.2, (mx4 ..).2.2⟩, ⟨(mn4 ..).2.2, (mx4 ..).2.2⟩, (mn4 ..).2.2, (mx4 ..).2.2⟩
  rw [range_eq (k + 14) o d ⟨mn (mn (mn a.x b.x) c.x) m.x, mn (mn (mn a.y b.y) c.y) m.y, mn (mn (mn a.z b.z) c.z) m.z⟩ ⟨mx (mx (mx a.x b.x) c.x) n.x, mx (mx (mx a.y b.y) c.y) n.y, mx (mx (mx a.z b.z) c.z) n.z⟩, Option.bind_some]
  rcases range_cases o d ⟨mn (mn (mn a.x b.x) c.x) m.x, mn (mn (mn a.y b.y) c.y) m.y, mn (mn (mn a.z b.z) c.z) m.z⟩ ⟨mx (mx (mx a.x b.x) c.x) n.x, mx (mx (mx a.y b.y) c.y) n.y, mx (mx (mx a.z b.z) c.z) n.z⟩ with ⟨_, e'⟩ | ⟨ok', c', e'⟩ | ⟨ok', lo', hi', c', e'⟩
  · rw [e', if_neg (by decide)]
    rfl
  · obtain ⟨_, _, c2, _⟩ := key ok'
    rw [c2] at c'
    cases c'
  · obtain ⟨l2, h2, c2, sl', sh', x, y⟩ := key ok'
    rw [c'] at c2
    simp only [Option.some.injEq, Prod.mk.injEq] at c2
    obtain ⟨rfl, rfl⟩ := c2
    obtain ⟨hD, hp⟩ := den_sign ok hh
    have i1 := num_in o a b c ok.ho ok.ha ok.hb ok.hc
    have i2 := den_in d a b c ok.hd ok.ha ok.hb ok.hc
    have Tb : (⟨pS o d a b * num o a b c, pS o d a b * den d a b c⟩ : Fr).b64 := by
      unfold Fr.b64 i64b
      dsimp only
      rcases hp with e | e <;> rw [e] <;> omega
    rw [e', if_pos rfl, G.relievolaw04_SlabHolds.j2]
    dsimp only
    have O1 := order_eq (k + 17) lo' ⟨pS o d a b * num o a b c, pS o d a b * den d a b c⟩ sl'.ok.2 Tb sl'.1 (Or.inl hD)
    have O2 := order_eq (k + 17) ⟨pS o d a b * num o a b c, pS o d a b * den d a b c⟩ hi' Tb sh'.ok.2 (Or.inl hD) sh'.1
    dsimp only at O1 O2
    rw [O1, Option.bind_some, O2, Option.bind_some, if_pos rfl]
    dsimp only
    have g1 := sg_le.mpr x
    have g2 := sg_le.mpr y
    dsimp only at g1 g2
    rw [if_pos g1, decide_eq_true g2, G.relievolaw04_SlabHolds.j3]

theorem SlabHolds (a0_0 a0_1 a0_2 a1_0 a1_1 a1_2 a2_0 a2_1 a2_2 a2_3 a2_4 a2_5 a2_6 a2_7 a2_8 a3_0 a3_1 a3_2 a3_3 a3_4 a3_5 : Int) (_b0_0 : -9223372036854775808 ≤ a0_0 ∧ a0_0 ≤ 9223372036854775807) (_b0_1 : -9223372036854775808 ≤ a0_1 ∧ a0_1 ≤ 9223372036854775807) (_b0_2 : -9223372036854775808 ≤ a0_2 ∧ a0_2 ≤ 9223372036854775807) (_b1_0 : -9223372036854775808 ≤ a1_0 ∧ a1_0 ≤ 9223372036854775807) (_b1_1 : -9223372036854775808 ≤ a1_1 ∧ a1_1 ≤ 9223372036854775807) (_b1_2 : -9223372036854775808 ≤ a1_2 ∧ a1_2 ≤ 9223372036854775807) (_b2_0 : -9223372036854775808 ≤ a2_0 ∧ a2_0 ≤ 9223372036854775807) (_b2_1 : -9223372036854775808 ≤ a2_1 ∧ a2_1 ≤ 9223372036854775807) (_b2_2 : -9223372036854775808 ≤ a2_2 ∧ a2_2 ≤ 9223372036854775807) (_b2_3 : -9223372036854775808 ≤ a2_3 ∧ a2_3 ≤ 9223372036854775807) (_b2_4 : -9223372036854775808 ≤ a2_4 ∧ a2_4 ≤ 9223372036854775807) (_b2_5 : -9223372036854775808 ≤ a2_5 ∧ a2_5 ≤ 9223372036854775807) (_b2_6 : -9223372036854775808 ≤ a2_6 ∧ a2_6 ≤ 9223372036854775807) (_b2_7 : -9223372036854775808 ≤ a2_7 ∧ a2_7 ≤ 9223372036854775807) (_b2_8 : -9223372036854775808 ≤ a2_8 ∧ a2_8 ≤ 9223372036854775807) (_b3_0 : -9223372036854775808 ≤ a3_0 ∧ a3_0 ≤ 9223372036854775807) (_b3_1 : -9223372036854775808 ≤ a3_1 ∧ a3_1 ≤ 9223372036854775807) (_b3_2 : -9223372036854775808 ≤ a3_2 ∧ a3_2 ≤ 9223372036854775807) (_b3_3 : -9223372036854775808 ≤ a3_3 ∧ a3_3 ≤ 9223372036854775807) (_b3_4 : -9223372036854775808 ≤ a3_4 ∧ a3_4 ≤ 9223372036854775807) (_b3_5 : -9223372036854775808 ≤ a3_5 ∧ a3_5 ≤ 9223372036854775807) :
    ∃ k, G.relievolaw04_SlabHolds.f k a0_0 a0_1 a0_2 a1_0 a1_1 a1_2 a2_0 a2_1 a2_2 a2_3 a2_4 a2_5 a2_6 a2_7 a2_8 a3_0 a3_1 a3_2 a3_3 a3_4 a3_5 = some true := by
  exact ⟨24, holds 0 ⟨a0_0, a0_1, a0_2⟩ ⟨a1_0, a1_1, a1_2⟩ ⟨a2_0, a2_1, a2_2⟩ ⟨a2_3, a2_4, a2_5⟩ ⟨a2_6, a2_7, a2_8⟩ ⟨a3_0, a3_1, a3_2⟩ ⟨a3_3, a3_4, a3_5⟩⟩
end Go.Proofs.Ytihklolcnfbbjaa.Pure
