/- What bits.Div64 comes to, in plain numbers: the quotient and the rest of two words by one. -/
import Derived.Test.YtmkdnoikbefimaaGx20
import Derived.Test.YtmkdnoikbefimaaDivMath
import Derived.Test.YtmkdnoikbefimaaWideFun
import Derived.Laws.Bits64b
namespace Go.Proofs.Ytmkdnoikbefimaa.M
open Go.RowKit Go.Proofs.VecMath Go.Proofs.DivMath Go.Proofs.YtmkdnoikbefimaaW.PrintWords
set_option linter.unusedVariables false
set_option linter.unusedSimpArgs false
theorem uw {n : Int} (h : 0 ≤ n ∧ n < 18446744073709551616) : IntKind.u64.wrap n = n := by
  rw [u64w]
  omega
/-- What the second digit leaves. -/
def divR (y s q1 V u0 Q : Int) : Option (Int × Int) := some (IntKind.u64.wrap (IntKind.u64.wrap (q1 * 4294967296) + Q), shr .u64 (IntKind.u64.wrap (IntKind.u64.wrap (IntKind.u64.wrap (V * 4294967296) + u0) - IntKind.u64.wrap (Q * y))) s)
section
variable {y yn1 yn0 U u : Int}
theorem div_l1 (h : Ok y yn1 yn0 U u) (s q1 : Int) (hs : 0 ≤ s) : ∀ (n k : Nat) (q r : Int), q * yn1 + r = U → Qd y U u ≤ q → q ≤ 4294967297 → 0 ≤ r ∧ r < 4294967296 → 4294967296 ≤ r + n * yn1 →
    G.bits_Div64.l1 (k + 2 * n + 2) y s yn1 yn0 u q1 r U q = divR y s q1 U u (Qd y U u)
  | 0, k, q, r, hq, hl, hg, hr, hn => by
    rw [show ((0 : Nat) : Int) * yn1 = 0 by simp] at hn
    omega
  | n + 1, k, q, r, hq, hl, hg, hr, hn => by
    have ha := h.a; have hb := h.b; have hd := h.d; have l0 := h.low
    have f := h.fits (q := q) (by omega) hg
    have e1 : G.bits_Div64.l1 (k + 2 * (n + 1) + 2) y s yn1 yn0 u q1 r U q = G.bits_Div64.j4 (k + 2 * n + 2 + 1) y s yn1 yn0 u q1 r U q (decide (4294967296 ≤ q ∨ 4294967296 * r + u < q * yn0)) := by
      rw [show k + 2 * (n + 1) + 2 = (k + 2 * n + 2 + 1) + 1 by omega, G.bits_Div64.l1]
      by_cases c : q ≥ 4294967296
      · rw [if_pos c, decide_eq_true (Or.inl c)]
      · rw [if_neg c, uw f, uw (n := 4294967296 * r) (by omega), uw (n := 4294967296 * r + u) (by omega)]
        congr 1
        rw [decide_eq_decide]
        omega
    rw [e1, G.bits_Div64.j4]
    by_cases t : 4294967296 ≤ q ∨ 4294967296 * r + u < q * yn0
    · obtain ⟨d1, d2⟩ := h.down hq hl t
      rw [decide_eq_true t, if_pos rfl, uw (n := r + yn1) (by omega), uw (n := q - 1) (by omega)]
      by_cases c : r + yn1 ≥ 4294967296
      · have g := h.great d2 d1 (by omega) c
        rw [if_pos c, if_pos hs, g]
        rfl
      · rw [if_neg c]
        refine div_l1 h s q1 hs n k (q - 1) (r + yn1) d2 d1 (by omega) (by omega) ?_
        have : ((n + 1 : Nat) : Int) * yn1 = n * yn1 + yn1 := by push_cast; grind
        omega
    · rw [decide_eq_false t, if_neg (by decide), if_pos hs]
      have g := h.stop hq hl (by omega)
      rw [g]
      rfl
theorem div_l0 (h : Ok y yn1 yn0 U u) (s u0 : Int) (R : Option (Int × Int)) (HJ : ∀ k, G.bits_Div64.j2 (k + 7) y s yn1 yn0 U u u0 (Qd y U u) = R) : ∀ (n k : Nat) (q r : Int), q * yn1 + r = U → Qd y U u ≤ q → q ≤ 4294967297 → 0 ≤ r ∧ r < 4294967296 → 4294967296 ≤ r + n * yn1 →
    G.bits_Div64.l0 (k + 2 * n + 7) y s yn1 yn0 U u u0 q r = R
  | 0, k, q, r, hq, hl, hg, hr, hn => by
    rw [show ((0 : Nat) : Int) * yn1 = 0 by simp] at hn
    omega
  | n + 1, k, q, r, hq, hl, hg, hr, hn => by
    have ha := h.a; have hb := h.b; have hd := h.d; have l0 := h.low
    have f := h.fits (q := q) (by omega) hg
    have e1 : G.bits_Div64.l0 (k + 2 * (n + 1) + 7) y s yn1 yn0 U u u0 q r = G.bits_Div64.j1 (k + 2 * n + 7 + 1) y s yn1 yn0 U u u0 q r (decide (4294967296 ≤ q ∨ 4294967296 * r + u < q * yn0)) := by
      rw [show k + 2 * (n + 1) + 7 = (k + 2 * n + 7 + 1) + 1 by omega, G.bits_Div64.l0]
      by_cases c : q ≥ 4294967296
      · rw [if_pos c, decide_eq_true (Or.inl c)]
      · rw [if_neg c, uw f, uw (n := 4294967296 * r) (by omega), uw (n := 4294967296 * r + u) (by omega)]
        congr 1
        rw [decide_eq_decide]
        omega
    rw [e1, G.bits_Div64.j1]
    by_cases t : 4294967296 ≤ q ∨ 4294967296 * r + u < q * yn0
    · obtain ⟨d1, d2⟩ := h.down hq hl t
      rw [decide_eq_true t, if_pos rfl, uw (n := r + yn1) (by omega), uw (n := q - 1) (by omega)]
      by_cases c : r + yn1 ≥ 4294967296
      · have g := h.great d2 d1 (by omega) c
        rw [if_pos c, g]
        exact HJ (k + 2 * n)
      · rw [if_neg c]
        refine div_l0 h s u0 R HJ n k (q - 1) (r + yn1) d2 d1 (by omega) (by omega) ?_
        have : ((n + 1 : Nat) : Int) * yn1 = n * yn1 + yn1 := by push_cast; grind
        omega
    · rw [decide_eq_false t, if_neg (by decide)]
      have g := h.stop hq hl (by omega)
      rw [g]
      exact HJ (k + 2 * n)
/-- What is left behind a digit, in words of 64 bits. -/
theorem left_eq (h : Ok y yn1 yn0 U u) (hy : y < 18446744073709551616) : IntKind.u64.wrap (IntKind.u64.wrap (IntKind.u64.wrap (U * 4294967296) + u) - IntKind.u64.wrap (Qd y U u * y)) = Rd y U u := by
  have s := h.sum
  have r := h.rest
  have hc := h.c; have hd := h.d
  rw [u64w, u64w, u64w, u64w]
  generalize Qd y U u * y = p at *
  generalize Rd y U u = v at *
  omega
theorem guess_eq (h : Ok y yn1 yn0 U u) (hy : y < 18446744073709551616) : IntKind.u64.wrap (Int.tdiv U yn1) = U / yn1 ∧ IntKind.u64.wrap (U - IntKind.u64.wrap (U / yn1 * yn1)) = U - U / yn1 * yn1 := by
  have g := h.guess
  have hc := h.c; have hb := h.b; have l := h.low
  constructor
  · rw [Int.tdiv_eq_ediv_of_nonneg hc.1, uw (by omega)]
  · have p := Int.mul_nonneg (show 0 ≤ U / yn1 by omega) (show 0 ≤ yn1 by omega)
    rw [uw (n := U / yn1 * yn1) (by omega), uw (by omega)]
end
/-- Both digits. -/
theorem div_digits {y yn1 yn0 U u1 u0 s : Int} (h : Ok y yn1 yn0 U u1) (h' : 0 ≤ u0 ∧ u0 < 4294967296) (hy : y < 18446744073709551616) (hs : 0 ≤ s) (k : Nat) :
    G.bits_Div64.l0 (k + 11) y s yn1 yn0 U u1 u0 (IntKind.u64.wrap (Int.tdiv U yn1)) (IntKind.u64.wrap (U - IntKind.u64.wrap (IntKind.u64.wrap (Int.tdiv U yn1) * yn1))) =
      some (Qd y U u1 * 4294967296 + Qd y (Rd y U u1) u0, shr .u64 (Rd y (Rd y U u1) u0) s) := by
  obtain ⟨g1, g2⟩ := guess_eq h hy
  have g := h.guess
  have h2 : Ok y yn1 yn0 (Rd y U u1) u0 := ⟨h.e, h.a, h.b, h.rest, h'⟩
  have hb := h.b
  have q1 := h.low
  have q1' := h.high
  have q2 := h2.low
  have q2' := h2.high
  rw [g1, g2]
  refine div_l0 h s u0 _ (fun k => ?_) 2 k _ _ g.2.2.1 g.1 g.2.1 ⟨by omega, by omega⟩ (by omega)
  rw [G.bits_Div64.j2, if_neg (by omega), left_eq h hy]
  obtain ⟨i1, i2⟩ := guess_eq h2 hy
  have i := h2.guess
  rw [i1, i2]
  rw [show k + 6 = k + 2 * 2 + 2 by omega, div_l1 h2 s _ hs 2 k _ _ i.2.2.1 i.1 i.2.1 ⟨by omega, by omega⟩ (by omega)]
  unfold divR
  rw [left_eq h2 hy, uw (n := Qd y U u1 * 4294967296) (by omega), uw (by omega)]
theorem or_add (s : Nat) {A a : Int} (h0 : 0 ≤ A) (hA : A * 2 ^ s < 18446744073709551616) (ha : 0 ≤ a) (hb : a < 2 ^ s) (hs : s ≤ 63) : Go.bits .or .u64 (A * 2 ^ s) a = A * 2 ^ s + a := by
  obtain ⟨m, rfl⟩ : ∃ m : Nat, A = m := ⟨A.toNat, by omega⟩
  obtain ⟨n, rfl⟩ : ∃ n : Nat, a = n := ⟨a.toNat, by omega⟩
  have e : ((m : Int) * 2 ^ s) = ((2 ^ s * m : Nat) : Int) := by push_cast; rw [Int.mul_comm]
  have hn : n < 2 ^ s := by exact_mod_cast hb
  have p : 2 ^ s ≤ 2 ^ 63 := Nat.pow_le_pow_right (by decide) hs
  rw [e] at hA ⊢
  rw [bits_or_u64_nat _ _ (by omega) (by omega), ← Nat.two_pow_add_eq_or_of_lt hn]
  push_cast
  rfl
theorem shl_eq (s : Nat) {x : Int} (hs : s ≤ 63) : shl .u64 x (s : Int) = (x * 2 ^ s) % 18446744073709551616 := by
  unfold shl
  rw [u64w, show min ((s : Int)).toNat IntKind.u64.bits = s by rw [Int.toNat_natCast]; show min s 64 = s; omega]
theorem shr_eq (s : Nat) {x : Int} (hs : s ≤ 64) : shr .u64 x (s : Int) = x / 2 ^ s := by
  unfold shr
  rw [show min ((s : Int)).toNat IntKind.u64.bits = s by rw [Int.toNat_natCast]; show min s 64 = s; omega]
theorem div64_eq (k : Nat) (hi lo y0 : Int) (h0 : 0 ≤ hi ∧ hi < y0) (h1 : 0 ≤ lo ∧ lo < 18446744073709551616) (h2 : y0 < 18446744073709551616) :
    G.bits_Div64.f (k + 11) hi lo y0 = some ((hi * 18446744073709551616 + lo) / y0, (hi * 18446744073709551616 + lo) % y0) := by
  unfold G.bits_Div64.f
  rw [if_neg (by omega), if_neg (by omega)]
  by_cases c : hi = 0
  · have q1 : lo / y0 ≤ lo := Int.ediv_le_self _ h1.1
    have q0 : 0 ≤ lo / y0 := Int.ediv_nonneg h1.1 (by omega)
    rw [if_pos c, c, Int.zero_mul, Int.zero_add, Int.tdiv_eq_ediv_of_nonneg h1.1, Int.tmod_eq_emod_of_nonneg h1.1, uw (by omega)]
  rw [if_neg c]
  obtain ⟨s, es, s63, lo63, hi64⟩ := len_bounds (x := y0) (by omega) h2
  have ez : G.bits_LeadingZeros64.f y0 = some (s : Int) := by
    unfold G.bits_LeadingZeros64.f
    rw [if_pos (by omega), es]
  rw [ez, Option.bind_some, uw (n := (s : Int)) (by omega), if_pos (by omega), uw (n := 64 - (s : Int)) (by omega), if_pos (by omega)]
  rw [show (64 - (s : Int)) = ((64 - s : Nat) : Int) by omega, shl_eq s s63, shl_eq s s63, shl_eq s s63, shr_eq (64 - s) (by omega)]
  have P0 : (0 : Int) < 2 ^ s := Int.pow_pos (by decide)
  have R0 : (0 : Int) < 2 ^ (64 - s) := Int.pow_pos (by decide)
  have RP : (2 : Int) ^ (64 - s) * 2 ^ s = 18446744073709551616 := by rw [← Int.pow_add, show 64 - s + s = 64 by omega]; rfl
  have ey : y0 * 2 ^ s % 18446744073709551616 = y0 * 2 ^ s := Int.emod_eq_of_lt (by omega) (by omega)
  have hh := Int.mul_le_mul_of_nonneg_right (show hi ≤ y0 - 1 by omega) (Int.le_of_lt P0)
  have hm : (y0 - 1) * 2 ^ s = y0 * 2 ^ s - 2 ^ s := by rw [Int.sub_mul, Int.one_mul]
  have hn := Int.mul_nonneg h0.1 (Int.le_of_lt P0)
  have eh : hi * 2 ^ s % 18446744073709551616 = hi * 2 ^ s := Int.emod_eq_of_lt hn (by omega)
  have lsum := Int.mul_ediv_add_emod lo (2 ^ (64 - s))
  have c0 := Int.emod_nonneg lo (show (2 : Int) ^ (64 - s) ≠ 0 by omega)
  have c1 := Int.emod_lt_of_pos lo R0
  have a0 : 0 ≤ lo / 2 ^ (64 - s) := Int.ediv_nonneg h1.1 (Int.le_of_lt R0)
  have a1 : lo / 2 ^ (64 - s) < 2 ^ s := by
    apply Int.ediv_lt_of_lt_mul R0
    rw [Int.mul_comm, RP]
    exact h1.2
  have cp := Int.mul_lt_mul_of_pos_right c1 P0
  have cq := Int.mul_nonneg c0 (Int.le_of_lt P0)
  rw [RP] at cp
  have lP : lo * 2 ^ s = lo / 2 ^ (64 - s) * 18446744073709551616 + lo % 2 ^ (64 - s) * 2 ^ s := by
    conv => lhs; rw [← lsum]
    rw [Int.add_mul, ← RP]
    grind
  have el : lo * 2 ^ s % 18446744073709551616 = lo % 2 ^ (64 - s) * 2 ^ s := by
    rw [lP]
    generalize lo % 2 ^ (64 - s) * 2 ^ s = t at *
    omega
  rw [ey, eh, el, or_add s h0.1 (by omega) a0 a1 s63]
  have N : (hi * 2 ^ s + lo / 2 ^ (64 - s)) * 18446744073709551616 + lo % 2 ^ (64 - s) * 2 ^ s = (hi * 18446744073709551616 + lo) * 2 ^ s := by
    rw [Int.add_mul (hi * 18446744073709551616), lP, Int.add_mul]
    grind
  have y0P : 0 < y0 := by omega
  have bU : 0 ≤ hi * 2 ^ s + lo / 2 ^ (64 - s) ∧ hi * 2 ^ s + lo / 2 ^ (64 - s) < y0 * 2 ^ s := by omega
  have N0 : 0 ≤ hi * 18446744073709551616 + lo := by omega
  have D1 := Int.mul_ediv_mul_of_pos_left (hi * 18446744073709551616 + lo) y0 P0
  have D2 : (hi * 18446744073709551616 + lo) * 2 ^ s % (y0 * 2 ^ s) = (hi * 18446744073709551616 + lo) % y0 * 2 ^ s := by
    rw [Int.mul_comm _ (2 ^ s), Int.mul_comm y0, Int.mul_emod_mul_of_pos _ _ P0, Int.mul_comm]
  rw [← N] at D1 D2
  generalize hy : y0 * 2 ^ s = y at *
  generalize hU : hi * 2 ^ s + lo / 2 ^ (64 - s) = U at *
  generalize hx : lo % 2 ^ (64 - s) * 2 ^ s = x at *
  rw [and_low32 y (by omega) (by omega), and_low32 x (by omega) (by omega), if_neg (by omega)]
  have ok : Ok y (y / 4294967296) (y % 4294967296) U (x / 4294967296) := ⟨by omega, by omega, by omega, bU, by omega⟩
  rw [div_digits ok (u0 := x % 4294967296) (by omega) (by omega) (by omega) k]
  have T := two_digits (y := y) (U := U) (u1 := x / 4294967296) (u0 := x % 4294967296) (by omega)
  rw [show x / 4294967296 * 4294967296 + x % 4294967296 = x by omega] at T
  rw [← T.1, ← T.2, shr_eq s (by omega), D1, D2, Int.mul_ediv_cancel _ (by omega)]
end Go.Proofs.Ytmkdnoikbefimaa.M
