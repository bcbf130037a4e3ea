/- The number contracts for products, put together. -/
import Derived.Test.YtmkdnoikbefimaaNumAll
import Derived.Test.YtmkdnoikbefimaaNumMore
import Derived.Test.YtmkdnoikbefimaaGx28
import Derived.Laws.MathBits
namespace Go.Proofs.NumMath
/-- The lowest b bits of a digit: the rest r and the quotient's digit x go on. -/
def inN (d g : Int) : Nat → Int → Int → Int × Int
  | 0, r, x => (r, x)
  | b + 1, r, x => if d ≤ 2 * r + g / 2 ^ b % 2 then inN d g b (2 * r + g / 2 ^ b % 2 - d) (2 * x + 1) else inN d g b (2 * r + g / 2 ^ b % 2) (2 * x)
theorem inN_val (d g : Int) (hd : 0 < d) : ∀ (b : Nat) (r x : Int), 0 ≤ r ∧ r < d → (inN d g b r x).2 * d + (inN d g b r x).1 = x * 2 ^ b * d + (r * 2 ^ b + g % 2 ^ b) ∧ 0 ≤ (inN d g b r x).1 ∧ (inN d g b r x).1 < d ∧ x * 2 ^ b ≤ (inN d g b r x).2 ∧ (inN d g b r x).2 < (x + 1) * 2 ^ b
  | 0, r, x, h => by
    have e : g % 2 ^ 0 = 0 := by simp [Int.emod_one]
    simp only [inN, Int.pow_zero, Int.mul_one] at *
    simp only [Int.emod_one]
    omega
  | b + 1, r, x, h => by
    have p : (2 : Int) ^ (b + 1) = 2 * 2 ^ b := by rw [Int.pow_succ, Int.mul_comm]
    have p0 : (0 : Int) < 2 ^ b := Int.pow_pos (by decide)
    have eg : g % 2 ^ (b + 1) = g / 2 ^ b % 2 * 2 ^ b + g % 2 ^ b := by
      have e1 := Int.mul_ediv_add_emod g (2 ^ b)
      have e2 := Int.mul_ediv_add_emod (g / 2 ^ b) 2
      have r0 := Int.emod_nonneg g (show (2 : Int) ^ b ≠ 0 by omega)
      have r1 := Int.emod_lt_of_pos g p0
      have c0 : 0 ≤ g / 2 ^ b % 2 ∧ g / 2 ^ b % 2 < 2 := by omega
      have e3 : g = (g / 2 ^ b % 2 * 2 ^ b + g % 2 ^ b) + 2 ^ (b + 1) * (g / 2 ^ b / 2) := by
        rw [p]
        have : g = 2 ^ b * (2 * (g / 2 ^ b / 2) + g / 2 ^ b % 2) + g % 2 ^ b := by rw [e2]; exact e1.symm
        conv => lhs; rw [this]
        grind
      have c1 : 0 ≤ g / 2 ^ b % 2 * 2 ^ b := Int.mul_nonneg c0.1 (by omega)
      have c2 : g / 2 ^ b % 2 * 2 ^ b ≤ 1 * 2 ^ b := Int.mul_le_mul_of_nonneg_right (by omega) (by omega)
      conv => lhs; rw [e3]
      rw [Int.add_mul_emod_self_left, Int.emod_eq_of_lt (by omega) (by omega)]
    have c0 : 0 ≤ g / 2 ^ b % 2 ∧ g / 2 ^ b % 2 < 2 := by omega
    rw [inN, eg, p]
    generalize g / 2 ^ b % 2 = c at *
    by_cases l : d ≤ 2 * r + c
    · rw [if_pos l]
      obtain ⟨v, w0, w1, w2, w3⟩ := inN_val d g hd b (2 * r + c - d) (2 * x + 1) (by omega)
      generalize inN d g b (2 * r + c - d) (2 * x + 1) = q at *
      generalize g % 2 ^ b = t at *
      have f1 : (2 * x + 1) * 2 ^ b = x * (2 * 2 ^ b) + 2 ^ b := by grind
      have f2 : (2 * x + 1 + 1) * 2 ^ b = (x + 1) * (2 * 2 ^ b) := by grind
      refine ⟨?_, w0, w1, by omega, by omega⟩
      rw [v]
      grind
    · rw [if_neg l]
      obtain ⟨v, w0, w1, w2, w3⟩ := inN_val d g hd b (2 * r + c) (2 * x) (by omega)
      generalize inN d g b (2 * r + c) (2 * x) = q at *
      generalize g % 2 ^ b = t at *
      have f1 : 2 * x * 2 ^ b = x * (2 * 2 ^ b) := by grind
      have f2 : (2 * x + 1) * 2 ^ b + 2 ^ b = (x + 1) * (2 * 2 ^ b) := by grind
      have f3 : (2 * x + 1) * 2 ^ b = 2 * x * 2 ^ b + 2 ^ b := by grind
      refine ⟨?_, w0, w1, by omega, by omega⟩
      rw [v]
      grind
/-- The digits from n - 1 down: the rest r and the quotient's digits Q go on. -/
def outN (d : Int) (N : List Int) : Nat → Int → List Int → Int × List Int
  | 0, r, Q => (r, Q)
  | i + 1, r, Q => outN d N i (inN d (N.getD i 0) 16 r 0).1 (Q.set i (inN d (N.getD i 0) 16 r 0).2)
theorem outN_val (d : Int) (N : List Int) (hN : Dig N) (hd : 0 < d) : ∀ (n : Nat) (r : Int) (Q : List Int), n ≤ 18 → 0 ≤ r ∧ r < d → Dig Q → (∀ j, j < n → Q.getD j 0 = 0) →
    Dig (outN d N n r Q).2 ∧ (0 ≤ (outN d N n r Q).1 ∧ (outN d N n r Q).1 < d) ∧ val (outN d N n r Q).2 18 * d + (outN d N n r Q).1 = val Q 18 * d + (r * 65536 ^ n + val N n)
  | 0, r, Q, hn, hr, hQ, hz => ⟨hQ, hr, by simp [outN, val]⟩
  | n + 1, r, Q, hn, hr, hQ, hz => by
    have h := inN_val d (N.getD n 0) hd 16 r 0 hr
    have g := hN.2 n
    have gm : N.getD n 0 % 2 ^ 16 = N.getD n 0 := by
      rw [show (2 : Int) ^ 16 = 65536 by decide]
      exact Int.emod_eq_of_lt g.1 (by omega)
    rw [gm, show (2 : Int) ^ 16 = 65536 by decide] at h
    rw [outN]
    obtain ⟨v, w0, w1, w2, w3⟩ := h
    generalize hq : inN d (N.getD n 0) 16 r 0 = q at *
    have dq : Dig (Q.set n q.2) := dig_set hQ n q.2 (by omega)
    obtain ⟨e1, e2, e3⟩ := outN_val d N hN hd n q.1 (Q.set n q.2) (by omega) ⟨w0, w1⟩ dq (fun j hj => by rw [getD_set_ne _ (by omega)]; exact hz j (by omega))
    refine ⟨e1, e2, ?_⟩
    rw [e3, val_set _ _ (by rw [hQ.1]; omega) _ (by omega), hz n (by omega), show val N (n + 1) = val N n + N.getD n 0 * 65536 ^ n from rfl, Int.pow_succ]
    have v' : q.1 = r * 65536 + N.getD n 0 - q.2 * d := by omega
    rw [v']
    generalize N.getD n 0 = g at *
    generalize (65536 : Int) ^ n = P at *
    generalize val Q 18 = X at *
    generalize val N n = Y at *
    grind
end Go.Proofs.NumMath

namespace Go.Proofs.Ytmkdnoikbefimaa.G
open Go.RowKit Go.Proofs.NumMath Go.Proofs.YtmkdnoikbefimaaW.PrintWords Go.Proofs.YtmkdnoikbefimaaW.PrintLast Go.Proofs.YtmkdnoikbefimaaW.PrintMore
attribute [local go_sem] max2_int min2_int max_two min_two max_three min_three max_four min_four
set_option linter.unusedVariables false
set_option linter.unusedSimpArgs false
theorem abs_mul (x y : Int) : absI (x * y) = absI x * absI y := by
  unfold absI
  by_cases a : x < 0 <;> by_cases b : y < 0
  · have := Int.mul_pos_of_neg_of_neg a b
    rw [if_pos a, if_pos b, if_neg (by omega), Int.neg_mul_neg]
  · by_cases c : y = 0
    · subst c
      simp
    · have := Int.mul_neg_of_neg_of_pos a (show 0 < y by omega)
      rw [if_pos a, if_neg b, if_pos this, Int.neg_mul]
  · by_cases c : x = 0
    · subst c
      simp
    · have := Int.mul_neg_of_pos_of_neg (show 0 < x by omega) b
      rw [if_neg a, if_pos b, if_pos this, Int.mul_neg]
  · have := Int.mul_nonneg (show 0 ≤ x by omega) (show 0 ≤ y by omega)
    rw [if_neg a, if_neg b, if_neg (by omega)]
theorem mul_sign (x y : Int) : decide (x * y < 0) = ((decide (x < 0) != decide (y < 0)) && !decide (absI x * absI y = 0)) := by
  rw [← abs_mul]
  have z : (absI (x * y) = 0) ↔ x * y = 0 := by unfold absI; split <;> omega
  by_cases a : x < 0 <;> by_cases b : y < 0
  · have := Int.mul_pos_of_neg_of_neg a b
    rw [decide_eq_true a, decide_eq_true b, decide_eq_false (by omega)]
    rfl
  · by_cases c : y = 0
    · subst c
      rw [decide_eq_true (z.mpr (Int.mul_zero x)), Int.mul_zero]
      simp
    · have := Int.mul_neg_of_neg_of_pos a (show 0 < y by omega)
      rw [decide_eq_true a, decide_eq_false b, decide_eq_true this, decide_eq_false (fun h => by have := z.mp h; omega)]
      rfl
  · by_cases c : x = 0
    · subst c
      rw [decide_eq_true (z.mpr (Int.zero_mul y)), Int.zero_mul]
      simp
    · have := Int.mul_neg_of_pos_of_neg (show 0 < x by omega) b
      rw [decide_eq_false a, decide_eq_true b, decide_eq_true this, decide_eq_false (fun h => by have := z.mp h; omega)]
      rfl
  · have := Int.mul_nonneg (show 0 ≤ x by omega) (show 0 ≤ y by omega)
    rw [decide_eq_false a, decide_eq_false b, decide_eq_false (by omega)]
    rfl
theorem val9 {D : List Int} (h : Dig D) (b : val D 18 < 22300745198530623141535718272648361505980416) : val D 9 = val D 18 := by
  obtain ⟨r, r0, e⟩ := val_split h 9 9
  have e' : val D 18 = val D 9 + r * 65536 ^ 9 := e
  have v := (val_range h.2 9).1
  rw [show (65536 : Int) ^ 9 = 22300745198530623141535718272648361505980416 by decide] at e'
  have : r = 0 := by omega
  rw [e', this]
  omega
theorem timesV {s t : Bool} {A B : List Int} {x y : Int} (hA : NumV s A x) (hB : NumV t B y) (bx : absI x ≤ 18446744073709551616) (bY : absI y ≤ 18446744073709551616) :
    ∃ u X, NumV u X (x * y) ∧ ∀ w, Calls Try.prog 42 #[.agg (numA s A), .agg (numA t B)] w fun e w' => e = .returned (.agg (numA u X)) ∧ Below w.heap.size w w' := by
  have va := hA.val
  have vb := hB.val
  have a9 := val9 hA.dig (by rw [va]; omega)
  have b9 := val9 hB.dig (by rw [vb]; omega)
  have ov := outr_val hA.dig hB.dig (by rw [b9, vb, show (65536 : Int) ^ 8 = 340282366920938463463374607431768211456 by decide]; omega) 9 (Nat.le_refl _)
  rw [a9, b9, va, vb] at ov
  refine ⟨_, _, ⟨outr_dig hA.dig hB.dig 9, ?_, ?_⟩, fun w => times.calls s t A B hA.dig hB.dig w⟩
  · rw [zero_iff (outr_dig hA.dig hB.dig 9), ov, hA.sign, hB.sign, mul_sign]
  · rw [ov, abs_mul]
def relievoref01_Order.T3 : Bool × List (List Nat × List Nat) := (true, [([], []), ([0], [0]), ([1], [1]), ([], []), ([3], [3]), ([4, 2], [4]), ([2, 5, 5], [2, 5]), ([], []), ([7], [7]), ([8, 6], [8]), ([], []), ([10], [10]), ([11, 9], [11]), ([9, 12, 12], [9, 12]), ([6, 13, 13], [6, 13]), ([14, 14, 0, 1, 2, 3, 4, 5, 6, 7, 8, 9, 10, 11, 12, 13, 14], [14]), ([15, 0, 1, 2, 3, 4, 5, 6, 7, 8, 9, 10, 11, 12, 13, 14, 15], [])])
def relievoref01_Order.B3 : List Nat := [0, 1, 3, 0, 8, 31, 63, 0, 128, 511, 0, 1024, 4095, 8191, 16383, 32767, 65535]
theorem relievoref01_Order.tab3 : rtab .any (opsOf Try.f23 3) = relievoref01_Order.T3 := by kernel_rfl
theorem relievoref01_Order.bits3 : waitsOk relievoref01_Order.T3.2 relievoref01_Order.B3 = true := by kernel_rfl

def relievoref01_Order.f (a0_0 a0_1 a1_0 a1_1 : Int) : Option (Int × Bool) :=
  if ((-9223372036854775808 ≤ a0_0 ∧ a0_0 ≤ 9223372036854775807) ∧ (-9223372036854775808 ≤ a0_1 ∧ a0_1 ≤ 9223372036854775807)) ∧ ((-9223372036854775808 ≤ a1_0 ∧ a1_0 ≤ 9223372036854775807) ∧ (-9223372036854775808 ≤ a1_1 ∧ a1_1 ≤ 9223372036854775807)) then
    (relievoref01_right.f a0_0 a0_1).bind fun s => (relievoref01_right.f a1_0 a1_1).bind fun t => some (if s = true ∧ t = true then (sgn (a0_0 * a1_1 - a1_0 * a0_1), true) else (0, false)) else none
set_option maxHeartbeats 4000000 in
set_option maxRecDepth 100000 in
theorem relievoref01_Order.calls (a0_0 : Int) (a0_1 : Int) (a1_0 : Int) (a1_1 : Int) (r1 : Int) (r2 : Bool) (w : World) (h : relievoref01_Order.f a0_0 a0_1 a1_0 a1_1 = some (r1, r2)) :
    Calls Try.prog 23 #[.agg #[.int .i64 a0_0, .int .i64 a0_1], .agg #[.int .i64 a1_0, .int .i64 a1_1]] w fun e w' => e = .returned (.tuple #[.int .i64 r1, .bool r2]) ∧ Below w.heap.size w w' := by
 have hu23 := Try.underlying23
 have hr : ((-9223372036854775808 ≤ a0_0 ∧ a0_0 ≤ 9223372036854775807) ∧ (-9223372036854775808 ≤ a0_1 ∧ a0_1 ≤ 9223372036854775807)) ∧ ((-9223372036854775808 ≤ a1_0 ∧ a1_0 ≤ 9223372036854775807) ∧ (-9223372036854775808 ≤ a1_1 ∧ a1_1 ≤ 9223372036854775807)) := by
  unfold relievoref01_Order.f at h
  split at h
  · assumption
  · simp at h
 unfold relievoref01_Order.f at h
 rw [if_pos hr] at h
 obtain ⟨⟨h00, h01⟩, h10, h11⟩ := hr
 replace h := Option.bind_eq_some_iff.mp h
 obtain ⟨s, hs, h⟩ := h
 replace h := Option.bind_eq_some_iff.mp h
 obtain ⟨t, ht, h⟩ := h
 have RS := fun w => relievoref01_right.calls a0_0 a0_1 s w hs
 have RT := fun w => relievoref01_right.calls a1_0 a1_1 t w ht
 clear hs ht
 have HB := Aside0.mk (Below.refl w.heap.size w)
 cases s
 ·simp only [Bool.false_eq_true, false_and, if_false, Option.some.injEq, Prod.mk.injEq] at h
  obtain ⟨rfl, rfl⟩ := h
  clear h00 h01 h10 h11 RT
  go_enter Try.func23, Try.ntmps23
  go_wp2_with (first
    | ((with_reducible refine gate_dst (N := 2) rfl ?_); refine box_event ?hg (N := 2) ?hd (cs := #[.int .i64 a0_0, .int .i64 a0_1]) (t := 23) ?hr ?_; (case hd => rfl); (case hg => rfl); (case hr => first | (go_simp; done) | (go_simp; rfl)); intro g2 hg w3 hbox hb; have BK2 := Aside0.mk (hbox); have GE2 := Aside0.mk (bG hg (HB.out)); replace HB := Aside0.mk (below_step (HB.out) hb); clear hb hbox hg)
    | ((with_reducible refine gate_dst (N := 3) rfl ?_); refine box_event ?hg (N := 3) ?hd (cs := #[.int .i64 a1_0, .int .i64 a1_1]) (t := 23) ?hr ?_; (case hd => rfl); (case hg => rfl); (case hr => first | (go_simp; done) | (go_simp; rfl)); intro g3 hg w4 hbox hb; have BK3 := Aside0.mk (hbox); have GE3 := Aside0.mk (bG hg (HB.out)); have N23 := cN hg BK2; have N32 := cM hg BK2; replace HB := Aside0.mk (below_step (HB.out) hb); replace BK2 := cB hb BK2; clear hb hbox hg; obtain ⟨k0, k1⟩ := cells2 BK2.out; obtain ⟨l0, l1⟩ := cells2 BK3.out)
    | ((with_reducible refine gate_callee (f := 43) rfl ?_); refine goesL_ (some 7) rfl rfl Try.func43 (by kernel_rfl) rfl #[.agg #[.int .i64 a0_0, .int .i64 a0_1]] rfl (by (try simp only [List.map_toArray, List.map_cons, List.map_nil]); first | done | rfl | (simp only [List.length_drop, List.length_take]; rfl)) ?_; (with_reducible refine (RS _).mono ?_); rintro e w5 ⟨rfl, hb⟩; refine ⟨_, rfl, ?_⟩; replace BK2 := cB hb BK2; replace BK3 := cB hb BK3; replace HB := Aside0.mk (below_step (HB.out) hb); clear hb; obtain ⟨k0, k1⟩ := cells2 BK2.out; obtain ⟨l0, l1⟩ := cells2 BK3.out)
    | (go_at_call 43; (with_reducible refine (RT _).mono ?_); rintro e w6 ⟨rfl, hb⟩; replace BK2 := cB hb BK2; replace BK3 := cB hb BK3; replace HB := Aside0.mk (below_step (HB.out) hb); clear hb; obtain ⟨k0, k1⟩ := cells2 BK2.out; obtain ⟨l0, l1⟩ := cells2 BK3.out))
  go_ret2
  exact ⟨rfl, HB.out⟩
 cases t
 ·simp only [Bool.false_eq_true, and_false, if_false, Option.some.injEq, Prod.mk.injEq] at h
  obtain ⟨rfl, rfl⟩ := h
  clear h00 h01 h10 h11
  go_enter Try.func23, Try.ntmps23
  go_wp2_with (first
    | ((with_reducible refine gate_dst (N := 2) rfl ?_); refine box_event ?hg (N := 2) ?hd (cs := #[.int .i64 a0_0, .int .i64 a0_1]) (t := 23) ?hr ?_; (case hd => rfl); (case hg => rfl); (case hr => first | (go_simp; done) | (go_simp; rfl)); intro g2 hg w3 hbox hb; have BK2 := Aside0.mk (hbox); have GE2 := Aside0.mk (bG hg (HB.out)); replace HB := Aside0.mk (below_step (HB.out) hb); clear hb hbox hg)
    | ((with_reducible refine gate_dst (N := 3) rfl ?_); refine box_event ?hg (N := 3) ?hd (cs := #[.int .i64 a1_0, .int .i64 a1_1]) (t := 23) ?hr ?_; (case hd => rfl); (case hg => rfl); (case hr => first | (go_simp; done) | (go_simp; rfl)); intro g3 hg w4 hbox hb; have BK3 := Aside0.mk (hbox); have GE3 := Aside0.mk (bG hg (HB.out)); have N23 := cN hg BK2; have N32 := cM hg BK2; replace HB := Aside0.mk (below_step (HB.out) hb); replace BK2 := cB hb BK2; clear hb hbox hg; obtain ⟨k0, k1⟩ := cells2 BK2.out; obtain ⟨l0, l1⟩ := cells2 BK3.out)
    | ((with_reducible refine gate_callee (f := 43) rfl ?_); refine goesL_ (some 7) rfl rfl Try.func43 (by kernel_rfl) rfl #[.agg #[.int .i64 a0_0, .int .i64 a0_1]] rfl (by (try simp only [List.map_toArray, List.map_cons, List.map_nil]); first | done | rfl | (simp only [List.length_drop, List.length_take]; rfl)) ?_; (with_reducible refine (RS _).mono ?_); rintro e w5 ⟨rfl, hb⟩; refine ⟨_, rfl, ?_⟩; replace BK2 := cB hb BK2; replace BK3 := cB hb BK3; replace HB := Aside0.mk (below_step (HB.out) hb); clear hb; obtain ⟨k0, k1⟩ := cells2 BK2.out; obtain ⟨l0, l1⟩ := cells2 BK3.out)
    | (go_at_call 43; (with_reducible refine (RT _).mono ?_); rintro e w6 ⟨rfl, hb⟩; replace BK2 := cB hb BK2; replace BK3 := cB hb BK3; replace HB := Aside0.mk (below_step (HB.out) hb); clear hb; obtain ⟨k0, k1⟩ := cells2 BK2.out; obtain ⟨l0, l1⟩ := cells2 BK3.out))
  go_ret2
  exact ⟨rfl, HB.out⟩
 simp only [and_self, if_true, Option.some.injEq, Prod.mk.injEq] at h
 obtain ⟨rfl, rfl⟩ := h
 obtain ⟨s0, D0, n0, F0⟩ := fromIntV a0_0 h00
 obtain ⟨s1, D1, n1, F1⟩ := fromIntV a1_1 h11
 obtain ⟨s2, D2, n2, F2⟩ := fromIntV a1_0 h10
 obtain ⟨s3, D3, n3, F3⟩ := fromIntV a0_1 h01
 obtain ⟨sx, X, nx, TX⟩ := timesV n0 n1 (by unfold absI; split <;> omega) (by unfold absI; split <;> omega)
 obtain ⟨sy, Y, ny, TY⟩ := timesV n2 n3 (by unfold absI; split <;> omega) (by unfold absI; split <;> omega)
 have CM := fun w => cmpV nx ny w
 obtain ⟨c, hc⟩ : ∃ c, sgn (a0_0 * a1_1 - a1_0 * a0_1) = c := ⟨_, rfl⟩
 rw [hc] at CM ⊢
 clear hc n0 n1 n2 n3 nx ny h00 h01 h10 h11
 go_enter Try.func23, Try.ntmps23
 go_wp2_with (first
   | ((with_reducible refine gate_dst (N := 2) rfl ?_); refine box_event ?hg (N := 2) ?hd (cs := #[.int .i64 a0_0, .int .i64 a0_1]) (t := 23) ?hr ?_; (case hd => rfl); (case hg => rfl); (case hr => first | (go_simp; done) | (go_simp; rfl)); intro g2 hg w3 hbox hb; have BK2 := Aside0.mk (hbox); have GE2 := Aside0.mk (bG hg (HB.out)); replace HB := Aside0.mk (below_step (HB.out) hb); clear hb hbox hg)
   | ((with_reducible refine gate_dst (N := 3) rfl ?_); refine box_event ?hg (N := 3) ?hd (cs := #[.int .i64 a1_0, .int .i64 a1_1]) (t := 23) ?hr ?_; (case hd => rfl); (case hg => rfl); (case hr => first | (go_simp; done) | (go_simp; rfl)); intro g3 hg w4 hbox hb; have BK3 := Aside0.mk (hbox); have GE3 := Aside0.mk (bG hg (HB.out)); have N23 := cN hg BK2; have N32 := cM hg BK2; replace HB := Aside0.mk (below_step (HB.out) hb); replace BK2 := cB hb BK2; clear hb hbox hg; obtain ⟨k0, k1⟩ := cells2 BK2.out; obtain ⟨l0, l1⟩ := cells2 BK3.out)
   | ((with_reducible refine gate_callee (f := 43) rfl ?_); refine goesL_ (some 7) rfl rfl Try.func43 (by kernel_rfl) rfl #[.agg #[.int .i64 a0_0, .int .i64 a0_1]] rfl (by (try simp only [List.map_toArray, List.map_cons, List.map_nil]); first | done | rfl | (simp only [List.length_drop, List.length_take]; rfl)) ?_; (with_reducible refine (RS _).mono ?_); rintro e w5 ⟨rfl, hb⟩; refine ⟨_, rfl, ?_⟩; replace BK2 := cB hb BK2; replace BK3 := cB hb BK3; replace HB := Aside0.mk (below_step (HB.out) hb); clear hb; obtain ⟨k0, k1⟩ := cells2 BK2.out; obtain ⟨l0, l1⟩ := cells2 BK3.out)
   | (go_at_call 43; (with_reducible refine (RT _).mono ?_); rintro e w6 ⟨rfl, hb⟩; replace BK2 := cB hb BK2; replace BK3 := cB hb BK3; replace HB := Aside0.mk (below_step (HB.out) hb); clear hb; obtain ⟨k0, k1⟩ := cells2 BK2.out; obtain ⟨l0, l1⟩ := cells2 BK3.out))
 replace BK2 := Aside0.mk (blk_drew BK2.out)
 replace BK3 := Aside0.mk (blk_drew BK3.out)
 replace HB := Aside0.mk (below_drew1 HB.out)
 refine start_ (n := 17) (S := fun w' => w'.cell? ⟨g2, 0, none⟩ = some (.int .i64 a0_0) ∧ w'.cell? ⟨g2, 1, none⟩ = some (.int .i64 a0_1) ∧ w'.cell? ⟨g3, 0, none⟩ = some (.int .i64 a1_0) ∧ w'.cell? ⟨g3, 1, none⟩ = some (.int .i64 a1_1)) (ds := []) #[false, false, false, false, false, false, false, false, false, false, false, false, false, false, false, false, false] (by kernel_rfl) rfl rfl ⟨(blk_cell BK2.out 0).trans rfl, (blk_cell BK2.out 1).trans rfl, (blk_cell BK3.out 0).trans rfl, (blk_cell BK3.out 1).trans rfl⟩ (fun hHeld => ?_); refine with_tabW relievoref01_Order.tab3 relievoref01_Order.bits3 (fun HT_ HW_ => ?_)
 generalize w6.drew = w7 at BK2 BK3 HB hHeld ⊢
 refine pure_ (i := 0) (N := some 14) (v := ?_) (a' := ?_) #[true, false, false, false, false, false, false, false, false, false, false, false, false, false, false, false, false] rfl rfl (any_of HT_.out (by kernel_rfl)) (fun _ _ _ h => h) (Or.inl ⟨by rfl, ?_⟩) ?_ ?_
 rotate_left
 ·intro w'
  go_simp
  with_reducible rfl
 rotate_left
 ·simp only [Act.put, List.setIfInBounds_toArray, List.set_cons_zero, List.set_cons_succ, i64_w, i32_w]
  rfl
 refine pure_ (i := 3) (N := some 17) (v := ?_) (a' := ?_) #[true, false, false, true, false, false, false, false, false, false, false, false, false, false, false, false, false] rfl rfl (any_of HT_.out (by kernel_rfl)) (fun _ _ _ h => h) (Or.inl ⟨by rfl, ?_⟩) ?_ ?_
 rotate_left
 ·intro w'
  go_simp
  with_reducible rfl
 rotate_left
 ·simp only [Act.put, List.setIfInBounds_toArray, List.set_cons_zero, List.set_cons_succ, i64_w, i32_w]
  rfl
 refine pure_ (i := 7) (N := some 21) (v := ?_) (a' := ?_) #[true, false, false, true, false, false, false, true, false, false, false, false, false, false, false, false, false] rfl rfl (any_of HT_.out (by kernel_rfl)) (fun _ _ _ h => h) (Or.inl ⟨by rfl, ?_⟩) ?_ ?_
 rotate_left
 ·intro w'
  go_simp
  with_reducible rfl
 rotate_left
 ·simp only [Act.put, List.setIfInBounds_toArray, List.set_cons_zero, List.set_cons_succ, i64_w, i32_w]
  rfl
 refine pure_ (i := 10) (N := some 24) (v := ?_) (a' := ?_) #[true, false, false, true, false, false, false, true, false, false, true, false, false, false, false, false, false] rfl rfl (any_of HT_.out (by kernel_rfl)) (fun _ _ _ h => h) (Or.inl ⟨by rfl, ?_⟩) ?_ ?_
 rotate_left
 ·intro w'
  go_simp
  with_reducible rfl
 rotate_left
 ·simp only [Act.put, List.setIfInBounds_toArray, List.set_cons_zero, List.set_cons_succ, i64_w, i32_w]
  rfl
 refine take_ (i := 1) (N := some 15) (v := ?_) (a' := ?_) #[true, true, false, true, false, false, false, true, false, false, true, false, false, false, false, false, false] rfl rfl (take_ofW HT_.out HW_.out (by kernel_rfl)) (fun _ _ _ h => h) (Or.inl ⟨by rfl, ?_⟩) hHeld ?_ ?_
 rotate_left
 ·rintro w' ⟨s0, s1, s2, s3⟩
  go_simp
  with_reducible rfl
 rotate_left
 ·simp only [Act.put, List.setIfInBounds_toArray, List.set_cons_zero, List.set_cons_succ, i64_w, i32_w]
  rfl
 refine take_ (i := 4) (N := some 18) (v := ?_) (a' := ?_) #[true, true, false, true, true, false, false, true, false, false, true, false, false, false, false, false, false] rfl rfl (take_ofW HT_.out HW_.out (by kernel_rfl)) (fun _ _ _ h => h) (Or.inl ⟨by rfl, ?_⟩) hHeld ?_ ?_
 rotate_left
 ·rintro w' ⟨s0, s1, s2, s3⟩
  go_simp
  with_reducible rfl
 rotate_left
 ·simp only [Act.put, List.setIfInBounds_toArray, List.set_cons_zero, List.set_cons_succ, i64_w, i32_w]
  rfl
 refine take_ (i := 8) (N := some 22) (v := ?_) (a' := ?_) #[true, true, false, true, true, false, false, true, true, false, true, false, false, false, false, false, false] rfl rfl (take_ofW HT_.out HW_.out (by kernel_rfl)) (fun _ _ _ h => h) (Or.inl ⟨by rfl, ?_⟩) hHeld ?_ ?_
 rotate_left
 ·rintro w' ⟨s0, s1, s2, s3⟩
  go_simp
  with_reducible rfl
 rotate_left
 ·simp only [Act.put, List.setIfInBounds_toArray, List.set_cons_zero, List.set_cons_succ, i64_w, i32_w]
  rfl
 refine take_ (i := 11) (N := some 25) (v := ?_) (a' := ?_) #[true, true, false, true, true, false, false, true, true, false, true, true, false, false, false, false, false] rfl rfl (take_ofW HT_.out HW_.out (by kernel_rfl)) (fun _ _ _ h => h) (Or.inl ⟨by rfl, ?_⟩) hHeld ?_ ?_
 rotate_left
 ·rintro w' ⟨s0, s1, s2, s3⟩
  go_simp
  with_reducible rfl
 rotate_left
 ·simp only [Act.put, List.setIfInBounds_toArray, List.set_cons_zero, List.set_cons_succ, i64_w, i32_w]
  rfl
 refine one_ (i := 2) (N := some 16) #[true, true, true, true, true, false, false, true, true, false, true, true, false, false, false, false, false] rfl rfl (one_of HT_.out (by kernel_rfl)) (by decide) (fun K hK => ?_)
 refine goes_ Try.func26 (by kernel_rfl) rfl #[.int .i64 a0_0] (by rfl) rfl rfl (by (try simp only [List.map_toArray, List.map_cons, List.map_nil]); first | done | rfl | (simp only [List.length_drop, List.length_take]; rfl)) ?_
 with_reducible refine (F0 _).mono ?_
 rintro e w7_1 ⟨rfl, hb⟩
 refine ⟨_, rfl, ?_⟩
 replace BK2 := cB hb BK2
 replace BK3 := cB hb BK3
 replace HB := Aside0.mk (below_step (HB.out) hb)
 clear hb
 refine hK.out _ _ ⟨(blk_cell BK2.out 0).trans rfl, (blk_cell BK2.out 1).trans rfl, (blk_cell BK3.out 0).trans rfl, (blk_cell BK3.out 1).trans rfl⟩ (fun hHeld => ?_)
 clear hK K
 refine norm_ (a' := ?_) ?_ ?_
 rotate_left
 ·show Act.put _ (some 16) _ = _
  simp only [Act.put, List.setIfInBounds_toArray, List.set_cons_zero, List.set_cons_succ, i64_w, i32_w]
  rfl
 refine one_ (i := 5) (N := some 19) #[true, true, true, true, true, true, false, true, true, false, true, true, false, false, false, false, false] rfl rfl (one_of HT_.out (by kernel_rfl)) (by decide) (fun K hK => ?_)
 refine goes_ Try.func26 (by kernel_rfl) rfl #[.int .i64 a1_1] (by rfl) rfl rfl (by (try simp only [List.map_toArray, List.map_cons, List.map_nil]); first | done | rfl | (simp only [List.length_drop, List.length_take]; rfl)) ?_
 with_reducible refine (F1 _).mono ?_
 rintro e w7_2 ⟨rfl, hb⟩
 refine ⟨_, rfl, ?_⟩
 replace BK2 := cB hb BK2
 replace BK3 := cB hb BK3
 replace HB := Aside0.mk (below_step (HB.out) hb)
 clear hb
 refine hK.out _ _ ⟨(blk_cell BK2.out 0).trans rfl, (blk_cell BK2.out 1).trans rfl, (blk_cell BK3.out 0).trans rfl, (blk_cell BK3.out 1).trans rfl⟩ (fun hHeld => ?_)
 clear hK K
 refine norm_ (a' := ?_) ?_ ?_
 rotate_left
 ·show Act.put _ (some 19) _ = _
  simp only [Act.put, List.setIfInBounds_toArray, List.set_cons_zero, List.set_cons_succ, i64_w, i32_w]
  rfl
 refine one_ (i := 6) (N := some 20) #[true, true, true, true, true, true, true, true, true, false, true, true, false, false, false, false, false] rfl rfl (one_of HT_.out (by kernel_rfl)) (by decide) (fun K hK => ?_)
 refine goes_ Try.func42 (by kernel_rfl) rfl #[.agg (numA s0 D0), .agg (numA s1 D1)] (by rfl) rfl rfl (by (try simp only [List.map_toArray, List.map_cons, List.map_nil]); first | done | rfl | (simp only [List.length_drop, List.length_take]; rfl)) ?_
 with_reducible refine (TX _).mono ?_
 rintro e w7_3 ⟨rfl, hb⟩
 refine ⟨_, rfl, ?_⟩
 replace BK2 := cB hb BK2
 replace BK3 := cB hb BK3
 replace HB := Aside0.mk (below_step (HB.out) hb)
 clear hb
 refine hK.out _ _ ⟨(blk_cell BK2.out 0).trans rfl, (blk_cell BK2.out 1).trans rfl, (blk_cell BK3.out 0).trans rfl, (blk_cell BK3.out 1).trans rfl⟩ (fun hHeld => ?_)
 clear hK K
 refine norm_ (a' := ?_) ?_ ?_
 rotate_left
 ·show Act.put _ (some 20) _ = _
  simp only [Act.put, List.setIfInBounds_toArray, List.set_cons_zero, List.set_cons_succ, i64_w, i32_w]
  rfl
 refine one_ (i := 9) (N := some 23) #[true, true, true, true, true, true, true, true, true, true, true, true, false, false, false, false, false] rfl rfl (one_of HT_.out (by kernel_rfl)) (by decide) (fun K hK => ?_)
 refine goes_ Try.func26 (by kernel_rfl) rfl #[.int .i64 a1_0] (by rfl) rfl rfl (by (try simp only [List.map_toArray, List.map_cons, List.map_nil]); first | done | rfl | (simp only [List.length_drop, List.length_take]; rfl)) ?_
 with_reducible refine (F2 _).mono ?_
 rintro e w7_4 ⟨rfl, hb⟩
 refine ⟨_, rfl, ?_⟩
 replace BK2 := cB hb BK2
 replace BK3 := cB hb BK3
 replace HB := Aside0.mk (below_step (HB.out) hb)
 clear hb
 refine hK.out _ _ ⟨(blk_cell BK2.out 0).trans rfl, (blk_cell BK2.out 1).trans rfl, (blk_cell BK3.out 0).trans rfl, (blk_cell BK3.out 1).trans rfl⟩ (fun hHeld => ?_)
 clear hK K
 refine norm_ (a' := ?_) ?_ ?_
 rotate_left
 ·show Act.put _ (some 23) _ = _
  simp only [Act.put, List.setIfInBounds_toArray, List.set_cons_zero, List.set_cons_succ, i64_w, i32_w]
  rfl
 refine one_ (i := 12) (N := some 26) #[true, true, true, true, true, true, true, true, true, true, true, true, true, false, false, false, false] rfl rfl (one_of HT_.out (by kernel_rfl)) (by decide) (fun K hK => ?_)
 refine goes_ Try.func26 (by kernel_rfl) rfl #[.int .i64 a0_1] (by rfl) rfl rfl (by (try simp only [List.map_toArray, List.map_cons, List.map_nil]); first | done | rfl | (simp only [List.length_drop, List.length_take]; rfl)) ?_
 with_reducible refine (F3 _).mono ?_
 rintro e w7_5 ⟨rfl, hb⟩
 refine ⟨_, rfl, ?_⟩
 replace BK2 := cB hb BK2
 replace BK3 := cB hb BK3
 replace HB := Aside0.mk (below_step (HB.out) hb)
 clear hb
 refine hK.out _ _ ⟨(blk_cell BK2.out 0).trans rfl, (blk_cell BK2.out 1).trans rfl, (blk_cell BK3.out 0).trans rfl, (blk_cell BK3.out 1).trans rfl⟩ (fun hHeld => ?_)
 clear hK K
 refine norm_ (a' := ?_) ?_ ?_
 rotate_left
 ·show Act.put _ (some 26) _ = _
  simp only [Act.put, List.setIfInBounds_toArray, List.set_cons_zero, List.set_cons_succ, i64_w, i32_w]
  rfl
 refine one_ (i := 13) (N := some 27) #[true, true, true, true, true, true, true, true, true, true, true, true, true, true, false, false, false] rfl rfl (one_of HT_.out (by kernel_rfl)) (by decide) (fun K hK => ?_)
 refine goes_ Try.func42 (by kernel_rfl) rfl #[.agg (numA s2 D2), .agg (numA s3 D3)] (by rfl) rfl rfl (by (try simp only [List.map_toArray, List.map_cons, List.map_nil]); first | done | rfl | (simp only [List.length_drop, List.length_take]; rfl)) ?_
 with_reducible refine (TY _).mono ?_
 rintro e w7_6 ⟨rfl, hb⟩
 refine ⟨_, rfl, ?_⟩
 replace BK2 := cB hb BK2
 replace BK3 := cB hb BK3
 replace HB := Aside0.mk (below_step (HB.out) hb)
 clear hb
 refine hK.out _ _ ⟨(blk_cell BK2.out 0).trans rfl, (blk_cell BK2.out 1).trans rfl, (blk_cell BK3.out 0).trans rfl, (blk_cell BK3.out 1).trans rfl⟩ (fun hHeld => ?_)
 clear hK K
 refine norm_ (a' := ?_) ?_ ?_
 rotate_left
 ·show Act.put _ (some 27) _ = _
  simp only [Act.put, List.setIfInBounds_toArray, List.set_cons_zero, List.set_cons_succ, i64_w, i32_w]
  rfl
 refine one_ (i := 14) (N := some 28) #[true, true, true, true, true, true, true, true, true, true, true, true, true, true, true, false, false] rfl rfl (one_of HT_.out (by kernel_rfl)) (by decide) (fun K hK => ?_)
 refine goes_ Try.func31 (by kernel_rfl) rfl #[.agg (numA sx X), .agg (numA sy Y)] (by rfl) rfl rfl (by (try simp only [List.map_toArray, List.map_cons, List.map_nil]); first | done | rfl | (simp only [List.length_drop, List.length_take]; rfl)) ?_
 with_reducible refine (CM _).mono ?_
 rintro e w7_7 ⟨rfl, hb⟩
 refine ⟨_, rfl, ?_⟩
 replace BK2 := cB hb BK2
 replace BK3 := cB hb BK3
 replace HB := Aside0.mk (below_step (HB.out) hb)
 clear hb
 refine hK.out _ _ ⟨(blk_cell BK2.out 0).trans rfl, (blk_cell BK2.out 1).trans rfl, (blk_cell BK3.out 0).trans rfl, (blk_cell BK3.out 1).trans rfl⟩ (fun hHeld => ?_)
 clear hK K
 refine norm_ (a' := ?_) ?_ ?_
 rotate_left
 ·show Act.put _ (some 28) _ = _
  simp only [Act.put, List.setIfInBounds_toArray, List.set_cons_zero, List.set_cons_succ, i64_w, i32_w]
  rfl
 refine pure_ (i := 15) (N := some 4) (v := ?_) (a' := ?_) #[true, true, true, true, true, true, true, true, true, true, true, true, true, true, true, true, false] rfl rfl (any_of HT_.out (by kernel_rfl)) (fun _ _ _ h => h) (Or.inl ⟨by rfl, ?_⟩) ?_ ?_
 rotate_left
 ·intro w'
  go_simp
  with_reducible rfl
 rotate_left
 ·simp only [Act.put, List.setIfInBounds_toArray, List.set_cons_zero, List.set_cons_succ, i64_w, i32_w]
  rfl
 refine pure_ (i := 16) (N := some 5) (v := ?_) (a' := ?_) #[true, true, true, true, true, true, true, true, true, true, true, true, true, true, true, true, true] rfl rfl (any_of HT_.out (by kernel_rfl)) (fun _ _ _ h => h) (Or.inl ⟨by rfl, ?_⟩) ?_ ?_
 rotate_left
 ·intro w'
  go_simp
  with_reducible rfl
 rotate_left
 ·simp only [Act.put, List.setIfInBounds_toArray, List.set_cons_zero, List.set_cons_succ, i64_w, i32_w]
  rfl
 refine done_ (done_of HT_.out (by kernel_rfl)) ?_
 try go_wp2
 go_ret2
 exact ⟨rfl, HB.out⟩
end Go.Proofs.Ytmkdnoikbefimaa.G

namespace Go.Proofs.Ytmkdnoikbefimaa.G
open Go.RowKit Go.Proofs.NumMath Go.Proofs.YtmkdnoikbefimaaW.PrintWords Go.Proofs.YtmkdnoikbefimaaW.PrintLast Go.Proofs.YtmkdnoikbefimaaW.PrintMore
attribute [local go_sem] max2_int min2_int max_two min_two max_three min_three max_four min_four
set_option linter.unusedVariables false
set_option linter.unusedSimpArgs false
theorem set_same : ∀ (Q : List Int) (i : Nat), Q.getD i 0 = 0 → Q.set i 0 = Q
  | [], _, _ => rfl
  | a :: Q, 0, h => by
    have : a = 0 := by simpa using h
    rw [this]
    rfl
  | a :: Q, i + 1, h => by
    rw [List.set_cons_succ, set_same Q i (by simpa using h)]
theorem and_one (z : Int) (h0 : 0 ≤ z) (h1 : z < 9223372036854775808) : bits .and .i64 z 1 = z % 2 := by
  have h2 : (BitVec.ofInt 64 1).toNat = 2 ^ 1 - 1 := by decide
  have key : (BitVec.ofInt 64 z &&& BitVec.ofInt 64 1).toNat = (z % ((2 ^ 64 : Nat) : Int)).toNat % 2 ^ 1 := by
    rw [BitVec.toNat_and, BitVec.toNat_ofInt, h2, Nat.and_two_pow_sub_one_eq_mod]
  show IntKind.i64.wrap ((BitVec.ofInt 64 z &&& BitVec.ofInt 64 1).toNat : Nat) = z % 2
  rw [key, IntKind.wrap_i64]
  omega
def relievoref01_Div.T20 : Bool × List (List Nat × List Nat) := (true, [([], []), ([], []), ([0, 1, 1], [0, 1]), ([2, 2, 0, 1, 2], [2])])
def relievoref01_Div.B20 : List Nat := [0, 0, 3, 7]
theorem relievoref01_Div.tab20 : rtab .any (opsOf Try.f20 20) = relievoref01_Div.T20 := by kernel_rfl
theorem relievoref01_Div.bits20 : waitsOk relievoref01_Div.T20.2 relievoref01_Div.B20 = true := by kernel_rfl
set_option maxHeartbeats 2000000 in
set_option maxRecDepth 100000 in
theorem div_walk (a0_0 a0_1 a1 o1 o2 rr : Int) (ok z sA s1 : Bool) (N QF D1 : List Int) (RF : Int) (w : World) (hd : 1 ≤ a1 ∧ a1 ≤ 9223372036854775807) (dN : Dig N) (hl : QF.length = 18) (hD1 : D1.length = 18)
    (ZR : ∀ w, Calls Try.prog 41 #[.agg (ar QF)] w fun e w' => e = .returned (.bool z) ∧ Below w.heap.size w w')
    (F1 : ∀ w, Calls Try.prog 26 #[.int .i64 (-1)] w fun e w' => e = .returned (.agg (numA s1 D1)) ∧ Below w.heap.size w w')
    (HF : sA = false → (∀ w, Calls Try.prog 25 #[.agg (numA false QF)] w fun e w' => e = .returned (.tuple #[.agg #[.int .i64 o1, .int .u64 o2], .bool ok]) ∧ Below w.heap.size w w') ∧ rr = RF)
    (HT0 : sA = true → RF = 0 → (∀ w, Calls Try.prog 25 #[.agg (numA (!z) QF)] w fun e w' => e = .returned (.tuple #[.agg #[.int .i64 o1, .int .u64 o2], .bool ok]) ∧ Below w.heap.size w w') ∧ rr = RF)
    (HT1 : sA = true → 0 < RF → ∃ s3 D3, D3.length = 18 ∧ (∀ w, Calls Try.prog 27 #[.agg (numA (!z) QF), .agg (numA s1 D1)] w fun e w' => e = .returned (.agg (numA s3 D3)) ∧ Below w.heap.size w w') ∧ (∀ w, Calls Try.prog 25 #[.agg (numA s3 D3)] w fun e w' => e = .returned (.tuple #[.agg #[.int .i64 o1, .int .u64 o2], .bool ok]) ∧ Below w.heap.size w w') ∧ rr = a1 - RF)
    (FR : ∀ w, Calls Try.prog 28 #[.agg #[.int .i64 a0_0, .int .u64 a0_1]] w fun e w' => e = .returned (.agg (numA sA N)) ∧ Below w.heap.size w w')
    (ho : outN a1 N 18 0 Z18 = (RF, QF)) :
    Calls Try.prog 20 #[.agg #[.int .i64 a0_0, .int .u64 a0_1], .int .i64 a1] w fun e w' => e = .returned (.tuple #[.agg #[.int .i64 o1, .int .u64 o2], .int .i64 rr, .bool ok]) ∧ Below w.heap.size w w' := by
 have hu30 := Try.underlying30
 have hu44 := Try.underlying44
 have hu46 := Try.underlying46
 have hN : N.length = 18 := dN.1
 have HB := Aside0.mk (Below.refl w.heap.size w)
 have c1 : ¬ a1 < 1 := by omega
 go_enter Try.func20, Try.ntmps20
 go_wp2_with (first
   | ((with_reducible refine gate_dst (N := 2) rfl ?_); refine box_event ?hg (N := 2) ?hd (cs := #[.int .i64 a0_0, .int .u64 a0_1]) (t := 30) ?hr ?_; (case hd => rfl); (case hg => rfl); (case hr => first | (go_simp; done) | (go_simp; rfl)); intro g2 hg w3 hbox hb; have BK2 := Aside0.mk (hbox); have GE2 := Aside0.mk (bG hg (HB.out)); replace HB := Aside0.mk (below_step (HB.out) hb); clear hb hbox hg; obtain ⟨k0, k1⟩ := cells2 BK2.out)
   | ((with_reducible refine gate_dst (N := 4) rfl ?_); refine box_event ?hg (N := 4) ?hd (cs := #[.int .i64 0, .int .u64 0]) (t := 30) ?hr ?_; (case hd => rfl); (case hg => rfl); (case hr => first | (go_simp; done) | (go_simp; rfl)); intro g4 hg w4 hbox hb; have BK4 := Aside0.mk (hbox); have GE4 := Aside0.mk (bG hg (HB.out)); have N24 := cN hg BK2; have N42 := cM hg BK2; replace HB := Aside0.mk (below_step (HB.out) hb); replace BK2 := cB hb BK2; clear hb hbox hg; obtain ⟨k0, k1⟩ := cells2 BK2.out)
   | (go_at_call 28; (with_reducible refine (FR _).mono ?_); rintro e w5 ⟨rfl, hb⟩; replace BK2 := cB hb BK2; replace BK4 := cB hb BK4; replace HB := Aside0.mk (below_step (HB.out) hb); clear hb)
   | ((with_reducible refine gate_dst (N := 7) rfl ?_); refine box_event ?hg (N := 7) ?hd (cs := numA false Z18) (t := 46) ?hr ?_; (case hd => rfl); (case hg => rfl); (case hr => first | (go_simp; done) | (go_simp; rfl)); intro g7 hg w6 hbox hb; have BK7 := Aside0.mk (hbox); have GE7 := Aside0.mk (bG hg (HB.out)); have N27 := cN hg BK2; have N72 := cM hg BK2; have N47 := cN hg BK4; have N74 := cM hg BK4; replace HB := Aside0.mk (below_step (HB.out) hb); replace BK2 := cB hb BK2; replace BK4 := cB hb BK4; clear hb hbox hg)
   | ((with_reducible refine gate_store2 (t := 46) (x := .tmp 7) (y := .tmp 19) rfl ?_); refine ev_row rfl 46 (.tmp 7) (.tmp 19) rfl rfl g7 (numA sA N) ?hx ?hy 46 (numA false Z18) BK7.out (num_info hN) ((numA_size rfl).trans (numA_size hN).symm) (numA_one _ _) HB.out GE7.out ?_; (case hx => first | (go_simp; done) | rfl); (case hy => first | (go_simp; done) | rfl | (go_simp; rfl)); intro w9 hbox hb hk; replace BK7 := Aside0.mk hbox; replace HB := Aside0.mk hb; replace BK2 := Aside0.mk ((hk _ N27.out).trans BK2.out); replace BK4 := Aside0.mk ((hk _ N47.out).trans BK4.out); clear hbox hb hk)
   | ((with_reducible refine gate_dst (N := 8) rfl ?_); refine box_event ?hg (N := 8) ?hd (cs := numA false Z18) (t := 46) ?hr ?_; (case hd => rfl); (case hg => rfl); (case hr => first | (go_simp; done) | (go_simp; rfl)); intro g8 hg w10 hbox hb; have BK8 := Aside0.mk (hbox); have GE8 := Aside0.mk (bG hg (HB.out)); have N28 := cN hg BK2; have N82 := cM hg BK2; have N48 := cN hg BK4; have N84 := cM hg BK4; have N78 := cN hg BK7; have N87 := cM hg BK7; replace HB := Aside0.mk (below_step (HB.out) hb); replace BK2 := cB hb BK2; replace BK4 := cB hb BK4; replace BK7 := cB hb BK7; clear hb hbox hg)
   | ((with_reducible refine gate_store2 (t := 46) (x := .tmp 8) (y := .tmp 20) rfl ?_); refine ev_row rfl 46 (.tmp 8) (.tmp 20) rfl rfl g8 (numA false Z18) ?hx ?hy 46 (numA false Z18) BK8.out (num_info rfl) rfl (numA_one _ _) HB.out GE8.out ?_; (case hx => first | (go_simp; done) | rfl); (case hy => first | (go_simp; done) | rfl | (go_simp; rfl)); intro w11 hbox hb hk; replace BK8 := Aside0.mk hbox; replace HB := Aside0.mk hb; replace BK2 := Aside0.mk ((hk _ N28.out).trans BK2.out); replace BK4 := Aside0.mk ((hk _ N48.out).trans BK4.out); replace BK7 := Aside0.mk ((hk _ N78.out).trans BK7.out); clear hbox hb hk))
 go_loopg [9, 10, 11] 18 (fun ki v9 v10 v11 w' => ∃ (r : Int) (Q : List Int), v9 = .int .u64 r ∧ v10 = .int .i64 ((ki : Int) - 1) ∧ Aside0 (outN a1 N ki r Q = (RF, QF)) ∧ Aside0 (0 ≤ r ∧ r < a1) ∧ Aside0 (ki ≤ 18) ∧ Aside0 (Dig Q) ∧ Aside0 (∀ j, j < ki → Q.getD j 0 = 0) ∧ Aside0 (w'.heap[g8]? = some (.cells (numA false Q) 46 (0, 0))) ∧ Aside0 (w'.heap[g7]? = some (.cells (numA sA N) 46 (0, 0))) ∧ Aside0 (w'.heap[g2]? = some (.cells #[.int .i64 a0_0, .int .u64 a0_1] 30 (0, 0))) ∧ Aside0 (w'.heap[g4]? = some (.cells #[.int .i64 0, .int .u64 0] 30 (0, 0))) ∧ Aside0 (Below w.heap.size w w'))
 case atStart => exact ⟨0, Z18, rfl, rfl, ⟨ho⟩, ⟨by omega⟩, ⟨Nat.le_refl _⟩, ⟨dig_zero⟩, ⟨fun j hj => (by decide : ∀ n, n < 18 → Z18.getD n 0 = 0) j hj⟩, BK8, BK7, BK2, BK4, HB⟩
 case round =>
  clear BK8 BK7 BK2 BK4 HB
  obtain ⟨r, Q, rfl, rfl, HO, HR, HK, dQ1, zQ1, CK8, CK7, CK2, CK4, HC⟩ := hrel
  cases gk with
  | zero =>
   have ho' := HO.out
   rw [outN] at ho'
   have d1 : decide (0 ≤ ((0 : Nat) : Int) - 1) = false := rfl
   obtain ⟨e1, e2⟩ := Prod.mk.inj ho'
   rw [e1]
   rw [e1] at HR
   rw [e2] at CK8
   have HRF := HR.out
   have er : wrap64 RF = RF := by unfold wrap64; omega
   have c7 := (blk_cell CK7.out 0).trans (numA_get0 sA N)
   have c8 := (blk_cell CK8.out 0).trans (numA_get0 false QF)
   have f8 := blk_frozen CK8.out 0
   have nn7 := N78.out
   have nn8 := N87.out
   clear e1 e2 HO dQ1 zQ1 HK ho'
   cases sA
   · obtain ⟨TO, rfl⟩ := HF rfl
     clear HF HT0 HT1
     go_wp2_with (first
   | ((with_reducible refine gate_dst (N := 87) rfl ?_); replace CK8 := Aside0.mk (blk_put CK8.out 0 _ (numA_neg false false QF)); replace CK7 := Aside0.mk (blk_far CK7.out (p := ⟨g8, 0, none⟩) (by exact N78.out) (.bool false)); replace CK4 := Aside0.mk (blk_far CK4.out (p := ⟨g8, 0, none⟩) (by exact N48.out) (.bool false)); replace HC := Aside0.mk (below_set (j := 0) (v := .bool false) HC.out GE8.out); refine wpList_load_row rfl 46 (.tmp 8) rfl g8 ?hx 46 (numA false QF) (0, 0) _ CK8.out hu46 rfl (num_info hl) ?_; (case hx => first | (go_simp; done) | rfl))
   | (go_at_call 25; (with_reducible refine (TO _).mono ?_); rintro e' w20 ⟨rfl, hb⟩; replace CK4 := cB hb CK4; replace HC := Aside0.mk (below_step (HC.out) hb); clear hb)
   | ((with_reducible refine gate_dst (N := 13) rfl ?_); refine box_event ?hg (N := 13) ?hd (cs := #[.int .i64 0, .int .u64 0]) (t := 30) ?hr ?_; (case hd => rfl); (case hg => rfl); (case hr => first | (go_simp; done) | (go_simp; rfl)); intro g13 hg w21 hbox hb; have BK13 := Aside0.mk (hbox); have GE13 := Aside0.mk (bG hg (HC.out)); have N413 := cN hg CK4; have N134 := cM hg CK4; replace HC := Aside0.mk (below_step (HC.out) hb); replace CK4 := cB hb CK4; clear hb hbox hg; have y0 := (blk_cell BK13.out 0).trans (rfl : _ = some (Value.int .i64 0)); have yf0 := blk_frozen BK13.out 0; have y1 := (blk_cell BK13.out 1).trans (rfl : _ = some (Value.int .u64 0)); have yf1 := blk_frozen BK13.out 1; have u0 := (blk_cell CK4.out 0).trans (rfl : _ = some (Value.int .i64 0)); have uf0 := blk_frozen CK4.out 0; have u1 := (blk_cell CK4.out 1).trans (rfl : _ = some (Value.int .u64 0)); have uf1 := blk_frozen CK4.out 1; have ha := N413.out; have hbb := N134.out))
     (try simp only [Exit.inBlock, Exit.then])
     refine bodyPost_ret (results_ctt rfl _ _ g4 30 #[.int .i64 o1, .int .u64 o2] (0, 0) _ rfl (blk_put (cs' := #[.int .i64 o1, .int .u64 o2]) (blk_put (blk_far (blk_far CK4.out (p := ⟨g13, 0, none⟩) (by exact N413.out) (.int .i64 o1)) (p := ⟨g13, 1, none⟩) (by exact N413.out) (.int .u64 o2)) 0 _ rfl) 1 _ rfl) Try.underlying30 rfl (by kernel_rfl)) rfl ?_
     exact ⟨rfl, below_set (below_set (below_set (below_set HC.out GE13.out) GE13.out) GE4.out) GE4.out⟩
   by_cases h0 : 0 < RF
   · obtain ⟨s3, D3, h3, PL, TO, rfl⟩ := HT1 rfl h0
     clear HF HT0 HT1
     have d5 : decide (0 < RF) = true := decide_eq_true h0
     have em : wrap64 (a1 - RF) = a1 - RF := by unfold wrap64; omega
     go_wp2_with (first
   | ((with_reducible refine gate_dst (N := 67) rfl ?_); refine ev_mid ?hw 44 (.tmp 66) rfl g8 1 ?hx _ (ar QF) rfl _ (num_range CK8.out) hu44 rfl (ar_info hl) ?_; (case hx => first | (go_simp; done) | rfl); (case hw => first | rfl | (go_simp; done)))
   | (go_at_call 41; (with_reducible refine (ZR _).mono ?_); rintro e' w19 ⟨rfl, hb⟩; replace CK8 := cB hb CK8; replace CK7 := cB hb CK7; replace CK4 := cB hb CK4; replace HC := Aside0.mk (below_step (HC.out) hb); clear hb; have c7 := (blk_cell CK7.out 0).trans (numA_get0 true N); have c8 := (blk_cell CK8.out 0).trans (numA_get0 false QF); have f8 := blk_frozen CK8.out 0))
     replace CK8 := Aside0.mk (blk_put CK8.out 0 _ (numA_neg false (!z) QF))
     replace CK7 := Aside0.mk (blk_far CK7.out (p := ⟨g8, 0, none⟩) (by exact N78.out) (.bool (!z)))
     replace CK4 := Aside0.mk (blk_far CK4.out (p := ⟨g8, 0, none⟩) (by exact N48.out) (.bool (!z)))
     replace HC := Aside0.mk (below_set (j := 0) (v := .bool (!z)) HC.out GE8.out)
     clear c7 c8 f8
     generalize w19.setCell ⟨g8, 0, none⟩ (.bool (!z)) = w30 at CK4 CK7 CK8 HC ⊢
     replace CK4 := Aside0.mk (blk_drew CK4.out)
     replace CK7 := Aside0.mk (blk_drew CK7.out)
     replace CK8 := Aside0.mk (blk_drew CK8.out)
     replace HC := Aside0.mk (below_drew1 HC.out)
     refine start_ (n := 4) (S := fun w' => w'.heap[g8]? = some (.cells (numA (!z) QF) 46 (0, 0))) (ds := [3]) #[false, false, false, false] (by kernel_rfl) rfl rfl CK8.out (fun hHeld => ?_); refine with_tabW relievoref01_Div.tab20 relievoref01_Div.bits20 (fun HT_ HW_ => ?_)
     generalize w30.drew = w31 at CK4 CK7 CK8 HC hHeld ⊢
     refine take_ (i := 0) (N := some 80) (v := .agg (numA (!z) QF)) (a' := ?_) #[true, false, false, false] rfl rfl (take_ofW HT_.out HW_.out (by kernel_rfl)) (fun _ _ _ h => h) (Or.inl ⟨by rfl, fun w' s0 => exec_load rfl rfl s0 hu46 rfl (num_info hl)⟩) hHeld ?_ ?_
     rotate_left
     ·simp only [Act.put, List.setIfInBounds_toArray, List.set_cons_zero, List.set_cons_succ, i64_w, i32_w]
      rfl
     refine one_ (i := 1) (N := some 81) #[true, true, false, false] rfl rfl (one_of HT_.out (by kernel_rfl)) (by decide) (fun K hK => ?_)
     refine goes_ Try.func26 (by kernel_rfl) rfl #[.int .i64 (-1)] (by rfl) rfl rfl (by (try simp only [List.map_toArray, List.map_cons, List.map_nil]); first | done | rfl | (simp only [List.length_drop, List.length_take]; rfl)) ?_
     with_reducible refine (F1 _).mono ?_
     rintro e w31_1 ⟨rfl, hb⟩
     refine ⟨_, rfl, ?_⟩
     replace CK4 := cB hb CK4
     replace CK7 := cB hb CK7
     replace CK8 := cB hb CK8
     replace HC := Aside0.mk (below_step (HC.out) hb)
     clear hb
     refine hK.out _ _ CK8.out (fun hHeld => ?_)
     clear hK K
     refine norm_ (a' := ?_) ?_ ?_
     rotate_left
     ·show Act.put _ (some 81) _ = _
      simp only [Act.put, List.setIfInBounds_toArray, List.set_cons_zero, List.set_cons_succ, i64_w, i32_w]
      rfl
     refine one_ (i := 2) (N := some 82) #[true, true, true, false] rfl rfl (one_of HT_.out (by kernel_rfl)) (by decide) (fun K hK => ?_)
     refine goes_ Try.func27 (by kernel_rfl) rfl #[.agg (numA (!z) QF), .agg (numA s1 D1)] (by rfl) rfl rfl (by (try simp only [List.map_toArray, List.map_cons, List.map_nil]); first | done | rfl | (simp only [List.length_drop, List.length_take]; rfl)) ?_
     with_reducible refine (PL _).mono ?_
     rintro e w31_2 ⟨rfl, hb⟩
     refine ⟨_, rfl, ?_⟩
     replace CK4 := cB hb CK4
     replace CK7 := cB hb CK7
     replace CK8 := cB hb CK8
     replace HC := Aside0.mk (below_step (HC.out) hb)
     clear hb
     refine hK.out _ _ CK8.out (fun hHeld => ?_)
     clear hK K
     refine norm_ (a' := ?_) ?_ ?_
     rotate_left
     ·show Act.put _ (some 82) _ = _
      simp only [Act.put, List.setIfInBounds_toArray, List.set_cons_zero, List.set_cons_succ, i64_w, i32_w]
      rfl
     refine last_ (i := 3) (N := none) #[true, true, true, true] rfl rfl (one_of HT_.out (by kernel_rfl)) (by decide) (fun K hK => ?_)
     rw [if_pos (by rfl)]
     refine wp_store_row 46 (.tmp 8) (.tmp 82) rfl g8 (numA s3 D3) rfl rfl 46 (numA (!z) QF) CK8.out (num_info h3) ((numA_size hl).trans (numA_size h3).symm) (numA_one _ _) ?_
     replace CK4 := Aside0.mk ((setRow_other w31_2 g8 g4 (numA s3 D3) N48.out).trans CK4.out)
     replace HC := Aside0.mk (Go.below_setRow HC.out GE8.out (numA s3 D3))
     replace CK8 := Aside0.mk (setRow_heap w31_2 g8 (numA (!z) QF) (numA s3 D3) 46 (0, 0) CK8.out)
     refine hK.out _ _ ?_
     clear hK K
     refine done_ (done_of HT_.out (by kernel_rfl)) ?_
     clear HT_ HW_ hHeld CK7
     generalize w31_2.setRow g8 (numA s3 D3) = w32 at CK4 CK8 HC ⊢
     go_wp2_with (first
   | ((with_reducible refine gate_dst (N := 87) rfl ?_); refine wpList_load_row rfl 46 (.tmp 8) rfl g8 ?hx 46 (numA s3 D3) (0, 0) _ CK8.out hu46 rfl (num_info h3) ?_; (case hx => first | (go_simp; done) | rfl))
   | (go_at_call 25; (with_reducible refine (TO _).mono ?_); rintro e' w20 ⟨rfl, hb⟩; replace CK4 := cB hb CK4; replace HC := Aside0.mk (below_step (HC.out) hb); clear hb)
   | ((with_reducible refine gate_dst (N := 13) rfl ?_); refine box_event ?hg (N := 13) ?hd (cs := #[.int .i64 0, .int .u64 0]) (t := 30) ?hr ?_; (case hd => rfl); (case hg => rfl); (case hr => first | (go_simp; done) | (go_simp; rfl)); intro g13 hg w21 hbox hb; have BK13 := Aside0.mk (hbox); have GE13 := Aside0.mk (bG hg (HC.out)); have N413 := cN hg CK4; have N134 := cM hg CK4; replace HC := Aside0.mk (below_step (HC.out) hb); replace CK4 := cB hb CK4; clear hb hbox hg; have y0 := (blk_cell BK13.out 0).trans (rfl : _ = some (Value.int .i64 0)); have yf0 := blk_frozen BK13.out 0; have y1 := (blk_cell BK13.out 1).trans (rfl : _ = some (Value.int .u64 0)); have yf1 := blk_frozen BK13.out 1; have u0 := (blk_cell CK4.out 0).trans (rfl : _ = some (Value.int .i64 0)); have uf0 := blk_frozen CK4.out 0; have u1 := (blk_cell CK4.out 1).trans (rfl : _ = some (Value.int .u64 0)); have uf1 := blk_frozen CK4.out 1; have ha := N413.out; have hbb := N134.out))
     (try simp only [Exit.inBlock, Exit.then])
     refine bodyPost_ret (results_ctt rfl _ _ g4 30 #[.int .i64 o1, .int .u64 o2] (0, 0) _ rfl (blk_put (cs' := #[.int .i64 o1, .int .u64 o2]) (blk_put (blk_far (blk_far CK4.out (p := ⟨g13, 0, none⟩) (by exact N413.out) (.int .i64 o1)) (p := ⟨g13, 1, none⟩) (by exact N413.out) (.int .u64 o2)) 0 _ rfl) 1 _ rfl) Try.underlying30 rfl (by kernel_rfl)) rfl ?_
     exact ⟨rfl, below_set (below_set (below_set (below_set HC.out GE13.out) GE13.out) GE4.out) GE4.out⟩
   · obtain ⟨TO, rfl⟩ := HT0 rfl (by omega)
     clear HF HT0 HT1
     have d5 : decide (0 < rr) = false := decide_eq_false h0
     go_wp2_with (first
   | ((with_reducible refine gate_dst (N := 87) rfl ?_); replace CK8 := Aside0.mk (blk_put CK8.out 0 _ (numA_neg false (!z) QF)); replace CK7 := Aside0.mk (blk_far CK7.out (p := ⟨g8, 0, none⟩) (by exact N78.out) (.bool (!z))); replace CK4 := Aside0.mk (blk_far CK4.out (p := ⟨g8, 0, none⟩) (by exact N48.out) (.bool (!z))); replace HC := Aside0.mk (below_set (j := 0) (v := .bool (!z)) HC.out GE8.out); refine wpList_load_row rfl 46 (.tmp 8) rfl g8 ?hx 46 (numA (!z) QF) (0, 0) _ CK8.out hu46 rfl (num_info hl) ?_; (case hx => first | (go_simp; done) | rfl))
   | (go_at_call 25; (with_reducible refine (TO _).mono ?_); rintro e' w20 ⟨rfl, hb⟩; replace CK4 := cB hb CK4; replace HC := Aside0.mk (below_step (HC.out) hb); clear hb)
   | ((with_reducible refine gate_dst (N := 13) rfl ?_); refine box_event ?hg (N := 13) ?hd (cs := #[.int .i64 0, .int .u64 0]) (t := 30) ?hr ?_; (case hd => rfl); (case hg => rfl); (case hr => first | (go_simp; done) | (go_simp; rfl)); intro g13 hg w21 hbox hb; have BK13 := Aside0.mk (hbox); have GE13 := Aside0.mk (bG hg (HC.out)); have N413 := cN hg CK4; have N134 := cM hg CK4; replace HC := Aside0.mk (below_step (HC.out) hb); replace CK4 := cB hb CK4; clear hb hbox hg; have y0 := (blk_cell BK13.out 0).trans (rfl : _ = some (Value.int .i64 0)); have yf0 := blk_frozen BK13.out 0; have y1 := (blk_cell BK13.out 1).trans (rfl : _ = some (Value.int .u64 0)); have yf1 := blk_frozen BK13.out 1; have u0 := (blk_cell CK4.out 0).trans (rfl : _ = some (Value.int .i64 0)); have uf0 := blk_frozen CK4.out 0; have u1 := (blk_cell CK4.out 1).trans (rfl : _ = some (Value.int .u64 0)); have uf1 := blk_frozen CK4.out 1; have ha := N413.out; have hbb := N134.out)
   | ((with_reducible refine gate_dst (N := 67) rfl ?_); refine ev_mid ?hw 44 (.tmp 66) rfl g8 1 ?hx _ (ar QF) rfl _ (num_range CK8.out) hu44 rfl (ar_info hl) ?_; (case hx => first | (go_simp; done) | rfl); (case hw => first | rfl | (go_simp; done)))
   | (go_at_call 41; (with_reducible refine (ZR _).mono ?_); rintro e' w19 ⟨rfl, hb⟩; replace CK8 := cB hb CK8; replace CK7 := cB hb CK7; replace CK4 := cB hb CK4; replace HC := Aside0.mk (below_step (HC.out) hb); clear hb; have c7 := (blk_cell CK7.out 0).trans (numA_get0 true N); have c8 := (blk_cell CK8.out 0).trans (numA_get0 false QF); have f8 := blk_frozen CK8.out 0))
     (try simp only [Exit.inBlock, Exit.then])
     refine bodyPost_ret (results_ctt rfl _ _ g4 30 #[.int .i64 o1, .int .u64 o2] (0, 0) _ rfl (blk_put (cs' := #[.int .i64 o1, .int .u64 o2]) (blk_put (blk_far (blk_far CK4.out (p := ⟨g13, 0, none⟩) (by exact N413.out) (.int .i64 o1)) (p := ⟨g13, 1, none⟩) (by exact N413.out) (.int .u64 o2)) 0 _ rfl) 1 _ rfl) Try.underlying30 rfl (by kernel_rfl)) rfl ?_
     exact ⟨rfl, below_set (below_set (below_set (below_set HC.out GE13.out) GE13.out) GE4.out) GE4.out⟩
  | succ gi =>
   have hk := HK.out
   have hout := HO.out
   have dQ0 := dQ1.out
   have zQ0 := zQ1.out
   rw [outN] at hout
   have d1 : decide (0 ≤ ((gi + 1 : Nat) : Int) - 1) = true := decide_eq_true (by omega)
   have q1 : ((gi + 1 : Nat) : Int) - 1 = (gi : Int) := by omega
   have sz : Q.set gi 0 = Q := set_same Q gi (zQ0 gi (by omega))
   obtain ⟨g, eg⟩ : ∃ g, N.getD gi 0 = g := ⟨_, rfl⟩
   rw [eg] at hout
   have gr : 0 ≤ g ∧ g ≤ 65535 := by rw [← eg]; exact dN.2 gi
   have iv := inN_val a1 g (by omega) 16 r 0 HR.out
   obtain ⟨⟨R2, X2⟩, hin⟩ : ∃ p, inN a1 g 16 r 0 = p := ⟨_, rfl⟩
   rw [hin] at hout iv
   dsimp only at hout iv
   have dQ := Aside0.mk (dig_set dQ0 gi X2 (by rw [Int.zero_mul, Int.zero_add, show (1 : Int) * 2 ^ 16 = 65536 by decide] at iv; omega))
   have zQ : ∀ j, j < gi → (Q.set gi X2).getD j 0 = 0 := fun j hj => by rw [Go.Proofs.NumMath.getD_set_ne (D := Q) (i := gi) (j := j) X2 (by omega)]; exact zQ0 j (by omega)
   have i0 : (0 : Int) ≤ gi := by omega
   have i1 : (gi : Int) < 18 := by omega
   clear iv
   rw [q1]
   go_wp2
   go_loopg [9, 11] 16 (fun kb v9 v11 w' => ∃ (r x : Int), v9 = .int .u64 r ∧ v11 = .int .i64 ((kb : Int) - 1) ∧ Aside0 (inN a1 g kb r x = (R2, X2)) ∧ Aside0 (0 ≤ r ∧ r < a1) ∧ Aside0 (kb ≤ 16 ∧ 0 ≤ x ∧ (x + 1) * 2 ^ kb ≤ 65536) ∧ Aside0 (w'.heap[g8]? = some (.cells (numA false (Q.set gi x)) 46 (0, 0))) ∧ Aside0 (w'.heap[g7]? = some (.cells (numA sA N) 46 (0, 0))) ∧ Aside0 (w'.heap[g2]? = some (.cells #[.int .i64 a0_0, .int .u64 a0_1] 30 (0, 0))) ∧ Aside0 (w'.heap[g4]? = some (.cells #[.int .i64 0, .int .u64 0] 30 (0, 0))) ∧ Aside0 (Below w.heap.size w w'))
   case atStart => exact ⟨r, 0, rfl, rfl, ⟨hin⟩, HR, ⟨by decide⟩, ⟨by rw [sz]; exact CK8.out⟩, CK7, CK2, CK4, HC⟩
   case round =>
    clear CK8 CK7 CK2 CK4 HC hin HR
    obtain ⟨r, x, rfl, rfl, HI, HR, HX, DK8, DK7, DK2, DK4, HD⟩ := hrel
    cases gk with
    | zero =>
     have hi := HI.out
     rw [inN] at hi
     obtain ⟨rfl, rfl⟩ := Prod.mk.inj hi
     have d2 : decide (0 ≤ ((0 : Nat) : Int) - 1) = false := rfl
     clear hi HI
     go_wp2
     go_roundg gi
     case measure => exact Nat.lt_succ_self _
     case rel => exact ⟨r, Q.set gi x, rfl, rfl, ⟨hout⟩, HR, ⟨by omega⟩, ⟨dQ.out⟩, ⟨zQ⟩, DK8, DK7, DK2, DK4, HD⟩
    | succ bb =>
     have hx := HX.out
     have hr := HR.out
     have hi := HI.out
     rw [inN] at hi
     have b0 : decide (0 ≤ ((bb + 1 : Nat) : Int) - 1) = true := decide_eq_true (by omega)
     have b1 : ((bb + 1 : Nat) : Int) - 1 = (bb : Int) := by omega
     have cg := (blk_cell DK7.out (1 + gi)).trans (numA_get (b := sA) (by rw [hN]; omega : gi < N.length))
     have lQ : gi < (Q.set gi x).length := by rw [List.length_set, dQ0.1]; omega
     have cq := (blk_cell DK8.out (1 + gi)).trans (numA_get (b := false) lQ)
     rw [getD_set_eq x (by rw [dQ0.1]; omega)] at cq
     have fq := blk_frozen DK8.out (1 + gi)
     rw [eg] at cg
     rw [b1]
     have nn7 := N78.out
     have nn8 := N87.out
     have p0 : (0 : Int) < 2 ^ bb := Int.pow_pos (by decide)
     have p1 : (2 : Int) ^ (bb + 1) = 2 * 2 ^ bb := by rw [Int.pow_succ, Int.mul_comm]
     have gd : 0 ≤ g / 2 ^ bb ∧ g / 2 ^ bb ≤ 65535 := ⟨Int.ediv_nonneg gr.1 (by omega), Int.le_trans (Int.ediv_le_self _ gr.1) gr.2⟩
     have e1 := and_one (g / 2 ^ bb) gd.1 (by omega)
     obtain ⟨t, et⟩ : ∃ t, g / 2 ^ bb % 2 = t := ⟨_, rfl⟩
     have t0 : 0 ≤ t ∧ t ≤ 1 := by omega
     rw [et] at e1 hi
     have e2 : IntKind.u64.wrap t = t := (show t % 18446744073709551616 = t by omega)
     obtain ⟨v, ev⟩ : ∃ v, 2 * r + t = v := ⟨_, rfl⟩
     have e3 : IntKind.u64.wrap (r * 2 + t) = v := (show (r * 2 + t) % 18446744073709551616 = v by omega)
     have e4 : IntKind.u64.wrap a1 = a1 := (show a1 % 18446744073709551616 = a1 by omega)
     have hx2 : (x + 1) * 2 ≤ 65536 := by
      have := Int.mul_le_mul_of_nonneg_left (show (2 : Int) ≤ 2 ^ (bb + 1) by omega) (show 0 ≤ x + 1 by omega)
      omega
     have m2 : wrap64 (x * 2) = 2 * x := by unfold wrap64; omega
     rw [ev] at hi
     have hxx : (2 * x + 1 + 1) * 2 ^ bb = (x + 1) * 2 ^ (bb + 1) := by rw [p1]; grind
     have hxy : (2 * x + 1) * 2 ^ bb + 2 ^ bb = (x + 1) * 2 ^ (bb + 1) := by rw [p1]; grind
     have AX := Aside0.mk hx
     have AV := Aside0.mk (And.intro ev (And.intro t0 hr))
     have AY := Aside0.mk (And.intro hxx (And.intro hxy p0))
     by_cases c : a1 ≤ v
     · rw [if_pos c] at hi
       have d3 : decide (a1 ≤ v) = true := decide_eq_true c
       have e5 : IntKind.u64.wrap (v - a1) = v - a1 := (show (v - a1) % 18446744073709551616 = v - a1 by omega)
       have m3 : wrap64 (2 * x + 1) = 2 * x + 1 := by unfold wrap64; omega
       clear hxx hxy hx2 lQ p0 p1
       go_wp2
       go_roundg bb
       case measure => exact Nat.lt_succ_self _
       case rel =>
        have ax := AX.out
        have av := AV.out
        have ay := AY.out
        refine ⟨v - a1, 2 * x + 1, rfl, rfl, ⟨hi⟩, ⟨by omega⟩, ⟨by omega⟩, ⟨?_⟩, ⟨?_⟩, ⟨?_⟩, ⟨?_⟩, ⟨?_⟩⟩
        · refine blk_put (blk_put DK8.out (1 + gi) _ rfl) (1 + gi) _ ?_
          rw [numA_set, numA_set, List.set_set, List.set_set]
        · exact blk_far (blk_far DK7.out (by exact N78.out) _) (by exact N78.out) _
        · exact blk_far (blk_far DK2.out (by exact N28.out) _) (by exact N28.out) _
        · exact blk_far (blk_far DK4.out (by exact N48.out) _) (by exact N48.out) _
        · exact below_set (below_set HD.out GE8.out) GE8.out
     · rw [if_neg c] at hi
       have d3 : decide (a1 ≤ v) = false := decide_eq_false c
       clear hxx hxy hx2 lQ p0 p1
       go_wp2
       go_roundg bb
       case measure => exact Nat.lt_succ_self _
       case rel =>
        have ax := AX.out
        have av := AV.out
        have ay := AY.out
        refine ⟨v, 2 * x, rfl, rfl, ⟨hi⟩, ⟨by omega⟩, ⟨by omega⟩, ⟨?_⟩, ⟨?_⟩, ⟨?_⟩, ⟨?_⟩, ⟨?_⟩⟩
        · refine blk_put DK8.out (1 + gi) _ ?_
          rw [numA_set, List.set_set]
        · exact blk_far DK7.out (by exact N78.out) _
        · exact blk_far DK2.out (by exact N28.out) _
        · exact blk_far DK4.out (by exact N48.out) _
        · exact below_set HD.out GE8.out
end Go.Proofs.Ytmkdnoikbefimaa.G

namespace Go.Proofs.Ytmkdnoikbefimaa.G
open Go.RowKit Go.Proofs.NumMath Go.Proofs.YtmkdnoikbefimaaW.PrintWords Go.Proofs.YtmkdnoikbefimaaW.PrintLast Go.Proofs.YtmkdnoikbefimaaW.PrintMore
set_option linter.unusedVariables false
set_option linter.unusedSimpArgs false
theorem neg_div {M d : Int} (hd : 0 < d) : (M % d = 0 → -M / d = -(M / d) ∧ -M % d = 0) ∧ (M % d ≠ 0 → -M / d = -(M / d) + -1 ∧ -M % d = d - M % d) := by
  have mq := Int.mul_ediv_add_emod M d
  have m0 := Int.emod_nonneg M (show d ≠ 0 by omega)
  have m1 := Int.emod_lt_of_pos M hd
  constructor
  · intro z
    have e : -M = d * (-(M / d)) := by
      have : d * (-(M / d)) = -(d * (M / d)) := by grind
      omega
    constructor
    · conv => lhs; rw [e]
      rw [Int.mul_ediv_cancel_left _ (by omega)]
    · conv => lhs; rw [e]
      rw [Int.mul_emod_right]
  · intro z
    have e : -M = (d - M % d) + d * (-(M / d) - 1) := by
      have : d * (-(M / d) - 1) = -(d * (M / d)) - d := by grind
      omega
    constructor
    · conv => lhs; rw [e]
      rw [Int.add_mul_ediv_left _ _ (by omega), Int.ediv_eq_zero_of_lt (by omega) (by omega)]
      omega
    · conv => lhs; rw [e]
      rw [Int.add_mul_emod_self_left, Int.emod_eq_of_lt (by omega) (by omega)]
def relievoref01_Div.f (a0_0 a0_1 a1 : Int) : Option (Int × Int × Int × Bool) :=
  if (-9223372036854775808 ≤ a0_0 ∧ a0_0 ≤ 9223372036854775807) ∧ (0 ≤ a0_1 ∧ a0_1 < 18446744073709551616) ∧ (-9223372036854775808 ≤ a1 ∧ a1 ≤ 9223372036854775807) then
    some (if a1 < 1 then (0, 0, 0, false) else ((wideV ((a0_0 * 18446744073709551616 + a0_1) / a1)).1, (wideV ((a0_0 * 18446744073709551616 + a0_1) / a1)).2.1, (a0_0 * 18446744073709551616 + a0_1) % a1, (wideV ((a0_0 * 18446744073709551616 + a0_1) / a1)).2.2)) else none
set_option maxHeartbeats 1000000 in
set_option maxRecDepth 100000 in
theorem div_small (a0_0 a0_1 a1 : Int) (w : World) (hd : a1 < 1) :
    Calls Try.prog 20 #[.agg #[.int .i64 a0_0, .int .u64 a0_1], .int .i64 a1] w fun e w' => e = .returned (.tuple #[.agg #[.int .i64 0, .int .u64 0], .int .i64 0, .bool false]) ∧ Below w.heap.size w w' := by
 have hu30 := Try.underlying30
 have HB := Aside0.mk (Below.refl w.heap.size w)
 go_enter Try.func20, Try.ntmps20
 go_wp2_with (first
  | ((with_reducible refine gate_dst (N := 2) rfl ?_); refine box_event ?hg (N := 2) ?hd (cs := #[.int .i64 a0_0, .int .u64 a0_1]) (t := 30) ?hr ?_; (case hd => rfl); (case hg => rfl); (case hr => first | (go_simp; done) | (go_simp; rfl)); intro g2 hg w3 hbox hb; have BK2 := Aside0.mk (hbox); replace HB := Aside0.mk (below_step (HB.out) hb); clear hb hbox hg)
  | ((with_reducible refine gate_dst (N := 4) rfl ?_); refine box_event ?hg (N := 4) ?hd (cs := #[.int .i64 0, .int .u64 0]) (t := 30) ?hr ?_; (case hd => rfl); (case hg => rfl); (case hr => first | (go_simp; done) | (go_simp; rfl)); intro g4 hg w4 hbox hb; have BK4 := Aside0.mk (hbox); have GE4 := Aside0.mk (bG hg (HB.out)); replace HB := Aside0.mk (below_step (HB.out) hb); clear hb hbox hg; have y0 := (blk_cell BK4.out 0).trans (rfl : _ = some (Value.int .i64 0)); have yf0 := blk_frozen BK4.out 0; have y1 := (blk_cell BK4.out 1).trans (rfl : _ = some (Value.int .u64 0)); have yf1 := blk_frozen BK4.out 1))
 refine bodyPost_ret (results_ctt rfl _ _ g4 30 #[.int .i64 0, .int .u64 0] (0, 0) _ rfl (blk_put (cs' := #[.int .i64 0, .int .u64 0]) (blk_put BK4.out 0 _ rfl) 1 _ rfl) Try.underlying30 rfl (by kernel_rfl)) rfl ?_
 exact ⟨rfl, below_set (below_set HB.out GE4.out) GE4.out⟩
theorem relievoref01_Div.calls (a0_0 a0_1 a1 : Int) (r1 r2 r3 : Int) (r4 : Bool) (w : World) (h : relievoref01_Div.f a0_0 a0_1 a1 = some (r1, r2, r3, r4)) :
    Calls Try.prog 20 #[.agg #[.int .i64 a0_0, .int .u64 a0_1], .int .i64 a1] w fun e w' => e = .returned (.tuple #[.agg #[.int .i64 r1, .int .u64 r2], .int .i64 r3, .bool r4]) ∧ Below w.heap.size w w' := by
  have hr : (-9223372036854775808 ≤ a0_0 ∧ a0_0 ≤ 9223372036854775807) ∧ (0 ≤ a0_1 ∧ a0_1 < 18446744073709551616) ∧ (-9223372036854775808 ≤ a1 ∧ a1 ≤ 9223372036854775807) := by
    unfold relievoref01_Div.f at h
    split at h
    · assumption
    · simp at h
  unfold relievoref01_Div.f at h
  rw [if_pos hr] at h
  obtain ⟨h0, h1, hd⟩ := hr
  by_cases c : a1 < 1
  · rw [if_pos c] at h
    simp only [Option.some.injEq, Prod.mk.injEq] at h
    obtain ⟨rfl, rfl, rfl, rfl⟩ := h
    exact div_small a0_0 a0_1 a1 w c
  rw [if_neg c] at h
  simp only [Option.some.injEq, Prod.mk.injEq] at h
  obtain ⟨rfl, rfl, rfl, rfl⟩ := h
  obtain ⟨sA, N, nv, FR⟩ := fromV a0_0 a0_1 h0 h1
  obtain ⟨s1, D1, nv1, F1⟩ := fromIntV (-1) (by decide)
  obtain ⟨A, hA⟩ : ∃ A, a0_0 * 18446744073709551616 + a0_1 = A := ⟨_, rfl⟩
  have bA : -170141183460469231731687303715884105728 ≤ A ∧ A ≤ 170141183460469231731687303715884105727 := by omega
  rw [hA] at nv ⊢
  obtain ⟨⟨RF, QF⟩, ho⟩ : ∃ p, outN a1 N 18 0 Z18 = p := ⟨_, rfl⟩
  have ov := outN_val a1 N nv.dig (by omega) 18 0 Z18 (Nat.le_refl _) (by omega) dig_zero (fun j hj => (by decide : ∀ n, n < 18 → Z18.getD n 0 = 0) j hj)
  rw [ho] at ov
  dsimp only at ov
  obtain ⟨dq, hrf, e⟩ := ov
  rw [val_zero, Int.zero_mul, Int.zero_mul, Int.zero_add, Int.zero_add, nv.val] at e
  obtain ⟨M, hM⟩ : ∃ M, absI A = M := ⟨_, rfl⟩
  have M0 : 0 ≤ M ∧ M ≤ 170141183460469231731687303715884105728 := by rw [← hM]; unfold absI; split <;> omega
  rw [hM] at e
  have vq : val QF 18 = M / a1 := by
    rw [← e, Int.add_comm, Int.mul_comm, Int.add_mul_ediv_left _ _ (by omega), Int.ediv_eq_zero_of_lt hrf.1 hrf.2, Int.zero_add]
  have vr : RF = M % a1 := by
    rw [← e, Int.add_comm, Int.mul_comm, Int.add_mul_emod_self_left, Int.emod_eq_of_lt hrf.1 hrf.2]
  have q0 : 0 ≤ M / a1 := Int.ediv_nonneg M0.1 (by omega)
  have q1 : M / a1 ≤ M := Int.ediv_le_self _ M0.1
  have zq := zero_iff dq
  rw [vq] at zq
  have NG : A < 0 → NumV (!(QF == Z18)) QF (-(M / a1)) := fun a => ⟨dq, by
    rw [zq]
    by_cases b : M / a1 = 0
    · rw [decide_eq_true b, decide_eq_false (by omega)]; rfl
    · rw [decide_eq_false b, decide_eq_true (by omega)]; rfl, by
    rw [vq]
    unfold absI
    split <;> omega⟩
  refine div_walk a0_0 a0_1 a1 _ _ _ _ (QF == Z18) sA s1 N QF D1 RF w ⟨by omega, hd.2⟩ nv.dig dq.1 nv1.len (fun w => zero.calls QF dq.1 w) F1 (fun s => ?_) (fun s r => ?_) (fun s r => ?_) FR ho
  · rw [nv.sign, decide_eq_false_iff_not] at s
    have eM : A = M := by rw [← hM]; unfold absI; rw [if_neg s]
    have n1 : NumV false QF (A / a1) := ⟨dq, by rw [eM, decide_eq_false (by omega)], by rw [vq, eM]; unfold absI; rw [if_neg (by omega)]⟩
    exact ⟨fun w => toV n1 w, by rw [vr, eM]⟩
  · rw [nv.sign, decide_eq_true_eq] at s
    have eM : A = -M := by rw [← hM]; unfold absI; rw [if_pos s]; omega
    have nd := (neg_div (M := M) (d := a1) (by omega)).1 (by omega)
    have n1 := NG s
    rw [← nd.1, ← eM] at n1
    exact ⟨fun w => toV n1 w, by rw [eM, nd.2, r]⟩
  · rw [nv.sign, decide_eq_true_eq] at s
    have eM : A = -M := by rw [← hM]; unfold absI; rw [if_pos s]; omega
    have nd := (neg_div (M := M) (d := a1) (by omega)).2 (by omega)
    obtain ⟨s3, D3, n3, PL⟩ := plusV (NG s) nv1 (by unfold absI; split <;> omega) (by decide)
    rw [← nd.1, ← eM] at n3
    exact ⟨s3, D3, n3.len, PL, fun w => toV n3 w, by rw [eM, nd.2, vr]⟩
end Go.Proofs.Ytmkdnoikbefimaa.G

namespace Go.Proofs.Ytmkdnoikbefimaa.G
open Go.RowKit Go.Proofs.NumMath Go.Proofs.YtmkdnoikbefimaaW.PrintWords Go.Proofs.YtmkdnoikbefimaaW.PrintLast Go.Proofs.YtmkdnoikbefimaaW.PrintMore
attribute [local go_sem] max2_int min2_int max_two min_two max_three min_three max_four min_four
set_option linter.unusedVariables false
set_option linter.unusedSimpArgs false
def relievoref01_SqrtW.T9 : Bool × List (List Nat × List Nat) := (true, [([], []), ([0], [0]), ([], []), ([2, 1], [2]), ([1, 3, 3], [1, 3]), ([], []), ([4, 5, 4], [4, 5]), ([6], [6])])
def relievoref01_SqrtW.B9 : List Nat := [0, 1, 0, 7, 15, 0, 63, 127]
theorem relievoref01_SqrtW.tab9 : rtab .any (opsOf Try.f22 9) = relievoref01_SqrtW.T9 := by kernel_rfl
theorem relievoref01_SqrtW.bits9 : waitsOk relievoref01_SqrtW.T9.2 relievoref01_SqrtW.B9 = true := by kernel_rfl
def relievoref01_SqrtW.T13 : Bool × List (List Nat × List Nat) := (true, [([], []), ([], []), ([0, 1], [0, 1]), ([], []), ([2, 3, 2], [2, 3]), ([4], [4])])
def relievoref01_SqrtW.B13 : List Nat := [0, 0, 3, 0, 15, 31]
theorem relievoref01_SqrtW.tab13 : rtab .any (opsOf Try.f22 13) = relievoref01_SqrtW.T13 := by kernel_rfl
theorem relievoref01_SqrtW.bits13 : waitsOk relievoref01_SqrtW.T13.2 relievoref01_SqrtW.B13 = true := by kernel_rfl
set_option maxHeartbeats 2000000 in
set_option maxRecDepth 100000 in
theorem sqrt_walk (a0_0 a0_1 A r1 o1 cL : Int) (o2 sl sy sS s6 : Bool) (D DL Y DS D6 : List Int) (w : World)
    (FR : ∀ w, Calls Try.prog 28 #[.agg #[.int .i64 a0_0, .int .u64 a0_1]] w fun e w' => e = .returned (.agg (numA false D)) ∧ Below w.heap.size w w')
    (vD : val D 18 = A) (dD : Dig D) (A0 : 0 ≤ A) (A1 : A < 170141183460469231731687303715884105728) (h : sqN A 63 0 = r1) (hDL : DL.length = 18)
    (FS : ∀ w, Calls Try.prog 26 #[.int .i64 9223372036854775807] w fun e w' => e = .returned (.agg (numA sS DS)) ∧ Below w.heap.size w w')
    (F1 : ∀ w, Calls Try.prog 26 #[.int .i64 1] w fun e w' => e = .returned (.agg (numA s6 D6)) ∧ Below w.heap.size w w')
    (PL : ∀ w, Calls Try.prog 27 #[.agg (numA sS DS), .agg (numA s6 D6)] w fun e w' => e = .returned (.agg (numA sl DL)) ∧ Below w.heap.size w w')
    (TL : ∀ w, Calls Try.prog 42 #[.agg (numA sl DL), .agg (numA sl DL)] w fun e w' => e = .returned (.agg (numA sy Y)) ∧ Below w.heap.size w w')
    (CL : ∀ w, Calls Try.prog 31 #[.agg (numA sy Y), .agg (numA false D)] w fun e w' => e = .returned (.int .i64 cL) ∧ Below w.heap.size w w')
    (hcL : decide (cL ≤ 0) = decide (85070591730234615865843651857942052864 - A ≤ 0))
    (H1 : r1 ≠ 9223372036854775807 → o1 = r1 ∧ o2 = true) (H2 : r1 = 9223372036854775807 → 85070591730234615865843651857942052864 ≤ A → o1 = 0 ∧ o2 = false) (H3 : r1 = 9223372036854775807 → ¬ 85070591730234615865843651857942052864 ≤ A → o1 = 9223372036854775807 ∧ o2 = true) :
    Calls Try.prog 22 #[.agg #[.int .i64 a0_0, .int .u64 a0_1]] w fun e w' => e = .returned (.tuple #[.int .i64 o1, .bool o2]) ∧ Below w.heap.size w w' := by
 have hu44 := Try.underlying44
 have hu46 := Try.underlying46
 have hD : D.length = 18 := dD.1
 have HB := Aside0.mk (Below.refl w.heap.size w)
 have HX := Aside0.mk h
 have VD := Aside0.mk vD
 have DD := Aside0.mk dD
 have AA := Aside0.mk (And.intro A0 A1)
 clear h vD dD A0 A1
 go_enter Try.func22, Try.ntmps22
 go_wp2_with (first
  | ((with_reducible refine gate_dst (N := 1) rfl ?_); refine box_event ?hg (N := 1) ?hd (cs := #[.int .i64 a0_0, .int .u64 a0_1]) (t := 30) ?hr ?_; (case hd => rfl); (case hg => rfl); (case hr => first | (go_simp; done) | (go_simp; rfl)); intro g1 hg w3 hbox hb; have BK1 := Aside0.mk (hbox); have GE1 := Aside0.mk (bG hg (HB.out)); replace HB := Aside0.mk (below_step (HB.out) hb); clear hb hbox hg; obtain ⟨k0, k1⟩ := cells2 BK1.out)
  | (go_at_call 28; (with_reducible refine (FR _).mono ?_); rintro e w5 ⟨rfl, hb⟩; replace BK1 := cB hb BK1; replace HB := Aside0.mk (below_step (HB.out) hb); clear hb)
  | ((with_reducible refine gate_dst (N := 4) rfl ?_); refine box_event ?hg (N := 4) ?hd (cs := numA false Z18) (t := 46) ?hr ?_; (case hd => rfl); (case hg => rfl); (case hr => first | (go_simp; done) | (go_simp; rfl)); intro g4 hg w6 hbox hb; have BK4 := Aside0.mk (hbox); have GE4 := Aside0.mk (bG hg (HB.out)); have N14 := cN hg BK1; have N41 := cM hg BK1; replace HB := Aside0.mk (below_step (HB.out) hb); replace BK1 := cB hb BK1; clear hb hbox hg)
  | ((with_reducible refine gate_store2 (t := 46) (x := .tmp 4) (y := .tmp 10) rfl ?_); refine ev_row rfl 46 (.tmp 4) (.tmp 10) rfl rfl g4 (numA false D) ?hx ?hy 46 (numA false Z18) BK4.out (num_info hD) ((numA_size rfl).trans (numA_size hD).symm) (numA_one _ _) HB.out GE4.out ?_; (case hx => first | (go_simp; done) | rfl); (case hy => first | (go_simp; done) | rfl | (go_simp; rfl)); intro w9 hbox hb hk; replace BK4 := Aside0.mk hbox; replace HB := Aside0.mk hb; replace BK1 := Aside0.mk ((hk _ N14.out).trans BK1.out); clear hbox hb hk; have c4 := (blk_cell BK4.out 0).trans (numA_get0 false D)))
 go_loopg [5, 6, 7] 63 (fun kq v5 v6 v7 w' => ∃ (s : Int), v5 = .int .i64 s ∧ v6 = .int .i64 ((kq : Int) - 1) ∧ Aside0 (sqN A kq s = r1) ∧ Aside0 (0 ≤ s ∧ s + 2 ^ kq ≤ 2 ^ 63 ∧ s * s ≤ A) ∧ Aside0 (kq ≤ 63) ∧ Aside0 (w'.heap[g4]? = some (.cells (numA false D) 46 (0, 0))) ∧ Aside0 (w'.heap[g1]? = some (.cells #[.int .i64 a0_0, .int .u64 a0_1] 30 (0, 0))) ∧ Aside0 (Below w.heap.size w w'))
 case atStart => exact ⟨0, rfl, rfl, HX, ⟨by have := AA.out; exact ⟨by decide, by decide, by omega⟩⟩, ⟨Nat.le_refl _⟩, BK4, BK1, HB⟩
 case round =>
  clear BK1 BK4 HB HX
  obtain ⟨s, rfl, rfl, HS, HI, HK, CK4, CK1, HC⟩ := hrel
  cases gk with
  | zero =>
   have hs := HS.out
   rw [sqN] at hs
   subst hs
   by_cases e : s = 9223372036854775807
   · subst e
     have ne : ((9223372036854775807 : Int) == 9223372036854775807) = true := rfl
     have d1 : decide (0 ≤ ((0 : Nat) : Int) - 1) = false := rfl
     clear HI
     by_cases cz : (85070591730234615865843651857942052864 : Int) ≤ A
     · have c1 : decide (cL ≤ 0) = true := hcL.trans (decide_eq_true (by omega))
       obtain ⟨rfl, rfl⟩ := H2 rfl (by omega)
       clear H1 H2 H3 hcL
       go_wp2_with (first
  | (go_at_call 26; (with_reducible refine (FS _).mono ?_); rintro e' w34 ⟨rfl, hb⟩; replace CK4 := cB hb CK4; replace HC := Aside0.mk (below_step (HC.out) hb); clear hb)
  | (go_at_call 26; (with_reducible refine (F1 _).mono ?_); rintro e' w35 ⟨rfl, hb⟩; replace CK4 := cB hb CK4; replace HC := Aside0.mk (below_step (HC.out) hb); clear hb)
  | (go_at_call 27; (with_reducible refine (PL _).mono ?_); rintro e' w36 ⟨rfl, hb⟩; replace CK4 := cB hb CK4; replace HC := Aside0.mk (below_step (HC.out) hb); clear hb)
  | ((with_reducible refine gate_dst (N := 8) rfl ?_); refine box_event ?hg (N := 8) ?hd (cs := numA false Z18) (t := 46) ?hr ?_; (case hd => rfl); (case hg => rfl); (case hr => first | (go_simp; done) | (go_simp; rfl)); intro g8 hg w37 hbox hb; have CK8 := Aside0.mk (hbox); have GE8 := Aside0.mk (bG hg (HC.out)); have N48 := cN hg CK4; replace HC := Aside0.mk (below_step (HC.out) hb); replace CK4 := cB hb CK4; clear hb hbox hg)
  | ((with_reducible refine gate_store2 (t := 46) (x := .tmp 8) (y := .tmp 36) rfl ?_); refine ev_row rfl 46 (.tmp 8) (.tmp 36) rfl rfl g8 (numA sl DL) ?hx ?hy 46 (numA false Z18) CK8.out (num_info hDL) ((numA_size rfl).trans (numA_size hDL).symm) (numA_one _ _) HC.out GE8.out ?_; (case hx => first | (go_simp; done) | rfl); (case hy => first | (go_simp; done) | rfl | (go_simp; rfl)); intro w39 hbox hb hk; replace CK8 := Aside0.mk hbox; replace HC := Aside0.mk hb; replace CK4 := Aside0.mk ((hk _ N48.out).trans CK4.out); clear hbox hb hk))
       replace CK8 := Aside0.mk (blk_drew CK8.out)
       replace CK4 := Aside0.mk (blk_drew CK4.out)
       replace HC := Aside0.mk (below_drew1 HC.out)
       refine start_ (n := 6) (S := fun w' => (w'.heap[g4]? = some (.cells (numA false D) 46 (0, 0))) ∧ (w'.heap[g8]? = some (.cells (numA sl DL) 46 (0, 0)))) (ds := []) #[false, false, false, false, false, false] (by kernel_rfl) rfl rfl ⟨CK4.out, CK8.out⟩ (fun hHeld => ?_); refine with_tabW relievoref01_SqrtW.tab13 relievoref01_SqrtW.bits13 (fun HT_ HW_ => ?_)
       generalize w39.drew = w40 at CK8 CK4 HC hHeld ⊢
       refine take_ (i := 0) (N := some 37) (v := .agg (numA sl DL)) (a' := ?_) #[true, false, false, false, false, false] rfl rfl (take_ofW HT_.out HW_.out (by kernel_rfl)) (fun _ _ _ h => h) (Or.inl ⟨by rfl, fun w' s0 => exec_load rfl rfl s0.2 hu46 rfl (num_info hDL)⟩) hHeld ?_ ?_
       rotate_left
       ·simp only [Act.put, List.setIfInBounds_toArray, List.set_cons_zero, List.set_cons_succ, i64_w, i32_w]
        rfl
       refine take_ (i := 1) (N := some 38) (v := .agg (numA sl DL)) (a' := ?_) #[true, true, false, false, false, false] rfl rfl (take_ofW HT_.out HW_.out (by kernel_rfl)) (fun _ _ _ h => h) (Or.inl ⟨by rfl, fun w' s0 => exec_load rfl rfl s0.2 hu46 rfl (num_info hDL)⟩) hHeld ?_ ?_
       rotate_left
       ·simp only [Act.put, List.setIfInBounds_toArray, List.set_cons_zero, List.set_cons_succ, i64_w, i32_w]
        rfl
       refine take_ (i := 3) (N := some 40) (v := .agg (numA false D)) (a' := ?_) #[true, true, false, true, false, false] rfl rfl (take_ofW HT_.out HW_.out (by kernel_rfl)) (fun _ _ _ h => h) (Or.inl ⟨by rfl, fun w' s0 => exec_load rfl rfl s0.1 hu46 rfl (num_info hD)⟩) hHeld ?_ ?_
       rotate_left
       ·simp only [Act.put, List.setIfInBounds_toArray, List.set_cons_zero, List.set_cons_succ, i64_w, i32_w]
        rfl
       refine one_ (i := 2) (N := some 39) #[true, true, true, true, false, false] rfl rfl (one_of HT_.out (by kernel_rfl)) (by decide) (fun K hK => ?_)
       refine goes_ Try.func42 (by kernel_rfl) rfl #[.agg (numA sl DL), .agg (numA sl DL)] (by rfl) rfl rfl (by (try simp only [List.map_toArray, List.map_cons, List.map_nil]); first | done | rfl | (simp only [List.length_drop, List.length_take]; rfl)) ?_
       with_reducible refine (TL _).mono ?_
       rintro e w40_1 ⟨rfl, hb⟩
       refine ⟨_, rfl, ?_⟩
       replace CK8 := cB hb CK8
       replace CK4 := cB hb CK4
       replace HC := Aside0.mk (below_step (HC.out) hb)
       clear hb
       refine hK.out _ _ ⟨CK4.out, CK8.out⟩ (fun hHeld => ?_)
       clear hK K
       refine norm_ (a' := ?_) ?_ ?_
       rotate_left
       ·show Act.put _ (some 39) _ = _
        simp only [Act.put, List.setIfInBounds_toArray, List.set_cons_zero, List.set_cons_succ, i64_w, i32_w]
        rfl
       refine one_ (i := 4) (N := some 41) #[true, true, true, true, true, false] rfl rfl (one_of HT_.out (by kernel_rfl)) (by decide) (fun K hK => ?_)
       refine goes_ Try.func31 (by kernel_rfl) rfl #[.agg (numA sy Y), .agg (numA false D)] (by rfl) rfl rfl (by (try simp only [List.map_toArray, List.map_cons, List.map_nil]); first | done | rfl | (simp only [List.length_drop, List.length_take]; rfl)) ?_
       with_reducible refine (CL _).mono ?_
       rintro e w40_2 ⟨rfl, hb⟩
       refine ⟨_, rfl, ?_⟩
       replace CK8 := cB hb CK8
       replace CK4 := cB hb CK4
       replace HC := Aside0.mk (below_step (HC.out) hb)
       clear hb
       refine hK.out _ _ ⟨CK4.out, CK8.out⟩ (fun hHeld => ?_)
       clear hK K
       refine norm_ (a' := ?_) ?_ ?_
       rotate_left
       ·show Act.put _ (some 41) _ = _
        simp only [Act.put, List.setIfInBounds_toArray, List.set_cons_zero, List.set_cons_succ, i64_w, i32_w]
        rfl
       refine pure_ (i := 5) (N := some 42) (v := ?_) (a' := ?_) #[true, true, true, true, true, true] rfl rfl (any_of HT_.out (by kernel_rfl)) (fun _ _ _ h => h) (Or.inl ⟨by rfl, ?_⟩) ?_ ?_
       rotate_left
       ·intro w'
        go_simp
        with_reducible rfl
       rotate_left
       ·simp only [Act.put, List.setIfInBounds_toArray, List.set_cons_zero, List.set_cons_succ, i64_w, i32_w]
        rfl
       refine done_ (done_of HT_.out (by kernel_rfl)) ?_
       clear HT_ HW_ hHeld
       go_wp2
       go_ret2
       exact ⟨rfl, HC.out⟩
     · have c1 : decide (cL ≤ 0) = false := hcL.trans (decide_eq_false (by omega))
       obtain ⟨rfl, rfl⟩ := H3 rfl (by omega)
       clear H1 H2 H3 hcL
       go_wp2_with (first
  | (go_at_call 26; (with_reducible refine (FS _).mono ?_); rintro e' w34 ⟨rfl, hb⟩; replace CK4 := cB hb CK4; replace HC := Aside0.mk (below_step (HC.out) hb); clear hb)
  | (go_at_call 26; (with_reducible refine (F1 _).mono ?_); rintro e' w35 ⟨rfl, hb⟩; replace CK4 := cB hb CK4; replace HC := Aside0.mk (below_step (HC.out) hb); clear hb)
  | (go_at_call 27; (with_reducible refine (PL _).mono ?_); rintro e' w36 ⟨rfl, hb⟩; replace CK4 := cB hb CK4; replace HC := Aside0.mk (below_step (HC.out) hb); clear hb)
  | ((with_reducible refine gate_dst (N := 8) rfl ?_); refine box_event ?hg (N := 8) ?hd (cs := numA false Z18) (t := 46) ?hr ?_; (case hd => rfl); (case hg => rfl); (case hr => first | (go_simp; done) | (go_simp; rfl)); intro g8 hg w37 hbox hb; have CK8 := Aside0.mk (hbox); have GE8 := Aside0.mk (bG hg (HC.out)); have N48 := cN hg CK4; replace HC := Aside0.mk (below_step (HC.out) hb); replace CK4 := cB hb CK4; clear hb hbox hg)
  | ((with_reducible refine gate_store2 (t := 46) (x := .tmp 8) (y := .tmp 36) rfl ?_); refine ev_row rfl 46 (.tmp 8) (.tmp 36) rfl rfl g8 (numA sl DL) ?hx ?hy 46 (numA false Z18) CK8.out (num_info hDL) ((numA_size rfl).trans (numA_size hDL).symm) (numA_one _ _) HC.out GE8.out ?_; (case hx => first | (go_simp; done) | rfl); (case hy => first | (go_simp; done) | rfl | (go_simp; rfl)); intro w39 hbox hb hk; replace CK8 := Aside0.mk hbox; replace HC := Aside0.mk hb; replace CK4 := Aside0.mk ((hk _ N48.out).trans CK4.out); clear hbox hb hk))
       replace CK8 := Aside0.mk (blk_drew CK8.out)
       replace CK4 := Aside0.mk (blk_drew CK4.out)
       replace HC := Aside0.mk (below_drew1 HC.out)
       refine start_ (n := 6) (S := fun w' => (w'.heap[g4]? = some (.cells (numA false D) 46 (0, 0))) ∧ (w'.heap[g8]? = some (.cells (numA sl DL) 46 (0, 0)))) (ds := []) #[false, false, false, false, false, false] (by kernel_rfl) rfl rfl ⟨CK4.out, CK8.out⟩ (fun hHeld => ?_); refine with_tabW relievoref01_SqrtW.tab13 relievoref01_SqrtW.bits13 (fun HT_ HW_ => ?_)
       generalize w39.drew = w40 at CK8 CK4 HC hHeld ⊢
       refine take_ (i := 0) (N := some 37) (v := .agg (numA sl DL)) (a' := ?_) #[true, false, false, false, false, false] rfl rfl (take_ofW HT_.out HW_.out (by kernel_rfl)) (fun _ _ _ h => h) (Or.inl ⟨by rfl, fun w' s0 => exec_load rfl rfl s0.2 hu46 rfl (num_info hDL)⟩) hHeld ?_ ?_
       rotate_left
       ·simp only [Act.put, List.setIfInBounds_toArray, List.set_cons_zero, List.set_cons_succ, i64_w, i32_w]
        rfl
       refine take_ (i := 1) (N := some 38) (v := .agg (numA sl DL)) (a' := ?_) #[true, true, false, false, false, false] rfl rfl (take_ofW HT_.out HW_.out (by kernel_rfl)) (fun _ _ _ h => h) (Or.inl ⟨by rfl, fun w' s0 => exec_load rfl rfl s0.2 hu46 rfl (num_info hDL)⟩) hHeld ?_ ?_
       rotate_left
       ·simp only [Act.put, List.setIfInBounds_toArray, List.set_cons_zero, List.set_cons_succ, i64_w, i32_w]
        rfl
       refine take_ (i := 3) (N := some 40) (v := .agg (numA false D)) (a' := ?_) #[true, true, false, true, false, false] rfl rfl (take_ofW HT_.out HW_.out (by kernel_rfl)) (fun _ _ _ h => h) (Or.inl ⟨by rfl, fun w' s0 => exec_load rfl rfl s0.1 hu46 rfl (num_info hD)⟩) hHeld ?_ ?_
       rotate_left
       ·simp only [Act.put, List.setIfInBounds_toArray, List.set_cons_zero, List.set_cons_succ, i64_w, i32_w]
        rfl
       refine one_ (i := 2) (N := some 39) #[true, true, true, true, false, false] rfl rfl (one_of HT_.out (by kernel_rfl)) (by decide) (fun K hK => ?_)
       refine goes_ Try.func42 (by kernel_rfl) rfl #[.agg (numA sl DL), .agg (numA sl DL)] (by rfl) rfl rfl (by (try simp only [List.map_toArray, List.map_cons, List.map_nil]); first | done | rfl | (simp only [List.length_drop, List.length_take]; rfl)) ?_
       with_reducible refine (TL _).mono ?_
       rintro e w40_1 ⟨rfl, hb⟩
       refine ⟨_, rfl, ?_⟩
       replace CK8 := cB hb CK8
       replace CK4 := cB hb CK4
       replace HC := Aside0.mk (below_step (HC.out) hb)
       clear hb
       refine hK.out _ _ ⟨CK4.out, CK8.out⟩ (fun hHeld => ?_)
       clear hK K
       refine norm_ (a' := ?_) ?_ ?_
       rotate_left
       ·show Act.put _ (some 39) _ = _
        simp only [Act.put, List.setIfInBounds_toArray, List.set_cons_zero, List.set_cons_succ, i64_w, i32_w]
        rfl
       refine one_ (i := 4) (N := some 41) #[true, true, true, true, true, false] rfl rfl (one_of HT_.out (by kernel_rfl)) (by decide) (fun K hK => ?_)
       refine goes_ Try.func31 (by kernel_rfl) rfl #[.agg (numA sy Y), .agg (numA false D)] (by rfl) rfl rfl (by (try simp only [List.map_toArray, List.map_cons, List.map_nil]); first | done | rfl | (simp only [List.length_drop, List.length_take]; rfl)) ?_
       with_reducible refine (CL _).mono ?_
       rintro e w40_2 ⟨rfl, hb⟩
       refine ⟨_, rfl, ?_⟩
       replace CK8 := cB hb CK8
       replace CK4 := cB hb CK4
       replace HC := Aside0.mk (below_step (HC.out) hb)
       clear hb
       refine hK.out _ _ ⟨CK4.out, CK8.out⟩ (fun hHeld => ?_)
       clear hK K
       refine norm_ (a' := ?_) ?_ ?_
       rotate_left
       ·show Act.put _ (some 41) _ = _
        simp only [Act.put, List.setIfInBounds_toArray, List.set_cons_zero, List.set_cons_succ, i64_w, i32_w]
        rfl
       refine pure_ (i := 5) (N := some 42) (v := ?_) (a' := ?_) #[true, true, true, true, true, true] rfl rfl (any_of HT_.out (by kernel_rfl)) (fun _ _ _ h => h) (Or.inl ⟨by rfl, ?_⟩) ?_ ?_
       rotate_left
       ·intro w'
        go_simp
        with_reducible rfl
       rotate_left
       ·simp only [Act.put, List.setIfInBounds_toArray, List.set_cons_zero, List.set_cons_succ, i64_w, i32_w]
        rfl
       refine done_ (done_of HT_.out (by kernel_rfl)) ?_
       clear HT_ HW_ hHeld
       go_wp2
       go_ret2
       exact ⟨rfl, HC.out⟩
   · have ne : (s == 9223372036854775807) = false := beq_eq_false_iff_ne.2 e
     have d1 : decide (0 ≤ ((0 : Nat) : Int) - 1) = false := rfl
     obtain ⟨rfl, rfl⟩ := H1 e
     clear HI
     go_wp2
     go_ret2
     exact ⟨rfl, HC.out⟩
  | succ gi =>
   have hi := HI.out
   have hk := HK.out
   have hs := HS.out
   have aa := AA.out
   rw [sqN] at hs
   have p0 : (0 : Int) < 2 ^ gi := Int.pow_pos (by decide)
   have p1 : (2 : Int) ^ (gi + 1) = 2 * 2 ^ gi := by rw [Int.pow_succ, Int.mul_comm]
   have p2 : (2 : Int) ^ 63 = 9223372036854775808 := by decide
   rw [p1, p2] at hi
   obtain ⟨x, hx⟩ : ∃ x, s + 2 ^ gi = x := ⟨_, rfl⟩
   have xr : -9223372036854775808 ≤ x ∧ x ≤ 9223372036854775807 := by omega
   have x0 : 0 ≤ x * x := Int.mul_nonneg (by omega) (by omega)
   have FX := fun w => fromInt.calls x xr w
   obtain ⟨dx, vx, y0, y1, sxe, xe⟩ := mul_parts xr xr
   have TX := fun w => times.calls (decide (x < 0)) (decide (x < 0)) (dfill (fromI x) 4) (dfill (fromI x) 4) (dfill_dig _ 4 (by decide)) (dfill_dig _ 4 (by decide)) w
   rw [sxe] at TX
   have fx : fromI x = x := by unfold fromI; rw [if_neg (by omega)]
   rw [fx] at dx vx TX FX
   have CM := fun w => compare.calls (decide (x * x < 0)) false (outr (dfill x 4) (dfill x 4) 9) D dx DD.out w
   rw [decide_eq_false (show ¬ x * x < 0 by omega)] at TX CM
   rw [cmpD_eq dx DD.out, vx, VD.out] at CM
   have CN : cmpN false false (sgn (x * x - A)) = sgn (x * x - A) := rfl
   rw [CN] at CM
   have cl := sgn_le (x * x - A)
   rw [hx] at hs
   have q0 : decide (0 ≤ ((gi + 1 : Nat) : Int) - 1) = true := decide_eq_true (by omega)
   have q1 : ((gi + 1 : Nat) : Int) - 1 = (gi : Int) := by omega
   clear dx vx y0 y1 sxe xe CN
   obtain ⟨c, ec⟩ : ∃ c, sgn (x * x - A) = c := ⟨_, rfl⟩
   rw [ec] at CM cl
   obtain ⟨X, eX⟩ : ∃ X, outr (dfill x 4) (dfill x 4) 9 = X := ⟨_, rfl⟩
   rw [eX] at CM TX
   obtain ⟨P0, eP⟩ : ∃ P0, dfill x 4 = P0 := ⟨_, rfl⟩
   rw [eP] at TX FX
   obtain ⟨sx, es⟩ : ∃ sx, decide (x < 0) = sx := ⟨_, rfl⟩
   rw [es] at TX FX
   clear ec eX eP es fx
   rw [q1]
   have HI := Aside0.mk (And.intro hi aa)
   clear hi aa
   have ew : wrap64 (s + wrap64 (2 ^ gi)) = x := by
    have e1 : wrap64 ((2 : Int) ^ gi) = 2 ^ gi := by have := HI.out.1; unfold wrap64; omega
    rw [e1, hx]
    unfold wrap64
    omega
   go_wp2
   rw [ew]
   replace CK1 := Aside0.mk (blk_drew CK1.out)
   replace CK4 := Aside0.mk (blk_drew CK4.out)
   replace HC := Aside0.mk (below_drew1 HC.out)
   refine start_ (n := 8) (S := fun w' => w'.heap[g4]? = some (.cells (numA false D) 46 (0, 0))) (ds := []) #[false, false, false, false, false, false, false, false] (by kernel_rfl) rfl rfl CK4.out (fun hHeld => ?_); refine with_tabW relievoref01_Sqrt.tab9 relievoref01_Sqrt.bits9 (fun HT_ HW_ => ?_)
   generalize wr.drew = w20 at CK1 CK4 HC hHeld ⊢
   refine pure_ (i := 0) (N := some 22) (v := ?_) (a' := ?_) #[true, false, false, false, false, false, false, false] rfl rfl (any_of HT_.out (by kernel_rfl)) (fun _ _ _ h => h) (Or.inl ⟨by rfl, ?_⟩) ?_ ?_
   rotate_left
   ·intro w'
    go_simp
    with_reducible rfl
   rotate_left
   ·simp only [Act.put, List.setIfInBounds_toArray, List.set_cons_zero, List.set_cons_succ, i64_w, i32_w]
    rfl
   refine pure_ (i := 2) (N := some 24) (v := ?_) (a' := ?_) #[true, false, true, false, false, false, false, false] rfl rfl (any_of HT_.out (by kernel_rfl)) (fun _ _ _ h => h) (Or.inl ⟨by rfl, ?_⟩) ?_ ?_
   rotate_left
   ·intro w'
    go_simp
    with_reducible rfl
   rotate_left
   ·simp only [Act.put, List.setIfInBounds_toArray, List.set_cons_zero, List.set_cons_succ, i64_w, i32_w]
    rfl
   refine take_ (i := 5) (N := some 27) (v := .agg (numA false D)) (a' := ?_) #[true, false, true, false, false, true, false, false] rfl rfl (take_ofW HT_.out HW_.out (by kernel_rfl)) (fun _ _ _ h => h) (Or.inl ⟨by rfl, fun w' s0 => exec_load rfl rfl s0 hu46 rfl (num_info hD)⟩) hHeld ?_ ?_
   rotate_left
   ·simp only [Act.put, List.setIfInBounds_toArray, List.set_cons_zero, List.set_cons_succ, i64_w, i32_w]
    rfl
   refine one_ (i := 1) (N := some 23) #[true, true, true, false, false, true, false, false] rfl rfl (one_of HT_.out (by kernel_rfl)) (by decide) (fun K hK => ?_)
   refine goes_ Try.func26 (by kernel_rfl) rfl #[.int .i64 x] (by rfl) rfl rfl (by (try simp only [List.map_toArray, List.map_cons, List.map_nil]); first | done | rfl | (simp only [List.length_drop, List.length_take]; rfl)) ?_
   with_reducible refine (FX _).mono ?_
   rintro e w20_1 ⟨rfl, hb⟩
   refine ⟨_, rfl, ?_⟩
   replace CK1 := cB hb CK1
   replace CK4 := cB hb CK4
   replace HC := Aside0.mk (below_step (HC.out) hb)
   clear hb
   refine hK.out _ _ CK4.out (fun hHeld => ?_)
   clear hK K
   refine norm_ (a' := ?_) ?_ ?_
   rotate_left
   ·show Act.put _ (some 23) _ = _
    simp only [Act.put, List.setIfInBounds_toArray, List.set_cons_zero, List.set_cons_succ, i64_w, i32_w]
    rfl
   refine one_ (i := 3) (N := some 25) #[true, true, true, true, false, true, false, false] rfl rfl (one_of HT_.out (by kernel_rfl)) (by decide) (fun K hK => ?_)
   refine goes_ Try.func26 (by kernel_rfl) rfl #[.int .i64 x] (by rfl) rfl rfl (by (try simp only [List.map_toArray, List.map_cons, List.map_nil]); first | done | rfl | (simp only [List.length_drop, List.length_take]; rfl)) ?_
   with_reducible refine (FX _).mono ?_
   rintro e w20_2 ⟨rfl, hb⟩
   refine ⟨_, rfl, ?_⟩
   replace CK1 := cB hb CK1
   replace CK4 := cB hb CK4
   replace HC := Aside0.mk (below_step (HC.out) hb)
   clear hb
   refine hK.out _ _ CK4.out (fun hHeld => ?_)
   clear hK K
   refine norm_ (a' := ?_) ?_ ?_
   rotate_left
   ·show Act.put _ (some 25) _ = _
    simp only [Act.put, List.setIfInBounds_toArray, List.set_cons_zero, List.set_cons_succ, i64_w, i32_w]
    rfl
   refine one_ (i := 4) (N := some 26) #[true, true, true, true, true, true, false, false] rfl rfl (one_of HT_.out (by kernel_rfl)) (by decide) (fun K hK => ?_)
   refine goes_ Try.func42 (by kernel_rfl) rfl #[.agg (numA sx P0), .agg (numA sx P0)] (by rfl) rfl rfl (by (try simp only [List.map_toArray, List.map_cons, List.map_nil]); first | done | rfl | (simp only [List.length_drop, List.length_take]; rfl)) ?_
   with_reducible refine (TX _).mono ?_
   rintro e w20_3 ⟨rfl, hb⟩
   refine ⟨_, rfl, ?_⟩
   replace CK1 := cB hb CK1
   replace CK4 := cB hb CK4
   replace HC := Aside0.mk (below_step (HC.out) hb)
   clear hb
   refine hK.out _ _ CK4.out (fun hHeld => ?_)
   clear hK K
   refine norm_ (a' := ?_) ?_ ?_
   rotate_left
   ·show Act.put _ (some 26) _ = _
    simp only [Act.put, List.setIfInBounds_toArray, List.set_cons_zero, List.set_cons_succ, i64_w, i32_w]
    rfl
   refine one_ (i := 6) (N := some 28) #[true, true, true, true, true, true, true, false] rfl rfl (one_of HT_.out (by kernel_rfl)) (by decide) (fun K hK => ?_)
   refine goes_ Try.func31 (by kernel_rfl) rfl #[.agg (numA false X), .agg (numA false D)] (by rfl) rfl rfl (by (try simp only [List.map_toArray, List.map_cons, List.map_nil]); first | done | rfl | (simp only [List.length_drop, List.length_take]; rfl)) ?_
   with_reducible refine (CM _).mono ?_
   rintro e w20_4 ⟨rfl, hb⟩
   refine ⟨_, rfl, ?_⟩
   replace CK1 := cB hb CK1
   replace CK4 := cB hb CK4
   replace HC := Aside0.mk (below_step (HC.out) hb)
   clear hb
   refine hK.out _ _ CK4.out (fun hHeld => ?_)
   clear hK K
   refine norm_ (a' := ?_) ?_ ?_
   rotate_left
   ·show Act.put _ (some 28) _ = _
    simp only [Act.put, List.setIfInBounds_toArray, List.set_cons_zero, List.set_cons_succ, i64_w, i32_w]
    rfl
   refine pure_ (i := 7) (N := some 29) (v := ?_) (a' := ?_) #[true, true, true, true, true, true, true, true] rfl rfl (any_of HT_.out (by kernel_rfl)) (fun _ _ _ h => h) (Or.inl ⟨by rfl, ?_⟩) ?_ ?_
   rotate_left
   ·intro w'
    go_simp
    with_reducible rfl
   rotate_left
   ·simp only [Act.put, List.setIfInBounds_toArray, List.set_cons_zero, List.set_cons_succ, i64_w, i32_w]
    rfl
   refine done_ (done_of HT_.out (by kernel_rfl)) ?_
   clear HT_ HW_ hHeld
   by_cases g : x * x ≤ A
   · rw [if_pos g] at hs
     have c1 : decide (c ≤ 0) = true := cl.trans (decide_eq_true (by omega))
     have ii := HI.out
     clear cl ew x0 p0 p1 p2 xr
     go_wp2
     go_roundg gi
     case measure => exact Nat.lt_succ_self _
     case rel => exact ⟨x, rfl, rfl, ⟨hs⟩, ⟨by rw [show (2 : Int) ^ 63 = 9223372036854775808 by decide]; have pp := (show (0 : Int) < 2 ^ gi from Int.pow_pos (by decide)); exact ⟨by omega, by omega, g⟩⟩, ⟨by omega⟩, CK4, CK1, HC⟩
   · rw [if_neg g] at hs
     have c1 : decide (c ≤ 0) = false := cl.trans (decide_eq_false (by omega))
     have ii := HI.out
     clear cl ew x0 p0 p1 p2 xr
     go_wp2
     go_roundg gi
     case measure => exact Nat.lt_succ_self _
     case rel => exact ⟨s, rfl, rfl, ⟨hs⟩, ⟨by rw [show (2 : Int) ^ 63 = 9223372036854775808 by decide]; exact ⟨by omega, by have := (show (0 : Int) < 2 ^ gi from Int.pow_pos (by decide)); omega, ii.1.2.2⟩⟩, ⟨by omega⟩, CK4, CK1, HC⟩
end Go.Proofs.Ytmkdnoikbefimaa.G

namespace Go.Proofs.Ytmkdnoikbefimaa.G
open Go.RowKit Go.Proofs.NumMath Go.Proofs.YtmkdnoikbefimaaW.PrintWords Go.Proofs.YtmkdnoikbefimaaW.PrintLast Go.Proofs.YtmkdnoikbefimaaW.PrintMore
set_option linter.unusedVariables false
set_option linter.unusedSimpArgs false
set_option maxHeartbeats 1000000 in
set_option maxRecDepth 100000 in
theorem sqrt_neg (a0_0 a0_1 : Int) (N : List Int) (w : World) (hN : N.length = 18)
    (FR : ∀ w, Calls Try.prog 28 #[.agg #[.int .i64 a0_0, .int .u64 a0_1]] w fun e w' => e = .returned (.agg (numA true N)) ∧ Below w.heap.size w w') :
    Calls Try.prog 22 #[.agg #[.int .i64 a0_0, .int .u64 a0_1]] w fun e w' => e = .returned (.tuple #[.int .i64 0, .bool false]) ∧ Below w.heap.size w w' := by
 have hu46 := Try.underlying46
 have hD := hN
 have HB := Aside0.mk (Below.refl w.heap.size w)
 go_enter Try.func22, Try.ntmps22
 go_wp2_with (first
  | ((with_reducible refine gate_dst (N := 1) rfl ?_); refine box_event ?hg (N := 1) ?hd (cs := #[.int .i64 a0_0, .int .u64 a0_1]) (t := 30) ?hr ?_; (case hd => rfl); (case hg => rfl); (case hr => first | (go_simp; done) | (go_simp; rfl)); intro g1 hg w3 hbox hb; have BK1 := Aside0.mk (hbox); have GE1 := Aside0.mk (bG hg (HB.out)); replace HB := Aside0.mk (below_step (HB.out) hb); clear hb hbox hg; obtain ⟨k0, k1⟩ := cells2 BK1.out)
  | (go_at_call 28; (with_reducible refine (FR _).mono ?_); rintro e w5 ⟨rfl, hb⟩; replace BK1 := cB hb BK1; replace HB := Aside0.mk (below_step (HB.out) hb); clear hb)
  | ((with_reducible refine gate_dst (N := 4) rfl ?_); refine box_event ?hg (N := 4) ?hd (cs := numA false Z18) (t := 46) ?hr ?_; (case hd => rfl); (case hg => rfl); (case hr => first | (go_simp; done) | (go_simp; rfl)); intro g4 hg w6 hbox hb; have BK4 := Aside0.mk (hbox); have GE4 := Aside0.mk (bG hg (HB.out)); have N14 := cN hg BK1; have N41 := cM hg BK1; replace HB := Aside0.mk (below_step (HB.out) hb); replace BK1 := cB hb BK1; clear hb hbox hg)
  | ((with_reducible refine gate_store2 (t := 46) (x := .tmp 4) (y := .tmp 10) rfl ?_); refine ev_row rfl 46 (.tmp 4) (.tmp 10) rfl rfl g4 (numA true N) ?hx ?hy 46 (numA false Z18) BK4.out (num_info hD) ((numA_size rfl).trans (numA_size hD).symm) (numA_one _ _) HB.out GE4.out ?_; (case hx => first | (go_simp; done) | rfl); (case hy => first | (go_simp; done) | rfl | (go_simp; rfl)); intro w9 hbox hb hk; replace BK4 := Aside0.mk hbox; replace HB := Aside0.mk hb; replace BK1 := Aside0.mk ((hk _ N14.out).trans BK1.out); clear hbox hb hk; have c4 := (blk_cell BK4.out 0).trans (numA_get0 true N)))
 go_ret2
 exact ⟨rfl, HB.out⟩
def relievoref01_SqrtW.f (a0 a1 : Int) : Option (Int × Bool) :=
  if (-9223372036854775808 ≤ a0 ∧ a0 ≤ 9223372036854775807) ∧ (0 ≤ a1 ∧ a1 < 18446744073709551616) then
    some (if a0 < 0 then (0, false) else if sqN (a0 * 18446744073709551616 + a1) 63 0 = 9223372036854775807 then (if 85070591730234615865843651857942052864 ≤ a0 * 18446744073709551616 + a1 then (0, false) else (9223372036854775807, true)) else (sqN (a0 * 18446744073709551616 + a1) 63 0, true)) else none
theorem relievoref01_SqrtW.calls (a0_0 : Int) (a0_1 : Int) (r1 : Int) (r2 : Bool) (w : World) (h : relievoref01_SqrtW.f a0_0 a0_1 = some (r1, r2)) :
    Calls Try.prog 22 #[.agg #[.int .i64 a0_0, .int .u64 a0_1]] w fun e w' => e = .returned (.tuple #[.int .i64 r1, .bool r2]) ∧ Below w.heap.size w w' := by
  have hr : (-9223372036854775808 ≤ a0_0 ∧ a0_0 ≤ 9223372036854775807) ∧ (0 ≤ a0_1 ∧ a0_1 < 18446744073709551616) := by
    unfold relievoref01_SqrtW.f at h
    split at h
    · assumption
    · simp at h
  unfold relievoref01_SqrtW.f at h
  rw [if_pos hr] at h
  obtain ⟨h0, h1⟩ := hr
  obtain ⟨sA, N, nv, FR⟩ := fromV a0_0 a0_1 h0 h1
  have sg := nv.sign
  by_cases c : a0_0 < 0
  · rw [if_pos c] at h
    simp only [Option.some.injEq, Prod.mk.injEq] at h
    obtain ⟨rfl, rfl⟩ := h
    rw [decide_eq_true (by omega)] at sg
    subst sg
    exact sqrt_neg a0_0 a0_1 N w nv.len FR
  rw [if_neg c] at h
  rw [decide_eq_false (by omega)] at sg
  subst sg
  have vN := nv.val
  unfold absI at vN
  rw [if_neg (by omega)] at vN
  obtain ⟨A, hA⟩ : ∃ A, a0_0 * 18446744073709551616 + a0_1 = A := ⟨_, rfl⟩
  have iA : 0 ≤ A ∧ A < 170141183460469231731687303715884105728 := by omega
  rw [hA] at h vN nv
  obtain ⟨sS, DS, nS, FS⟩ := fromIntV 9223372036854775807 (by decide)
  obtain ⟨s6, D6, n6, F1⟩ := fromIntV 1 (by decide)
  obtain ⟨sl, DL, nl, PL⟩ := plusV nS n6 (by decide) (by decide)
  obtain ⟨sy, Y, ny, TL⟩ := timesV nl nl (by decide) (by decide)
  have CL := fun w => cmpV ny nv w
  have e2 : ((9223372036854775807 : Int) + 1) * (9223372036854775807 + 1) = 85070591730234615865843651857942052864 := by decide
  rw [e2] at CL
  refine sqrt_walk a0_0 a0_1 A (sqN A 63 0) r1 _ r2 sl sy sS s6 N DL Y DS D6 w FR vN nv.dig iA.1 iA.2 rfl nl.len FS F1 PL TL CL (sgn_le _) (fun g => ?_) (fun g b => ?_) (fun g b => ?_)
  · rw [if_neg g] at h
    simp only [Option.some.injEq, Prod.mk.injEq] at h
    exact ⟨h.1.symm, h.2.symm⟩
  · rw [if_pos g, if_pos b] at h
    simp only [Option.some.injEq, Prod.mk.injEq] at h
    exact ⟨h.1.symm, h.2.symm⟩
  · rw [if_pos g, if_neg b] at h
    simp only [Option.some.injEq, Prod.mk.injEq] at h
    exact ⟨h.1.symm, h.2.symm⟩
end Go.Proofs.Ytmkdnoikbefimaa.G
