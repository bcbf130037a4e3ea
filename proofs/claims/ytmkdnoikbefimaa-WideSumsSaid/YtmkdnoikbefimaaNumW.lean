/- What WideSums comes to: true, for all wide numbers and ints. -/
import Derived.Test.YtmkdnoikbefimaaNumL
import Derived.Test.YtmkdnoikbefimaaDivAll
import Derived.Test.YtmkdnoikbefimaaGx23
import Derived.Test.YtmkdnoikbefimaaGx26
import Derived.Test.YtmkdnoikbefimaaGx24
import Derived.Test.YtmkdnoikbefimaaGx10
import Derived.Test.YtmkdnoikbefimaaGx13
import Derived.Test.YtmkdnoikbefimaaGx22
namespace Go.Proofs.Ytmkdnoikbefimaa.G
open Go.RowKit Go.Proofs.NumMath Go.Proofs.Ytmkdnoikbefimaa.M Go.Proofs.YtmkdnoikbefimaaW.PrintWords
set_option linter.unusedVariables false
theorem addW_no (n m : Int) (hn : i128 n) (hm : i128 m) (h : ¬ i128 (n + m)) : wide_Add.f (hiW n) (loW n) (hiW m) (loW m) = some (0, 0, false) := by
  have e : ∃ x y, wide_sum.f (hiW n) (loW n) (hiW m) (loW m) = some (x, y) ∧ x = wrap64 (hiW (n + m)) := by
    unfold i128 at *
    refine ⟨_, _, by unfold wide_sum.f; rw [if_pos (by unfold loW; omega)], ?_⟩
    unfold wrap64 hiW loW
    omega
  obtain ⟨x, y, e, ex⟩ := e
  unfold i128 at *
  unfold wide_Add.f
  rw [e, Option.bind_some]
  dsimp only
  have z : ∀ v : Int, decide (hiW v < 0) = decide (v < 0) := fun v => by
    rw [Bool.eq_iff_iff, decide_eq_true_eq, decide_eq_true_eq]
    unfold hiW
    omega
  rw [z n, z m]
  by_cases a : n < 0
  · have b : m < 0 := by omega
    rw [decide_eq_true a, decide_eq_true b, decide_eq_false (show ¬ x < 0 by rw [ex]; unfold wrap64 hiW; omega)]
    rfl
  · have b : ¬ m < 0 := by omega
    rw [decide_eq_false a, decide_eq_false b, decide_eq_true (show x < 0 by rw [ex]; unfold wrap64 hiW; omega)]
    rfl
theorem addW (n m : Int) (hn : i128 n) (hm : i128 m) : wide_Add.f (hiW n) (loW n) (hiW m) (loW m) = some (wideV (n + m)) := by
  unfold wideV
  by_cases h : i128 (n + m)
  · have h' := h
    unfold i128 at h'
    rw [if_pos h']
    exact add_eq n m hn hm h
  · have h' := h
    unfold i128 at h'
    rw [if_neg h']
    exact addW_no n m hn hm h
theorem negW (n : Int) (hn : i128 n) : wide_Neg.f (hiW n) (loW n) = some (wideV (-n)) := by
  unfold wideV
  by_cases h : i128 (-n)
  · have h' := h
    unfold i128 at h'
    rw [if_pos h']
    exact neg_eq n hn h
  · have h' := h
    unfold i128 at h'
    rw [if_neg h']
    have e : n = -170141183460469231731687303715884105728 := by unfold i128 at *; omega
    subst e
    have e0 : hiW (-170141183460469231731687303715884105728) = -9223372036854775808 := by decide
    have e1 : loW (-170141183460469231731687303715884105728) = 0 := by decide
    rw [e0, e1]
    unfold wide_Neg.f
    rw [if_pos rfl, if_pos rfl]
def intW (n : Int) : Int × Bool := if -9223372036854775808 ≤ n ∧ n ≤ 9223372036854775807 then (n, true) else (0, false)
theorem intW_eq (n : Int) (hn : i128 n) : wide_Int.f (hiW n) (loW n) = some (intW n) := by
  unfold intW
  by_cases h : i64b n
  · have h' := h
    unfold i64b at h'
    rw [if_pos h']
    exact int_yes n h
  · have h' := h
    unfold i64b at h'
    rw [if_neg h']
    exact int_no n h hn
def relievolaw01_WideSums.f (a0_0 a0_1 a1_0 a1_1 a2 : Int) : Option Bool :=
  if (-9223372036854775808 ≤ a0_0 ∧ a0_0 ≤ 9223372036854775807) ∧ (0 ≤ a0_1 ∧ a0_1 < 18446744073709551616) ∧ (-9223372036854775808 ≤ a1_0 ∧ a1_0 ≤ 9223372036854775807) ∧ (0 ≤ a1_1 ∧ a1_1 < 18446744073709551616) ∧ (-9223372036854775808 ≤ a2 ∧ a2 ≤ 9223372036854775807) then some true else none
theorem relievolaw01_WideSums.calls (a0_0 a0_1 a1_0 a1_1 a2 : Int) (r : Bool) (w : World) (h : relievolaw01_WideSums.f a0_0 a0_1 a1_0 a1_1 a2 = some r) :
    Calls Try.prog 8 #[.agg #[.int .i64 a0_0, .int .u64 a0_1], .agg #[.int .i64 a1_0, .int .u64 a1_1], .int .i64 a2] w fun e w' => e = .returned (.bool r) ∧ Below w.heap.size w w' := by
  have hr : (-9223372036854775808 ≤ a0_0 ∧ a0_0 ≤ 9223372036854775807) ∧ (0 ≤ a0_1 ∧ a0_1 < 18446744073709551616) ∧ (-9223372036854775808 ≤ a1_0 ∧ a1_0 ≤ 9223372036854775807) ∧ (0 ≤ a1_1 ∧ a1_1 < 18446744073709551616) ∧ (-9223372036854775808 ≤ a2 ∧ a2 ≤ 9223372036854775807) := by
    unfold relievolaw01_WideSums.f at h
    split at h
    · assumption
    · simp at h
  unfold relievolaw01_WideSums.f at h
  rw [if_pos hr] at h
  obtain rfl := Option.some.inj h
  obtain ⟨h0, h1, g0, g1, hn⟩ := hr
  obtain ⟨sa, Da, nva, FA⟩ := fromV a0_0 a0_1 h0 h1
  obtain ⟨sb, Db, nvb, FB⟩ := fromV a1_0 a1_1 g0 g1
  obtain ⟨sn, Dn, nvn, FN⟩ := fromIntV a2 hn
  obtain ⟨A, hA⟩ : ∃ A, a0_0 * 18446744073709551616 + a0_1 = A := ⟨_, rfl⟩
  obtain ⟨B, hB⟩ : ∃ B, a1_0 * 18446744073709551616 + a1_1 = B := ⟨_, rfl⟩
  have iA : i128 A := by unfold i128; omega
  have iB : i128 B := by unfold i128; omega
  have IR := fun w => intR.calls a0_0 a0_1 h0 h1 (intW A).1 (intW A).2 (by rw [hA]; rfl) w
  rw [hA] at nva
  rw [hB] at nvb
  obtain ⟨sp, Dp, nvp, PL⟩ := plusV nva nvb (by unfold absI; unfold i128 at iA; split <;> omega) (by unfold absI; unfold i128 at iB; split <;> omega)
  obtain ⟨sm, nvm, MN⟩ := minusV nva
  have eA0 : hiW A = a0_0 := by unfold hiW; omega
  have eA1 : loW A = a0_1 := by unfold loW; omega
  have eB0 : hiW B = a1_0 := by unfold hiW; omega
  have eB1 : loW B = a1_1 := by unfold loW; omega
  have ad := addW A B iA iB
  have ng := negW A iA
  have it := intW_eq A iA
  have cm := cmpW_eq 17 A B
  rw [eA0, eA1, eB0, eB1] at ad cm
  rw [eA0, eA1] at ng it
  have on : wideV a2 = (hiW a2, loW a2, true) := by unfold wideV; rw [if_pos (by omega)]; rfl
  have TN := fun w => toV nvn w
  rw [on] at TN
  exact sums_walk a0_0 a0_1 a1_0 a1_1 a2 (hiW a2) (loW a2) (wideV (A + B)).1 (wideV (A + B)).2.1 (wideV (-A)).1 (wideV (-A)).2.1 (intW A).1 (sgn (A - B)) true (wideV (A + B)).2.2 (wideV (-A)).2.2 (intW A).2 sn sa sb sp sm Dn Da Db Dp Da w
    (fun w => relievolaw01_alive.calls 20 true w alive_20) FN TN (fun w => wide_Add.calls _ _ _ _ _ _ _ w ad) FA FB PL (fun w => toV nvp w) (fun w => wide_Neg.calls _ _ _ _ _ w ng) MN (fun w => toV nvm w) (fun w => wide_Int.calls _ _ _ _ w it) IR
    (fun w => wide_Of.calls _ _ _ w (of_eq a2 hn)) (fun w => wide_Cmp.calls 20 _ _ _ _ _ w cm) (fun w => cmpV nva nvb w)
end Go.Proofs.Ytmkdnoikbefimaa.G
