/- What Div64 answers where the first half is 0. -/
import Derived.Test.YtmkdnoikbefimaaTurned
namespace Go.Proofs.Ytmkdnoikbefimaa.G
open Go.RowKit Go.Proofs.YtmkdnoikbefimaaW.PrintWords Go.Proofs.YtmkdnoikbefimaaW.PrintLast Go.Proofs.YtmkdnoikbefimaaW.PrintMore
set_option linter.unusedVariables false
set_option linter.unusedSimpArgs false

/-- The quotient and the rest of a number of 64 bits. -/
def bits_Div64.f (hi lo y : Int) : Option (Int × Int) := if hi = 0 ∧ 0 < y ∧ y < 18446744073709551616 ∧ 0 ≤ lo ∧ lo < 18446744073709551616 then some (lo / y, lo % y) else none
set_option maxHeartbeats 600000 in
set_option maxRecDepth 100000 in
theorem bits_Div64.calls (a0 : Int) (a1 : Int) (a2 : Int) (r1 : Int) (r2 : Int) (w : World) (h : bits_Div64.f a0 a1 a2 = some (r1, r2)) :
    Calls Try.prog 40 #[.int .u64 a0, .int .u64 a1, .int .u64 a2] w fun e w' => e = .returned (.tuple #[.int .u64 r1, .int .u64 r2]) ∧ Below w.heap.size w w' := by
 have hr : a0 = 0 ∧ 0 < a2 ∧ a2 < 18446744073709551616 ∧ 0 ≤ a1 ∧ a1 < 18446744073709551616 := by
  unfold bits_Div64.f at h
  split at h
  · assumption
  · simp at h
 unfold bits_Div64.f at h
 rw [if_pos hr] at h
 simp only [Option.some.injEq, Prod.mk.injEq] at h
 obtain ⟨rfl, rfl⟩ := h
 obtain ⟨rfl, y0, y1, l0, l1⟩ := hr
 have e1 : Int.tdiv a1 a2 = a1 / a2 := Int.tdiv_eq_ediv_of_nonneg l0
 have e2 : Int.tmod a1 a2 = a1 % a2 := Int.tmod_eq_emod_of_nonneg l0
 have q0 : 0 ≤ a1 / a2 := Int.ediv_nonneg l0 (Int.le_of_lt y0)
 have q1 : a1 / a2 ≤ a1 := Int.ediv_le_self _ l0
 have r0 : 0 ≤ a1 % a2 := Int.emod_nonneg _ (by omega)
 have r1 : a1 % a2 < a2 := Int.emod_lt_of_pos _ y0
 generalize a1 / a2 = q at *
 generalize a1 % a2 = r at *
 have e3 : IntKind.u64.wrap q = q := (show q % 18446744073709551616 = q by omega)
 have e4 : IntKind.u64.wrap r = r := (show r % 18446744073709551616 = r by omega)
 have c1 : (a2 == 0) = false := beq_eq_false_iff_ne.2 (by omega)
 have c2 : decide (a2 ≤ 0) = false := decide_eq_false (by omega)
 have c3 : ¬ (a2 = 0) := by omega
 have c4 : ¬ (a2 ≤ 0) := by omega
 have HB := Aside0.mk (Below.refl w.heap.size w)
 clear q0 q1 r0 r1 y0 y1 l0 l1
 go_enter Try.func40, Try.ntmps40
 go_wp2
 go_quiet (fail)
 go_wp2
 go_ret2
 exact ⟨rfl, by repeat (first | exact HB.out | apply pw_below_drewN | apply below_drew1)⟩
end Go.Proofs.Ytmkdnoikbefimaa.G
