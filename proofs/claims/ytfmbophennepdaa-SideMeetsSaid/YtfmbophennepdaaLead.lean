/- What bits.LeadingZeros64 answers: 64 less the number of bits. -/
import Derived.Test.YtfmbophennepdaaGx0
import Derived.Test.YtfmbophennepdaaLen
namespace Go.Proofs.Ytfmbophennepdaa.G
open Go.RowKit Go.Proofs.YtfmbophennepdaaW.PrintWords Go.Proofs.YtfmbophennepdaaW.PrintLast Go.Proofs.YtfmbophennepdaaW.PrintMore
set_option linter.unusedVariables false
set_option linter.unusedSimpArgs false

def bits_LeadingZeros64.f (x : Int) : Option Int := if 0 ≤ x ∧ x ≤ 18446744073709551615 then some (64 - (Lib.bitLen x.toNat : Int)) else none
theorem bits_LeadingZeros64.calls (a0 : Int) (r : Int) (w : World) (h : bits_LeadingZeros64.f a0 = some r) :
    Calls Try.prog 50 #[.int .u64 a0] w fun e w' => e = .returned (.int .i64 r) ∧ Below w.heap.size w w' := by
  have hr : 0 ≤ a0 ∧ a0 ≤ 18446744073709551615 := by
    unfold bits_LeadingZeros64.f at h
    split at h
    · assumption
    · simp at h
  unfold bits_LeadingZeros64.f at h
  rw [if_pos hr] at h
  obtain rfl := Option.some.inj h
  have l : Lib.bitLen a0.toNat ≤ 64 := Lib.bitLen_le a0.toNat 64 (by omega) (by omega)
  have e8 : (64 - (Lib.bitLen a0.toNat : Int) + 9223372036854775808) % 18446744073709551616 - 9223372036854775808 = 64 - (Lib.bitLen a0.toNat : Int) := by omega
  go_enter Try.func50, Try.ntmps50
  go_wp2_with (go_at_call 55; refine (bits_Len64_calls a0 _ hr.1 hr.2).mono ?_; rintro e w' ⟨rfl, rfl⟩)
  go_ret
  refine ⟨?_, Below.refl _ _⟩
  rw [← e8]
  rfl
end Go.Proofs.Ytfmbophennepdaa.G
