-- Written by a program of this session (wip/gen), out of the translation; Lean checks it.
import Derived.Test.YtmhnidmbgicgeaaGx0
namespace Go.Proofs.Ytmhnidmbgicgeaa.G
open Go.RowKit Go.Proofs.YtmhnidmbgicgeaaW.PrintWords Go.Proofs.YtmhnidmbgicgeaaW.PrintLast Go.Proofs.YtmhnidmbgicgeaaW.PrintMore
attribute [local go_sem] max2_int min2_int max_two min_two max_three min_three max_four min_four   -- for this text's walks alone
set_option linter.unusedVariables false
set_option linter.unusedSimpArgs false

/-! ### relievoref19_clamp: function 45 -/
def relievoref19_clamp.f (a0 : Int) : Option (Int) := some (mn (mx a0 0) 255)
set_option maxHeartbeats 8000000 in
set_option maxRecDepth 100000 in
theorem relievoref19_clamp.calls (a0 : Int) (r : Int) (w : World) (h : relievoref19_clamp.f a0 = some r) :
    Calls Try.prog 45 #[.int .i64 a0] w fun e w' => e = .returned (.int .i64 r) ∧ Below w.heap.size w w' := by
 have HB := Aside0.mk (Below.refl w.heap.size w)
 have H : (some (mn (mx a0 0) 255)) = some r := h
 clear h
 obtain ⟨ji2, hji2⟩ : ∃ j_ : Int, (mx a0 0) = j_ := ⟨_, rfl⟩
 replace H : (some (mn (ji2) 255)) = some r := by first | (rw [hji2] at H; exact H) | (simp only [hji2] at H ⊢; exact H)
 (try (have hji2l : 0 ≤ ji2 := by (rw [← hji2]; unfold mx; (repeat' split) <;> omega)))
 (try (have hji2m : 0 ≤ ji2 := by omega))
 have hji2_ : (if a0 < 0 then 0 else a0) = ji2 := hji2
 obtain ⟨ji3, hji3⟩ : ∃ j_ : Int, (mn (ji2) 255) = j_ := ⟨_, rfl⟩
 replace H : (some ji3) = some r := by first | (rw [hji3] at H; exact H) | (simp only [hji3] at H ⊢; exact H)
 have hji3_ : (if 255 < (ji2) then 255 else (ji2)) = ji3 := hji3
 obtain rfl := Option.some.inj H
 go_enter Try.func45, Try.ntmps45
 go_wp2
 go_ret
 exact ⟨by first | rfl | (simp [errW_none, errW_some] <;> rfl) | (simp only [← hji2, ← hji3]; first | rfl | (simp [errW_none, errW_some] <;> rfl)) | (simp [*, errW_none, errW_some] <;> rfl), HB.out⟩

end Go.Proofs.Ytmhnidmbgicgeaa.G
