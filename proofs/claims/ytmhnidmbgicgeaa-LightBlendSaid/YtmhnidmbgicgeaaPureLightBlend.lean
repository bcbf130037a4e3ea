/- Colours stay colours; with no part of the others it is the first one, wholly the second it is that: for all ints. -/
import Derived.Test.YtmhnidmbgicgeaaGx29
import Derived.Test.YtmhnidmbgicgeaaLitFun
namespace Go.Proofs.Ytmhnidmbgicgeaa.Pure
open Go.RowKit Go.Proofs.VecMath Go.Proofs.Ytmhnidmbgicgeaa.M Go.Proofs.YtmhnidmbgicgeaaW.PrintWords
set_option linter.unusedVariables false
theorem cut_in2 (n : Int) : 0 ≤ G.cutB n ∧ G.cutB n ≤ 255 := by
  unfold G.cutB mn mx
  repeat' split
  all_goals omega
theorem cut_id {n : Int} (h : 0 ≤ n ∧ n ≤ 255) : G.cutB n = n := by
  unfold G.cutB mn mx
  repeat' split
  all_goals omega
theorem part_is (x y z : Int) {k l : Int} (hk : 0 ≤ k ∧ k ≤ 256) (hl : 0 ≤ l ∧ l ≤ 256) (h : k + l ≤ 256) : G.partB x y z k l = (G.cutB x * (256 - k - l) + G.cutB y * k + G.cutB z * l) / 256 := by
  have a := cut_in2 x
  have b := cut_in2 y
  have c := cut_in2 z
  have h1 := mulb (x := G.cutB x) (y := 256 - k - l) (A := 255) (B := 256) (by omega) (by omega)
  have h2 := mulb (x := G.cutB y) (y := k) (A := 255) (B := 256) (by omega) (by omega)
  have h3 := mulb (x := G.cutB z) (y := l) (A := 255) (B := 256) (by omega) (by omega)
  unfold G.partB
  rw [w64 (n := 256 - k) (by omega), w64 (n := 256 - k - l) (by omega), w64 (n := G.cutB x * (256 - k - l)) (by omega), w64 (n := G.cutB y * k) (by omega), w64 (n := G.cutB z * l) (by omega), w64 (n := G.cutB x * (256 - k - l) + G.cutB y * k) (by omega), w64 (by omega)]
/-- A weighted mean lies between any bounds of the three. -/
theorem mean_in {x y z k l lo hi : Int} (hk : 0 ≤ k) (hl : 0 ≤ l) (h : k + l ≤ 256) (hx : lo ≤ x ∧ x ≤ hi) (hy : lo ≤ y ∧ y ≤ hi) (hz : lo ≤ z ∧ z ≤ hi) : lo ≤ (x * (256 - k - l) + y * k + z * l) / 256 ∧ (x * (256 - k - l) + y * k + z * l) / 256 ≤ hi := by
  have a1 := Int.mul_le_mul_of_nonneg_right hx.1 (show 0 ≤ 256 - k - l by omega)
  have a2 := Int.mul_le_mul_of_nonneg_right hx.2 (show 0 ≤ 256 - k - l by omega)
  have b1 := Int.mul_le_mul_of_nonneg_right hy.1 hk
  have b2 := Int.mul_le_mul_of_nonneg_right hy.2 hk
  have c1 := Int.mul_le_mul_of_nonneg_right hz.1 hl
  have c2 := Int.mul_le_mul_of_nonneg_right hz.2 hl
  have e1 : lo * (256 - k - l) + lo * k + lo * l = lo * 256 := by grind
  have e2 : hi * (256 - k - l) + hi * k + hi * l = hi * 256 := by grind
  omega
theorem part_in (x y z : Int) {k l : Int} (hk : 0 ≤ k ∧ k ≤ 256) (hl : 0 ≤ l ∧ l ≤ 256) (h : k + l ≤ 256) : 0 ≤ G.partB x y z k l ∧ G.partB x y z k l ≤ 255 := by
  rw [part_is x y z hk hl h]
  exact mean_in hk.1 hl.1 h (cut_in2 x) (cut_in2 y) (cut_in2 z)
theorem part_first (x y z : Int) : G.partB x y z 0 0 = G.cutB x := by
  rw [part_is x y z (by decide) (by decide) (by decide)]
  omega
theorem part_second (x y z : Int) : G.partB x y z 256 0 = G.cutB y := by
  rw [part_is x y z (by decide) (by decide) (by decide)]
  omega
theorem part_third (x y z : Int) : G.partB x y z 0 256 = G.cutB z := by
  rw [part_is x y z (by decide) (by decide) (by decide)]
  omega
def okL (k l : Int) : Prop := 0 ≤ k ∧ k ≤ 256 ∧ 0 ≤ l ∧ l ≤ 256 ∧ k + l ≤ 256
theorem blend_ok (a0 a1 a2 b0 b1 b2 c0 c1 c2 : Int) {k l : Int} (h : okL k l) : G.light_Blend.f a0 a1 a2 b0 b1 b2 c0 c1 c2 k l = some (G.partB a0 b0 c0 k l, G.partB a1 b1 c1 k l, G.partB a2 b2 c2 k l) := by
  unfold okL at h
  unfold G.light_Blend.f
  have h1 : ¬ mn k l < 0 := by unfold mn; split <;> omega
  have h2 : ¬ mx k l > 256 := by unfold mx; split <;> omega
  rw [if_neg h1, if_neg h2, w64 (by omega), if_neg (by omega)]
theorem blend_no (a0 a1 a2 b0 b1 b2 c0 c1 c2 : Int) {k l : Int} (h : ¬ okL k l) : G.light_Blend.f a0 a1 a2 b0 b1 b2 c0 c1 c2 k l = some (0, 0, 0) := by
  unfold okL at h
  unfold G.light_Blend.f
  by_cases h1 : mn k l < 0
  · rw [if_pos h1]
  rw [if_neg h1]
  by_cases h2 : mx k l > 256
  · rw [if_pos h2]
  rw [if_neg h2]
  have e : 0 ≤ k ∧ k ≤ 256 ∧ 0 ≤ l ∧ l ≤ 256 := by
    unfold mn at h1
    unfold mx at h2
    split at h1 <;> split at h2 <;> omega
  rw [w64 (by omega), if_pos (by omega)]
theorem round_is (k : Nat) {n : Int} (h : 0 ≤ n ∧ n ≤ 255) : G.relievoref02_Round.f (k + 1) n 1 = some n := by
  unfold G.relievoref02_Round.f
  rw [if_neg (by decide), if_neg (by decide), if_neg (by omega), decide_eq_false (by omega), G.relievoref02_Round.j0, if_neg (by decide), if_neg (by decide), Int.tmod_one, Int.tdiv_one, if_neg (by decide), w64 (n := 1 - 0) (by decide), if_neg (by decide), w64 (by omega)]
theorem LightBlend (a0_0 a0_1 a0_2 a1_0 a1_1 a1_2 a2_0 a2_1 a2_2 a3 a4 : Int) (b0_0 : -9223372036854775808 ≤ a0_0 ∧ a0_0 ≤ 9223372036854775807) (b0_1 : -9223372036854775808 ≤ a0_1 ∧ a0_1 ≤ 9223372036854775807) (b0_2 : -9223372036854775808 ≤ a0_2 ∧ a0_2 ≤ 9223372036854775807) (b1_0 : -9223372036854775808 ≤ a1_0 ∧ a1_0 ≤ 9223372036854775807) (b1_1 : -9223372036854775808 ≤ a1_1 ∧ a1_1 ≤ 9223372036854775807) (b1_2 : -9223372036854775808 ≤ a1_2 ∧ a1_2 ≤ 9223372036854775807) (b2_0 : -9223372036854775808 ≤ a2_0 ∧ a2_0 ≤ 9223372036854775807) (b2_1 : -9223372036854775808 ≤ a2_1 ∧ a2_1 ≤ 9223372036854775807) (b2_2 : -9223372036854775808 ≤ a2_2 ∧ a2_2 ≤ 9223372036854775807) (b3 : -9223372036854775808 ≤ a3 ∧ a3 ≤ 9223372036854775807) (b4 : -9223372036854775808 ≤ a4 ∧ a4 ≤ 9223372036854775807) :
    ∃ k, G.relievolaw19_LightBlend.f k a0_0 a0_1 a0_2 a1_0 a1_1 a1_2 a2_0 a2_1 a2_2 a3 a4 = some true := by
  refine ⟨80, ?_⟩
  unfold G.relievolaw19_LightBlend.f
  rw [alive_80, Option.bind_some, if_pos rfl]
  have f0 := blend_ok a0_0 a0_1 a0_2 a1_0 a1_1 a1_2 a2_0 a2_1 a2_2 (k := 0) (l := 0) (by unfold okL; decide)
  have f1 := blend_ok a0_0 a0_1 a0_2 a1_0 a1_1 a1_2 a2_0 a2_1 a2_2 (k := 256) (l := 0) (by unfold okL; decide)
  have f2 := blend_ok a0_0 a0_1 a0_2 a1_0 a1_1 a1_2 a2_0 a2_1 a2_2 (k := 0) (l := 256) (by unfold okL; decide)
  simp only [part_first, part_second, part_third] at f0 f1 f2
  by_cases o : okL a3 a4
  · have o' := o
    unfold okL at o'
    rw [blend_ok _ _ _ _ _ _ _ _ _ o, Option.bind_some]
    dsimp only
    have p0 := part_in a0_0 a1_0 a2_0 (k := a3) (l := a4) (by omega) (by omega) (by omega)
    have p1 := part_in a0_1 a1_1 a2_1 (k := a3) (l := a4) (by omega) (by omega) (by omega)
    have p2 := part_in a0_2 a1_2 a2_2 (k := a3) (l := a4) (by omega) (by omega) (by omega)
    have pi := part_is a0_0 a1_0 a2_0 (k := a3) (l := a4) (by omega) (by omega) (by omega)
    rw [if_neg (by omega), if_neg (by omega), if_neg (by omega), if_neg (by omega), if_neg (by omega), decide_eq_false (by omega), G.relievolaw19_LightBlend.j0, if_neg (by decide), f0, Option.bind_some, f1, Option.bind_some, f2, Option.bind_some]
    dsimp only
    rw [if_neg (by omega), if_neg (by omega), if_neg (by omega), if_neg (by omega), w64 (n := a3 + a4) (by omega), decide_eq_false (by omega), G.relievolaw19_LightBlend.j1, if_neg (by decide)]
    have c0 := cut_in2 a0_0
    have c1 := cut_in2 a1_0
    have c2 := cut_in2 a2_0
    have bx := cut_in2 a1_0
    have lo : mn (mn (G.cutB a0_0) (G.cutB a1_0)) (G.cutB a2_0) ≤ G.cutB a0_0 ∧ mn (mn (G.cutB a0_0) (G.cutB a1_0)) (G.cutB a2_0) ≤ G.cutB a1_0 ∧ mn (mn (G.cutB a0_0) (G.cutB a1_0)) (G.cutB a2_0) ≤ G.cutB a2_0 := by
      unfold mn
      repeat' split
      all_goals omega
    have hi : G.cutB a0_0 ≤ mx (mx (G.cutB a0_0) (G.cutB a1_0)) (G.cutB a2_0) ∧ G.cutB a1_0 ≤ mx (mx (G.cutB a0_0) (G.cutB a1_0)) (G.cutB a2_0) ∧ G.cutB a2_0 ≤ mx (mx (G.cutB a0_0) (G.cutB a1_0)) (G.cutB a2_0) := by
      unfold mx
      repeat' split
      all_goals omega
    have m := mean_in (k := a3) (l := a4) (by omega) (by omega) (by omega) ⟨lo.1, hi.1⟩ ⟨lo.2.1, hi.2.1⟩ ⟨lo.2.2, hi.2.2⟩
    rw [← pi] at m
    have f3 := blend_ok (G.cutB a0_0) (G.cutB a0_1) (G.cutB a0_2) a1_0 a1_1 a1_2 a2_0 a2_1 a2_2 (k := 0) (l := 0) (by unfold okL; decide)
    simp only [part_first, cut_id (cut_in2 _)] at f3
    rw [if_pos m.1, if_pos m.2, f3, Option.bind_some, if_pos (by simp), round_is 77 (cut_in2 a1_0), Option.bind_some]
    show some (G.cutB a1_0 == G.cutB a1_0) = some true
    simp
  · rw [blend_no _ _ _ _ _ _ _ _ _ o, Option.bind_some]
    dsimp only
    rw [if_neg (by decide), if_neg (by decide), if_neg (by decide), if_neg (by decide), if_neg (by decide), decide_eq_false (by decide), G.relievolaw19_LightBlend.j0, if_neg (by decide), f0, Option.bind_some, f1, Option.bind_some, f2, Option.bind_some]
    dsimp only
    unfold okL at o
    by_cases x1 : a3 < 0
    · rw [if_pos x1, G.relievolaw19_LightBlend.j1, if_pos rfl]
      rfl
    rw [if_neg x1]
    by_cases x2 : a4 < 0
    · rw [if_pos x2, G.relievolaw19_LightBlend.j1, if_pos rfl]
      rfl
    rw [if_neg x2]
    by_cases x3 : a3 > 256
    · rw [if_pos x3, G.relievolaw19_LightBlend.j1, if_pos rfl]
      rfl
    rw [if_neg x3]
    by_cases x4 : a4 > 256
    · rw [if_pos x4, G.relievolaw19_LightBlend.j1, if_pos rfl]
      rfl
    rw [if_neg x4, w64 (n := a3 + a4) (by omega), decide_eq_true (by omega), G.relievolaw19_LightBlend.j1, if_pos rfl]
    rfl
end Go.Proofs.Ytmhnidmbgicgeaa.Pure
