/- Two directions are as much one in either order; one with itself wholly; turned about, but for rounding, with the other sign; square ones not at all: for all ints. -/
import Derived.Test.YtmhnidmbgicgeaaGx23
import Derived.Test.YtmhnidmbgicgeaaLitRoot
namespace Go.Proofs.Ytmhnidmbgicgeaa.Pure
open Go.RowKit Go.Proofs.VecMath Go.Proofs.Ytmhnidmbgicgeaa.M Go.Proofs.YtmhnidmbgicgeaaW.PrintWords
set_option linter.unusedVariables false
theorem z_beq (v : Vec) : (v.x == 0 && (v.y == 0 && (v.z == 0))) = decide v.zero := by
  unfold Vec.zero
  by_cases a : v.x = 0 <;> by_cases b : v.y = 0 <;> by_cases c : v.z = 0 <;> simp [a, b, c]
def fineC (a b : Vec) : Prop := ¬ a.zero ∧ ¬ b.zero ∧ a.in_ 32768 ∧ b.in_ 32768
def cosV (D r : Int) : Int := mn (mx (256 * D / r) (-256)) 256
theorem cos_no (k : Nat) (a b : Vec) (h : ¬ fineC a b) : G.light_Cos.f (k + 1) a.x a.y a.z b.x b.y b.z = some 0 := by
  unfold fineC at h
  unfold G.light_Cos.f
  rw [z_beq, z_beq]
  by_cases h1 : a.zero
  · rw [decide_eq_true h1, if_pos rfl, G.light_Cos.j0, if_pos rfl]
  rw [decide_eq_false h1, if_neg (by decide)]
  by_cases h2 : b.zero
  · rw [decide_eq_true h2, if_pos rfl, G.light_Cos.j0, if_pos rfl]
  rw [decide_eq_false h2, if_neg (by decide), within_eq _ _ _ _ (by decide) (by decide), Option.bind_some]
  by_cases h3 : a.in_ 32768
  · rw [decide_eq_true (show (⟨a.x, a.y, a.z⟩ : Vec).in_ 32768 from h3), if_pos rfl, within_eq _ _ _ _ (by decide) (by decide), Option.bind_some, decide_eq_false (show ¬ (⟨b.x, b.y, b.z⟩ : Vec).in_ 32768 from fun h4 => h ⟨h1, h2, h3, h4⟩), G.light_Cos.j0, if_pos (show (!false) = true from rfl)]
  · rw [decide_eq_false (show ¬ (⟨a.x, a.y, a.z⟩ : Vec).in_ 32768 from h3), if_neg (by decide), G.light_Cos.j0, if_pos rfl]
theorem nn_big {a : Vec} (h : a.in_ 32768) : nn a ≤ 3221225472 := (dot_in h h).2
theorem dn_big {a b : Vec} (h : a.in_ 32768) (g : b.in_ 32768) : -3221225472 ≤ dn a b ∧ dn a b ≤ 3221225472 := dot_in h g
theorem cos_eq (k : Nat) (a b : Vec) (h : fineC a b) : ∃ r, G.light_Cos.f (k + 66) a.x a.y a.z b.x b.y b.z = some (cosV (dn a b) r) ∧ Root r (nn a * nn b) ∧ 0 < r := by
  obtain ⟨h1, h2, h3, h4⟩ := h
  have a0 := nn_pos h1
  have a1 := nn_big h3
  have b0 := nn_pos h2
  have b1 := nn_big h4
  have d := dn_big h3 h4
  obtain ⟨r, er, hr⟩ := root_eq k (nn a) (nn b) (by omega) (by omega)
  have rp := hr.pos (Int.mul_pos a0 b0)
  refine ⟨r, ?_, hr, rp⟩
  have q1 : G.vec_Dot.f a.x a.y a.z b.x b.y b.z = some (dn a b) := dot_eq h3 h4 (by decide)
  have q2 : G.vec_Dot.f a.x a.y a.z a.x a.y a.z = some (nn a) := dot_eq h3 h3 (by decide)
  have q3 : G.vec_Dot.f b.x b.y b.z b.x b.y b.z = some (nn b) := dot_eq h4 h4 (by decide)
  unfold G.light_Cos.f
  rw [z_beq, z_beq, decide_eq_false h1, if_neg (by decide), decide_eq_false h2, if_neg (by decide), within_eq _ _ _ _ (by decide) (by decide), Option.bind_some,
    decide_eq_true (show (⟨a.x, a.y, a.z⟩ : Vec).in_ 32768 from h3), if_pos rfl, within_eq _ _ _ _ (by decide) (by decide), Option.bind_some, decide_eq_true (show (⟨b.x, b.y, b.z⟩ : Vec).in_ 32768 from h4),
    G.light_Cos.j0, if_neg (by decide), q1, Option.bind_some, q2, Option.bind_some, q3, Option.bind_some, er, Option.bind_some, w64 (n := 256 * dn a b) (by omega), floor_eq rp (by omega), Option.bind_some]
  rfl
theorem cosV_in (D r : Int) : -256 ≤ cosV D r ∧ cosV D r ≤ 256 := by
  unfold cosV mn mx
  repeat' split
  all_goals omega
theorem cosV_neg (D : Int) {r : Int} (hr : 0 < r) : cosV D r + cosV (-D) r = 0 ∨ cosV D r + cosV (-D) r = -1 := by
  have e : 256 * D / r + 256 * (-D) / r = 0 ∨ 256 * D / r + 256 * (-D) / r = -1 := by
    have h1 := Int.mul_ediv_add_emod (256 * D) r
    have h2 := Int.mul_ediv_add_emod (256 * (-D)) r
    have a0 := Int.emod_nonneg (256 * D) (show r ≠ 0 by omega)
    have a1 := Int.emod_lt_of_pos (256 * D) hr
    have b0 := Int.emod_nonneg (256 * (-D)) (show r ≠ 0 by omega)
    have b1 := Int.emod_lt_of_pos (256 * (-D)) hr
    have s : r * (256 * D / r + 256 * (-D) / r) = -(256 * D % r + 256 * (-D) % r) := by
      rw [Int.mul_add]
      omega
    generalize 256 * D / r + 256 * (-D) / r = q at *
    generalize 256 * D % r = x at *
    generalize 256 * (-D) % r = y at *
    have l : q ≤ 0 := by
      by_cases c : q ≤ 0
      · exact c
      · have := Int.mul_le_mul_of_nonneg_left (show 1 ≤ q by omega) (show 0 ≤ r by omega)
        omega
    have g : -2 < q := by
      by_cases c : -2 < q
      · exact c
      · have := Int.mul_le_mul_of_nonneg_left (show q ≤ -2 by omega) (show 0 ≤ r by omega)
        omega
    omega
  unfold cosV mn mx
  generalize 256 * D / r = q at *
  generalize 256 * (-D) / r = p at *
  repeat' split
  all_goals omega
theorem LightCos (a0_0 a0_1 a0_2 a1_0 a1_1 a1_2 : Int) (b0_0 : -9223372036854775808 ≤ a0_0 ∧ a0_0 ≤ 9223372036854775807) (b0_1 : -9223372036854775808 ≤ a0_1 ∧ a0_1 ≤ 9223372036854775807) (b0_2 : -9223372036854775808 ≤ a0_2 ∧ a0_2 ≤ 9223372036854775807) (b1_0 : -9223372036854775808 ≤ a1_0 ∧ a1_0 ≤ 9223372036854775807) (b1_1 : -9223372036854775808 ≤ a1_1 ∧ a1_1 ≤ 9223372036854775807) (b1_2 : -9223372036854775808 ≤ a1_2 ∧ a1_2 ≤ 9223372036854775807) :
    ∃ k, G.relievolaw19_LightCos.f k a0_0 a0_1 a0_2 a1_0 a1_1 a1_2 = some true := by
  refine ⟨80, ?_⟩
  unfold G.relievolaw19_LightCos.f
  rw [alive_80, Option.bind_some, if_pos rfl]
  have zb := z_beq ⟨a0_0, a0_1, a0_2⟩
  have zc := z_beq ⟨a1_0, a1_1, a1_2⟩
  dsimp only at zb zc
  by_cases h : fineC ⟨a0_0, a0_1, a0_2⟩ ⟨a1_0, a1_1, a1_2⟩
  case neg =>
    have e := cos_no 79 ⟨a0_0, a0_1, a0_2⟩ ⟨a1_0, a1_1, a1_2⟩ h
    dsimp only at e
    rw [e, Option.bind_some, within_eq _ _ _ _ (by decide) (by decide), Option.bind_some]
    by_cases h3 : (⟨a0_0, a0_1, a0_2⟩ : Vec).in_ 32768
    case neg => rw [decide_eq_false h3, if_neg (by decide), G.relievolaw19_LightCos.j0, if_pos rfl]; rfl
    rw [decide_eq_true h3, if_pos rfl, within_eq _ _ _ _ (by decide) (by decide), Option.bind_some]
    by_cases h4 : (⟨a1_0, a1_1, a1_2⟩ : Vec).in_ 32768
    case neg => rw [decide_eq_false h4, if_neg (by decide), G.relievolaw19_LightCos.j0, if_pos rfl]; rfl
    rw [decide_eq_true h4, if_pos rfl, zb]
    by_cases h1 : (⟨a0_0, a0_1, a0_2⟩ : Vec).zero
    · rw [decide_eq_true h1, if_pos rfl, G.relievolaw19_LightCos.j0, if_pos rfl]; rfl
    rw [decide_eq_false h1, if_neg (by decide), zc]
    by_cases h2 : (⟨a1_0, a1_1, a1_2⟩ : Vec).zero
    · rw [decide_eq_true h2, G.relievolaw19_LightCos.j0, if_pos rfl]; rfl
    exact absurd ⟨h1, h2, h3, h4⟩ h
  have h' := h
  obtain ⟨h1, h2, h3, h4⟩ := h'
  obtain ⟨r, er, hr, rp⟩ := cos_eq 14 ⟨a0_0, a0_1, a0_2⟩ ⟨a1_0, a1_1, a1_2⟩ h
  obtain ⟨s, es, hs, sp⟩ := cos_eq 13 ⟨a1_0, a1_1, a1_2⟩ ⟨a0_0, a0_1, a0_2⟩ ⟨h2, h1, h4, h3⟩
  obtain ⟨t, et, ht, tp⟩ := cos_eq 13 ⟨a0_0, a0_1, a0_2⟩ ⟨a0_0, a0_1, a0_2⟩ ⟨h1, h1, h3, h3⟩
  have cx := h4.1
  have cy := h4.2.1
  have cz := h4.2.2
  dsimp only at cx cy cz
  obtain ⟨u, eu, hu, up⟩ := cos_eq 13 ⟨a0_0, a0_1, a0_2⟩ ⟨-a1_0, -a1_1, -a1_2⟩ ⟨h1, fun z => h2 (by obtain ⟨x, y, w⟩ := z; dsimp only at x y w; exact ⟨by dsimp only; omega, by dsimp only; omega, by dsimp only; omega⟩), h3, ⟨by dsimp only; omega, by dsimp only; omega, by dsimp only; omega⟩⟩
  have nu : nn (⟨-a1_0, -a1_1, -a1_2⟩ : Vec) = nn (⟨a1_0, a1_1, a1_2⟩ : Vec) := by unfold nn; dsimp only; grind
  have du : dn (⟨a0_0, a0_1, a0_2⟩ : Vec) ⟨-a1_0, -a1_1, -a1_2⟩ = -dn (⟨a0_0, a0_1, a0_2⟩ : Vec) ⟨a1_0, a1_1, a1_2⟩ := by unfold dn; dsimp only; grind
  have ds : dn (⟨a1_0, a1_1, a1_2⟩ : Vec) ⟨a0_0, a0_1, a0_2⟩ = dn (⟨a0_0, a0_1, a0_2⟩ : Vec) ⟨a1_0, a1_1, a1_2⟩ := by unfold dn; dsimp only; grind
  have dt : dn (⟨a0_0, a0_1, a0_2⟩ : Vec) ⟨a0_0, a0_1, a0_2⟩ = nn (⟨a0_0, a0_1, a0_2⟩ : Vec) := rfl
  rw [nu] at hu
  rw [Int.mul_comm] at hs
  have rs := hr.only hs
  have ru := hr.only hu
  subst rs
  subst ru
  have n0 := nn_pos h1
  have tt : t = nn (⟨a0_0, a0_1, a0_2⟩ : Vec) := ht.only ⟨by omega, Int.le_refl _, by
    have : (nn (⟨a0_0, a0_1, a0_2⟩ : Vec) + 1) * (nn (⟨a0_0, a0_1, a0_2⟩ : Vec) + 1) = nn (⟨a0_0, a0_1, a0_2⟩ : Vec) * nn (⟨a0_0, a0_1, a0_2⟩ : Vec) + 2 * nn (⟨a0_0, a0_1, a0_2⟩ : Vec) + 1 := by grind
    omega⟩
  have ct : cosV (nn (⟨a0_0, a0_1, a0_2⟩ : Vec)) t = 256 := by
    rw [tt]
    unfold cosV
    rw [Int.mul_ediv_cancel _ (by omega)]
    rfl
  rw [ds] at es
  rw [du] at eu
  rw [dt, ct] at et
  have D0 : G.vec_Dot.f a0_0 a0_1 a0_2 a1_0 a1_1 a1_2 = some (dn (⟨a0_0, a0_1, a0_2⟩ : Vec) ⟨a1_0, a1_1, a1_2⟩) := dot_eq h3 h4 (by decide)
  have ci := cosV_in (dn (⟨a0_0, a0_1, a0_2⟩ : Vec) ⟨a1_0, a1_1, a1_2⟩) r
  have cj := cosV_in (-dn (⟨a0_0, a0_1, a0_2⟩ : Vec) ⟨a1_0, a1_1, a1_2⟩) r
  have cn := cosV_neg (dn (⟨a0_0, a0_1, a0_2⟩ : Vec) ⟨a1_0, a1_1, a1_2⟩) rp
  have z0 : cosV 0 r = 0 := by unfold cosV; rw [Int.mul_zero, Int.zero_ediv]; rfl
  have sc : G.vec_Scale.f a1_0 a1_1 a1_2 (-1) = some (-a1_0, -a1_1, -a1_2) := by
    unfold G.vec_Scale.f
    rw [w64 (by omega), w64 (by omega), w64 (by omega), Int.mul_neg_one, Int.mul_neg_one, Int.mul_neg_one]
  dsimp only at er es et eu
  generalize dn (⟨a0_0, a0_1, a0_2⟩ : Vec) ⟨a1_0, a1_1, a1_2⟩ = D at *
  rw [er, Option.bind_some, within_eq _ _ _ _ (by decide) (by decide), Option.bind_some, decide_eq_true h3, if_pos rfl, within_eq _ _ _ _ (by decide) (by decide), Option.bind_some, decide_eq_true h4, if_pos rfl,
    zb, decide_eq_false h1, if_neg (by decide), zc, decide_eq_false h2, G.relievolaw19_LightCos.j0, if_neg (by decide), sc, Option.bind_some]
  dsimp only
  rw [eu, Option.bind_some, es, Option.bind_some, if_pos rfl, et, Option.bind_some, if_pos rfl, if_pos (by omega), if_pos (by omega), w64 (by omega), D0, Option.bind_some]
  have fin : (if D = 0 then some (cosV D r == 0) else some true) = some true := by
    by_cases d : D = 0
    · rw [if_pos d, d, z0]
      rfl
    · rw [if_neg d]
  by_cases c : cosV D r + cosV (-D) r = 0
  · rw [if_pos c, fin]
  · rw [if_neg c, if_pos (by omega), fin]
end Go.Proofs.Ytmhnidmbgicgeaa.Pure
