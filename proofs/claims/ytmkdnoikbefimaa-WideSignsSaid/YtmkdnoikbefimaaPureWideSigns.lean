/- A factor with the other sign turns the product's; factors may change places; a product's order is told by its sign: for all ints. -/
import Derived.Test.YtmkdnoikbefimaaGx25
import Derived.Test.YtmkdnoikbefimaaWideAlive
namespace Go.Proofs.Ytmkdnoikbefimaa.Pure
open Go.RowKit Go.Proofs.VecMath Go.Proofs.Ytmkdnoikbefimaa.M Go.Proofs.YtmkdnoikbefimaaW.PrintWords
set_option linter.unusedVariables false
theorem of_wf {n : Int} (h : (Lit.int .i64 n).wf = true) : i64b n := by
  unfold Lit.wf at h
  rw [Bool.and_eq_true, decide_eq_true_eq, decide_eq_true_eq] at h
  exact h

theorem sg_prod {a b : Int} (ha : a ≠ 0) (hb : b ≠ 0) : decide (sg (a * b - 0) < 0) = (decide (a < 0) != decide (b < 0)) := by
  rw [Int.sub_zero]
  have e : (sg (a * b) < 0) ↔ a * b < 0 := by unfold sg; repeat' split; all_goals omega
  rw [decide_eq_decide.2 e]
  by_cases h1 : a < 0
  · by_cases h2 : b < 0
    · have := Int.mul_pos_of_neg_of_neg h1 h2
      rw [decide_eq_true h1, decide_eq_true h2, decide_eq_false (by omega)]
      rfl
    · have := Int.mul_neg_of_neg_of_pos h1 (show 0 < b by omega)
      rw [decide_eq_true h1, decide_eq_false h2, decide_eq_true this]
      rfl
  · by_cases h2 : b < 0
    · have := Int.mul_neg_of_pos_of_neg (show 0 < a by omega) h2
      rw [decide_eq_false h1, decide_eq_true h2, decide_eq_true this]
      rfl
    · have := Int.mul_pos (show 0 < a by omega) (show 0 < b by omega)
      rw [decide_eq_false h1, decide_eq_false h2, decide_eq_false (by omega)]
      rfl
theorem j1_ok (k : Nat) (a b : Int) (ha : i64b a) (hb : i64b b) : G.relievolaw01_WideSigns.j1 (k + 1) a b false (hiW (a * b)) (loW (a * b)) = some true := by
  rw [G.relievolaw01_WideSigns.j1, if_neg (by decide)]
  by_cases z : a = wrap64 (-a)
  · rw [if_pos z]
  · rw [if_neg z]
    have hp := prod_in ha hb
    have p := prod128 ha hb
    unfold i64b at ha
    have na : -a ≤ 9223372036854775807 := by
      by_cases c : -a ≤ 9223372036854775807
      · exact c
      · exact absurd (by unfold wrap64; omega) z
    rw [neg_eq (a * b) p (by unfold i128; omega), Option.bind_some]
    dsimp only
    rw [if_pos rfl, w64 (n := -a) (by omega), mulW_eq (-a) b (by unfold i64b; omega) hb, Option.bind_some, Int.neg_mul]
    simp
theorem j0_ok (k : Nat) (a b : Int) (ha : i64b a) (hb : i64b b) (z : Bool) (hz : z = decide (a = 0 ∨ b = 0)) : G.relievolaw01_WideSigns.j0 (k + 4) a b z (hiW (a * b)) (loW (a * b)) = some true := by
  rw [G.relievolaw01_WideSigns.j0, of_eq 0 (by unfold i64b; decide), Option.bind_some]
  dsimp only
  rw [cmpW_eq k (a * b) 0, Option.bind_some]
  by_cases c : a = 0 ∨ b = 0
  · rw [decide_eq_true c] at hz
    have e : a * b = 0 := by rcases c with c | c <;> rw [c] <;> simp
    have s : sg (a * b - 0) = 0 := by rw [e]; rfl
    rw [hz, s, if_neg (by decide), if_pos rfl, j1_ok (k + 2) a b ha hb]
  · rw [decide_eq_false c] at hz
    have a0 : a ≠ 0 := fun h => c (.inl h)
    have b0 : b ≠ 0 := fun h => c (.inr h)
    have e : a * b ≠ 0 := Int.mul_ne_zero a0 b0
    have s : (sg (a * b - 0) == 0) = false := by
      rw [beq_eq_false_iff_ne, Int.sub_zero]
      exact fun h => e (sg_zero.1 h)
    rw [hz, s, if_neg (by decide), if_neg (by decide), sg_prod a0 b0, bne_self_eq_false, j1_ok (k + 2) a b ha hb]
theorem WideSigns : G.relievolaw01_WideSigns.Pure := by
  intro a b ha hb
  replace ha := of_wf ha
  replace hb := of_wf hb
  refine ⟨4, ?_⟩
  unfold G.relievolaw01_WideSigns.f
  rw [aliveW_at 0, Option.bind_some, if_pos rfl, mulW_eq a b ha hb, Option.bind_some, mulW_eq b a hb ha, Option.bind_some, Int.mul_comm b a]
  dsimp only
  rw [if_neg (by simp)]
  by_cases c : a = 0
  · rw [if_pos c, j0_ok 0 a b ha hb true (decide_eq_true (Or.inl c)).symm]
  · rw [if_neg c, j0_ok 0 a b ha hb (b == 0) (by rw [Bool.eq_iff_iff, beq_iff_eq, decide_eq_true_eq]; exact ⟨.inr, fun h => h.resolve_left c⟩)]
end Go.Proofs.Ytmkdnoikbefimaa.Pure
