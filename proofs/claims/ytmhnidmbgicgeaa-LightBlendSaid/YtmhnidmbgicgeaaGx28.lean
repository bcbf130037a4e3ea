-- Written by a program of this session (wip/gen), out of the translation; Lean checks it.
import Derived.Test.YtmhnidmbgicgeaaGx0
namespace Go.Proofs.Ytmhnidmbgicgeaa.G
open Go.RowKit Go.Proofs.YtmhnidmbgicgeaaW.PrintWords Go.Proofs.YtmhnidmbgicgeaaW.PrintLast Go.Proofs.YtmhnidmbgicgeaaW.PrintMore
attribute [local go_sem] max2_int min2_int max_two min_two max_three min_three max_four min_four   -- for this text's walks alone
set_option linter.unusedVariables false
set_option linter.unusedSimpArgs false

/-! ### relievoref02_Round: function 26 -/
def relievoref02_Round.j0 : Nat → Int → Int → Bool → Option (Int)
  | 0, _, _, _ => none
  | k + 1, x0, x1, x20 => if x20 = true then (some 0) else (if x1 = 0 then (none) else (if (Int.tmod x0 x1) < 0 then (if (wrap64 ((Int.tmod x0 x1) + x1)) ≥ (wrap64 (x1 - (wrap64 ((Int.tmod x0 x1) + x1)))) then (some (wrap64 ((wrap64 ((wrap64 (Int.tdiv x0 x1)) - 1)) + 1))) else (some (wrap64 ((wrap64 (Int.tdiv x0 x1)) - 1)))) else (if (Int.tmod x0 x1) ≥ (wrap64 (x1 - (Int.tmod x0 x1))) then (some (wrap64 ((wrap64 (Int.tdiv x0 x1)) + 1))) else (some (wrap64 (Int.tdiv x0 x1))))))
def relievoref02_Round.f (k : Nat) (a0 : Int) (a1 : Int) : Option (Int) := if a1 < 1 then (relievoref02_Round.j0 k a0 a1 true) else (if a1 > 2305843009213693952 then (relievoref02_Round.j0 k a0 a1 true) else (if a0 < (-2305843009213693952) then (relievoref02_Round.j0 k a0 a1 true) else (relievoref02_Round.j0 k a0 a1 (decide (a0 > 2305843009213693952)))))
theorem relievoref02_Round.mono_l : ∀ k, (∀ y0 y1 y2, LeO (relievoref02_Round.j0 k y0 y1 y2) (relievoref02_Round.j0 (k + 1) y0 y1 y2))
  | 0 => fun _ _ _ r h => by simp [relievoref02_Round.j0] at h
  | k + 1 => by
    have ih0 := relievoref02_Round.mono_l k
    · intro y0 y1 y2
      unfold relievoref02_Round.j0
      repeat' first
      | (with_reducible exact ih0 _ _ _)
      | (with_reducible exact LeO.refl _)
      | (with_reducible exact LeO.none _)
      | (with_reducible refine LeO.ite ?_ ?_)
      | (with_reducible refine LeO.bind ?_ (fun _ => ?_))
      | exact ih0 _ _ _
      | exact LeO.none _
      | refine LeO.ite ?_ ?_
      | refine LeO.bind ?_ (fun _ => ?_)
theorem relievoref02_Round.mono : ∀ a0 a1 k, LeO (relievoref02_Round.f k a0 a1) (relievoref02_Round.f (k + 1) a0 a1) := by
  intro a0 a1 k
  have ih0 := relievoref02_Round.mono_l k
  unfold relievoref02_Round.f
  repeat' first
      | (with_reducible exact ih0 _ _ _)
      | (with_reducible exact LeO.refl _)
      | (with_reducible exact LeO.none _)
      | (with_reducible refine LeO.ite ?_ ?_)
      | (with_reducible refine LeO.bind ?_ (fun _ => ?_))
      | exact ih0 _ _ _
      | exact LeO.none _
      | refine LeO.ite ?_ ?_
      | refine LeO.bind ?_ (fun _ => ?_)
set_option maxHeartbeats 8000000 in
set_option maxRecDepth 100000 in
theorem relievoref02_Round.calls (k : Nat) (a0 : Int) (a1 : Int) (r : Int) (w : World) (h : relievoref02_Round.f k a0 a1 = some r) :
    Calls Try.prog 26 #[.int .i64 a0, .int .i64 a1] w fun e w' => e = .returned (.int .i64 r) ∧ Drawn0 w w' := by
 have H : (if a1 < 1 then (relievoref02_Round.j0 k a0 a1 true) else (if a1 > 2305843009213693952 then (relievoref02_Round.j0 k a0 a1 true) else (if a0 < (-2305843009213693952) then (relievoref02_Round.j0 k a0 a1 true) else (relievoref02_Round.j0 k a0 a1 (decide (a0 > 2305843009213693952)))))) = some r := h
 clear h
 have HC3 := Aside0.mk H
 clear H
 go_enter Try.func26, Try.ntmps26
 go_upto_region 1 with (fail)
 go_cut [20] (fun v20 wc => ∃ (kq : Nat) (x20_2 : Bool), v20 = .bool x20_2 ∧ Aside0 (relievoref02_Round.j0 kq a0 a1 x20_2 = some r) ∧ Aside0 (kq ≤ k) ∧ Drawn0 w wc)
 case first =>
  have H := HC3.out
  clear HC3
  by_cases c4 : a1 < 1
  ·rw [if_pos c4] at H
   have c4b0 : decide (a1 < 1) = true := decide_eq_true c4
   clear c4
   (first | rw [c4b0] | (simp only [i64_w, i32_w]; rw [c4b0]) | skip)
   have H' := Aside0.mk H
   clear H
   go_wp2
   go_meet
   case rel => exact ⟨_, (true), (by first | rfl | (simp; done) | (simp [*]; done)), H', ⟨by first | omega | exact Nat.le_refl _⟩, by repeat (first | exact Drawn0.refl _ | apply Drawn0.step)⟩
  rw [if_neg c4] at H
  have c4b0 : decide (a1 < 1) = false := decide_eq_false c4
  clear c4
  (first | rw [c4b0] | (simp only [i64_w, i32_w]; rw [c4b0]) | skip)
  by_cases c5 : a1 > 2305843009213693952
  ·rw [if_pos c5] at H
   have c5b0 : decide (2305843009213693952 < a1) = true := decide_eq_true c5
   clear c5
   have H' := Aside0.mk H
   clear H
   go_wp2
   go_meet
   case rel => exact ⟨_, (true), (by first | rfl | (simp; done) | (simp [*]; done)), H', ⟨by first | omega | exact Nat.le_refl _⟩, by repeat (first | exact Drawn0.refl _ | apply Drawn0.step)⟩
  rw [if_neg c5] at H
  have c5b0 : decide (2305843009213693952 < a1) = false := decide_eq_false c5
  clear c5
  by_cases c6 : a0 < (-2305843009213693952)
  ·rw [if_pos c6] at H
   have c6b0 : decide (a0 < (-2305843009213693952)) = true := decide_eq_true c6
   clear c6
   have H' := Aside0.mk H
   clear H
   go_wp2
   go_meet
   case rel => exact ⟨_, (true), (by first | rfl | (simp; done) | (simp [*]; done)), H', ⟨by first | omega | exact Nat.le_refl _⟩, by repeat (first | exact Drawn0.refl _ | apply Drawn0.step)⟩
  rw [if_neg c6] at H
  have c6b0 : decide (a0 < (-2305843009213693952)) = false := decide_eq_false c6
  clear c6
  have H' := Aside0.mk H
  clear H
  go_wp2
  go_meet
  case rel => exact ⟨_, (decide (a0 > 2305843009213693952)), (by first | rfl | (simp; done) | (simp [*]; done)), H', ⟨by first | omega | exact Nat.le_refl _⟩, by repeat (first | exact Drawn0.refl _ | apply Drawn0.step)⟩
 clear HC3
 obtain ⟨kq, x20_2, rfl, HA, HJ2, ⟨mc2, rfl⟩⟩ := hcut
 cases kq with
 | zero => exact absurd HA.out (by simp [relievoref02_Round.j0])
 | succ kj2 =>
  have H := HA.out
  clear HA
  simp only [relievoref02_Round.j0] at H
  by_cases c7 : x20_2 = true
  ·subst c7
   have H1 : (some 0) = some r := by rw [if_pos rfl] at H; exact H
   clear H
   have H := H1
   clear H1
   obtain rfl := Option.some.inj H
   go_wp2
   go_ret
   exact ⟨by first | rfl | (simp; done) | (simp [*]; done), by repeat (first | exact Drawn0.refl _ | apply Drawn0.step)⟩
  replace c7 := Bool.eq_false_iff.mpr c7
  subst c7
  have H1 : (if a1 = 0 then (none) else (if (Int.tmod a0 a1) < 0 then (if (wrap64 ((Int.tmod a0 a1) + a1)) ≥ (wrap64 (a1 - (wrap64 ((Int.tmod a0 a1) + a1)))) then (some (wrap64 ((wrap64 ((wrap64 (Int.tdiv a0 a1)) - 1)) + 1))) else (some (wrap64 ((wrap64 (Int.tdiv a0 a1)) - 1)))) else (if (Int.tmod a0 a1) ≥ (wrap64 (a1 - (Int.tmod a0 a1))) then (some (wrap64 ((wrap64 (Int.tdiv a0 a1)) + 1))) else (some (wrap64 (Int.tdiv a0 a1)))))) = some r := by rw [if_neg (show ¬ (false = true) by decide)] at H; exact H
  clear H
  have H := H1
  clear H1
  by_cases c8 : a1 = 0
  ·rw [if_pos c8] at H
   exact absurd H (by simp)
  rw [if_neg c8] at H
  have c8b0 : (a1 == 0) = false := beq_eq_false_iff_ne.mpr c8
  have c8b1 : (a1 != 0) = true := bne_iff_ne.mpr c8
  by_cases c9 : (Int.tmod a0 a1) < 0
  ·rw [if_pos c9] at H
   have c9b0 : decide ((Int.tmod a0 a1) < 0) = true := decide_eq_true c9
   clear c9
   by_cases c10 : (wrap64 ((Int.tmod a0 a1) + a1)) ≥ (wrap64 (a1 - (wrap64 ((Int.tmod a0 a1) + a1))))
   ·rw [if_pos c10] at H
    have c10b0 : decide ((wrap64 (a1 - (wrap64 ((Int.tmod a0 a1) + a1)))) ≤ (wrap64 ((Int.tmod a0 a1) + a1))) = true := decide_eq_true c10
    clear c10
    obtain rfl := Option.some.inj H
    go_wp2
    go_ret
    exact ⟨by first | rfl | (simp; done) | (simp [*]; done), by repeat (first | exact Drawn0.refl _ | apply Drawn0.step)⟩
   rw [if_neg c10] at H
   have c10b0 : decide ((wrap64 (a1 - (wrap64 ((Int.tmod a0 a1) + a1)))) ≤ (wrap64 ((Int.tmod a0 a1) + a1))) = false := decide_eq_false c10
   clear c10
   obtain rfl := Option.some.inj H
   go_wp2
   go_ret
   exact ⟨by first | rfl | (simp; done) | (simp [*]; done), by repeat (first | exact Drawn0.refl _ | apply Drawn0.step)⟩
  rw [if_neg c9] at H
  have c9b0 : decide ((Int.tmod a0 a1) < 0) = false := decide_eq_false c9
  clear c9
  by_cases c11 : (Int.tmod a0 a1) ≥ (wrap64 (a1 - (Int.tmod a0 a1)))
  ·rw [if_pos c11] at H
   have c11b0 : decide ((wrap64 (a1 - (Int.tmod a0 a1))) ≤ (Int.tmod a0 a1)) = true := decide_eq_true c11
   clear c11
   obtain rfl := Option.some.inj H
   go_wp2
   go_ret
   exact ⟨by first | rfl | (simp; done) | (simp [*]; done), by repeat (first | exact Drawn0.refl _ | apply Drawn0.step)⟩
  rw [if_neg c11] at H
  have c11b0 : decide ((wrap64 (a1 - (Int.tmod a0 a1))) ≤ (Int.tmod a0 a1)) = false := decide_eq_false c11
  clear c11
  obtain rfl := Option.some.inj H
  go_wp2
  go_ret
  exact ⟨by first | rfl | (simp; done) | (simp [*]; done), by repeat (first | exact Drawn0.refl _ | apply Drawn0.step)⟩

end Go.Proofs.Ytmhnidmbgicgeaa.G
