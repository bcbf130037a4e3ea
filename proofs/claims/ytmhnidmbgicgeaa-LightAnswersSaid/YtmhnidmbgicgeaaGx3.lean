-- Written by a program of this session (wip/gen), out of the translation; Lean checks it.
import Derived.Test.YtmhnidmbgicgeaaGx0
namespace Go.Proofs.Ytmhnidmbgicgeaa.G
open Go.RowKit Go.Proofs.YtmhnidmbgicgeaaW.PrintWords Go.Proofs.YtmhnidmbgicgeaaW.PrintLast Go.Proofs.YtmhnidmbgicgeaaW.PrintMore
attribute [local go_sem] max2_int min2_int max_two min_two max_three min_three max_four min_four   -- for this text's walks alone
set_option linter.unusedVariables false
set_option linter.unusedSimpArgs false

/-! ### light_Power: function 12 -/
mutual
def light_Power.j0 : Nat → Int → Int → Bool → Option (Int)
  | 0, _, _, _ => none
  | k + 1, x0, x1, x19 => if x19 = true then (some 0) else (light_Power.l0 k x0 256 x1 0)
def light_Power.l0 : Nat → Int → Int → Int → Int → Option (Int)
  | 0, _, _, _, _ => none
  | k + 1, x0, x5, x20, x21 => if x21 < x20 then (light_Power.l0 k x0 ((wrap64 (x5 * x0)) / 256) x20 (wrap64 (x21 + 1))) else (some x5)
end
def light_Power.f (k : Nat) (a0 : Int) (a1 : Int) : Option (Int) := if a0 < 0 then (light_Power.j0 k a0 a1 true) else (if a0 > 256 then (light_Power.j0 k a0 a1 true) else (if a1 < 1 then (light_Power.j0 k a0 a1 true) else (light_Power.j0 k a0 a1 (decide (a1 > 64)))))
theorem light_Power.mono_l : ∀ k, (∀ y0 y1 y2, LeO (light_Power.j0 k y0 y1 y2) (light_Power.j0 (k + 1) y0 y1 y2)) ∧ (∀ y0 y1 y2 y3, LeO (light_Power.l0 k y0 y1 y2 y3) (light_Power.l0 (k + 1) y0 y1 y2 y3))
  | 0 => ⟨fun _ _ _ r h => by simp [light_Power.j0] at h, fun _ _ _ _ r h => by simp [light_Power.l0] at h⟩
  | k + 1 => by
    obtain ⟨ih0, ih1⟩ := light_Power.mono_l k
    refine ⟨?_, ?_⟩
    · intro y0 y1 y2
      unfold light_Power.j0
      repeat' first
      | (with_reducible exact ih0 _ _ _)
      | (with_reducible exact ih1 _ _ _ _)
      | (with_reducible exact LeO.refl _)
      | (with_reducible exact LeO.none _)
      | (with_reducible refine LeO.ite ?_ ?_)
      | (with_reducible refine LeO.bind ?_ (fun _ => ?_))
      | exact ih0 _ _ _
      | exact ih1 _ _ _ _
      | exact LeO.none _
      | refine LeO.ite ?_ ?_
      | refine LeO.bind ?_ (fun _ => ?_)
    · intro y0 y1 y2 y3
      unfold light_Power.l0
      repeat' first
      | (with_reducible exact ih0 _ _ _)
      | (with_reducible exact ih1 _ _ _ _)
      | (with_reducible exact LeO.refl _)
      | (with_reducible exact LeO.none _)
      | (with_reducible refine LeO.ite ?_ ?_)
      | (with_reducible refine LeO.bind ?_ (fun _ => ?_))
      | exact ih0 _ _ _
      | exact ih1 _ _ _ _
      | exact LeO.none _
      | refine LeO.ite ?_ ?_
      | refine LeO.bind ?_ (fun _ => ?_)
theorem light_Power.mono : ∀ a0 a1 k, LeO (light_Power.f k a0 a1) (light_Power.f (k + 1) a0 a1) := by
  intro a0 a1 k
  obtain ⟨ih0, ih1⟩ := light_Power.mono_l k
  unfold light_Power.f
  repeat' first
      | (with_reducible exact ih0 _ _ _)
      | (with_reducible exact ih1 _ _ _ _)
      | (with_reducible exact LeO.refl _)
      | (with_reducible exact LeO.none _)
      | (with_reducible refine LeO.ite ?_ ?_)
      | (with_reducible refine LeO.bind ?_ (fun _ => ?_))
      | exact ih0 _ _ _
      | exact ih1 _ _ _ _
      | exact LeO.none _
      | refine LeO.ite ?_ ?_
      | refine LeO.bind ?_ (fun _ => ?_)
set_option maxHeartbeats 8000000 in
set_option maxRecDepth 100000 in
theorem light_Power.calls (k : Nat) (a0 : Int) (a1 : Int) (r : Int) (w : World) (h : light_Power.f k a0 a1 = some r) :
    Calls Try.prog 12 #[.int .i64 a0, .int .i64 a1] w fun e w' => e = .returned (.int .i64 r) ∧ Drawn0 w w' := by
 have H : (if a0 < 0 then (light_Power.j0 k a0 a1 true) else (if a0 > 256 then (light_Power.j0 k a0 a1 true) else (if a1 < 1 then (light_Power.j0 k a0 a1 true) else (light_Power.j0 k a0 a1 (decide (a1 > 64)))))) = some r := h
 clear h
 have HC3 := Aside0.mk H
 clear H
 go_enter Try.func12, Try.ntmps12
 go_upto_region 1 with (fail)
 go_cut [19] (fun v19 wc => ∃ (kq : Nat) (x19_2 : Bool), v19 = .bool x19_2 ∧ Aside0 (light_Power.j0 kq a0 a1 x19_2 = some r) ∧ Aside0 (kq ≤ k) ∧ Drawn0 w wc)
 case first =>
  have H := HC3.out
  clear HC3
  by_cases c4 : a0 < 0
  ·rw [if_pos c4] at H
   have c4b0 : decide (a0 < 0) = true := decide_eq_true c4
   clear c4
   (first | rw [c4b0] | (simp only [i64_w, i32_w]; rw [c4b0]) | skip)
   have H' := Aside0.mk H
   clear H
   go_wp2
   go_meet
   case rel => exact ⟨_, (true), (by first | rfl | (simp; done) | (simp [*]; done)), H', ⟨by first | omega | exact Nat.le_refl _⟩, by repeat (first | exact Drawn0.refl _ | apply Drawn0.step)⟩
  rw [if_neg c4] at H
  have c4b0 : decide (a0 < 0) = false := decide_eq_false c4
  clear c4
  (first | rw [c4b0] | (simp only [i64_w, i32_w]; rw [c4b0]) | skip)
  by_cases c5 : a0 > 256
  ·rw [if_pos c5] at H
   have c5b0 : decide (256 < a0) = true := decide_eq_true c5
   clear c5
   have H' := Aside0.mk H
   clear H
   go_wp2
   go_meet
   case rel => exact ⟨_, (true), (by first | rfl | (simp; done) | (simp [*]; done)), H', ⟨by first | omega | exact Nat.le_refl _⟩, by repeat (first | exact Drawn0.refl _ | apply Drawn0.step)⟩
  rw [if_neg c5] at H
  have c5b0 : decide (256 < a0) = false := decide_eq_false c5
  clear c5
  by_cases c6 : a1 < 1
  ·rw [if_pos c6] at H
   have c6b0 : decide (a1 < 1) = true := decide_eq_true c6
   clear c6
   have H' := Aside0.mk H
   clear H
   go_wp2
   go_meet
   case rel => exact ⟨_, (true), (by first | rfl | (simp; done) | (simp [*]; done)), H', ⟨by first | omega | exact Nat.le_refl _⟩, by repeat (first | exact Drawn0.refl _ | apply Drawn0.step)⟩
  rw [if_neg c6] at H
  have c6b0 : decide (a1 < 1) = false := decide_eq_false c6
  clear c6
  have H' := Aside0.mk H
  clear H
  go_wp2
  go_meet
  case rel => exact ⟨_, (decide (a1 > 64)), (by first | rfl | (simp; done) | (simp [*]; done)), H', ⟨by first | omega | exact Nat.le_refl _⟩, by repeat (first | exact Drawn0.refl _ | apply Drawn0.step)⟩
 clear HC3
 obtain ⟨kq, x19_2, rfl, HA, HJ2, ⟨mc2, rfl⟩⟩ := hcut
 cases kq with
 | zero => exact absurd HA.out (by simp [light_Power.j0])
 | succ kj2 =>
  have H := HA.out
  clear HA
  simp only [light_Power.j0] at H
  by_cases c7 : x19_2 = true
  ·subst c7
   have H1 : (some 0) = some r := by rw [if_pos rfl] at H; exact H
   clear H
   have H := H1
   clear H1
   obtain rfl := Option.some.inj H
   go_wp2
   go_ret
   exact ⟨by first | rfl | (simp; done) | (simp [*]; done), by repeat (first | exact Drawn0.refl _ | apply Drawn0.step)⟩
  replace c7 := Bool.eq_false_iff.mpr c7
  subst c7
  have H1 : (light_Power.l0 kj2 a0 256 a1 0) = some r := by rw [if_neg (show ¬ (false = true) by decide)] at H; exact H
  clear H
  have H := H1
  clear H1
  have H' := Aside0.mk H
  clear H
  go_wp2
  go_loopg [5, 21] kj2 (fun kq v5 v21 w' => ∃ (x5_2 : Int) (x21_2 : Int), v5 = .int .i64 x5_2 ∧ v21 = .int .i64 x21_2 ∧ Aside0 (light_Power.l0 kq a0 x5_2 a1 x21_2 = some r) ∧ Aside0 (kq ≤ kj2) ∧ Drawn0 w w')
  case atStart => exact ⟨(256), (0), (by first | rfl | (simp; done) | (simp [*]; done)), (by first | rfl | (simp; done) | (simp [*]; done)), H', ⟨Nat.le_refl _⟩, by repeat (first | exact Drawn0.refl _ | apply Drawn0.step)⟩
  case round =>
   clear H'
   try clear c7
   obtain ⟨x5_2, x21_2, rfl, rfl, HA, HK2, ⟨m2, rfl⟩⟩ := hrel
   cases gk with
   | zero => exact absurd HA.out (by simp [light_Power.l0])
   | succ k2 =>
    have H := HA.out
    clear HA
    simp only [light_Power.l0] at H
    by_cases c8 : x21_2 < a1
    ·rw [if_pos c8] at H
     have c8b0 : decide (x21_2 < a1) = true := decide_eq_true c8
     clear c8
     have H' := Aside0.mk H
     clear H
     go_wp2
     go_roundg k2
     case measure => have := HJ2.out; have := HK2.out; omega
     case rel => exact ⟨((wrap64 (x5_2 * a0)) / 256), (wrap64 (x21_2 + 1)), (by first | rfl | (simp; done) | (simp [*]; done)), (by first | rfl | (simp; done) | (simp [*]; done)), H', ⟨by have := HJ2.out; have := HK2.out; omega⟩, by repeat (first | exact Drawn0.refl _ | apply Drawn0.step)⟩
    rw [if_neg c8] at H
    have c8b0 : decide (x21_2 < a1) = false := decide_eq_false c8
    clear c8
    obtain rfl := Option.some.inj H
    go_wp2
    go_ret
    exact ⟨by first | rfl | (simp; done) | (simp [*]; done), by repeat (first | exact Drawn0.refl _ | apply Drawn0.step)⟩

end Go.Proofs.Ytmhnidmbgicgeaa.G
