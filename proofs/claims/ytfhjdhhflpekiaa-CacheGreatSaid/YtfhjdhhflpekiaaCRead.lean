/- What the calls answer that only read a cache: size, Compare, Held, MinFunc, Index, Tally. -/
import Derived.Test.YtfhjdhhflpekiaaCKit
namespace Go.Proofs.Ytfhjdhhflpekiaa.G
open Go.RowKit Go.Proofs.Cache Go.Proofs.YtfhjdhhflpekiaaW.PrintWords Go.Proofs.YtfhjdhhflpekiaaW.PrintLast Go.Proofs.YtfhjdhhflpekiaaW.PrintMore
set_option linter.unusedVariables false
set_option linter.unusedSimpArgs false
set_option maxHeartbeats 1000000 in
set_option maxRecDepth 100000 in
theorem size.calls (B : Nat) (e : Ent) (w : World) (h : EntAt B w e) :
    Calls Try.prog 26 #[e.p] w fun x w' => x = .returned (.int .i64 e.m.n) ∧ w' = w := by
  have c3 : w.cell? ⟨e.b, 3, none⟩ = some (.slice e.m.tA e.m.n e.m.tc) := (blk_cell h.cells 3).trans rfl
  clear h
  unfold Ent.p
  go_enter Try.func26, Try.ntmps26
  go_wp2
  go_ret
  exact ⟨rfl, rfl⟩
def cmpI (a b : Int) : Int := if a < b then -1 else if b < a then 1 else 0
set_option maxHeartbeats 1000000 in
set_option maxRecDepth 100000 in
theorem isNaN.calls (a : Int) (w : World) : Calls Try.prog 34 #[.int .i64 a] w fun x w' => x = .returned (.bool false) ∧ w' = w := by
  go_enter Try.func34, Try.ntmps34
  go_wp2
  go_ret
  exact ⟨by simp, rfl⟩
set_option maxHeartbeats 1000000 in
set_option maxRecDepth 100000 in
theorem compare.calls (a b : Int) (w : World) : Calls Try.prog 32 #[.int .i64 a, .int .i64 b] w fun x w' => x = .returned (.int .i64 (cmpI a b)) ∧ w' = w := by
  unfold cmpI
  by_cases c1 : a < b
  · rw [if_pos c1]
    have d1 : decide (a < b) = true := decide_eq_true c1
    clear c1
    go_enter Try.func32, Try.ntmps32
    go_wp2_with (go_at_call 34; (with_reducible refine (isNaN.calls _ _).mono ?_); rintro e w' ⟨rfl, rfl⟩)
    go_ret
    exact ⟨rfl, rfl⟩
  · rw [if_neg c1]
    have d1 : decide (a < b) = false := decide_eq_false c1
    clear c1
    by_cases c2 : b < a
    · rw [if_pos c2]
      have d2 : decide (a > b) = true := decide_eq_true c2
      clear c2
      go_enter Try.func32, Try.ntmps32
      go_wp2_with (go_at_call 34; (with_reducible refine (isNaN.calls _ _).mono ?_); rintro e w' ⟨rfl, rfl⟩)
      go_ret
      exact ⟨rfl, rfl⟩
    · rw [if_neg c2]
      have d2 : decide (a > b) = false := decide_eq_false c2
      clear c2
      go_enter Try.func32, Try.ntmps32
      go_wp2_with (go_at_call 34; (with_reducible refine (isNaN.calls _ _).mono ?_); rintro e w' ⟨rfl, rfl⟩)
      go_ret
      exact ⟨rfl, rfl⟩
set_option maxHeartbeats 1000000 in
set_option maxRecDepth 100000 in
theorem closure.calls (a b : Nat) (x y : Int) (w : World) (ha : w.cell? ⟨a, 6, none⟩ = some (.int .i64 x)) (hb : w.cell? ⟨b, 6, none⟩ = some (.int .i64 y)) :
    Calls Try.prog 31 #[.pointer (some ⟨a, 0, none⟩), .pointer (some ⟨b, 0, none⟩)] w fun e w' => e = .returned (.int .i64 (cmpI x y)) ∧ Drawn0 w w' := by
  go_enter Try.func31, Try.ntmps31
  go_wp2
  go_quiet ((go_at_call 32; exact Calls.quiet_of_same (compare.calls _ _ _)))
  go_wp2
  go_ret
  exact ⟨rfl, by repeat (first | exact Drawn0.refl _ | apply Drawn0.step)⟩
end Go.Proofs.Ytfhjdhhflpekiaa.G
