/- A sum's product is the products' sum: for all ints. -/
import Derived.Test.YtmkdnoikbefimaaGx27
import Derived.Test.YtmkdnoikbefimaaWideAlive
namespace Go.Proofs.Ytmkdnoikbefimaa.Pure
open Go.RowKit Go.Proofs.VecMath Go.Proofs.Ytmkdnoikbefimaa.M Go.Proofs.YtmkdnoikbefimaaW.PrintWords
set_option linter.unusedVariables false
theorem of_wf {n : Int} (h : (Lit.int .i64 n).wf = true) : i64b n := by
  unfold Lit.wf at h
  rw [Bool.and_eq_true, decide_eq_true_eq, decide_eq_true_eq] at h
  exact h

theorem WideSpreads : G.relievolaw01_WideSpreads.Pure := by
  intro a b c ha hb hc
  replace ha := of_wf ha
  replace hb := of_wf hb
  replace hc := of_wf hc
  have hc' := hc
  unfold i64b at hc'
  refine ⟨4, ?_⟩
  unfold G.relievolaw01_WideSpreads.f
  have jt : G.relievolaw01_WideSpreads.j0 4 a b c true = some true := by rw [G.relievolaw01_WideSpreads.j0, if_pos rfl]
  rw [aliveW_at 0, Option.bind_some, if_pos rfl]
  by_cases a1 : a > 2305843009213693952
  · rw [if_pos a1, jt]
  rw [if_neg a1]
  by_cases a2 : a < (-2305843009213693952)
  · rw [if_pos a2, jt]
  rw [if_neg a2]
  by_cases b1 : b > 2305843009213693952
  · rw [if_pos b1, jt]
  rw [if_neg b1]
  by_cases b2 : b < (-2305843009213693952)
  · rw [decide_eq_true b2, jt]
  have p := mulb (x := a) (y := c) (A := 2305843009213693952) (B := 9223372036854775808) (by omega) (by omega)
  have q := mulb (x := b) (y := c) (A := 2305843009213693952) (B := 9223372036854775808) (by omega) (by omega)
  rw [decide_eq_false b2, G.relievolaw01_WideSpreads.j0, if_neg (by decide), mulW_eq a c ha hc, Option.bind_some, mulW_eq b c hb hc, Option.bind_some]
  dsimp only
  rw [add_eq (a * c) (b * c) (prod128 ha hc) (prod128 hb hc) (by unfold i128; omega), Option.bind_some]
  dsimp only
  rw [if_pos rfl, w64 (n := a + b) (by omega), mulW_eq (a + b) c (by unfold i64b; omega) hc, Option.bind_some, Int.add_mul]
  simp
end Go.Proofs.Ytmkdnoikbefimaa.Pure
