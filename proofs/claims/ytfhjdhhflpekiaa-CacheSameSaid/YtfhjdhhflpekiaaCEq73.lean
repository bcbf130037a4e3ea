/- Two rows of three whole numbers are the same. -/
import Derived.Test.YtfhjdhhflpekiaaGx0
import Derived.ChangeKeysEq
namespace Go.Proofs.Ytfhjdhhflpekiaa.G
open Go.RowKit Go.Proofs.YtfhjdhhflpekiaaW.PrintWords Go.Proofs.YtfhjdhhflpekiaaW.PrintLast Go.Proofs.YtfhjdhhflpekiaaW.PrintMore
set_option linter.unusedVariables false
set_option linter.unusedSimpArgs false
theorem eqA73 (d : Nat) (w : World) (x0 y0 : Int) (x1 y1 : Int) (x2 y2 : Int) :
    (Op.equalIn (d + 2) 73 (.agg #[.int .i64 x0, .int .i64 x1, .int .i64 x2]) (.agg #[.int .i64 y0, .int .i64 y1, .int .i64 y2])).run Try.prog w = .ok (x0 == y0 && (x1 == y1 && (x2 == y2))) w := by
  obtain ⟨i, hi⟩ := Option.isSome_iff_exists.1 (show (Try.prog.info? 3).isSome = true by kernel_rfl)
  have hc : Try.prog.cellsOf 3 = 1 := by kernel_rfl
  have h3 : ∀ x y : Int, (Op.equalIn (d + 1) 3 (.int .i64 x) (.int .i64 y)).run Try.prog w = .ok (x == y) w := fun x y => run_equalIn_int w d 3 .i64 .i64 x y Try.underlying3
  have pt : ∀ (xs : Array Value) (i : Nat) (v : Value), xs[i]? = some v → (part 3 xs i).run Try.prog w = .ok v w := fun xs i v h => by
    simp [part, isAgg, run_underlying Try.underlying3, h]
  rw [show d + 2 = (d + 1) + 1 from rfl, run_equalIn_array w (d + 1) _ _ Try.underlying73 hi, hc]
  show (Op.eqItems (d + 1) 3 1 _ _ [0, 1, 2]).run Try.prog w = _
  simp only [Op.eqItems, Sem.run_bind]
  rw [pt _ (0 * 1) (.int .i64 x0) rfl]
  simp only [Result.andThen_ok]
  rw [pt _ (0 * 1) (.int .i64 y0) rfl]
  simp only [Result.andThen_ok]
  rw [h3]
  simp only [Result.andThen_ok]
  cases hx : x0 == y0
  · simp
  · simp only [Bool.not_true, Bool.false_eq_true, if_false, Sem.run_bind, Bool.true_and]
    rw [pt _ (1 * 1) (.int .i64 x1) rfl]
    simp only [Result.andThen_ok]
    rw [pt _ (1 * 1) (.int .i64 y1) rfl]
    simp only [Result.andThen_ok]
    rw [h3]
    simp only [Result.andThen_ok]
    cases hx1 : x1 == y1
    · simp
    · simp only [Bool.not_true, Bool.false_eq_true, if_false, Sem.run_bind, Bool.true_and]
      rw [pt _ (2 * 1) (.int .i64 x2) rfl]
      simp only [Result.andThen_ok]
      rw [pt _ (2 * 1) (.int .i64 y2) rfl]
      simp only [Result.andThen_ok]
      rw [h3]
      simp only [Result.andThen_ok]
      cases hx2 : x2 == y2 <;> simp
end Go.Proofs.Ytfhjdhhflpekiaa.G
