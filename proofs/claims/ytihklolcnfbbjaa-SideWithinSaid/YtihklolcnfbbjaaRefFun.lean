/- What the Go texts of the references' plain vectors come to, in plain numbers. -/
import Derived.Test.YtihklolcnfbbjaaGx22
import Derived.Test.YtihklolcnfbbjaaGx19
import Derived.Test.YtihklolcnfbbjaaGx21
import Derived.Test.YtihklolcnfbbjaaGx20
import Derived.Test.YtihklolcnfbbjaaVecThm
namespace Go.Proofs.Ytihklolcnfbbjaa.M
open Go.RowKit Go.Proofs.VecMath
set_option linter.unusedVariables false

theorem refWithin_eq (x y z m : Int) (h0 : 0 ≤ m) (h1 : m ≤ 4611686018427387904) : G.relievoref00_Within.f x y z m = some (decide ((⟨x, y, z⟩ : Vec).in_ m)) := by
  unfold G.relievoref00_Within.f
  rw [w64 (by omega)]
  unfold Vec.in_
  dsimp only
  by_cases h : (-m ≤ x ∧ x ≤ m) ∧ (-m ≤ y ∧ y ≤ m) ∧ (-m ≤ z ∧ z ≤ m)
  · rw [decide_eq_true h]
    obtain ⟨⟨a, b⟩, ⟨c, d⟩, e, f⟩ := h
    repeat' split
    all_goals first | omega | (simp only [Option.some.injEq, decide_eq_true_eq]; omega)
  · rw [decide_eq_false h]
    repeat' split
    all_goals first | rfl | (simp only [Option.some.injEq, decide_eq_false_iff_not]; omega)
theorem refLine_eq (o d : Vec) : G.relievoref03_Line.f o.x o.y o.z d.x d.y d.z = some (lineB o d) := by
  rw [← line_eq]
  unfold G.relievoref03_Line.f G.side_line.f
  rw [within_eq _ _ _ _ (by decide) (by decide), within_eq _ _ _ _ (by decide) (by decide), refWithin_eq _ _ _ _ (by decide) (by decide), refWithin_eq _ _ _ _ (by decide) (by decide)]
theorem refAdd_eq {a t : Vec} {m n : Int} (ha : a.in_ m) (ht : t.in_ n) (h : m + n ≤ 9223372036854775807) : G.relievoref02_Add.f a.x a.y a.z t.x t.y t.z = some ((Vec.add a t).x, (Vec.add a t).y, (Vec.add a t).z) := by
  unfold Vec.in_ at ha ht
  unfold G.relievoref02_Add.f Vec.add
  rw [w64 (by omega), w64 (by omega), w64 (by omega)]
theorem refSub_eq {x y z x1 y1 z1 m n : Int} (ha : (⟨x, y, z⟩ : Vec).in_ m) (hb : (⟨x1, y1, z1⟩ : Vec).in_ n) (h : m + n ≤ 9223372036854775807) : G.relievoref02_Sub.f x y z x1 y1 z1 = some (x - x1, y - y1, z - z1) := sub_eq ha hb h
end Go.Proofs.Ytihklolcnfbbjaa.M
