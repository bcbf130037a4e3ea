/- A slice of samples that came in, opened. -/
import Derived.Test.YtibecmeajopmeaaDoorIOrder
import Derived.Deep.Slices
namespace Go.Proofs.YtibecmeajopmeaaDoor.G
open Go.RowKit Go.Proofs.YtibecmeajopmeaaDoorW.PrintWords Go.Proofs.YtibecmeajopmeaaDoorW.PrintLast Go.Proofs.YtibecmeajopmeaaDoorW.PrintMore
open Go.ChangeShapes Go.WideShapes
set_option linter.unusedVariables false
set_option linter.unusedSimpArgs false
theorem i64_of {x : Int} (h : (Lit.int .i64 x).wf = true) : I64 x := by
  have h' : (decide (IntKind.i64.min ≤ x) && decide (x ≤ IntKind.i64.max)) = true := h
  rw [Bool.and_eq_true, decide_eq_true_iff, decide_eq_true_iff] at h'
  have e1 : IntKind.i64.min = -9223372036854775808 := by decide
  have e2 : IntKind.i64.max = 9223372036854775807 := by decide
  rw [e1, e2] at h'
  exact h'
theorem kd_nil {α : Type} (d : Kd α) (w : World) : Kd.C d w none ([] : List α).length [] := ⟨rfl, Nat.zero_le _, fun h => absurd h (Nat.lt_irrefl 0)⟩
theorem cellsOf35 : Tryd.prog.cellsOf 35 = 5 := by kernel_rfl
theorem cellsOf33 : Tryd.prog.cellsOf 33 = 3 := by kernel_rfl
section
variable {H : Type} {enc : TypeId × Value → H} {w : World} {base : Nat} {sp : Nat → Bool} {held : Bool}
theorem open_col {fuel : Nat} {cs : List Value} {x : DataW H × List MemPlace} (h : DataW.trod enc Tryd.prog w base sp held fuel 33 cs = some x) :
    ∃ a b c : Int, cs = [.int .i64 a, .int .i64 b, .int .i64 c] ∧ I64 a ∧ I64 b ∧ I64 c := by
  obtain ⟨xs, k, rfl, _, hlen, hxl, hf⟩ := DataW.trod_struct Tryd.underlying33 h
  rw [cellsOf33] at hlen
  have hxl' : xs.length = 3 := hxl
  match cs, hlen, xs, hxl' with
  | [v0, v1, v2], _, [y0, y1, y2], _ =>
    have g0 := hf 0 _ rfl
    have g1 := hf 1 _ rfl
    have g2 := hf 2 _ rfl
    simp [cellsOf3] at g0 g1 g2
    obtain ⟨a, e0, _, w0⟩ := DataW.trod_int Tryd.underlying3 g0
    obtain ⟨b, e1, _, w1⟩ := DataW.trod_int Tryd.underlying3 g1
    obtain ⟨c, e2, _, w2⟩ := DataW.trod_int Tryd.underlying3 g2
    simp only [List.cons.injEq, and_true] at e0 e1 e2
    subst e0 e1 e2
    exact ⟨a, b, c, rfl, i64_of w0, i64_of w1, i64_of w2⟩
def I64s (s : S35) : Prop := I64 s.f0 ∧ I64 s.f1 ∧ I64 s.f2.f0 ∧ I64 s.f2.f1 ∧ I64 s.f2.f2
theorem open_sample {fuel : Nat} {cs : List Value} {x : DataW H × List MemPlace} (h : DataW.trod enc Tryd.prog w base sp held fuel 35 cs = some x) :
    ∃ s : S35, cs = [.int .i64 s.f0, .int .i64 s.f1, .int .i64 s.f2.f0, .int .i64 s.f2.f1, .int .i64 s.f2.f2] ∧ I64s s := by
  obtain ⟨xs, k, rfl, _, hlen, hxl, hf⟩ := DataW.trod_struct Tryd.underlying35 h
  rw [cellsOf35] at hlen
  have hxl' : xs.length = 3 := hxl
  match cs, hlen, xs, hxl' with
  | [v0, v1, v2, v3, v4], _, [y0, y1, y2], _ =>
    have g0 := hf 0 _ rfl
    have g1 := hf 1 _ rfl
    have g2 := hf 2 _ rfl
    simp [cellsOf3, cellsOf33] at g0 g1 g2
    obtain ⟨a, e0, _, w0⟩ := DataW.trod_int Tryd.underlying3 g0
    obtain ⟨b, e1, _, w1⟩ := DataW.trod_int Tryd.underlying3 g1
    obtain ⟨c0, c1, c2, e2, i0, i1, i2⟩ := open_col g2
    simp only [List.cons.injEq, and_true] at e0 e1 e2
    obtain ⟨rfl, rfl, rfl⟩ := e2
    subst e0 e1
    exact ⟨⟨a, b, ⟨c0, c1, c2⟩⟩, rfl, i64_of w0, i64_of w1, i0, i1, i2⟩
theorem open_samples {fuel : Nat} {A : Option Addr} {len cap : Nat} {x : DataW H × List MemPlace} (h : DataW.trod enc Tryd.prog w base sp held fuel 22 [.slice A len cap] = some x) :
    ∃ l : List S35, l.length = len ∧ Kd.C k35 w A l.length l ∧ len ≤ cap ∧ cap ≤ maxLen ∧ ∀ s ∈ l, I64s s := by
  rcases Go.Deep.open_slice Tryd.underlying22 h with ⟨hcs, _⟩ | ⟨a, len', cap', m, n, D, Pl, hcs, hb, hl, hm, hmm, _, hx⟩
  · simp only [List.cons.injEq, Value.slice.injEq, and_true] at hcs
    obtain ⟨rfl, rfl, rfl⟩ := hcs
    exact ⟨[], rfl, kd_nil _ _, Nat.le_refl _, Nat.zero_le _, fun s hs => absurd hs (by simp)⟩
  · simp only [List.cons.injEq, Value.slice.injEq, and_true] at hcs
    obtain ⟨rfl, rfl, rfl⟩ := hcs
    have hlm : len ≤ m := by rw [hmm]; split <;> omega
    have each : ∀ i, i < len → ∃ s : S35, I64s s ∧ ∀ j v, [Value.int .i64 s.f0, .int .i64 s.f1, .int .i64 s.f2.f0, .int .i64 s.f2.f1, .int .i64 s.f2.f2][j]? = some v → w.cell? (a.add (i * 5 + j)) = some v := fun i hi => by
      obtain ⟨cs', h1, h2⟩ := hx i (by omega)
      rw [cellsOf35] at h1
      obtain ⟨_, hlen, hcell⟩ := World.cells?_some h1
      obtain ⟨s, rfl, hs⟩ := open_sample h2
      refine ⟨s, hs, fun j v hj => ?_⟩
      have hj5 : j < 5 := by
        have := (List.getElem?_eq_some_iff.1 hj).1
        simpa using this
      have := hcell j hj5
      rw [add_add] at this
      rw [this, hj]
    have pick : ∃ f : Nat → S35, ∀ i, i < len → I64s (f i) ∧ ∀ j v, [Value.int .i64 (f i).f0, .int .i64 (f i).f1, .int .i64 (f i).f2.f0, .int .i64 (f i).f2.f1, .int .i64 (f i).f2.f2][j]? = some v → w.cell? (a.add (i * 5 + j)) = some v :=
      ⟨fun i => if hi : i < len then Classical.choose (each i hi) else z35, fun i hi => by simp only [dif_pos hi]; exact Classical.choose_spec (each i hi)⟩
    obtain ⟨f, hf⟩ := pick
    have hll : ((List.range len).map f).length = len := by simp
    refine ⟨(List.range len).map f, hll, ⟨rfl, by rw [hll]; have hm' := hm; unfold maxLen at hm'; omega, fun _ => ⟨a, rfl, fun j p hj => ?_⟩⟩, hl, hm, fun s hs => ?_⟩
    · rw [List.getElem?_map] at hj
      obtain ⟨i, hi, rfl⟩ := Option.map_eq_some_iff.1 hj
      have hi' := List.getElem?_eq_some_iff.1 hi
      obtain ⟨hlt, he⟩ := hi'
      rw [List.getElem_range] at he
      subst he
      have hlt' : j < len := by simpa using hlt
      exact ⟨_, rfl, k35_mk w (f j), (hf j hlt').2⟩
    · obtain ⟨i, hi, rfl⟩ := List.mem_map.1 hs
      exact (hf i (by simpa using hi)).1
end
theorem order.calls (W H turn : Int) (A : Option Addr) (c : Nat) (l : List S35) (w : World) (hP : Pow w) (hr : Kd.C k35 w A l.length l) (hc : l.length ≤ c) (hi : ∀ s ∈ l, I64s s) (hlm : l.length ≤ maxLen) (htu : I64 turn) :
    Calls Tryd.prog 4 #[.int .i64 W, .int .i64 H, .slice A l.length c, .int .i64 turn] w fun e w' => e = .returned (.bool true) ∧ Below w.heap.size w w' := by
  have hi' : ∀ s ∈ l, I64 s.f0 ∧ I64 s.f1 := fun s hs => ⟨(hi s hs).1, (hi s hs).2.1⟩
  have hlm' : l.length ≤ 9223372036854775807 := by unfold maxLen at hlm; omega
  by_cases h1 : 300 < l.length
  · exact orderLong.calls W H turn A c l w hP hr hc hi' hlm' htu h1
  · by_cases h2 : turn < 0
    · exact orderLess.calls W H turn A c l w hP hr hc hi' hlm' htu h1 h2
    · cases hg : goodB W H with
      | false => exact orderBad.calls W H turn A c l w hP hr hc hi' hlm' htu h1 h2 hg
      | true => exact orderGood.calls W H turn A c l w hP hr hc hi' hlm' htu h1 h2 hg
end Go.Proofs.YtibecmeajopmeaaDoor.G
