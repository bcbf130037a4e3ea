/- Is there such a pixel? New; At. -/
import Derived.Test.YtibecmeajopmeaaDoorIMap
import Derived.Test.YtibecmeajopmeaaDoorGx3
namespace Go.Proofs.YtibecmeajopmeaaDoor.G
open Go.RowKit Go.Proofs.YtibecmeajopmeaaDoorW.PrintWords Go.Proofs.YtibecmeajopmeaaDoorW.PrintLast Go.Proofs.YtibecmeajopmeaaDoorW.PrintMore
attribute [local go_sem] max2_int min2_int max_two min_two max_three min_three
set_option linter.unusedVariables false
set_option linter.unusedSimpArgs false
def hasB (W H x y : Int) : Bool := decide (0 ≤ x ∧ 0 ≤ y ∧ x < W ∧ y < H)
set_option maxRecDepth 100000 in
theorem has.calls (a : Nat) (W H x y : Int) (w : World) (c0 : w.cell? ⟨a, 0, none⟩ = some (.int .i64 W)) (c1 : w.cell? ⟨a, 1, none⟩ = some (.int .i64 H)) :
    Calls Tryd.prog 15 #[.pointer (some ⟨a, 0, none⟩), .int .i64 x, .int .i64 y] w fun e w' => e = .returned (.bool (hasB W H x y)) ∧ w' = w := by
  obtain ⟨m, hm⟩ : ∃ m, mn x y = m := ⟨_, rfl⟩
  have hm' : (if y < x then y else x) = m := hm
  have hmm : m = min x y := by rw [← hm]; unfold mn; rw [Int.min_def]; split <;> split <;> omega
  obtain ⟨r, hr⟩ : ∃ r, hasB W H x y = r := ⟨_, rfl⟩
  rw [hr]
  have HR := Aside0.mk hr
  have HM := Aside0.mk hmm
  clear hr hmm
  by_cases h1 : m ≥ 0
  · have d1 : decide (m ≥ 0) = true := decide_eq_true h1
    by_cases h2 : x < W
    · have d2 : decide (x < W) = true := decide_eq_true h2
      by_cases h3 : y < H
      · have d3 : decide (y < H) = true := decide_eq_true h3
        have F : Aside0 (r = true) := ⟨by rw [← HR.out]; have := HM.out; exact decide_eq_true (by omega)⟩
        clear h1 h2 h3
        go_enter Tryd.func15, Tryd.ntmps15
        go_wp2
        go_ret
        exact ⟨by rw [F.out]; rfl, rfl⟩
      · have d3 : decide (y < H) = false := decide_eq_false h3
        have F : Aside0 (r = false) := ⟨by rw [← HR.out]; exact decide_eq_false (by omega)⟩
        clear h1 h2 h3
        go_enter Tryd.func15, Tryd.ntmps15
        go_wp2
        go_ret
        exact ⟨by rw [F.out]; rfl, rfl⟩
    · have d2 : decide (x < W) = false := decide_eq_false h2
      have F : Aside0 (r = false) := ⟨by rw [← HR.out]; exact decide_eq_false (by omega)⟩
      clear h1 h2
      go_enter Tryd.func15, Tryd.ntmps15
      go_wp2
      go_ret
      exact ⟨by rw [F.out]; rfl, rfl⟩
  · have d1 : decide (m ≥ 0) = false := decide_eq_false h1
    have F : Aside0 (r = false) := ⟨by rw [← HR.out]; have := HM.out; exact decide_eq_false (by omega)⟩
    clear h1
    go_enter Tryd.func15, Tryd.ntmps15
    go_wp2
    go_ret
    exact ⟨by rw [F.out]; rfl, rfl⟩
/-- An image in memory. -/
structure Img (w : World) (a mb n : Nat) (W H : Int) (M : Int → Int → Px) : Prop where
  cells : w.heap[a]? = some (.cells #[.int .i64 W, .int .i64 H, .map (some mb)] 48 (0, 0))
  map : PMap w mb n M
theorem Img.ne {w : World} {a mb n : Nat} {W H : Int} {M : Int → Int → Px} (h : Img w a mb n W H M) : a ≠ mb := fun e => h.map.no_cells (by rw [← e]; exact h.cells)
theorem Img.others {w w1 : World} {a mb n k : Nat} {W H : Int} {M : Int → Int → Px} (h : Img w a mb n W H M) (ho : Lib.OthersKept 5 (some k) w w1) (h1 : a ≠ k) (h2 : mb ≠ k) : Img w1 a mb n W H M :=
  ⟨ho a _ h.cells (fun x => h1 (by injection x)) (fun c fz e => by injection e with _ e _; exact absurd e (by decide)), h.map.others ho h2⟩
theorem Img.below {w w1 : World} {a mb n : Nat} {W H : Int} {M : Int → Int → Px} (h : Img w a mb n W H M) (hb : Below w.heap.size w w1) : Img w1 a mb n W H M :=
  ⟨blk_below h.cells hb, h.map.same (hb.block _ h.map.lt)⟩
def NewOk (w : World) (W H : Int) (e : Ending) (w' : World) : Prop :=
  ∃ a mb, e = .returned (.tuple #[.pointer (some ⟨a, 0, none⟩), .int .i64 0]) ∧ Img w' a mb 0 W H (fun _ _ => Px.zero) ∧ w.heap.size ≤ a ∧ w.heap.size ≤ mb ∧ Below w.heap.size w w'
def NewBad (w : World) (e : Ending) (w' : World) : Prop := e = .returned (.tuple #[.pointer none, .int .i64 11]) ∧ w' = w
def goodB (W H : Int) : Bool := decide (1 ≤ W ∧ W ≤ 64 ∧ 1 ≤ H ∧ H ≤ 64)
set_option maxRecDepth 100000 in
theorem newBad.calls (W H : Int) (w : World) (hg : goodB W H = false) : Calls Tryd.prog 8 #[.int .i64 W, .int .i64 H] w (NewBad w) := by
  obtain ⟨m, hm⟩ : ∃ m, (if H < W then H else W) = m := ⟨_, rfl⟩
  obtain ⟨x, hx⟩ : ∃ x, (if W < H then H else W) = x := ⟨_, rfl⟩
  have hgg := of_decide_eq_false hg
  by_cases h1 : m < 1
  · have d1 : decide (m < 1) = true := decide_eq_true h1
    clear hg hgg h1
    go_enter Tryd.func8, Tryd.ntmps8
    go_wp2
    go_ret2
    exact ⟨rfl, rfl⟩
  · have d1 : decide (m < 1) = false := decide_eq_false h1
    have d2 : decide (x > 64) = true := decide_eq_true (by rw [← hx]; rw [← hm] at h1; (repeat' split) <;> (repeat' split at h1) <;> omega)
    clear hg hgg h1
    go_enter Tryd.func8, Tryd.ntmps8
    go_wp2
    go_ret2
    exact ⟨rfl, rfl⟩
set_option maxRecDepth 100000 in
theorem newOk.calls (W H : Int) (w : World) (hg : goodB W H = true) : Calls Tryd.prog 8 #[.int .i64 W, .int .i64 H] w (NewOk w W H) := by
  obtain ⟨m, hm⟩ : ∃ m, (if H < W then H else W) = m := ⟨_, rfl⟩
  obtain ⟨x, hx⟩ : ∃ x, (if W < H then H else W) = x := ⟨_, rfl⟩
  have hgg := of_decide_eq_true hg
  have d1 : decide (m < 1) = false := decide_eq_false (by rw [← hm]; split <;> omega)
  have d2 : decide (x > 64) = false := decide_eq_false (by rw [← hx]; split <;> omega)
  have hu44 := Tryd.underlying44
  have hmm := @run_makeMap Tryd.prog
  have HB := Aside0.mk (Below.refl w.heap.size w)
  clear hg hgg
  go_enter Tryd.func8, Tryd.ntmps8
  go_wp2_with (first
   | ((with_reducible refine gate_dst (N := 18) rfl ?_); refine map_event ?hg (N := 18) ?hd ?hr ?_; (case hd => rfl); (case hg => rfl); (case hr => first | (go_simp; done) | (go_simp; rfl)); intro mb hmb wm hpm hb; have PM := Aside0.mk hpm; have GM := Aside0.mk (bG hmb HB.out); replace HB := Aside0.mk (below_step HB.out hb); clear hmb hpm hb)
   | ((with_reducible refine gate_dst (N := 21) rfl ?_); refine box_event ?hg (N := 21) ?hd (cs := #[.int .i64 W, .int .i64 H, .map (some mb)]) (t := 48) ?hr ?_; (case hd => rfl); (case hg => rfl); (case hr => first | (go_simp; done) | (go_simp; rfl)); intro a hg wa hbox hb; have IM : Aside0 (Img wa a mb 0 W H (fun _ _ => Px.zero)) := ⟨⟨hbox, PM.out.same (hb.block _ PM.out.lt)⟩⟩; have GA := Aside0.mk (bG hg HB.out); replace HB := Aside0.mk (below_step HB.out hb); clear hg hbox hb))
  go_ret2
  exact ⟨a, mb, rfl, IM.out, GA.out, GM.out, HB.out⟩
end Go.Proofs.YtibecmeajopmeaaDoor.G
