/- The document's image: where it lies. -/
import Derived.Test.YtibecmeajopmeaaDoorIRows
import Derived.Test.YtibecmeajopmeaaDoorGx11
namespace Go.Proofs.YtibecmeajopmeaaDoor.G
open Go.RowKit Go.Proofs.YtibecmeajopmeaaDoorW.PrintWords Go.Proofs.YtibecmeajopmeaaDoorW.PrintLast Go.Proofs.YtibecmeajopmeaaDoorW.PrintMore
set_option linter.unusedVariables false
set_option linter.unusedSimpArgs false
/-- The document's image in memory: size and samples. -/
structure RIm (B : Nat) (w : World) (b : Nat) (v : Value) (l : List S35) (W H : Int) : Prop where
  cells : w.heap[b]? = some (.cells #[.int .i64 W, .int .i64 H, v] 30 (0, 0))
  row : Kd.R k35 35 w B (fun _ => True) v l
  lo : B ≤ b
section
variable {B b : Nat} {w w1 : World} {v : Value} {l : List S35} {W H : Int}
theorem RIm.size (h : RIm B w b v l W H) : B ≤ w.heap.size := Nat.le_trans h.lo (Nat.le_of_lt (blk_lt h.cells))
theorem RIm.below (h : RIm B w b v l W H) (hb : Below w.heap.size w w1) : RIm B w1 b v l W H := ⟨blk_below h.cells hb, Kd.R_below h.row hb, h.lo⟩
theorem RIm.own (h : RIm B w b v l W H) {k : Nat} (hk : v.ownBlock = some k) : ∃ cells, w.heap[k]? = some (.cells cells 35 (0, 0)) := by
  obtain ⟨_, inner, ho, _⟩ := h.row
  exact own_typed ho k hk
theorem RIm.kept (h : RIm B w b v l W H) {m : Nat} (hk : ∀ k, k < w.heap.size → k ≠ m → w1.heap[k]? = w.heap[k]?) (h1 : b ≠ m) (h2 : ∀ cells, w.heap[m]? ≠ some (.cells cells 35 (0, 0))) : RIm B w1 b v l W H := by
  refine ⟨(hk b (blk_lt h.cells) h1).trans h.cells, Kd.R_mono (Kd.R_step (Kd.R_bound h.row) fun k ho hlt => hk k hlt ?_) (fun _ _ => trivial), h.lo⟩
  rintro rfl
  obtain ⟨_, _, _, q, hq, cells, hc⟩ := ho
  have hq' : q = 35 := by simpa [k35, k33, Kd.iso, Kd.pair, Kd.int, Kd.scalar] using hq
  subst hq'
  exact h2 _ hc
theorem RIm.but (h : RIm B w b v l W H) {g t : Nat} {old : Array Value} (hg : w.heap[g]? = some (.cells old t (0, 0))) (h1 : t ≠ 30) (h2 : t ≠ 35) (hk : ∀ k, k ≠ g → w1.heap[k]? = w.heap[k]?) : RIm B w1 b v l W H := by
  refine h.kept (m := g) (fun k _ hn => hk k hn) ?_ ?_
  · rintro rfl
    have := h.cells
    rw [hg] at this
    injection this with this
    injection this with _ this _
    exact h1 this
  · intro cells hc
    rw [hg] at hc
    injection hc with hc
    injection hc with _ hc _
    exact h2 hc
/-- A cell of the image's own. -/
theorem RIm.c0 (h : RIm B w b v l W H) : w.cell? ⟨b, 0, none⟩ = some (.int .i64 W) := (blk_cell h.cells 0).trans rfl
theorem RIm.c1 (h : RIm B w b v l W H) : w.cell? ⟨b, 1, none⟩ = some (.int .i64 H) := (blk_cell h.cells 1).trans rfl
theorem RIm.c2 (h : RIm B w b v l W H) : w.cell? ⟨b, 2, none⟩ = some v := (blk_cell h.cells 2).trans rfl
theorem RIm.grown (h : RIm B w b v l W H) {row : Option Nat} (hg : w.grownBy w1 row) (hr : row = v.ownBlock) : w1.heap[b]? = w.heap[b]? := by
  refine hg.block b (blk_lt h.cells) ?_
  rintro e
  rw [hr] at e
  obtain ⟨cells, hc⟩ := h.own e.symm
  rw [h.cells] at hc
  injection hc with hc
  injection hc with _ hc _
  exact absurd hc (by decide)
end
theorem info35 : (Tryd.prog.info? 35).map (fun i => (i.zero, i.size, i.bytes)) = some (some (.agg #[.int .i64 0, .int .i64 0, .int .i64 0, .int .i64 0, .int .i64 0]), 5, 40) := by kernel_rfl
theorem info33 : (Tryd.prog.info? 33).map (fun i => (i.zero, i.size, i.bytes)) = some (some (.agg #[.int .i64 0, .int .i64 0, .int .i64 0]), 3, 24) := by kernel_rfl
/-- Is the sample taken? What Add answers; what is kept then. -/
def accB (W H : Int) (s : S35) : Bool := hasB W H s.f0 s.f1 && okC (colS s)
def accL (W H : Int) (l : List S35) (s : S35) : List S35 := if accB W H s = true then l ++ [s] else l
def radE (W H : Int) (s : S35) : Int := if hasB W H s.f0 s.f1 = false then 20 else if okC (colS s) = false then 11 else 0
structure RAdded (B b : Nat) (W H : Int) (l : List S35) (s : S35) (w w' : World) : Prop where
  im : ∃ v', RIm B w' b v' (accL W H l s) W H
  below : Below B w w'
  kept : ∀ k, k < w.heap.size → k ≠ b → (∀ cells, w.heap[k]? ≠ some (.cells cells 35 (0, 0))) → w'.heap[k]? = w.heap[k]?
def RAddPost (B b : Nat) (W H : Int) (l : List S35) (s : S35) (w : World) (e : Ending) (w' : World) : Prop := e = .returned (.int .i64 (radE W H s)) ∧ RAdded B b W H l s w w'
theorem radded_no {B b : Nat} {w w' : World} {v : Value} {l : List S35} {W H : Int} {s : S35} (h : RIm B w b v l W H) (hb : Below w.heap.size w w') (ha : accB W H s = false) : RAdded B b W H l s w w' := by
  refine ⟨⟨v, ?_⟩, hb.mono h.size, fun k hk _ _ => hb.block k hk⟩
  unfold accL
  rw [ha]
  exact h.below hb
theorem RIm.put {B b : Nat} {w w1 : World} {v v1 : Value} {l l1 : List S35} {W H : Int} (h : RIm B w b v l W H) (hr : Kd.R k35 35 w1 B (fun _ => True) v1 l1) (hc : w1.heap[b]? = w.heap[b]?) : RIm B (w1.setCell ⟨b, 2, none⟩ v1) b v1 l1 W H := by
  have hc1 := hc.trans h.cells
  refine ⟨blk_set hc1 2 v1, Kd.R_mono (Kd.R_step (Kd.R_bound hr) fun k ho _ => Below.heap_setCell _ _ _ _ ?_) (fun _ _ => trivial), h.lo⟩
  rintro rfl
  obtain ⟨_, _, _, q, hq, cells, hc2⟩ := ho
  have hq' : q = 35 := by simpa [k35, k33, Kd.iso, Kd.pair, Kd.int, Kd.scalar] using hq
  subst hq'
  rw [hc1] at hc2
  injection hc2 with hc2
  injection hc2 with _ hc2 _
  exact absurd hc2 (by decide)
theorem radded_yes {B b : Nat} {w W5 w1 : World} {v v1 : Value} {l : List S35} {W H : Int} {s : S35} (h0 : RIm B w b v l W H) (hb0 : Below w.heap.size w W5) (h : RIm B W5 b v l W H) (ha : accB W H s = true)
    (hr : Kd.R k35 35 w1 B (fun _ => True) v1 (l ++ [s])) (hb : Below B W5 w1) (hg : W5.grownBy w1 v.ownBlock) : RAdded B b W H l s w (w1.setCell ⟨b, 2, none⟩ v1) := by
  have hc : w1.heap[b]? = W5.heap[b]? := h.grown hg rfl
  refine ⟨⟨v1, ?_⟩, ((hb0.mono h0.size).trans hb).setCell h.lo _, fun k hk hn ht => ?_⟩
  · unfold accL
    rw [if_pos ha]
    exact h.put hr hc
  · refine (Below.heap_setCell _ _ _ _ hn).trans ((hg.block k (Nat.lt_of_lt_of_le hk hb0.size) ?_).trans (hb0.block k hk))
    rintro e
    obtain ⟨cells, hc2⟩ := h.own e.symm
    rw [hb0.block k hk] at hc2
    exact ht _ hc2
theorem part.calls (a : Int) (w : World) : Calls Tryd.prog 16 #[.int .i64 a] w fun e w' => e = .returned (.bool (partB a)) ∧ Drawn0 w w' := by
  refine relievoref22_part.calls a (partB a) w ?_
  unfold relievoref22_part.f partB
  by_cases h : a ≥ 0
  · rw [if_pos h]
    congr 1
    exact decide_eq_decide.2 ⟨fun q => ⟨h, q⟩, fun q => q.2⟩
  · rw [if_neg h]
    congr 1
    exact (decide_eq_false (fun q => h q.1)).symm
end Go.Proofs.YtibecmeajopmeaaDoor.G
