/- An image's text. -/
import Derived.Test.YtibecmeajopmeaaDoorIEv
namespace Go.Proofs.YtibecmeajopmeaaDoor.G
open Go.RowKit Go.Proofs.YtibecmeajopmeaaDoorW.PrintWords Go.Proofs.YtibecmeajopmeaaDoorW.PrintLast Go.Proofs.YtibecmeajopmeaaDoorW.PrintMore
set_option linter.unusedVariables false
set_option linter.unusedSimpArgs false
def pixB (p : Px) : List UInt8 := lineB [colR p, colG p, colB p]
/-- The lines of the first i pixels of a row. -/
def rowTo (M : Int → Int → Px) (j : Nat) : Nat → List UInt8
  | 0 => []
  | i + 1 => rowTo M j i ++ pixB (M i j)
/-- The lines of the first j rows. -/
def allTo (M : Int → Int → Px) (W : Nat) : Nat → List UInt8
  | 0 => []
  | j + 1 => allTo M W j ++ rowTo M j W
def headB (W H : Nat) : List UInt8 := [80, 51, 10] ++ lineB [(W : Int), (H : Int)] ++ lineB [255]
def textB (W H : Nat) (M : Int → Int → Px) : List UInt8 := headB W H ++ allTo M W H
theorem wrap_i64 (z : Int) : I64 (wrap64 z) := by unfold I64 wrap64; omega
theorem lineB_le {l : List Int} (h : I64l l) : (lineB l).length ≤ 22 * l.length + 1 := by
  have := lineTo_le h l.length (Nat.le_refl _)
  unfold lineB
  rw [List.length_append, List.length_singleton]
  omega
theorem i64l3 {x y z : Int} (h1 : I64 x) (h2 : I64 y) (h3 : I64 z) : I64l [x, y, z] := by
  intro q hq
  simp only [List.mem_cons, List.not_mem_nil, or_false] at hq
  rcases hq with rfl | rfl | rfl
  · exact h1
  · exact h2
  · exact h3
theorem i64l2 {x y : Int} (h1 : I64 x) (h2 : I64 y) : I64l [x, y] := by
  intro q hq
  simp only [List.mem_cons, List.not_mem_nil, or_false] at hq
  rcases hq with rfl | rfl
  · exact h1
  · exact h2
theorem i64l1 {x : Int} (h1 : I64 x) : I64l [x] := by
  intro q hq
  simp only [List.mem_cons, List.not_mem_nil, or_false] at hq
  subst hq
  exact h1
theorem pix_le (p : Px) : (pixB p).length ≤ 67 := lineB_le (i64l3 (wrap_i64 _) (wrap_i64 _) (wrap_i64 _))
theorem row_le (M : Int → Int → Px) (j : Nat) : ∀ i, (rowTo M j i).length ≤ 67 * i
  | 0 => Nat.le_refl _
  | i + 1 => by
    have := row_le M j i
    have := pix_le (M i j)
    rw [rowTo, List.length_append]
    omega
theorem all_le (M : Int → Int → Px) {W : Nat} (hW : W ≤ 64) : ∀ j, (allTo M W j).length ≤ 4288 * j
  | 0 => Nat.le_refl _
  | j + 1 => by
    have := all_le M hW j
    have := row_le M j W
    rw [allTo, List.length_append]
    omega
theorem head_le {W H : Nat} (hW : W ≤ 64) (hH : H ≤ 64) : (headB W H).length ≤ 100 := by
  have h1 := lineB_le (i64l2 (x := (W : Int)) (y := (H : Int)) ⟨by omega, by omega⟩ ⟨by omega, by omega⟩)
  have h2 := lineB_le (i64l1 (x := 255) ⟨by omega, by omega⟩)
  unfold headB
  simp only [List.length_append, List.length_cons, List.length_nil] at *
  omega
/-- While the text is written. -/
structure Txt (w : World) (b a mb n : Nat) (W H : Int) (M : Int → Int → Px) (acc : List UInt8) (w' : World) : Prop where
  bld : Bld b b acc w'
  img : Img w' a mb n W H M
  below : Below b w w'
  na : a ≠ b
  nm : mb ≠ b
theorem Pow.on {w w1 : World} (h : Pow w) (hb : Below w.heap.size w w1) : Pow w1 := fun w' h' => h w' (below_step hb h')
section
variable {w w1 w2 : World} {b a mb n : Nat} {W H : Int} {M : Int → Int → Px} {acc : List UInt8}
theorem Txt.size (h : Txt w b a mb n W H M acc w1) : b ≤ w1.heap.size := Nat.le_of_lt h.bld.lt.2
theorem Txt.wrote {acc2 : List UInt8} (h : Txt w b a mb n W H M acc w1) (k : Wrote b b acc2 w1 w2) : Txt w b a mb n W H M acc2 w2 :=
  ⟨k.bld, h.img.others k.kept h.na h.nm, h.below.trans k.below, h.na, h.nm⟩
theorem Txt.next (h : Txt w b a mb n W H M acc w1) (k : Below w1.heap.size w1 w2) : Txt w b a mb n W H M acc w2 :=
  ⟨h.bld.below k, h.img.below k, h.below.trans (k.mono h.size), h.na, h.nm⟩
theorem Bld.but {B : Nat} (h : Bld B b acc w1) {k : Nat} {old : Array Value} (hg : w1.heap[k]? = some (.cells old 33 (0, 0))) (hk : ∀ i, i ≠ k → w2.heap[i]? = w1.heap[i]?) : Bld B b acc w2 := by
  have at_ : ∀ {p : Value}, Lib.BuilderAtF 58 5 B b p (Lib.byteCells acc) w1 → Lib.BuilderAtF 58 5 B b p (Lib.byteCells acc) w2 := fun {p} ⟨h1, v, h2, ⟨h3, h4⟩, h5⟩ => by
    refine ⟨h1, v, (hk b ?_).trans h2, ⟨h3, ?_⟩, h5⟩
    · rintro rfl
      rw [hg] at h2
      injection h2 with h2
      injection h2 with _ h2 _
      exact absurd h2 (by decide)
    · rcases h4 with x | ⟨g, cap, cur, fz, e1, e2, e3, r⟩
      · exact .inl x
      · refine .inr ⟨g, cap, cur, fz, e1, e2, (hk g ?_).trans e3, r⟩
        rintro rfl
        rw [hg] at e3
        injection e3 with e3
        injection e3 with _ e3 _
        exact absurd e3 (by decide)
  exact h.imp at_ at_
theorem Txt.but (h : Txt w b a mb n W H M acc w1) {k : Nat} {old : Array Value} (hg : w1.heap[k]? = some (.cells old 33 (0, 0))) (hB : Below b w w2) (hk : ∀ i, i ≠ k → w2.heap[i]? = w1.heap[i]?) : Txt w b a mb n W H M acc w2 := by
  refine ⟨h.bld.but hg hk, ⟨(hk a ?_).trans h.img.cells, h.img.map.same (hk mb ?_)⟩, hB, h.na, h.nm⟩
  · rintro rfl
    have := h.img.cells
    rw [hg] at this
    injection this with this
    injection this with _ this _
    exact absurd this (by decide)
  · rintro rfl
    exact h.img.map.no_cells hg
theorem Txt.line (h : Txt w b a mb n W H M acc w1) (hP : Pow w) (hb : w.heap.size = b) {g c : Nat} (l : List Int) (hg : w1.heap[g]? = some (.cells (l.map (Value.int .i64)).toArray 3 (0, 0))) (hI : I64l l) (hl : l.length ≤ 100) (hacc : acc.length ≤ 10000000000000) :
    Calls Tryd.prog 18 #[.slice (some ⟨g, 0, none⟩) l.length c, .pointer (some ⟨b, 0, none⟩)] w1 fun e w' => e = .returned (.tuple #[]) ∧ Txt w b a mb n W H M (acc ++ lineB l) w' := by
  refine (line.calls b b g c acc l hP (by rw [hb]; exact h.below) (Nat.le_of_eq hb) h.bld hg ?_ hI hl hacc h.size).mono ?_
  · rintro rfl
    rcases h.bld with ⟨_, v, h2, _⟩ | ⟨_, v, h2, _⟩
    · rw [hg] at h2
      injection h2 with h2
      injection h2 with _ h2 _
      exact absurd h2 (by decide)
    · rw [hg] at h2
      injection h2 with h2
      injection h2 with _ h2 _
      exact absurd h2 (by decide)
  · rintro e w' ⟨rfl, k⟩
    exact ⟨rfl, h.wrote k⟩
theorem Txt.line1 (h : Txt w b a mb n W H M acc w1) (hP : Pow w) (hb : w.heap.size = b) {g : Nat} {x : Int} (hg : w1.heap[g]? = some (.cells #[.int .i64 x] 3 (0, 0))) (hx : I64 x) (hacc : acc.length ≤ 10000000000000) :
    Calls Tryd.prog 18 #[.slice (some ⟨g, 0, none⟩) 1 1, .pointer (some ⟨b, 0, none⟩)] w1 fun e w' => e = .returned (.tuple #[]) ∧ Txt w b a mb n W H M (acc ++ lineB [x]) w' := h.line hP hb [x] hg (i64l1 hx) (by simp) hacc
theorem Txt.line2 (h : Txt w b a mb n W H M acc w1) (hP : Pow w) (hb : w.heap.size = b) {g : Nat} {x y : Int} (hg : w1.heap[g]? = some (.cells #[.int .i64 x, .int .i64 y] 3 (0, 0))) (hx : I64 x) (hy : I64 y) (hacc : acc.length ≤ 10000000000000) :
    Calls Tryd.prog 18 #[.slice (some ⟨g, 0, none⟩) 2 2, .pointer (some ⟨b, 0, none⟩)] w1 fun e w' => e = .returned (.tuple #[]) ∧ Txt w b a mb n W H M (acc ++ lineB [x, y]) w' := h.line hP hb [x, y] hg (i64l2 hx hy) (by simp) hacc
theorem Txt.line3 (h : Txt w b a mb n W H M acc w1) (hP : Pow w) (hb : w.heap.size = b) {g : Nat} {x y z : Int} (hg : w1.heap[g]? = some (.cells #[.int .i64 x, .int .i64 y, .int .i64 z] 3 (0, 0))) (hx : I64 x) (hy : I64 y) (hz : I64 z) (hacc : acc.length ≤ 10000000000000) :
    Calls Tryd.prog 18 #[.slice (some ⟨g, 0, none⟩) 3 3, .pointer (some ⟨b, 0, none⟩)] w1 fun e w' => e = .returned (.tuple #[]) ∧ Txt w b a mb n W H M (acc ++ lineB [x, y, z]) w' := h.line hP hb [x, y, z] hg (i64l3 hx hy hz) (by simp) hacc
theorem wHead {B b : Nat} {w : World} (h : Bld B b [] w) (hB : B ≤ w.heap.size) :
    Calls Tryd.prog 20 #[.pointer (some ⟨b, 0, none⟩), .string { data := #[80, 51, 10] }] w fun e w' => e = .returned (.tuple #[.int .i64 3, .nilIface]) ∧ Wrote B b [80, 51, 10] w w' := wStr h [80, 51, 10] (by simp) hB
end
/-- What Text answers. -/
def TextPost (W H : Nat) (M : Int → Int → Px) (w : World) (e : Ending) (w' : World) : Prop := e = .returned (.string ⟨(textB W H M).toArray⟩) ∧ Below w.heap.size w w'
end Go.Proofs.YtibecmeajopmeaaDoor.G
