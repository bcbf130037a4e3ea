/- A sample more. -/
import Derived.Test.YtibecmeajopmeaaDoorITextW
import Derived.StillTailTactics
namespace Go.Proofs.YtibecmeajopmeaaDoor.G
open Go.RowKit Go.Proofs.YtibecmeajopmeaaDoorW.PrintWords Go.Proofs.YtibecmeajopmeaaDoorW.PrintLast Go.Proofs.YtibecmeajopmeaaDoorW.PrintMore
attribute [local go_sem] max2_int min2_int max_two min_two max_three min_three
set_option linter.unusedVariables false
set_option linter.unusedSimpArgs false
structure Col where
  r : Int
  g : Int
  b : Int
def Col.cs (c : Col) : Array Value := #[.int .i64 c.r, .int .i64 c.g, .int .i64 c.b]
def partB (n : Int) : Bool := decide (0 ≤ n ∧ n ≤ 255)
def okC (c : Col) : Bool := partB c.r && partB c.g && partB c.b
def addPx (p : Px) (c : Col) : Px := ⟨p.r + c.r, p.g + c.g, p.b + c.b, p.n + 1⟩
/-- What Add answers. -/
def addE (W H x y : Int) (c : Col) (p : Px) : Int := if hasB W H x y = false then 20 else if okC c = false then 11 else if p.n ≥ 65536 then 13 else 0
def addM (W H : Int) (M : Int → Int → Px) (x y : Int) (c : Col) : Int → Int → Px := if addE W H x y c (M x y) = 0 then setM M x y (addPx (M x y) c) else M
/-- Sums that fit. -/
def GoodM (M : Int → Int → Px) : Prop := ∀ x y, 0 ≤ (M x y).n ∧ (M x y).n ≤ 65536 ∧ 0 ≤ (M x y).r ∧ (M x y).r ≤ 255 * (M x y).n ∧ 0 ≤ (M x y).g ∧ (M x y).g ≤ 255 * (M x y).n ∧ 0 ≤ (M x y).b ∧ (M x y).b ≤ 255 * (M x y).n
structure Added (a mb n : Nat) (W H : Int) (M : Int → Int → Px) (x y : Int) (c : Col) (w w' : World) : Prop where
  img : Img w' a mb (n + 1) W H (addM W H M x y c)
  size : w.heap.size ≤ w'.heap.size
  kept : ∀ k, k < w.heap.size → k ≠ mb → w'.heap[k]? = w.heap[k]?
  below : ∀ B, B ≤ mb → B ≤ w.heap.size → Below B w w'
def AddPost (a mb n : Nat) (W H : Int) (M : Int → Int → Px) (x y : Int) (c : Col) (w : World) (e : Ending) (w' : World) : Prop := e = .returned (.int .i64 (addE W H x y c (M x y))) ∧ Added a mb n W H M x y c w w'
theorem added_no {a mb n : Nat} {W H : Int} {M : Int → Int → Px} {x y : Int} {c : Col} {w w' : World} (h : Img w a mb n W H M) (hb : Below w.heap.size w w') (he : addE W H x y c (M x y) ≠ 0) : Added a mb n W H M x y c w w' := by
  have hi := h.below hb
  refine ⟨⟨hi.cells, ?_⟩, hb.size, fun k hk _ => hb.block k hk, fun B _ h2 => hb.mono h2⟩
  unfold addM
  rw [if_neg he]
  exact hi.map.mono (Nat.le_succ n)
theorem okC_no {c : Col} (h : okC c = true) : 0 ≤ c.r ∧ c.r ≤ 255 ∧ 0 ≤ c.g ∧ c.g ≤ 255 ∧ 0 ≤ c.b ∧ c.b ≤ 255 := by
  simp only [okC, partB, Bool.and_eq_true, decide_eq_true_eq] at h
  omega
theorem Img.but9 {w w1 : World} {a mb n k : Nat} {W H : Int} {M : Int → Int → Px} {old : Array Value} (h : Img w a mb n W H M) (hg : w.heap[k]? = some (.cells old 50 (0, 0))) (hk : ∀ i, i ≠ k → w1.heap[i]? = w.heap[i]?) : Img w1 a mb n W H M := by
  refine ⟨(hk a ?_).trans h.cells, h.map.same (hk mb ?_)⟩
  · rintro rfl
    have := h.cells
    rw [hg] at this
    injection this with this
    injection this with _ this _
    exact absurd this (by decide)
  · rintro rfl
    exact h.map.no_cells hg
set_option maxHeartbeats 2000000 in
set_option maxRecDepth 100000 in
theorem addPlace.calls {a mb n : Nat} {W H : Int} {M : Int → Int → Px} (x y : Int) (c : Col) (w : World) (h : Img w a mb n W H M) (hx : I64 x) (hy : I64 y) (hr : hasB W H x y = false) :
    Calls Tryd.prog 9 #[.pointer (some ⟨a, 0, none⟩), .int .i64 x, .int .i64 y, .agg #[.int .i64 c.r, .int .i64 c.g, .int .i64 c.b]] w (AddPost a mb n W H M x y c w) := by
  have hu33 := Tryd.underlying33
  have hu50 := Tryd.underlying50
  have HB := Aside0.mk (Below.refl w.heap.size w)
  have IM := Aside0.mk h
  have IM0 := Aside0.mk h
  have LK : Aside0 (∀ w', Below w.heap.size w w' → (Instr.lookup 44 (.map (some mb)) (.agg #[.int .i64 x, .int .i64 y]) false).run Tryd.prog w' = .ok (.agg #[.int .i64 (M x y).r, .int .i64 (M x y).g, .int .i64 (M x y).b, .int .i64 (M x y).n]) w') := ⟨fun w' hb => (h.below hb).map.look hx hy⟩
  have HXY := Aside0.mk (And.intro hx hy)
  obtain ⟨p, hp⟩ : ∃ p, M x y = p := ⟨_, rfl⟩
  rw [hp] at LK
  have HPP := Aside0.mk hp
  have bx : ∀ w', Img w' a mb n W H M → Calls Tryd.prog 15 #[.pointer (some ⟨a, 0, none⟩), .int .i64 x, .int .i64 y] w' fun e w'' => e = .returned (.bool false) ∧ w'' = w' := fun w' hi => by
    rw [← hr]
    exact has.calls a W H x y w' ((blk_cell hi.cells 0).trans rfl) ((blk_cell hi.cells 1).trans rfl)
  have HRR := Aside0.mk hr
  clear h hx hy hp hr
  go_enter Tryd.func9, Tryd.ntmps9
  go_wp2_with (first
   | ((with_reducible refine gate_dst (N := 7) rfl ?_); refine box_event ?hg (N := 7) ?hd (cs := #[.int .i64 c.r, .int .i64 c.g, .int .i64 c.b]) (t := 33) ?hr ?_; (case hd => rfl); (case hg => rfl); (case hr => first | (go_simp; done) | (go_simp; rfl)); intro g7 hg w3 hbox hb; have BK7 := Aside0.mk hbox; have GE7 := Aside0.mk (bG hg HB.out); have c2 : w3.cell? ⟨a, 2, none⟩ = some (.map (some mb)) := (blk_cell (IM.out.below hb).cells 2).trans rfl; have lk := LK.out w3 (below_step HB.out hb); replace IM := Aside0.mk (IM.out.below hb); replace HB := Aside0.mk (below_step HB.out hb); clear hg hbox hb)
   | ((with_reducible refine gate_dst (N := 9) rfl ?_); refine box_event ?hg (N := 9) ?hd (cs := #[.int .i64 0, .int .i64 0, .int .i64 0, .int .i64 0]) (t := 50) ?hr ?_; (case hd => rfl); (case hg => rfl); (case hr => first | (go_simp; done) | (go_simp; rfl)); intro g9 hg w4 hbox hb; have BK9 := Aside0.mk hbox; have GE9 := Aside0.mk (bG hg HB.out); have NE79 := cN hg BK7; replace BK7 := cB hb BK7; replace IM := Aside0.mk (IM.out.below hb); replace HB := Aside0.mk (below_step HB.out hb); clear hg hbox hb)
   | ((with_reducible refine gate_store2 (t := 50) (x := .tmp 9) (y := .tmp 18) rfl ?_); refine ev_row (B := w.heap.size) (w0 := w) rfl 50 (.tmp 9) (.tmp 18) rfl rfl g9 #[.int .i64 p.r, .int .i64 p.g, .int .i64 p.b, .int .i64 p.n] ?hx ?hy 50 _ BK9.out (by kernel_rfl) rfl (by simp [Value.oneCell']) HB.out GE9.out ?_; (case hx => first | (go_simp; done) | rfl); (case hy => first | (go_simp; done) | rfl | (go_simp; rfl)); intro w5 hbox hb hk; replace IM := Aside0.mk (IM.out.but9 BK9.out hk); replace BK7 := Aside0.mk ((hk _ NE79.out).trans BK7.out); replace BK9 := Aside0.mk hbox; replace HB := Aside0.mk hb; clear hbox hb hk)
   | (go_at_call 15; (with_reducible refine (bx _ IM.out).mono ?_); rintro e w7 ⟨rfl, rfl⟩))
  go_ret
  have E : addE W H x y c (M x y) = 20 := by unfold addE; rw [if_pos HRR.out]
  exact ⟨by rw [E]; rfl, added_no IM0.out HB.out (by rw [E]; decide)⟩
set_option maxHeartbeats 2000000 in
set_option maxRecDepth 100000 in
theorem addLow.calls {a mb n : Nat} {W H : Int} {M : Int → Int → Px} (x y : Int) (c : Col) (w : World) (h : Img w a mb n W H M) (hx : I64 x) (hy : I64 y) (hr : hasB W H x y = true) (hc : okC c = false) (hlow : c.r < 0 ∨ c.g < 0 ∨ c.b < 0) :
    Calls Tryd.prog 9 #[.pointer (some ⟨a, 0, none⟩), .int .i64 x, .int .i64 y, .agg #[.int .i64 c.r, .int .i64 c.g, .int .i64 c.b]] w (AddPost a mb n W H M x y c w) := by
  have hu33 := Tryd.underlying33
  have hu50 := Tryd.underlying50
  have HB := Aside0.mk (Below.refl w.heap.size w)
  have IM := Aside0.mk h
  have IM0 := Aside0.mk h
  have LK : Aside0 (∀ w', Below w.heap.size w w' → (Instr.lookup 44 (.map (some mb)) (.agg #[.int .i64 x, .int .i64 y]) false).run Tryd.prog w' = .ok (.agg #[.int .i64 (M x y).r, .int .i64 (M x y).g, .int .i64 (M x y).b, .int .i64 (M x y).n]) w') := ⟨fun w' hb => (h.below hb).map.look hx hy⟩
  have HXY := Aside0.mk (And.intro hx hy)
  obtain ⟨p, hp⟩ : ∃ p, M x y = p := ⟨_, rfl⟩
  rw [hp] at LK
  have HPP := Aside0.mk hp
  have bx : ∀ w', Img w' a mb n W H M → Calls Tryd.prog 15 #[.pointer (some ⟨a, 0, none⟩), .int .i64 x, .int .i64 y] w' fun e w'' => e = .returned (.bool true) ∧ w'' = w' := fun w' hi => by
    rw [← hr]
    exact has.calls a W H x y w' ((blk_cell hi.cells 0).trans rfl) ((blk_cell hi.cells 1).trans rfl)
  have HRR := Aside0.mk hr
  have HCC := Aside0.mk hc
  obtain ⟨m1, hm1⟩ : ∃ m, (if c.g < c.r then c.g else c.r) = m := ⟨_, rfl⟩
  obtain ⟨m, hm⟩ : ∃ m, (if c.b < m1 then c.b else m1) = m := ⟨_, rfl⟩
  obtain ⟨x1, hx1⟩ : ∃ m, (if c.r < c.g then c.g else c.r) = m := ⟨_, rfl⟩
  obtain ⟨xx, hxx⟩ : ∃ m, (if x1 < c.b then c.b else x1) = m := ⟨_, rfl⟩
  have hmm : m ≤ c.r ∧ m ≤ c.g ∧ m ≤ c.b ∧ (m = c.r ∨ m = c.g ∨ m = c.b) := by
    by_cases q1 : c.g < c.r <;> by_cases q2 : c.b < m1 <;> simp only [q1, q2, if_true, if_false] at hm1 hm <;> omega
  have hxm : c.r ≤ xx ∧ c.g ≤ xx ∧ c.b ≤ xx ∧ (xx = c.r ∨ xx = c.g ∨ xx = c.b) := by
    by_cases q1 : c.r < c.g <;> by_cases q2 : x1 < c.b <;> simp only [q1, q2, if_true, if_false] at hx1 hxx <;> omega
  have e1 : decide (m < 0) = true := decide_eq_true (by omega)
  clear h hx hy hp hr hc hlow hmm hxm
  go_enter Tryd.func9, Tryd.ntmps9
  go_wp2_with (first
   | ((with_reducible refine gate_dst (N := 7) rfl ?_); refine box_event ?hg (N := 7) ?hd (cs := #[.int .i64 c.r, .int .i64 c.g, .int .i64 c.b]) (t := 33) ?hr ?_; (case hd => rfl); (case hg => rfl); (case hr => first | (go_simp; done) | (go_simp; rfl)); intro g7 hg w3 hbox hb; have BK7 := Aside0.mk hbox; have GE7 := Aside0.mk (bG hg HB.out); have c2 : w3.cell? ⟨a, 2, none⟩ = some (.map (some mb)) := (blk_cell (IM.out.below hb).cells 2).trans rfl; have lk := LK.out w3 (below_step HB.out hb); replace IM := Aside0.mk (IM.out.below hb); replace HB := Aside0.mk (below_step HB.out hb); clear hg hbox hb)
   | ((with_reducible refine gate_dst (N := 9) rfl ?_); refine box_event ?hg (N := 9) ?hd (cs := #[.int .i64 0, .int .i64 0, .int .i64 0, .int .i64 0]) (t := 50) ?hr ?_; (case hd => rfl); (case hg => rfl); (case hr => first | (go_simp; done) | (go_simp; rfl)); intro g9 hg w4 hbox hb; have BK9 := Aside0.mk hbox; have GE9 := Aside0.mk (bG hg HB.out); have NE79 := cN hg BK7; replace BK7 := cB hb BK7; replace IM := Aside0.mk (IM.out.below hb); replace HB := Aside0.mk (below_step HB.out hb); clear hg hbox hb)
   | ((with_reducible refine gate_store2 (t := 50) (x := .tmp 9) (y := .tmp 18) rfl ?_); refine ev_row (B := w.heap.size) (w0 := w) rfl 50 (.tmp 9) (.tmp 18) rfl rfl g9 #[.int .i64 p.r, .int .i64 p.g, .int .i64 p.b, .int .i64 p.n] ?hx ?hy 50 _ BK9.out (by kernel_rfl) rfl (by simp [Value.oneCell']) HB.out GE9.out ?_; (case hx => first | (go_simp; done) | rfl); (case hy => first | (go_simp; done) | rfl | (go_simp; rfl)); intro w5 hbox hb hk; replace IM := Aside0.mk (IM.out.but9 BK9.out hk); replace BK7 := Aside0.mk ((hk _ NE79.out).trans BK7.out); replace BK9 := Aside0.mk hbox; replace HB := Aside0.mk hb; have y0 : w5.cell? ⟨g7, 0, none⟩ = some (.int .i64 c.r) := (blk_cell BK7.out 0).trans rfl; have y1 : w5.cell? ⟨g7, 1, none⟩ = some (.int .i64 c.g) := (blk_cell BK7.out 1).trans rfl; have y2 : w5.cell? ⟨g7, 2, none⟩ = some (.int .i64 c.b) := (blk_cell BK7.out 2).trans rfl; clear hbox hb hk)
   | (go_at_call 15; (with_reducible refine (bx _ IM.out).mono ?_); rintro e w7 ⟨rfl, rfl⟩))
  go_ret
  have E : addE W H x y c (M x y) = 11 := by unfold addE; rw [if_neg (by rw [HRR.out]; decide), if_pos HCC.out]
  exact ⟨by rw [E]; rfl, added_no IM0.out HB.out (by rw [E]; decide)⟩
set_option maxHeartbeats 2000000 in
set_option maxRecDepth 100000 in
theorem addHigh.calls {a mb n : Nat} {W H : Int} {M : Int → Int → Px} (x y : Int) (c : Col) (w : World) (h : Img w a mb n W H M) (hx : I64 x) (hy : I64 y) (hr : hasB W H x y = true) (hc : okC c = false) (hlow : ¬ (c.r < 0 ∨ c.g < 0 ∨ c.b < 0)) :
    Calls Tryd.prog 9 #[.pointer (some ⟨a, 0, none⟩), .int .i64 x, .int .i64 y, .agg #[.int .i64 c.r, .int .i64 c.g, .int .i64 c.b]] w (AddPost a mb n W H M x y c w) := by
  have hu33 := Tryd.underlying33
  have hu50 := Tryd.underlying50
  have HB := Aside0.mk (Below.refl w.heap.size w)
  have IM := Aside0.mk h
  have IM0 := Aside0.mk h
  have LK : Aside0 (∀ w', Below w.heap.size w w' → (Instr.lookup 44 (.map (some mb)) (.agg #[.int .i64 x, .int .i64 y]) false).run Tryd.prog w' = .ok (.agg #[.int .i64 (M x y).r, .int .i64 (M x y).g, .int .i64 (M x y).b, .int .i64 (M x y).n]) w') := ⟨fun w' hb => (h.below hb).map.look hx hy⟩
  have HXY := Aside0.mk (And.intro hx hy)
  obtain ⟨p, hp⟩ : ∃ p, M x y = p := ⟨_, rfl⟩
  rw [hp] at LK
  have HPP := Aside0.mk hp
  have bx : ∀ w', Img w' a mb n W H M → Calls Tryd.prog 15 #[.pointer (some ⟨a, 0, none⟩), .int .i64 x, .int .i64 y] w' fun e w'' => e = .returned (.bool true) ∧ w'' = w' := fun w' hi => by
    rw [← hr]
    exact has.calls a W H x y w' ((blk_cell hi.cells 0).trans rfl) ((blk_cell hi.cells 1).trans rfl)
  have HRR := Aside0.mk hr
  have HCC := Aside0.mk hc
  obtain ⟨m1, hm1⟩ : ∃ m, (if c.g < c.r then c.g else c.r) = m := ⟨_, rfl⟩
  obtain ⟨m, hm⟩ : ∃ m, (if c.b < m1 then c.b else m1) = m := ⟨_, rfl⟩
  obtain ⟨x1, hx1⟩ : ∃ m, (if c.r < c.g then c.g else c.r) = m := ⟨_, rfl⟩
  obtain ⟨xx, hxx⟩ : ∃ m, (if x1 < c.b then c.b else x1) = m := ⟨_, rfl⟩
  have hmm : m ≤ c.r ∧ m ≤ c.g ∧ m ≤ c.b ∧ (m = c.r ∨ m = c.g ∨ m = c.b) := by
    by_cases q1 : c.g < c.r <;> by_cases q2 : c.b < m1 <;> simp only [q1, q2, if_true, if_false] at hm1 hm <;> omega
  have hxm : c.r ≤ xx ∧ c.g ≤ xx ∧ c.b ≤ xx ∧ (xx = c.r ∨ xx = c.g ∨ xx = c.b) := by
    by_cases q1 : c.r < c.g <;> by_cases q2 : x1 < c.b <;> simp only [q1, q2, if_true, if_false] at hx1 hxx <;> omega
  have e1 : decide (m < 0) = false := decide_eq_false (by omega)
  have e2 : decide (xx > 255) = true := decide_eq_true (by
    simp only [okC, partB, Bool.and_eq_false_iff, decide_eq_false_iff_not] at hc
    omega)
  clear h hx hy hp hr hc hlow hmm hxm
  go_enter Tryd.func9, Tryd.ntmps9
  go_wp2_with (first
   | ((with_reducible refine gate_dst (N := 7) rfl ?_); refine box_event ?hg (N := 7) ?hd (cs := #[.int .i64 c.r, .int .i64 c.g, .int .i64 c.b]) (t := 33) ?hr ?_; (case hd => rfl); (case hg => rfl); (case hr => first | (go_simp; done) | (go_simp; rfl)); intro g7 hg w3 hbox hb; have BK7 := Aside0.mk hbox; have GE7 := Aside0.mk (bG hg HB.out); have c2 : w3.cell? ⟨a, 2, none⟩ = some (.map (some mb)) := (blk_cell (IM.out.below hb).cells 2).trans rfl; have lk := LK.out w3 (below_step HB.out hb); replace IM := Aside0.mk (IM.out.below hb); replace HB := Aside0.mk (below_step HB.out hb); clear hg hbox hb)
   | ((with_reducible refine gate_dst (N := 9) rfl ?_); refine box_event ?hg (N := 9) ?hd (cs := #[.int .i64 0, .int .i64 0, .int .i64 0, .int .i64 0]) (t := 50) ?hr ?_; (case hd => rfl); (case hg => rfl); (case hr => first | (go_simp; done) | (go_simp; rfl)); intro g9 hg w4 hbox hb; have BK9 := Aside0.mk hbox; have GE9 := Aside0.mk (bG hg HB.out); have NE79 := cN hg BK7; replace BK7 := cB hb BK7; replace IM := Aside0.mk (IM.out.below hb); replace HB := Aside0.mk (below_step HB.out hb); clear hg hbox hb)
   | ((with_reducible refine gate_store2 (t := 50) (x := .tmp 9) (y := .tmp 18) rfl ?_); refine ev_row (B := w.heap.size) (w0 := w) rfl 50 (.tmp 9) (.tmp 18) rfl rfl g9 #[.int .i64 p.r, .int .i64 p.g, .int .i64 p.b, .int .i64 p.n] ?hx ?hy 50 _ BK9.out (by kernel_rfl) rfl (by simp [Value.oneCell']) HB.out GE9.out ?_; (case hx => first | (go_simp; done) | rfl); (case hy => first | (go_simp; done) | rfl | (go_simp; rfl)); intro w5 hbox hb hk; replace IM := Aside0.mk (IM.out.but9 BK9.out hk); replace BK7 := Aside0.mk ((hk _ NE79.out).trans BK7.out); replace BK9 := Aside0.mk hbox; replace HB := Aside0.mk hb; have y0 : w5.cell? ⟨g7, 0, none⟩ = some (.int .i64 c.r) := (blk_cell BK7.out 0).trans rfl; have y1 : w5.cell? ⟨g7, 1, none⟩ = some (.int .i64 c.g) := (blk_cell BK7.out 1).trans rfl; have y2 : w5.cell? ⟨g7, 2, none⟩ = some (.int .i64 c.b) := (blk_cell BK7.out 2).trans rfl; clear hbox hb hk)
   | (go_at_call 15; (with_reducible refine (bx _ IM.out).mono ?_); rintro e w7 ⟨rfl, rfl⟩))
  go_ret
  have E : addE W H x y c (M x y) = 11 := by unfold addE; rw [if_neg (by rw [HRR.out]; decide), if_pos HCC.out]
  exact ⟨by rw [E]; rfl, added_no IM0.out HB.out (by rw [E]; decide)⟩
set_option maxHeartbeats 2000000 in
set_option maxRecDepth 100000 in
theorem addLimit.calls {a mb n : Nat} {W H : Int} {M : Int → Int → Px} (x y : Int) (c : Col) (w : World) (h : Img w a mb n W H M) (hx : I64 x) (hy : I64 y) (hr : hasB W H x y = true) (hc : okC c = true) (hn : (M x y).n ≥ 65536) :
    Calls Tryd.prog 9 #[.pointer (some ⟨a, 0, none⟩), .int .i64 x, .int .i64 y, .agg #[.int .i64 c.r, .int .i64 c.g, .int .i64 c.b]] w (AddPost a mb n W H M x y c w) := by
  have hu33 := Tryd.underlying33
  have hu50 := Tryd.underlying50
  have HB := Aside0.mk (Below.refl w.heap.size w)
  have IM := Aside0.mk h
  have IM0 := Aside0.mk h
  have LK : Aside0 (∀ w', Below w.heap.size w w' → (Instr.lookup 44 (.map (some mb)) (.agg #[.int .i64 x, .int .i64 y]) false).run Tryd.prog w' = .ok (.agg #[.int .i64 (M x y).r, .int .i64 (M x y).g, .int .i64 (M x y).b, .int .i64 (M x y).n]) w') := ⟨fun w' hb => (h.below hb).map.look hx hy⟩
  have HXY := Aside0.mk (And.intro hx hy)
  obtain ⟨p, hp⟩ : ∃ p, M x y = p := ⟨_, rfl⟩
  rw [hp] at LK
  have HPP := Aside0.mk hp
  have bx : ∀ w', Img w' a mb n W H M → Calls Tryd.prog 15 #[.pointer (some ⟨a, 0, none⟩), .int .i64 x, .int .i64 y] w' fun e w'' => e = .returned (.bool true) ∧ w'' = w' := fun w' hi => by
    rw [← hr]
    exact has.calls a W H x y w' ((blk_cell hi.cells 0).trans rfl) ((blk_cell hi.cells 1).trans rfl)
  have HRR := Aside0.mk hr
  have HCC := Aside0.mk hc
  have HNN := Aside0.mk hn
  obtain ⟨m1, hm1⟩ : ∃ m, (if c.g < c.r then c.g else c.r) = m := ⟨_, rfl⟩
  obtain ⟨m, hm⟩ : ∃ m, (if c.b < m1 then c.b else m1) = m := ⟨_, rfl⟩
  obtain ⟨x1, hx1⟩ : ∃ m, (if c.r < c.g then c.g else c.r) = m := ⟨_, rfl⟩
  obtain ⟨xx, hxx⟩ : ∃ m, (if x1 < c.b then c.b else x1) = m := ⟨_, rfl⟩
  have hmm : m ≤ c.r ∧ m ≤ c.g ∧ m ≤ c.b ∧ (m = c.r ∨ m = c.g ∨ m = c.b) := by
    by_cases q1 : c.g < c.r <;> by_cases q2 : c.b < m1 <;> simp only [q1, q2, if_true, if_false] at hm1 hm <;> omega
  have hxm : c.r ≤ xx ∧ c.g ≤ xx ∧ c.b ≤ xx ∧ (xx = c.r ∨ xx = c.g ∨ xx = c.b) := by
    by_cases q1 : c.r < c.g <;> by_cases q2 : x1 < c.b <;> simp only [q1, q2, if_true, if_false] at hx1 hxx <;> omega
  have hcc := okC_no hc
  have e1 : decide (m < 0) = false := decide_eq_false (by omega)
  have e2 : decide (xx > 255) = false := decide_eq_false (by omega)
  rw [hp] at hn
  have e3 : decide (p.n ≥ 65536) = true := decide_eq_true hn
  clear h hx hy hp hr hc hn hmm hxm hcc
  go_enter Tryd.func9, Tryd.ntmps9
  go_wp2_with (first
   | ((with_reducible refine gate_dst (N := 7) rfl ?_); refine box_event ?hg (N := 7) ?hd (cs := #[.int .i64 c.r, .int .i64 c.g, .int .i64 c.b]) (t := 33) ?hr ?_; (case hd => rfl); (case hg => rfl); (case hr => first | (go_simp; done) | (go_simp; rfl)); intro g7 hg w3 hbox hb; have BK7 := Aside0.mk hbox; have GE7 := Aside0.mk (bG hg HB.out); have c2 : w3.cell? ⟨a, 2, none⟩ = some (.map (some mb)) := (blk_cell (IM.out.below hb).cells 2).trans rfl; have lk := LK.out w3 (below_step HB.out hb); replace IM := Aside0.mk (IM.out.below hb); replace HB := Aside0.mk (below_step HB.out hb); clear hg hbox hb)
   | ((with_reducible refine gate_dst (N := 9) rfl ?_); refine box_event ?hg (N := 9) ?hd (cs := #[.int .i64 0, .int .i64 0, .int .i64 0, .int .i64 0]) (t := 50) ?hr ?_; (case hd => rfl); (case hg => rfl); (case hr => first | (go_simp; done) | (go_simp; rfl)); intro g9 hg w4 hbox hb; have BK9 := Aside0.mk hbox; have GE9 := Aside0.mk (bG hg HB.out); have NE79 := cN hg BK7; replace BK7 := cB hb BK7; replace IM := Aside0.mk (IM.out.below hb); replace HB := Aside0.mk (below_step HB.out hb); clear hg hbox hb)
   | ((with_reducible refine gate_store2 (t := 50) (x := .tmp 9) (y := .tmp 18) rfl ?_); refine ev_row (B := w.heap.size) (w0 := w) rfl 50 (.tmp 9) (.tmp 18) rfl rfl g9 #[.int .i64 p.r, .int .i64 p.g, .int .i64 p.b, .int .i64 p.n] ?hx ?hy 50 _ BK9.out (by kernel_rfl) rfl (by simp [Value.oneCell']) HB.out GE9.out ?_; (case hx => first | (go_simp; done) | rfl); (case hy => first | (go_simp; done) | rfl | (go_simp; rfl)); intro w5 hbox hb hk; replace IM := Aside0.mk (IM.out.but9 BK9.out hk); replace BK7 := Aside0.mk ((hk _ NE79.out).trans BK7.out); replace BK9 := Aside0.mk hbox; replace HB := Aside0.mk hb; have y0 : w5.cell? ⟨g7, 0, none⟩ = some (.int .i64 c.r) := (blk_cell BK7.out 0).trans rfl; have y1 : w5.cell? ⟨g7, 1, none⟩ = some (.int .i64 c.g) := (blk_cell BK7.out 1).trans rfl; have y2 : w5.cell? ⟨g7, 2, none⟩ = some (.int .i64 c.b) := (blk_cell BK7.out 2).trans rfl; replace HB := HB; have z3 : w5.cell? ⟨g9, 3, none⟩ = some (.int .i64 p.n) := (blk_cell BK9.out 3).trans rfl; clear hbox hb hk)
   | (go_at_call 15; (with_reducible refine (bx _ IM.out).mono ?_); rintro e w7 ⟨rfl, rfl⟩))
  go_ret
  have E : addE W H x y c (M x y) = 13 := by unfold addE; rw [if_neg (by rw [HRR.out]; decide), if_neg (by rw [HCC.out]; decide), if_pos HNN.out]
  exact ⟨by rw [E]; rfl, added_no IM0.out HB.out (by rw [E]; decide)⟩
set_option maxHeartbeats 2000000 in
set_option maxRecDepth 100000 in
theorem addOk.calls {a mb n : Nat} {W H : Int} {M : Int → Int → Px} (x y : Int) (c : Col) (w : World) (h : Img w a mb n W H M) (hx : I64 x) (hy : I64 y) (hr : hasB W H x y = true) (hc : okC c = true) (hn : (M x y).n < 65536) (hG : GoodM M) (hnn : n < 1000000) :
    Calls Tryd.prog 9 #[.pointer (some ⟨a, 0, none⟩), .int .i64 x, .int .i64 y, .agg #[.int .i64 c.r, .int .i64 c.g, .int .i64 c.b]] w (AddPost a mb n W H M x y c w) := by
  have hu33 := Tryd.underlying33
  have hu50 := Tryd.underlying50
  have HB := Aside0.mk (Below.refl w.heap.size w)
  have IM := Aside0.mk h
  have IM0 := Aside0.mk h
  have LK : Aside0 (∀ w', Below w.heap.size w w' → (Instr.lookup 44 (.map (some mb)) (.agg #[.int .i64 x, .int .i64 y]) false).run Tryd.prog w' = .ok (.agg #[.int .i64 (M x y).r, .int .i64 (M x y).g, .int .i64 (M x y).b, .int .i64 (M x y).n]) w') := ⟨fun w' hb => (h.below hb).map.look hx hy⟩
  have HXY := Aside0.mk (And.intro hx hy)
  obtain ⟨p, hp⟩ : ∃ p, M x y = p := ⟨_, rfl⟩
  rw [hp] at LK
  have HPP := Aside0.mk hp
  have bx : ∀ w', Img w' a mb n W H M → Calls Tryd.prog 15 #[.pointer (some ⟨a, 0, none⟩), .int .i64 x, .int .i64 y] w' fun e w'' => e = .returned (.bool true) ∧ w'' = w' := fun w' hi => by
    rw [← hr]
    exact has.calls a W H x y w' ((blk_cell hi.cells 0).trans rfl) ((blk_cell hi.cells 1).trans rfl)
  have HRR := Aside0.mk hr
  have HCC := Aside0.mk hc
  have HNN := Aside0.mk hn
  have HNM := Aside0.mk hnn
  obtain ⟨m1, hm1⟩ : ∃ m, (if c.g < c.r then c.g else c.r) = m := ⟨_, rfl⟩
  obtain ⟨m, hm⟩ : ∃ m, (if c.b < m1 then c.b else m1) = m := ⟨_, rfl⟩
  obtain ⟨x1, hx1⟩ : ∃ m, (if c.r < c.g then c.g else c.r) = m := ⟨_, rfl⟩
  obtain ⟨xx, hxx⟩ : ∃ m, (if x1 < c.b then c.b else x1) = m := ⟨_, rfl⟩
  have hmm : m ≤ c.r ∧ m ≤ c.g ∧ m ≤ c.b ∧ (m = c.r ∨ m = c.g ∨ m = c.b) := by
    by_cases q1 : c.g < c.r <;> by_cases q2 : c.b < m1 <;> simp only [q1, q2, if_true, if_false] at hm1 hm <;> omega
  have hxm : c.r ≤ xx ∧ c.g ≤ xx ∧ c.b ≤ xx ∧ (xx = c.r ∨ xx = c.g ∨ xx = c.b) := by
    by_cases q1 : c.r < c.g <;> by_cases q2 : x1 < c.b <;> simp only [q1, q2, if_true, if_false] at hx1 hxx <;> omega
  have hcc := okC_no hc
  have e1 : decide (m < 0) = false := decide_eq_false (by omega)
  have e2 : decide (xx > 255) = false := decide_eq_false (by omega)
  have hg := hG x y
  rw [hp] at hn hg
  have e3 : decide (p.n ≥ 65536) = false := decide_eq_false (by omega)
  have v1 : 0 ≤ p.r ∧ p.r ≤ 16711680 := by omega
  have v2 : 0 ≤ p.g ∧ p.g ≤ 16711680 := by omega
  have v3 : 0 ≤ p.b ∧ p.b ≤ 16711680 := by omega
  have v4 := hg.1
  obtain ⟨v5, v6⟩ := v1
  obtain ⟨v7, v8⟩ := v2
  obtain ⟨v9, v10⟩ := v3
  obtain ⟨u1, u2, u3, u4, u5, u6⟩ := hcc
  clear h hx hy hp hr hc hnn hmm hxm hG hg
  go_enter Tryd.func9, Tryd.ntmps9
  go_wp2_with (first
   | ((with_reducible refine gate_dst (N := 7) rfl ?_); refine box_event ?hg (N := 7) ?hd (cs := #[.int .i64 c.r, .int .i64 c.g, .int .i64 c.b]) (t := 33) ?hr ?_; (case hd => rfl); (case hg => rfl); (case hr => first | (go_simp; done) | (go_simp; rfl)); intro g7 hg w3 hbox hb; have BK7 := Aside0.mk hbox; have GE7 := Aside0.mk (bG hg HB.out); have c2 : w3.cell? ⟨a, 2, none⟩ = some (.map (some mb)) := (blk_cell (IM.out.below hb).cells 2).trans rfl; have lk := LK.out w3 (below_step HB.out hb); replace IM := Aside0.mk (IM.out.below hb); replace HB := Aside0.mk (below_step HB.out hb); clear hg hbox hb)
   | ((with_reducible refine gate_dst (N := 9) rfl ?_); refine box_event ?hg (N := 9) ?hd (cs := #[.int .i64 0, .int .i64 0, .int .i64 0, .int .i64 0]) (t := 50) ?hr ?_; (case hd => rfl); (case hg => rfl); (case hr => first | (go_simp; done) | (go_simp; rfl)); intro g9 hg w4 hbox hb; have BK9 := Aside0.mk hbox; have GE9 := Aside0.mk (bG hg HB.out); have NE79 := cN hg BK7; replace BK7 := cB hb BK7; replace IM := Aside0.mk (IM.out.below hb); replace HB := Aside0.mk (below_step HB.out hb); clear hg hbox hb)
   | ((with_reducible refine gate_store2 (t := 50) (x := .tmp 9) (y := .tmp 18) rfl ?_); refine ev_row (B := w.heap.size) (w0 := w) rfl 50 (.tmp 9) (.tmp 18) rfl rfl g9 #[.int .i64 p.r, .int .i64 p.g, .int .i64 p.b, .int .i64 p.n] ?hx ?hy 50 _ BK9.out (by kernel_rfl) rfl (by simp [Value.oneCell']) HB.out GE9.out ?_; (case hx => first | (go_simp; done) | rfl); (case hy => first | (go_simp; done) | rfl | (go_simp; rfl)); intro w5 hbox hb hk; replace IM := Aside0.mk (IM.out.but9 BK9.out hk); replace BK7 := Aside0.mk ((hk _ NE79.out).trans BK7.out); replace BK9 := Aside0.mk hbox; replace HB := Aside0.mk hb; have y0 : w5.cell? ⟨g7, 0, none⟩ = some (.int .i64 c.r) := (blk_cell BK7.out 0).trans rfl; have y1 : w5.cell? ⟨g7, 1, none⟩ = some (.int .i64 c.g) := (blk_cell BK7.out 1).trans rfl; have y2 : w5.cell? ⟨g7, 2, none⟩ = some (.int .i64 c.b) := (blk_cell BK7.out 2).trans rfl; have z0 : w5.cell? ⟨g9, 0, none⟩ = some (.int .i64 p.r) := (blk_cell BK9.out 0).trans rfl; have f0 := blk_frozen BK9.out 0; have z1 : w5.cell? ⟨g9, 1, none⟩ = some (.int .i64 p.g) := (blk_cell BK9.out 1).trans rfl; have f1 := blk_frozen BK9.out 1; have z2 : w5.cell? ⟨g9, 2, none⟩ = some (.int .i64 p.b) := (blk_cell BK9.out 2).trans rfl; have f2 := blk_frozen BK9.out 2; have z3 : w5.cell? ⟨g9, 3, none⟩ = some (.int .i64 p.n) := (blk_cell BK9.out 3).trans rfl; have f3 := blk_frozen BK9.out 3; have n1 : ¬ g7 = g9 := NE79.out; have n2 : ¬ g9 = g7 := Ne.symm NE79.out; clear hbox hb hk)
   | (go_at_call 15; (with_reducible refine (bx _ IM.out).mono ?_); rintro e w7 ⟨rfl, rfl⟩))
  have B1 := blk_put BK9.out 3 (.int .i64 (p.n + 1)) (cs' := #[.int .i64 p.r, .int .i64 p.g, .int .i64 p.b, .int .i64 (p.n + 1)]) (by simp)
  have B2 := blk_put B1 0 (.int .i64 (p.r + c.r)) (cs' := #[.int .i64 (p.r + c.r), .int .i64 p.g, .int .i64 p.b, .int .i64 (p.n + 1)]) (by simp)
  have B3 := blk_put B2 1 (.int .i64 (p.g + c.g)) (cs' := #[.int .i64 (p.r + c.r), .int .i64 (p.g + c.g), .int .i64 p.b, .int .i64 (p.n + 1)]) (by simp)
  have B4 := blk_put B3 2 (.int .i64 (p.b + c.b)) (cs' := #[.int .i64 (p.r + c.r), .int .i64 (p.g + c.g), .int .i64 (p.b + c.b), .int .i64 (p.n + 1)]) (by simp)
  have hbx := ((((HB.out.setCell (p := ⟨g9, 3, none⟩) GE9.out (.int .i64 (p.n + 1))).setCell (p := ⟨g9, 0, none⟩) GE9.out (.int .i64 (p.r + c.r))).setCell (p := ⟨g9, 1, none⟩) GE9.out (.int .i64 (p.g + c.g))).setCell (p := ⟨g9, 2, none⟩) GE9.out (.int .i64 (p.b + c.b)))
  have imx := IM.out.but9 (w1 := (((w7.setCell ⟨g9, 3, none⟩ (.int .i64 (p.n + 1))).setCell ⟨g9, 0, none⟩ (.int .i64 (p.r + c.r))).setCell ⟨g9, 1, none⟩ (.int .i64 (p.g + c.g))).setCell ⟨g9, 2, none⟩ (.int .i64 (p.b + c.b))) BK9.out (fun i hi => (Below.heap_setCell _ _ _ _ hi).trans ((Below.heap_setCell _ _ _ _ hi).trans ((Below.heap_setCell _ _ _ _ hi).trans (Below.heap_setCell _ _ _ _ hi))))
  clear y0 y1 y2 z0 z1 z2 z3 f0 f1 f2 f3 n1 n2 B1 B2 B3 BK7 BK9 IM HB NE79 c2 lk
  generalize (((w7.setCell ⟨g9, 3, none⟩ (.int .i64 (p.n + 1))).setCell ⟨g9, 0, none⟩ (.int .i64 (p.r + c.r))).setCell ⟨g9, 1, none⟩ (.int .i64 (p.g + c.g))).setCell ⟨g9, 2, none⟩ (.int .i64 (p.b + c.b)) = w8 at *
  have c2 : w8.cell? ⟨a, 2, none⟩ = some (.map (some mb)) := (blk_cell imx.cells 2).trans rfl
  have z0 : w8.cell? ⟨g9, 0, none⟩ = some (.int .i64 (p.r + c.r)) := (blk_cell B4 0).trans rfl
  have z1 : w8.cell? ⟨g9, 1, none⟩ = some (.int .i64 (p.g + c.g)) := (blk_cell B4 1).trans rfl
  have z2 : w8.cell? ⟨g9, 2, none⟩ = some (.int .i64 (p.b + c.b)) := (blk_cell B4 2).trans rfl
  have z3 : w8.cell? ⟨g9, 3, none⟩ = some (.int .i64 (p.n + 1)) := (blk_cell B4 3).trans rfl
  have IM := Aside0.mk (imx.below (below_drew1 (Below.refl _ _)))
  have HB := Aside0.mk (below_drew1 hbx)
  have hml : n < maxLen := by unfold maxLen; have := HNM.out; omega
  have HML := Aside0.mk hml
  clear imx hbx B4 hml
  go_still_tail 9, (by kernel_rfl)
  change wpList _ _ _ _ _ w8.drew
  clear c2 z0 z1 z2 z3
  generalize w8.drew = w9 at *
  go_wp2_with (at_mapUpdate; refine put_event rfl _ _ _ rfl mb n M rfl IM.out.map HML.out x y (addPx p c) rfl rfl HXY.out.1 HXY.out.2 ?_; intro w10 hpm hgr; have PM := Aside0.mk hpm; have GR := Aside0.mk hgr; clear hpm hgr)
  go_ret
  have E : addE W H x y c (M x y) = 0 := by unfold addE; rw [if_neg (by rw [HRR.out]; decide), if_neg (by rw [HCC.out]; decide), if_neg (by have := HNN.out; omega)]
  refine ⟨by rw [E]; rfl, ⟨⟨(GR.out.block a (blk_lt IM.out.cells) (fun e => IM.out.ne (by injection e))).trans IM.out.cells, ?_⟩, Nat.le_trans HB.out.size GR.out.size, fun k hk hkm => (GR.out.block k (Nat.lt_of_lt_of_le hk HB.out.size) (fun e => hkm (by injection e))).trans (HB.out.block k hk), fun B h1 h2 => (HB.out.mono h2).grown GR.out (Nat.le_trans h2 HB.out.size) (fun k e => by injection e with e; subst e; exact h1)⟩⟩
  unfold addM
  rw [if_pos E, HPP.out]
  exact PM.out
end Go.Proofs.YtibecmeajopmeaaDoor.G
