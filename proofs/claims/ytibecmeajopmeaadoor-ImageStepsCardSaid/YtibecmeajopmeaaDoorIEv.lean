/- Events of a walk: rows of cells that are stored, slices that are made. -/
import Derived.Test.YtibecmeajopmeaaDoorIHas
import Derived.Deep.MidRow
import Derived.Laws.CopyOwn
namespace Go.Proofs.YtibecmeajopmeaaDoor.G
open Go.RowKit Go.Proofs.YtibecmeajopmeaaDoorW.PrintWords Go.Proofs.YtibecmeajopmeaaDoorW.PrintLast Go.Proofs.YtibecmeajopmeaaDoorW.PrintMore
set_option linter.unusedVariables false
set_option linter.unusedSimpArgs false
section
variable {P : Program} {ops : Array Oper} {rest : List Oper} {o : Oper} {a : Act} {Q : Exit → Act → World → Prop} {W w0 : World}
theorem gate_store2 {t : TypeId} {x y : Operand} (_ho : o.op = .store t x y) (h : wpList P ops Q (o :: rest) a W) : wpList P ops Q (o :: rest) a W := h
/-- A whole variable is stored. -/
theorem ev_row {B : Nat} (hgd : o.guard = none) (ty : TypeId) (x y : Operand) (ho : o.op = .store ty x y) (hN : o.dst = none) (g : Nat) (cells : Array Value) (hx : a.eval x = .pointer (some ⟨g, 0, none⟩)) (hy : a.eval y = .agg cells)
    (t : TypeId) (old : Array Value) (hg : W.heap[g]? = some (.cells old t (0, 0))) (hi : (P.info? ty).map (·.size) = some cells.size) (hold : old.size = cells.size) (h1 : cells.all (·.oneCell') = true)
    (HB : Below B w0 W) (hBg : B ≤ g)
    (h : ∀ w1, w1.heap[g]? = some (.cells cells t (0, 0)) → Below B w0 w1 → (∀ k, k ≠ g → w1.heap[k]? = W.heap[k]?) → wpList P ops Q rest a w1) : wpList P ops Q (o :: rest) a W := by
  refine wpList_store_row hgd ty x y ho g cells hx hy t old hg hi hold h1 ?_
  rw [hN]
  exact h _ (setRow_heap W g old cells t (0, 0) hg) (Go.below_setRow HB hBg _) (fun k hk => setRow_other W g k _ hk)
/-- A slice is made of new cells. -/
theorem lit_event {W : World} (hgd : o.guard = none) {N : Tmp} (_hd : o.dst = some N) {cs : Array Value} {t : TypeId} {n c : Nat}
    (hrun : (execOp a.eval o).run P W = .ok (.value (.slice (some ⟨W.heap.size, 0, none⟩) n c)) (W.alloc (.cells cs t (0, 0))))
    (h : ∀ g, g = W.heap.size → ∀ w1, w1.heap[g]? = some (.cells cs t (0, 0)) → Below W.heap.size W w1 → wpList P ops Q rest (a.put o.dst (.slice (some ⟨g, 0, none⟩) n c)) w1) : wpList P ops Q (o :: rest) a W :=
  Kd.event_run hgd hrun (h _ rfl _ (blk_new W _) (below_alloc (Below.refl _ _) _))
end
def colR (p : Px) : Int := wrap64 (Int.tdiv p.r (mx p.n 1))
def colG (p : Px) : Int := wrap64 (Int.tdiv p.g (mx p.n 1))
def colB (p : Px) : Int := wrap64 (Int.tdiv p.b (mx p.n 1))
theorem color_eq (p : Px) : image_pixel_color.f p.r p.g p.b p.n = some (colR p, colG p, colB p) := by
  have h : mx p.n 1 ≠ 0 := by unfold mx; split <;> omega
  unfold image_pixel_color.f
  first
   | (rw [if_neg h]; rfl)
   | (simp [h, colR, colG, colB])
/-- What At answers. -/
def AtPost (W H : Int) (M : Int → Int → Px) (x y : Int) (w : World) (e : Ending) (w' : World) : Prop :=
  (if hasB W H x y then e = .returned (.tuple #[.agg #[.int .i64 (colR (M x y)), .int .i64 (colG (M x y)), .int .i64 (colB (M x y))], .bool true]) else e = .returned (.tuple #[.agg #[.int .i64 0, .int .i64 0, .int .i64 0], .bool false])) ∧ Below w.heap.size w w'
def Z33 : Array Value := #[.int .i64 0, .int .i64 0, .int .i64 0]
set_option maxHeartbeats 2000000 in
set_option maxRecDepth 100000 in
theorem at.calls {a mb n : Nat} {W H : Int} {M : Int → Int → Px} (x y : Int) (w : World) (h : Img w a mb n W H M) (hx : I64 x) (hy : I64 y) :
    Calls Tryd.prog 11 #[.pointer (some ⟨a, 0, none⟩), .int .i64 x, .int .i64 y] w (AtPost W H M x y w) := by
  have hu33 := Tryd.underlying33
  have HB := Aside0.mk (Below.refl w.heap.size w)
  have IM := Aside0.mk h
  have LK : Aside0 (∀ w', Below w.heap.size w w' → (Instr.lookup 44 (.map (some mb)) (.agg #[.int .i64 x, .int .i64 y]) false).run Tryd.prog w' = .ok (.agg #[.int .i64 (M x y).r, .int .i64 (M x y).g, .int .i64 (M x y).b, .int .i64 (M x y).n]) w') := ⟨fun w' hb => (h.below hb).map.look hx hy⟩
  have CE : ∀ w', Calls Tryd.prog 17 #[.agg #[.int .i64 (M x y).r, .int .i64 (M x y).g, .int .i64 (M x y).b, .int .i64 (M x y).n]] w' fun e w'' => e = .returned (.agg #[.int .i64 (colR (M x y)), .int .i64 (colG (M x y)), .int .i64 (colB (M x y))]) ∧ Below w'.heap.size w' w'' := fun w' => image_pixel_color.calls _ _ _ _ _ _ _ w' (color_eq _)
  obtain ⟨p, hp⟩ : ∃ p, M x y = p := ⟨_, rfl⟩
  rw [hp] at LK CE
  obtain ⟨r, hr⟩ : ∃ r, hasB W H x y = r := ⟨_, rfl⟩
  have HRR := Aside0.mk hr
  have HPP := Aside0.mk hp
  clear h hr hp hx hy
  have bx : ∀ w', Img w' a mb n W H M → Calls Tryd.prog 15 #[.pointer (some ⟨a, 0, none⟩), .int .i64 x, .int .i64 y] w' fun e w'' => e = .returned (.bool r) ∧ w'' = w' := fun w' hi => by
    rw [← HRR.out]
    exact has.calls a W H x y w' ((blk_cell hi.cells 0).trans rfl) ((blk_cell hi.cells 1).trans rfl)
  cases r with
  | false =>
    go_enter Tryd.func11, Tryd.ntmps11
    go_wp2_with (first
     | ((with_reducible refine gate_dst (N := 6) rfl ?_); refine box_event ?hg (N := 6) ?hd (cs := #[.int .i64 0, .int .i64 0, .int .i64 0]) (t := 33) ?hr ?_; (case hd => rfl); (case hg => rfl); (case hr => first | (go_simp; done) | (go_simp; rfl)); intro g6 hg w6 hbox hb; have BK6 := Aside0.mk hbox; have GE6 := Aside0.mk (bG hg HB.out); replace IM := Aside0.mk (IM.out.below hb); replace HB := Aside0.mk (below_step HB.out hb); clear hg hbox hb)
     | (go_at_call 15; (with_reducible refine (bx _ IM.out).mono ?_); rintro e w7 ⟨rfl, rfl⟩)
     | ((with_reducible refine gate_store2 (t := 33) (x := .tmp 6) (y := .tmp 15) rfl ?_); refine ev_row (B := w.heap.size) (w0 := w) rfl 33 (.tmp 6) (.tmp 15) rfl rfl g6 #[.int .i64 0, .int .i64 0, .int .i64 0] ?hx ?hy 33 _ BK6.out (by kernel_rfl) rfl (by simp [Value.oneCell']) HB.out GE6.out ?_; (case hx => first | (go_simp; done) | rfl); (case hy => first | (go_simp; done) | rfl | (go_simp; rfl)); intro w8 hbox hb hk; replace BK6 := Aside0.mk hbox; replace HB := Aside0.mk hb; clear hbox hb hk))
    refine bodyPost_ret (results_list (rs := [.cell 6 33, .tmp 7]) rfl (by simp) (.cell g6 33 _ (0, 0) _ rfl BK6.out hu33 rfl (by kernel_rfl) (.tmp .nil))) rfl ?_
    exact ⟨by rw [HRR.out]; rfl, HB.out⟩
  | true =>
    go_enter Tryd.func11, Tryd.ntmps11
    go_wp2_with (first
     | ((with_reducible refine gate_dst (N := 6) rfl ?_); refine box_event ?hg (N := 6) ?hd (cs := #[.int .i64 0, .int .i64 0, .int .i64 0]) (t := 33) ?hr ?_; (case hd => rfl); (case hg => rfl); (case hr => first | (go_simp; done) | (go_simp; rfl)); intro g6 hg w6 hbox hb; have BK6 := Aside0.mk hbox; have GE6 := Aside0.mk (bG hg HB.out); replace IM := Aside0.mk (IM.out.below hb); replace HB := Aside0.mk (below_step HB.out hb); have c2 : w6.cell? ⟨a, 2, none⟩ = some (.map (some mb)) := (blk_cell IM.out.cells 2).trans rfl; have lk := LK.out w6 HB.out; clear hg hbox hb)
     | (go_at_call 15; (with_reducible refine (bx _ IM.out).mono ?_); rintro e w7 ⟨rfl, rfl⟩)
     | (go_at_call 17; (with_reducible refine (CE _).mono ?_); rintro e w7 ⟨rfl, hb⟩; replace BK6 := Aside0.mk (blk_below BK6.out hb); replace HB := Aside0.mk (below_step HB.out hb); clear hb)
     | ((with_reducible refine gate_store2 (t := 33) (x := .tmp 6) (y := .tmp 25) rfl ?_); refine ev_row (B := w.heap.size) (w0 := w) rfl 33 (.tmp 6) (.tmp 25) rfl rfl g6 #[.int .i64 (colR p), .int .i64 (colG p), .int .i64 (colB p)] ?hx ?hy 33 _ BK6.out (by kernel_rfl) rfl (by simp [Value.oneCell']) HB.out GE6.out ?_; (case hx => first | (go_simp; done) | rfl); (case hy => first | (go_simp; done) | rfl | (go_simp; rfl)); intro w8 hbox hb hk; replace BK6 := Aside0.mk hbox; replace HB := Aside0.mk hb; clear hbox hb hk))
    refine bodyPost_ret (results_list (rs := [.cell 6 33, .tmp 7]) rfl (by simp) (.cell g6 33 _ (0, 0) _ rfl BK6.out hu33 rfl (by kernel_rfl) (.tmp .nil))) rfl ?_
    exact ⟨by rw [HRR.out, HPP.out]; rfl, HB.out⟩
end Go.Proofs.YtibecmeajopmeaaDoor.G
