/- Events of a walk: rows of cells that are read and stored. -/
import Derived.Test.YtfhjdhhflpekiaaCKit
import Derived.Deep.MidRow
import Derived.Laws.CopyOwn
import Derived.LaidEqlPtr
namespace Go.Proofs.Ytfhjdhhflpekiaa.G
open Go.RowKit Go.Proofs.Cache Go.Proofs.YtfhjdhhflpekiaaW.PrintWords Go.Proofs.YtfhjdhhflpekiaaW.PrintLast Go.Proofs.YtfhjdhhflpekiaaW.PrintMore
set_option linter.unusedVariables false
set_option linter.unusedSimpArgs false
section
variable {P : Program} {ops : Array Oper} {rest : List Oper} {o : Oper} {a : Act} {Q : Exit → Act → World → Prop} {W w0 : World}
theorem gate_store2 {t : TypeId} {x y : Operand} (_ho : o.op = .store t x y) (h : wpList P ops Q (o :: rest) a W) : wpList P ops Q (o :: rest) a W := h
/-- A whole variable is stored. -/
theorem ev_row {B : Nat} (hgd : o.guard = none) (ty : TypeId) (x y : Operand) (ho : o.op = .store ty x y) (hN : o.dst = none) (g : Nat) (cells : Array Value) (hx : a.eval x = .pointer (some ⟨g, 0, none⟩)) (hy : a.eval y = .agg cells)
    (t : TypeId) (old : Array Value) (hg : W.heap[g]? = some (.cells old t (0, 0))) (hi : (P.info? ty).map (·.size) = some cells.size) (hold : old.size = cells.size) (h1 : cells.all (·.oneCell') = true)
    (HB : Below B w0 W) (hBg : B ≤ g)
    (h : ∀ w1, w1.heap[g]? = some (.cells cells t (0, 0)) → Below B w0 w1 → (∀ k, k ≠ g → w1.heap[k]? = W.heap[k]?) → wpList P ops Q rest a w1) : wpList P ops Q (o :: rest) a W := by
  refine wpList_store_row hgd ty x y ho g cells hx hy t old hg hi hold h1 ?_
  rw [hN]
  exact h _ (setRow_heap W g old cells t (0, 0) hg) (Go.below_setRow HB hBg _) (fun k hk => setRow_other W g k _ hk)
theorem wanted_step (hw : Region.wanted o (yielded ops a.tmps) = true) (h : ∀ K : Act → World → Prop, (∀ a w, wpList P ops Q rest a w → K a w) → o.wp P a W K Q) : wpList P ops Q (o :: rest) a W :=
  wpList_step fun K hK => by rw [if_pos hw]; exact h K hK
/-- A row in the midst of a variable is read. -/
theorem ev_mid (hw : Region.wanted o (yielded ops a.tmps) = true) (ty : TypeId) (x : Operand) (ho : o.op = .load ty x) (b k : Nat) (hx : a.eval x = .pointer (some ⟨b, k, none⟩)) (cs : List Value) (cells : Array Value) (hcs : cs.toArray = cells) (d : TypeDesc) (hc : W.rangeAt b k cs)
    (hu : P.underlying ty = some d) (hd : d.isRow = true) (hi : (P.info? ty).map (·.size) = some cells.size) (h : wpList P ops Q rest (a.put o.dst (.agg cells)) W) : wpList P ops Q (o :: rest) a W :=
  wanted_step hw fun K hK => wp_load_mid ty x ho b k hx cs d hc hu hd (by rw [hi, ← hcs]; simp) (hK _ _ (by rw [hcs]; exact h))
/-- A struct is built. -/
theorem ev_build (hgd : o.guard = none) (t : TypeId) (parts : Array (Nat × Operand)) (ho : o.op = .build t parts) (l : List (Nat × Value)) (hl : (parts.map fun (i, x) => (i, a.eval x)).toList = l) (cs : Array Value) (hb : P.built t l = some cs)
    (h : wpList P ops Q rest (a.put o.dst (.agg cs)) W) : wpList P ops Q (o :: rest) a W := by
  refine wpList_build hgd t parts ho ?_ ?_
  · rw [hl, hb]
    rfl
  · rw [hl, hb]
    exact h
/-- A cell is stored. -/
theorem ev_cell {B : Nat} (hgd : o.guard = none) (hN : o.dst = none) (g i : Nat) (v : Value) (t : TypeId) (old : Array Value) (hg : W.heap[g]? = some (.cells old t (0, 0)))
    (hrun : (execOp a.eval o).run P W = .ok .skip (W.setCell ⟨g, i, none⟩ v))
    (HB : Below B w0 W) (hBg : B ≤ g)
    (h : ∀ w1, w1.heap[g]? = some (.cells (old.setIfInBounds i v) t (0, 0)) → Below B w0 w1 → (∀ k, k ≠ g → w1.heap[k]? = W.heap[k]?) → wpList P ops Q rest a w1) : wpList P ops Q (o :: rest) a W := by
  refine wpList_plain hgd fun K hK => ?_
  unfold Oper.wp
  rw [hrun]
  show K (a.put o.dst undef) _
  rw [hN]
  refine hK _ _ (h _ (blk_set hg i v) (HB.setCell hBg _) (fun k hk => ?_))
  exact Go.heap_setCell_other W ⟨g, i, none⟩ k v hk
end
theorem range_of {w : World} {b : Nat} {cs : Array Value} {t : TypeId} {fr : Nat × Nat} (h : w.heap[b]? = some (.cells cs t fr)) (k : Nat) (l : List Value) (hl : ∀ j v, l[j]? = some v → cs[k + j]? = some v) : w.rangeAt b k l := by
  intro j v hv
  rw [cell_of_row w b (k + j) cs t fr h]
  exact hl j v hv
theorem eql_same (a : Nat) (w : World) : Sem.run Try.prog (binOp .eql 62 (.pointer (some ⟨a, 0, none⟩)) (.pointer (some ⟨a, 0, none⟩))) w = .ok (.bool true) w := by
  have hi : (Try.prog.info? 64).isSome = true := by kernel_rfl
  obtain ⟨j, hj⟩ := Option.isSome_iff_exists.1 hi
  exact run_eql_ptr_same w _ Try.underlying62 hj
theorem eql_other {a b : Nat} {w : World} {ca cb : Array Value} {ta tb : TypeId} (hne : a ≠ b) (ha : w.heap[a]? = some (.cells ca ta (0, 0))) (hb : w.heap[b]? = some (.cells cb tb (0, 0))) :
    Sem.run Try.prog (binOp .eql 62 (.pointer (some ⟨a, 0, none⟩)) (.pointer (some ⟨b, 0, none⟩))) w = .ok (.bool false) w := by
  have hi : (Try.prog.info? 64).map (·.size) = some 7 := by kernel_rfl
  obtain ⟨j, hj, hs⟩ := Option.map_eq_some_iff.1 hi
  exact run_eql_ptr_other w (a := ⟨a, 0, none⟩) (b := ⟨b, 0, none⟩) Try.underlying62 hj (by rw [hs]; decide) (by intro e; exact hne (congrArg Addr.block e)) ha hb
end Go.Proofs.Ytfhjdhhflpekiaa.G
