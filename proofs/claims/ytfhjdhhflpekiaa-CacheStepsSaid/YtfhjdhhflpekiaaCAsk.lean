/- An entry that is asked again; steps of drawn regions. -/
import Derived.Test.YtfhjdhhflpekiaaCKA
import Derived.Deep.RegionLaw
namespace Go.Proofs.Ytfhjdhhflpekiaa.G
open Go.RowKit Go.Proofs.Cache Go.Proofs.YtfhjdhhflpekiaaW.PrintWords Go.Proofs.YtfhjdhhflpekiaaW.PrintLast Go.Proofs.YtfhjdhhflpekiaaW.PrintMore
set_option linter.unusedVariables false
set_option linter.unusedSimpArgs false
section
variable {P : Program} {ops : Array Oper} {o : Oper} {a : Act} {K : Act → World → Prop} {Q : Exit → Act → World → Prop} {E : Prop} {W w0 : World}
theorem step_row {B : Bd} (hgd : o.guard = none) (ty : TypeId) (x y : Operand) (ho : o.op = .store ty x y) (hN : o.dst = none) (g : Nat) (cells : Array Value) (hx : a.eval x = .pointer (some ⟨g, 0, none⟩)) (hy : a.eval y = .agg cells)
    (t : TypeId) (old : Array Value) (hg : W.heap[g]? = some (.cells old t (0, 0))) (hi : (P.info? ty).map (·.size) = some cells.size) (hold : old.size = cells.size) (h1 : cells.all (·.oneCell') = true)
    (HB : Below B w0 W) (hBg : B ≤ g)
    (h : ∀ w1, w1.heap[g]? = some (.cells cells t (0, 0)) → Below B w0 w1 → (∀ k, k ≠ g → w1.heap[k]? = W.heap[k]?) → K a w1) : if Region.wanted o (yielded ops a.tmps) = true then Oper.wp P o a W K Q else E := by
  rw [if_pos (by simp [Region.wanted, hgd])]
  refine wp_store_row ty x y ho g cells hx hy t old hg hi hold h1 ?_
  rw [hN]
  exact h _ (setRow_heap W g old cells t (0, 0) hg) (Go.below_setRow HB hBg _) (fun k hk => setRow_other W g k _ hk)
theorem step_mid (hgd : o.guard = none) (ty : TypeId) (x : Operand) (ho : o.op = .load ty x) (b k : Nat) (hx : a.eval x = .pointer (some ⟨b, k, none⟩)) (cs : List Value) (cells : Array Value) (hcs : cs.toArray = cells) (d : TypeDesc) (hc : W.rangeAt b k cs)
    (hu : P.underlying ty = some d) (hd : d.isRow = true) (hi : (P.info? ty).map (·.size) = some cells.size) (h : K (a.put o.dst (.agg cells)) W) : if Region.wanted o (yielded ops a.tmps) = true then Oper.wp P o a W K Q else E := by
  rw [if_pos (by simp [Region.wanted, hgd])]
  exact wp_load_mid ty x ho b k hx cs d hc hu hd (by rw [hi, ← hcs]; simp) (by rw [hcs]; exact h)
theorem step_box {N : Tmp} (hgd : o.guard = none) (_hd : o.dst = some N) {cs : Array Value} {t : TypeId}
    (hrun : (execOp a.eval o).run P W = .ok (.value (.pointer (some ⟨W.heap.size, 0, none⟩))) (W.alloc (.cells cs t (0, 0))))
    (h : ∀ g, g = W.heap.size → ∀ w1, w1.heap[g]? = some (.cells cs t (0, 0)) → Below W.heap.size W w1 → K (a.put o.dst (.pointer (some ⟨g, 0, none⟩))) w1) : if Region.wanted o (yielded ops a.tmps) = true then Oper.wp P o a W K Q else E := by
  rw [if_pos (by simp [Region.wanted, hgd])]
  unfold Oper.wp
  rw [hrun]
  exact h _ rfl _ (blk_new W _) (below_alloc (Below.refl _ _) _)
end
theorem set_getD {α : Type} (l : List α) (j : Nat) (d x : α) (h : j < l.length) : (l.set j x).getD j d = x := by
  simp [List.getD_eq_getElem?_getD, h]
theorem map_set_same {α β : Type} (f : α → β) (l : List α) (j : Nat) (x d : α) (hj : j < l.length) (h : f x = f (l.getD j d)) : (l.set j x).map f = l.map f := by
  apply List.ext_getElem?
  intro i
  rw [List.getElem?_map, List.getElem?_map]
  by_cases e : j = i
  · subst e
    rw [List.getElem?_set_self hj, List.getElem?_eq_getElem hj]
    simp only [Option.map_some, h]
    rw [List.getD_eq_getElem?_getD, List.getElem?_eq_getElem hj]
    rfl
  · rw [List.getElem?_set_ne e]
def Ent.ask (e : Ent) (t : Int) : Ent := { e with asked := t }
/-- An entry is asked: its last cell is written. -/
theorem Left.ask {B : Bd} {sizes : List Int} {X : Nat → Prop} {w : World} {s : Cs} (h : CacheAt B sizes w s) (j : Nat) (hj : j < s.ents.length) (t : Int) :
    Left B sizes X w s (w.setCell ⟨(s.ents.getD j dE).b, 6, none⟩ (.int .i64 t)) { s with ents := s.ents.set j ((s.ents.getD j dE).ask t), p := { s.p with kept := s.p.kept.set j { s.p.kept.getD j ⟨0, 0, 0⟩ with asked := t } } } := by
  have he := getE (l := s.ents) hj
  have hE := h.ents _ he
  have fr : Frame B w (w.setCell ⟨(s.ents.getD j dE).b, 6, none⟩ (.int .i64 t)) (Mut s) := .set hE.lo (.inr (.inr ⟨_, he, rfl⟩)) _ _
  have m := h.still fr
  have far : ∀ k, k ≠ (s.ents.getD j dE).b → (w.setCell ⟨(s.ents.getD j dE).b, 6, none⟩ (.int .i64 t)).heap[k]? = w.heap[k]? := fun k hk => Below.heap_setCell w ⟨_, 6, none⟩ _ k hk
  have hp : (s.ents.set j ((s.ents.getD j dE).ask t)).map Ent.p = s.ents.map Ent.p := map_set_same Ent.p _ j _ dE hj rfl
  have hb : (s.ents.set j ((s.ents.getD j dE).ask t)).map Ent.b = s.ents.map Ent.b := map_set_same Ent.b _ j _ dE hj rfl
  exact {
    at_ := {
      cells := (far _ (h.g_ne_e he)).trans h.cells
      lo := h.lo
      made := h.made.move m
      picks := h.picks.int m
      pc := h.pc
      kv := by
        show World.ownsRow _ B 62 1 s.kv (s.ents.set j _).length (List.map Ent.p (s.ents.set j _))
        rw [hp, List.length_set]
        exact own_move h.kv fun k hk => far k (fun q => h.kv_ne_e he (q ▸ hk))
      kept := by
        show s.p.kept.set j _ = (s.ents.set j _).map Ent.k
        rw [h.kept, kept_get hj, List.map_set]
        rfl
      ents := fun e hel => by
        obtain ⟨i, hi, rfl⟩ := List.mem_iff_getElem.1 hel
        have hi' : i < s.ents.length := by simpa using hi
        by_cases q : i = j
        · subst q
          rw [List.getElem_set_self]
          exact ⟨blk_put hE.cells 6 _ (by simp [Ent.cs, Ent.ask]), hE.lo, hE.mesh.move m⟩
        · rw [List.getElem_set_ne (fun z => q z.symm)]
          have x := List.getElem_mem hi'
          have e1 := h.ents _ x
          have nn := h.nodup
          have := List.getElem_inj (h₀ := by simpa using hi') (h₁ := by simpa using hj) nn (i := i) (j := j)
          simp only [List.getElem_map] at this
          have q2 : (s.ents[i]).b ≠ (s.ents.getD j dE).b := fun z => q (this.1 (by rw [z, List.getD_eq_getElem?_getD, List.getElem?_eq_getElem hj]; rfl))
          exact ⟨(far _ q2).trans e1.cells, e1.lo, e1.mesh.move m⟩
      nodup := by
        show ((s.ents.set j _).map Ent.b).Nodup
        rw [hb]
        exact h.nodup
      nlt := fun k hk => Nat.lt_of_lt_of_le (h.nlt k hk) m.size }
    g := rfl
    mb := rfl
    frame := fr
    own := fun k hk => by
      rcases hk with rfl | hk | ⟨e, hel, rfl⟩
      · exact .inl (.inl rfl)
      · exact .inl (.inr (.inl hk))
      · rcases List.mem_or_eq_of_mem_set hel with x | rfl
        · exact .inl (.inr (.inr ⟨e, x, rfl⟩))
        · exact .inl (.inr (.inr ⟨_, he, rfl⟩)) }
end Go.Proofs.Ytfhjdhhflpekiaa.G
