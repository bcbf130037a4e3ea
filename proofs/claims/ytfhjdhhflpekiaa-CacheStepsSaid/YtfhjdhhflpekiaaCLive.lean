/- A cache that is used: its calls, and what else is written. -/
import Derived.Test.YtfhjdhhflpekiaaCKept
namespace Go.Proofs.Ytfhjdhhflpekiaa.G
open Go.RowKit Go.Proofs.Cache Go.Proofs.YtfhjdhhflpekiaaW.PrintWords Go.Proofs.YtfhjdhhflpekiaaW.PrintLast Go.Proofs.YtfhjdhhflpekiaaW.PrintMore
set_option linter.unusedVariables false
set_option linter.unusedSimpArgs false
/-- The cache at block g is in the state p. -/
structure Live (B : Bd) (sizes : List Int) (w : World) (g : Nat) (p : PS) (s : Cs) : Prop where
  at_ : CacheAt B sizes w s
  ps : s.p = p
  inv : Cache.Inv sizes p
  gs : s.g = g
section
variable {P : Program} {ops : Array Oper} {rest : List Oper} {o : Oper} {a : Act} {Q : Exit → Act → World → Prop}
/-- A slice is made of new cells, where a guard lets it be. -/
theorem lit_want {W : World} (hw : Region.wanted o (yielded ops a.tmps) = true) {N : Tmp} (_hd : o.dst = some N) {cs : Array Value} {t : TypeId} {n c : Nat}
    (hrun : (execOp a.eval o).run P W = .ok (.value (.slice (some ⟨W.heap.size, 0, none⟩) n c)) (W.alloc (.cells cs t (0, 0))))
    (h : ∀ g, g = W.heap.size → ∀ w1, w1.heap[g]? = some (.cells cs t (0, 0)) → Below W.heap.size W w1 → wpList P ops Q rest (a.put o.dst (.slice (some ⟨g, 0, none⟩) n c)) w1) : wpList P ops Q (o :: rest) a W :=
  wanted_step hw fun K hK => by
    unfold Oper.wp
    rw [hrun]
    exact hK _ _ (h _ rfl _ (blk_new W _) (below_alloc (Below.refl _ _) _))
end
theorem size_of_but {w w1 : World} {g : Nat} {o o1 : Obj} (h : w.heap[g]? = some o) (h1 : w1.heap[g]? = some o1) (hk : ∀ k, k ≠ g → w1.heap[k]? = w.heap[k]?) : w.heap.size ≤ w1.heap.size := by
  by_cases c : w.heap.size ≤ w1.heap.size
  · exact c
  · exfalso
    have hg := blk_lt h1
    have hs : w1.heap.size < w.heap.size := by omega
    have e := hk w1.heap.size (by omega)
    rw [Array.getElem?_eq_none (Nat.le_refl _), Array.getElem?_eq_getElem hs] at e
    cases e
section
variable {B : Bd} {sizes : List Int} {w w1 : World} {g : Nat} {p : PS} {s : Cs}
theorem Live.below (h : Live B sizes w g p s) (hb : Below w.heap.size w w1) : Live B sizes w1 g p s := ⟨h.at_.below hb, h.ps, h.inv, h.gs⟩
theorem Live.drewN (h : Live B sizes w g p s) (n : Nat) : Live B sizes (w.drewN n) g p s := h.below (pw_below_drewN (Below.refl _ _) n)
theorem CacheAt.but (h : CacheAt B sizes w s) {k : Nat} {old : Array Value} {t : TypeId} (hg : w.heap[k]? = some (.cells old t (0, 0))) (ht : t = 40 ∨ t = 43 ∨ t = 32 ∨ t = 34) (hB : B ≤ k) (hs : w.heap.size ≤ w1.heap.size) (hk : ∀ i, i ≠ k → w1.heap[i]? = w.heap[i]?) : CacheAt B sizes w1 s := by
  have hd : dirty t = true := by rcases ht with e | e | e | e <;> rw [e] <;> rfl
  have hn : t ≠ 61 ∧ t ≠ 62 ∧ t ≠ 64 := by rcases ht with e | e | e | e <;> rw [e] <;> decide
  refine h.move (.of_but hg hd hB hs hk) fun i hi => hk i ?_
  rintro rfl
  rcases hi with rfl | hi | ⟨e, he, rfl⟩
  · exact hn.1 (blk_ty hg h.cells)
  · obtain ⟨cs', hc'⟩ := h.kvTyped hi
    exact hn.2.1 (blk_ty hg hc')
  · exact hn.2.2 (blk_ty hg (h.ents e he).cells)
theorem Live.but (h : Live B sizes w g p s) {k : Nat} {old : Array Value} {t : TypeId} (hg : w.heap[k]? = some (.cells old t (0, 0))) (ht : t = 40 ∨ t = 43 ∨ t = 32 ∨ t = 34) (hB : B ≤ k) (hs : w.heap.size ≤ w1.heap.size) (hk : ∀ i, i ≠ k → w1.heap[i]? = w.heap[i]?) : Live B sizes w1 g p s :=
  ⟨h.at_.but hg ht hB hs hk, h.ps, h.inv, h.gs⟩
theorem Live.small (h : Live B sizes w g p s) (hn : p.now ≤ 1000000) : (∀ e ∈ s.ents, e.m.n ≤ 1000) ∧ s.ents.length ≤ 1000000 := by
  have hi := h.inv
  rw [← h.ps] at hi hn
  constructor
  · intro e he
    exact (hi.size e.k (by rw [h.at_.kept]; exact List.mem_map_of_mem he)).2.2.1
  · have := hi.len
    rw [h.at_.kept, List.length_map] at this
    omega
theorem Live.heldc (h : Live B sizes w g p s) (hn : p.now ≤ 1000000) : Calls Try.prog 18 #[.pointer (some ⟨g, 0, none⟩)] w fun x w' => x = .returned (.int .i64 (held p.kept)) ∧ w' = w := by
  have := G.held.calls B sizes s w h.at_ (h.small hn).1 (h.small hn).2
  rw [h.gs, h.ps] at this
  exact this
theorem Live.keptc (h : Live B sizes w g p s) (hn : p.now ≤ 1000000) : Calls Try.prog 17 #[.pointer (some ⟨g, 0, none⟩)] w (KeptPost (p.kept.map (·.i)) w) := by
  have := G.kept.calls B sizes s w h.at_ (h.small hn).2
  rw [h.gs, h.ps] at this
  exact this
theorem Live.tallyc (h : Live B sizes w g p s) : Calls Try.prog 20 #[.pointer (some ⟨g, 0, none⟩)] w fun x w' => x = .returned (.agg #[.int .i64 p.tb, .int .i64 p.td, .int .i64 p.tp, .int .i64 p.tm]) ∧ Below w.heap.size w w' := by
  have := G.tally.calls B sizes s w h.at_
  rw [h.gs, h.ps] at this
  exact this
/-- What Get leaves. -/
structure Got (B : Bd) (sizes : List Int) (i : Int) (w : World) (g : Nat) (p : PS) (s : Cs) (w' : World) (s' : Cs) : Prop where
  live : Live B sizes w' g (getP sizes p i) s'
  left : Left B sizes NoX w s w' s'
def LiveOk (B : Bd) (sizes : List Int) (i : Int) (w : World) (g : Nat) (p : PS) (s : Cs) (e : Ending) (w' : World) : Prop :=
  ∃ m s', m.i = i ∧ m.n = sizeI sizes i ∧ e = .returned (.tuple #[.agg m.mesh, .agg m.tree, .int .i64 0]) ∧ MshAt B w' m ∧ Got B sizes i w g p s w' s'
def LiveBad (B : Bd) (sizes : List Int) (i : Int) (w : World) (g : Nat) (p : PS) (s : Cs) (e : Ending) (w' : World) : Prop :=
  ∃ s', e = .returned (.tuple #[.agg #[.slice none 0 0, .slice none 0 0, .slice none 0 0], .agg #[.slice none 0 0, .slice none 0 0], .int .i64 20]) ∧ Got B sizes i w g p s w' s'
theorem Live.get_ok (h : Live B sizes w g p s) (hs : ∀ x ∈ sizes, x ≤ 1000) {i : Int} (hi : I64 i) (hb : badI sizes i = false) (hn : p.now ≤ 999999) :
    Calls Try.prog 13 #[.pointer (some ⟨g, 0, none⟩), .int .i64 i] w (LiveOk B sizes i w g p s) := by
  have hv := h.inv
  rw [← h.ps] at hv hn
  have := G.get_ok B sizes s i w h.at_ hv hn hs hi (by rw [okP_eq hv, hb]; rfl)
  rw [h.gs] at this
  refine this.mono ?_
  rintro e w' ⟨m, s', h1, h2, h3, h4, h5, h6⟩
  rw [h.ps] at h5
  exact ⟨m, s', h1, h2, h3, h4, ⟨h6.at_, h5, h.inv.get hs hi, h6.g.trans h.gs⟩, h6⟩
theorem Live.get_bad (h : Live B sizes w g p s) (hs : ∀ x ∈ sizes, x ≤ 1000) {i : Int} (hi : I64 i) (hb : badI sizes i = true) (hn : p.now ≤ 999999) :
    Calls Try.prog 13 #[.pointer (some ⟨g, 0, none⟩), .int .i64 i] w (LiveBad B sizes i w g p s) := by
  have hv := h.inv
  rw [← h.ps] at hv hn
  have := G.get_bad B sizes s i w h.at_ hv hn (by rw [okP_eq hv, hb]; rfl)
  rw [h.gs] at this
  refine this.mono ?_
  rintro e w' ⟨h3, s', h5, h6⟩
  rw [h.ps] at h5
  exact ⟨s', h3, ⟨h6.at_, h5, h.inv.get hs hi, h6.g.trans h.gs⟩, h6⟩
/-- A new cache. -/
def LiveNew (B : Bd) (sizes : List Int) (room : Int) (l : List Int) (w : World) (e : Ending) (w' : World) : Prop :=
  ∃ g s, e = .returned (.pointer (some ⟨g, 0, none⟩)) ∧ Live B sizes w' g (startP room l) s ∧ Below w.heap.size w w' ∧ ∀ k, Mut s k → w.heap.size ≤ k
theorem live_new (room : Int) (A : Option Addr) (l : List Int) (c mb : Nat) (hm : MadeAt B sizes w mb) (hC : Kd.C (Kd.int .i64) w A l.length l) (hc : l.length ≤ c) (hl : l.length ≤ 1000000) (hB : B ≤ w.heap.size) (hr : I64 room) (hN : ∀ k, ¬ B.N k) :
    Calls Try.prog 11 #[.int .i64 room, .slice A l.length c, .iface 28 (.pointer (some ⟨mb, 0, none⟩))] w (LiveNew B sizes room l w) := by
  refine (new.calls B sizes room A l c mb w hm hC hc hl hB hN).mono ?_
  rintro e w' ⟨s, h1, h2⟩
  exact ⟨s.g, s, h1, ⟨h2.at_, h2.p, start_inv hr, rfl⟩, h2.below, h2.own⟩
end
end Go.Proofs.Ytfhjdhhflpekiaa.G
