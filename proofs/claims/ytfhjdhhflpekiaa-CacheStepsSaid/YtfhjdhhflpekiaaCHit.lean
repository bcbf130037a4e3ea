/- Get of what is kept. -/
import Derived.Test.YtfhjdhhflpekiaaCAsk
import Derived.Test.YtfhjdhhflpekiaaCMake
namespace Go.Proofs.Ytfhjdhhflpekiaa.G
open Go.RowKit Go.Proofs.Cache Go.Proofs.YtfhjdhhflpekiaaW.PrintWords Go.Proofs.YtfhjdhhflpekiaaW.PrintLast Go.Proofs.YtfhjdhhflpekiaaW.PrintMore
set_option linter.unusedVariables false
set_option linter.unusedSimpArgs false
def GetOk (B : Bd) (sizes : List Int) (i : Int) (w : World) (s : Cs) (x : Ending) (w' : World) : Prop :=
  ∃ m s', m.i = i ∧ m.n = sizeI sizes i ∧ x = .returned (.tuple #[.agg m.mesh, .agg m.tree, .int .i64 0]) ∧ MshAt B w' m ∧ s'.p = getP sizes s.p i ∧ Left B sizes NoX w s w' s'
theorem kv_same {B : Bd} {w : World} {A : Option Addr} {l : List Ent} {c : Nat} (h : w.ownsRow B 62 1 (.slice A l.length c) l.length (ptrs l)) : ∀ j, j < l.length → ∃ g, A = some ⟨g, 0, none⟩ ∧ w.cell? ⟨g, j, none⟩ = some (.pointer (some ⟨(l.getD j dE).b, 0, none⟩)) := by
  obtain ⟨A', c', e, _, _, hg⟩ := kv_open h
  cases e
  exact hg
theorem find_lt {l : List Ke} {i : Int} {j : Nat} (h : j < findI l i) : ((l.getD j ⟨0, 0, 0⟩).i == i) = false := by
  have hl : j < l.length := Nat.lt_of_lt_of_le h List.findIdx_le_length
  have := List.not_of_lt_findIdx h
  rw [List.getD_eq_getElem?_getD, List.getElem?_eq_getElem hl]
  simpa using this
theorem find_at {l : List Ke} {i : Int} (h : findI l i < l.length) : (l.getD (findI l i) ⟨0, 0, 0⟩).i = i := by
  have := List.findIdx_getElem (w := h)
  rw [List.getD_eq_getElem?_getD, List.getElem?_eq_getElem h]
  exact beq_iff_eq.1 this
/-- What lies ahead of the loop. -/
structure Ahead (B : Bd) (sizes : List Int) (w : World) (s : Cs) (w5 : World) (g4 g5 : Nat) : Prop where
  left : Left B sizes NoX w s w5 { s with p := nowP s.p }
  b4 : w5.heap[g4]? = some (.cells #[.slice none 0 0, .slice none 0 0, .slice none 0 0] 40 (0, 0))
  b5 : w5.heap[g5]? = some (.cells #[.slice none 0 0, .slice none 0 0] 43 (0, 0))
  e4 : w.heap.size ≤ g4
  e5 : w.heap.size ≤ g5
  ne : g4 ≠ g5
  below : Below w.heap.size w w5 ∨ True
theorem ahead_mk {B : Bd} {sizes : List Int} {w w4 : World} {s : Cs} {g4 g5 : Nat} (h : CacheAt B sizes w s) (h4 : CacheAt B sizes w4 s) (hb : Below w.heap.size w w4)
    (b4 : w4.heap[g4]? = some (.cells #[.slice none 0 0, .slice none 0 0, .slice none 0 0] 40 (0, 0))) (b5 : w4.heap[g5]? = some (.cells #[.slice none 0 0, .slice none 0 0] 43 (0, 0))) (e4 : w.heap.size ≤ g4) (e5 : w.heap.size ≤ g5) (ne : g4 ≠ g5) :
    Ahead B sizes w s (w4.setCell ⟨s.g, 4, none⟩ (.int .i64 (s.p.now + 1))) g4 g5 := by
  have L := (Left.of_below (X := NoX) h hb).trans (Left.set (X := NoX) h4 4 (.int .i64 (s.p.now + 1)) (nowP s.p) rfl rfl (by simp [Cs.cs, nowP]))
  have n4 : g4 ≠ s.g := by rintro rfl; have := blk_ty b4 h4.cells; revert this; decide
  have n5 : g5 ≠ s.g := by rintro rfl; have := blk_ty b5 h4.cells; revert this; decide
  exact ⟨L, blk_far b4 n4 _, blk_far b5 n5 _, e4, e5, ne, .inr trivial⟩
/-- The two results are written. -/
def poked (w6 : World) (g4 g5 : Nat) (m : Msh) : World :=
  (((((w6.setCell ⟨g4, 0, none⟩ (.slice m.vA 1 m.vc)).setCell ⟨g4, 1, none⟩ (.slice none 0 0)).setCell ⟨g4, 2, none⟩ (.slice m.tA m.n m.tc)).setCell ⟨g5, 0, none⟩ (.slice none 0 0)).setCell ⟨g5, 1, none⟩ (.slice m.iA 1 m.ic)).drew
structure Poked (B : Bd) (w6 : World) (g4 g5 : Nat) (c4 c5 : Array Value) (w7 : World) : Prop where
  b4 : w7.heap[g4]? = some (.cells c4 40 (0, 0))
  b5 : w7.heap[g5]? = some (.cells c5 43 (0, 0))
  other : ∀ k, ¬ (k = g4 ∨ k = g5) → w7.heap[k]? = w6.heap[k]?
  below : Below B w6 w7
theorem poked_mk {B : Bd} {w6 : World} {g4 g5 : Nat} {a b c d e : Value} (m : Msh) (b4 : w6.heap[g4]? = some (.cells #[a, b, c] 40 (0, 0))) (b5 : w6.heap[g5]? = some (.cells #[d, e] 43 (0, 0))) (ne : g4 ≠ g5) (h4 : B ≤ g4) (h5 : B ≤ g5) :
    Poked B w6 g4 g5 m.mesh m.tree (poked w6 g4 g5 m) := by
  unfold poked Msh.mesh Msh.tree
  have c1 := blk_put (cs' := #[.slice m.vA 1 m.vc, b, c]) b4 0 (.slice m.vA 1 m.vc) rfl
  have d1 := blk_far b5 (p := ⟨g4, 0, none⟩) ne.symm (.slice m.vA 1 m.vc)
  have k1 := fun k (h : k ≠ g4) => Below.heap_setCell w6 ⟨g4, 0, none⟩ (.slice m.vA 1 m.vc) k h
  have l1 := (Below.refl B w6).setCell (p := ⟨g4, 0, none⟩) h4 (.slice m.vA 1 m.vc)
  generalize w6.setCell ⟨g4, 0, none⟩ (.slice m.vA 1 m.vc) = x1 at *
  have c2 := blk_put (cs' := #[.slice m.vA 1 m.vc, .slice none 0 0, c]) c1 1 (.slice none 0 0) rfl
  have d2 := blk_far d1 (p := ⟨g4, 1, none⟩) ne.symm (.slice none 0 0)
  have k2 := fun k (h : k ≠ g4) => Below.heap_setCell x1 ⟨g4, 1, none⟩ (.slice none 0 0) k h
  have l2 := l1.setCell (p := ⟨g4, 1, none⟩) h4 (.slice none 0 0)
  generalize x1.setCell ⟨g4, 1, none⟩ (.slice none 0 0) = x2 at *
  have c3 := blk_put (cs' := #[.slice m.vA 1 m.vc, .slice none 0 0, .slice m.tA m.n m.tc]) c2 2 (.slice m.tA m.n m.tc) rfl
  have d3 := blk_far d2 (p := ⟨g4, 2, none⟩) ne.symm (.slice m.tA m.n m.tc)
  have k3 := fun k (h : k ≠ g4) => Below.heap_setCell x2 ⟨g4, 2, none⟩ (.slice m.tA m.n m.tc) k h
  have l3 := l2.setCell (p := ⟨g4, 2, none⟩) h4 (.slice m.tA m.n m.tc)
  generalize x2.setCell ⟨g4, 2, none⟩ (.slice m.tA m.n m.tc) = x3 at *
  have c4 := blk_far c3 (p := ⟨g5, 0, none⟩) ne (.slice none 0 0)
  have d4 := blk_put (cs' := #[.slice none 0 0, e]) d3 0 (.slice none 0 0) rfl
  have k4 := fun k (h : k ≠ g5) => Below.heap_setCell x3 ⟨g5, 0, none⟩ (.slice none 0 0) k h
  have l4 := l3.setCell (p := ⟨g5, 0, none⟩) h5 (.slice none 0 0)
  generalize x3.setCell ⟨g5, 0, none⟩ (.slice none 0 0) = x4 at *
  have c5 := blk_far c4 (p := ⟨g5, 1, none⟩) ne (.slice m.iA 1 m.ic)
  have d5 := blk_put (cs' := #[.slice none 0 0, .slice m.iA 1 m.ic]) d4 1 (.slice m.iA 1 m.ic) rfl
  have k5 := fun k (h : k ≠ g5) => Below.heap_setCell x4 ⟨g5, 1, none⟩ (.slice m.iA 1 m.ic) k h
  have l5 := l4.setCell (p := ⟨g5, 1, none⟩) h5 (.slice m.iA 1 m.ic)
  generalize x4.setCell ⟨g5, 1, none⟩ (.slice m.iA 1 m.ic) = x5 at *
  exact ⟨blk_drew c5, blk_drew d5, fun k hk => by
    have h1 : k ≠ g4 := fun q => hk (.inl q)
    have h2 : k ≠ g5 := fun q => hk (.inr q)
    exact (k5 k h2).trans ((k4 k h2).trans ((k3 k h1).trans ((k2 k h1).trans (k1 k h1)))), l5.drew⟩
theorem Left.poked {B : Bd} {sizes : List Int} {X : Nat → Prop} {w w6 w7 : World} {s s1 : Cs} {g4 g5 : Nat} {a4 a5 c4 c5 : Array Value} (l : Left B sizes X w s w6 s1) (p : Poked B w6 g4 g5 c4 c5 w7) (b4 : w6.heap[g4]? = some (.cells a4 40 (0, 0))) (b5 : w6.heap[g5]? = some (.cells a5 43 (0, 0)))
    (e4 : w.heap.size ≤ g4) (e5 : w.heap.size ≤ g5) (hB : B ≤ w.heap.size) : Left B sizes X w s w7 s1 :=
  l.poke p.below (D := fun k => k = g4 ∨ k = g5) p.other fun k hk => by
    rcases hk with rfl | rfl
    · exact ⟨e4, Nat.le_trans hB e4, _, _, b4, .inl rfl⟩
    · exact ⟨e5, Nat.le_trans hB e5, _, _, b5, .inr (.inl rfl)⟩
set_option maxHeartbeats 2000000 in
set_option maxRecDepth 100000 in
theorem getHit.calls (B : Bd) (sizes : List Int) (s : Cs) (i : Int) (w : World) (h : CacheAt B sizes w s) (hi : Inv sizes s.p) (hn : s.p.now ≤ 1000000) (hj : findI s.p.kept i < s.p.kept.length) :
    Calls Try.prog 13 #[.pointer (some ⟨s.g, 0, none⟩), .int .i64 i] w (GetOk B sizes i w s) := by
  have hu40 := Try.underlying40
  have hu43 := Try.underlying43
  have HB := Aside0.mk (Below.refl w.heap.size w)
  obtain ⟨A, c, ek, hc, hm, hg⟩ := kv_open h.kv
  have HG : Aside0 (∀ w1 s1, CacheAt B sizes w1 s1 → s1.kv = s.kv → s1.ents = s.ents → ∀ j, j < s.ents.length → ∃ g, A = some ⟨g, 0, none⟩ ∧ w1.cell? ⟨g, j, none⟩ = some (.pointer (some ⟨(s.ents.getD j dE).b, 0, none⟩))) := ⟨fun w1 s1 h1 e1 e2 => by
    have := h1.kv
    rw [e1, e2, ek] at this
    exact kv_same this⟩
  have hlen : s.p.kept.length = s.ents.length := by rw [h.kept, List.length_map]
  have HF : Aside0 (∀ j, j < findI s.p.kept i → ((s.ents.getD j dE).m.i == i) = false) := ⟨fun j hlt => by
    have h1 := find_lt hlt
    have : j < s.ents.length := by omega
    rw [h.kept, kept_get this] at h1
    exact h1⟩
  have HA : Aside0 ((s.ents.getD (findI s.p.kept i) dE).m.i = i) := ⟨by
    have h1 := find_at hj
    generalize findI s.p.kept i = q at *
    rw [h.kept, kept_get (by omega)] at h1
    exact h1⟩
  have HCA := Aside0.mk h
  have HC0 := Aside0.mk h
  have HI := Aside0.mk hi
  have HJ : Aside0 (findI s.p.kept i < s.ents.length) := ⟨by omega⟩
  have hnow0 := hi.now
  have hmx : (s.ents.length : Int) ≤ 9223372036854775807 := by unfold maxLen at hm; omega
  have EK := Aside0.mk ek
  clear hg hm hj h hi ek hlen
  generalize hj0 : findI s.p.kept i = j0 at *
  have HJ0 := Aside0.mk hj0
  clear hj0
  go_enter Try.func13, Try.ntmps13
  go_wp2_with (first
   | ((with_reducible refine gate_dst (N := 4) rfl ?_); refine box_event ?hg (N := 4) ?hd (cs := #[.slice none 0 0, .slice none 0 0, .slice none 0 0]) (t := 40) ?hr ?_; (case hd => rfl); (case hg => rfl); (case hr => first | (go_simp; done) | (go_simp; rfl)); intro g4 hg w3 hbox hb; have BK4 := Aside0.mk (hbox); have GE4 := Aside0.mk (bG hg (HB.out)); replace HCA := Aside0.mk (HCA.out.below hb); replace HB := Aside0.mk (below_step (HB.out) hb); clear hb hbox hg)
   | ((with_reducible refine gate_dst (N := 5) rfl ?_); refine box_event ?hg (N := 5) ?hd (cs := #[.slice none 0 0, .slice none 0 0]) (t := 43) ?hr ?_; (case hd => rfl); (case hg => rfl); (case hr => first | (go_simp; done) | (go_simp; rfl)); intro g5 hg w4 hbox hb; have BK5 := Aside0.mk (hbox); have GE5 := Aside0.mk (bG hg (HB.out)); have NE := cN hg BK4; replace HCA := Aside0.mk (HCA.out.below hb); replace HB := Aside0.mk (below_step (HB.out) hb); replace BK4 := cB hb BK4
      have c4 : w4.cell? ⟨s.g, 4, none⟩ = some (.int .i64 s.p.now) := (blk_cell HCA.out.cells 4).trans rfl
      have f4 := blk_frozen HCA.out.cells 4
      have c3 : w4.cell? ⟨s.g, 3, none⟩ = some (.slice A s.ents.length c) := by rw [← EK.out]; exact (blk_cell HCA.out.cells 3).trans rfl
      clear hb hbox hg))
  have AH := ahead_mk HC0.out HCA.out HB.out BK4.out BK5.out GE4.out GE5.out NE.out
  clear c4 f4 c3 HCA HB BK4 BK5 GE4 GE5 NE
  generalize w4.setCell ⟨s.g, 4, none⟩ (.int .i64 (s.p.now + 1)) = w5 at *
  have S1 := Aside0.mk AH
  clear AH
  go_loopg [24] s.ents.length (fun kq v24 w' => ∃ j : Nat, v24 = .int .i64 j ∧ Aside0 (j + kq = s.ents.length) ∧ Aside0 (j ≤ j0) ∧ w5 = w')
  case atStart => exact ⟨0, rfl, ⟨by omega⟩, ⟨by omega⟩, rfl⟩
  case round =>
    obtain ⟨j, rfl, HJ1, HP, rfl⟩ := hrel
    have hj := HJ1.out
    have hp := HP.out
    have h0 := HJ.out
    have hlt : j < s.ents.length := by omega
    have c1 : decide ((j : Int) < (s.ents.length : Int)) = true := decide_eq_true (by omega)
    have i0 : 0 ≤ (j : Int) := by omega
    have i1 : (j : Int) < (s.ents.length : Int) := by omega
    obtain ⟨gb, rfl, hcell⟩ := HG.out w5 _ S1.out.left.at_ rfl rfl j hlt
    have hE := S1.out.left.at_.ents _ (getE (l := s.ents) hlt)
    have x0 : w5.cell? ⟨(s.ents.getD j dE).b, 0, none⟩ = some (.int .i64 (s.ents.getD j dE).m.i) := (blk_cell hE.cells 0).trans rfl
    have hA : j = j0 → (s.ents.getD j dE).m.i = i := fun q => by rw [q]; exact HA.out
    have hF : j < j0 → ((s.ents.getD j dE).m.i == i) = false := HF.out j
    generalize hq : s.ents.getD j dE = e at *
    have HQ := Aside0.mk hq
    clear hq
    by_cases ej : j = j0
    · subst ej
      replace hA := hA rfl
      clear hF
      have e1 : (e.m.i == i) = true := by rw [hA]; simp
      have HAA := Aside0.mk hA
      have x6 : w5.cell? ⟨e.b, 6, none⟩ = some (.int .i64 e.asked) := (blk_cell hE.cells 6).trans rfl
      have f6 := blk_frozen hE.cells 6
      have c4 : w5.cell? ⟨s.g, 4, none⟩ = some (.int .i64 (s.p.now + 1)) := (blk_cell S1.out.left.at_.cells 4).trans rfl
      have HE := Aside0.mk hE
      clear hE hA
      go_wp2
      have L2 := Left.ask (X := NoX) S1.out.left.at_ j hlt (s.p.now + 1)
      have n4 : g4 ≠ e.b := by rintro rfl; have := blk_ty S1.out.b4 HE.out.cells; revert this; decide
      have n5 : g5 ≠ e.b := by rintro rfl; have := blk_ty S1.out.b5 HE.out.cells; revert this; decide
      have hqq : (({ s with p := nowP s.p } : Cs).ents.getD j dE) = e := HQ.out
      rw [hqq] at L2
      have BK4 := Aside0.mk (blk_far S1.out.b4 (p := ⟨e.b, 6, none⟩) n4 (.int .i64 (s.p.now + 1)))
      have BK5 := Aside0.mk (blk_far S1.out.b5 (p := ⟨e.b, 6, none⟩) n5 (.int .i64 (s.p.now + 1)))
      have BE : Aside0 ((w5.setCell ⟨e.b, 6, none⟩ (.int .i64 (s.p.now + 1))).heap[e.b]? = some (.cells (e.ask (s.p.now + 1)).cs 64 (0, 0))) := ⟨blk_put HE.out.cells 6 _ (by simp [Ent.cs, Ent.ask])⟩
      have MS := Aside0.mk (HE.out.mesh.move (Left.still S1.out.left.at_ L2))
      have LL : Aside0 (Left B sizes NoX w s _ _) := ⟨S1.out.left.trans L2⟩
      have N4 := Aside0.mk n4
      have N5 := Aside0.mk n5
      clear L2 n4 n5 hqq x0 x6 f6 c4 hcell
      generalize w5.setCell ⟨e.b, 6, none⟩ (.int .i64 (s.p.now + 1)) = w6 at *
      have x1 : w6.cell? ⟨e.b, 1, none⟩ = some (.slice e.m.vA 1 e.m.vc) := (blk_cell BE.out 1).trans rfl
      have x2 : w6.cell? ⟨e.b, 2, none⟩ = some (.slice none 0 0) := (blk_cell BE.out 2).trans rfl
      have x3 : w6.cell? ⟨e.b, 3, none⟩ = some (.slice e.m.tA e.m.n e.m.tc) := (blk_cell BE.out 3).trans rfl
      have x4 : w6.cell? ⟨e.b, 4, none⟩ = some (.slice none 0 0) := (blk_cell BE.out 4).trans rfl
      have x5 : w6.cell? ⟨e.b, 5, none⟩ = some (.slice e.m.iA 1 e.m.ic) := (blk_cell BE.out 5).trans rfl
      have y0 : w6.cell? ⟨g4, 0, none⟩ = some (.slice none 0 0) := (blk_cell BK4.out 0).trans rfl
      have y1 : w6.cell? ⟨g4, 1, none⟩ = some (.slice none 0 0) := (blk_cell BK4.out 1).trans rfl
      have y2 : w6.cell? ⟨g4, 2, none⟩ = some (.slice none 0 0) := (blk_cell BK4.out 2).trans rfl
      have z0 : w6.cell? ⟨g5, 0, none⟩ = some (.slice none 0 0) := (blk_cell BK5.out 0).trans rfl
      have z1 : w6.cell? ⟨g5, 1, none⟩ = some (.slice none 0 0) := (blk_cell BK5.out 1).trans rfl
      have fy0 := blk_frozen BK4.out 0
      have fy1 := blk_frozen BK4.out 1
      have fy2 := blk_frozen BK4.out 2
      have fz0 := blk_frozen BK5.out 0
      have fz1 := blk_frozen BK5.out 1
      have n1 : ¬ g4 = e.b := N4.out
      have n2 : ¬ e.b = g4 := Ne.symm N4.out
      have n3 : ¬ g5 = e.b := N5.out
      have n4 : ¬ e.b = g5 := Ne.symm N5.out
      have n5 : ¬ g4 = g5 := S1.out.ne
      have n6 : ¬ g5 = g4 := Ne.symm S1.out.ne
      have PK := Aside0.mk (poked_mk (B := B) e.m BK4.out BK5.out S1.out.ne (Nat.le_trans (Nat.le_trans HC0.out.lo (Nat.le_of_lt (blk_lt HC0.out.cells))) S1.out.e4) (Nat.le_trans (Nat.le_trans HC0.out.lo (Nat.le_of_lt (blk_lt HC0.out.cells))) S1.out.e5))
      unfold poked at PK
      go_region
      clear n1 n2 n3 n4 n5 n6 x1 x2 x3 x4 x5 y0 y1 y2 z0 z1 fy0 fy1 fy2 fz0 fz1
      have FIN : Aside0 (GetOk B sizes i w s (.returned (.tuple #[.agg e.m.mesh, .agg e.m.tree, .int .i64 0])) _) := ⟨by
        have LF := LL.out.poked PK.out BK4.out BK5.out S1.out.e4 S1.out.e5 (Nat.le_trans HC0.out.lo (Nat.le_of_lt (blk_lt HC0.out.cells)))
        have hk : e.k ∈ s.p.kept := by rw [HC0.out.kept, ← HQ.out]; exact List.mem_map_of_mem (getE hlt)
        have hsz := HI.out.size e.k hk
        refine ⟨e.m, _, HAA.out, ?_, rfl, ?_, ?_, LF⟩
        · have := hsz.2.1
          rw [← HAA.out]
          exact this
        · have hE2 := LF.at_.ents (e.ask (s.p.now + 1)) (by
            refine List.mem_iff_getElem.2 ⟨j, by simpa using hlt, ?_⟩
            exact List.getElem_set_self _)
          exact hE2.mesh
        · unfold getP
          rw [HJ0.out, if_pos (by rw [HC0.out.kept, List.length_map]; exact hlt)]
          rfl⟩
      generalize World.drew _ = w7 at *
      go_wp2
      refine bodyPost_ret (results_list (rs := [.cell 4 40, .cell 5 43, .tmp 6]) rfl (by simp) (.cell g4 40 _ (0, 0) _ rfl PK.out.b4 hu40 rfl (by kernel_rfl) (.cell g5 43 _ (0, 0) _ rfl PK.out.b5 hu43 rfl (by kernel_rfl) (.tmp .nil)))) rfl ?_
      exact FIN.out
    · have e1 := hF (by omega)
      clear hF hA
      cases gk with
      | zero => omega
      | succ k1 =>
        clear hE
        go_wp2
        go_roundg k1
        case measure => omega
        case rel => exact ⟨j + 1, by simp, ⟨by omega⟩, ⟨by omega⟩, rfl⟩
end Go.Proofs.Ytfhjdhhflpekiaa.G
