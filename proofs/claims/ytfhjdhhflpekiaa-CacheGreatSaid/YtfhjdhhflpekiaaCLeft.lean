/- What a call on a cache leaves. -/
import Derived.Test.YtfhjdhhflpekiaaCHeld
namespace Go.Proofs.Ytfhjdhhflpekiaa.G
open Go.RowKit Go.Proofs.Cache Go.Proofs.YtfhjdhhflpekiaaW.PrintWords Go.Proofs.YtfhjdhhflpekiaaW.PrintLast Go.Proofs.YtfhjdhhflpekiaaW.PrintMore
set_option linter.unusedVariables false
set_option linter.unusedSimpArgs false
/-- What a call on a cache leaves; X: the block of an entry that came in. -/
structure Left (B : Nat) (sizes : List Int) (X : Nat → Prop) (w : World) (s : Cs) (w' : World) (s' : Cs) : Prop where
  at_ : CacheAt B sizes w' s'
  g : s'.g = s.g
  mb : s'.mb = s.mb
  frame : Frame B w w' (Mut s)
  own : ∀ k, Mut s' k → Mut s k ∨ X k ∨ w.heap.size ≤ k
def NoX : Nat → Prop := fun _ => False
section
variable {B : Nat} {sizes : List Int} {X : Nat → Prop} {w w1 w2 : World} {s s1 s2 : Cs}
theorem Left.refl (h : CacheAt B sizes w s) : Left B sizes X w s w s := ⟨h, rfl, rfl, .refl _ _ _, fun k hk => .inl hk⟩
theorem Left.trans (h : Left B sizes NoX w s w1 s1) (k : Left B sizes X w1 s1 w2 s2) : Left B sizes X w s w2 s2 :=
  ⟨k.at_, k.g.trans h.g, k.mb.trans h.mb, h.frame.trans k.frame (fun i hi => by
    rcases h.own i hi with x | x | x
    · exact .inl x
    · exact x.elim
    · exact .inr x), fun i hi => by
    rcases k.own i hi with x | x | x
    · rcases h.own i x with y | y | y
      · exact .inl y
      · exact y.elim
      · exact .inr (.inr y)
    · exact .inr (.inl x)
    · exact .inr (.inr (Nat.le_trans h.frame.below.size x))⟩
/-- The second call may write what the first has taken in. -/
theorem Left.then_ (h : Left B sizes X w s w1 s1) (k : Left B sizes NoX w1 s1 w2 s2) (hk : ∀ i, X i → w2.heap[i]? = w1.heap[i]?) : Left B sizes X w s w2 s2 where
  at_ := k.at_
  g := k.g.trans h.g
  mb := k.mb.trans h.mb
  frame := ⟨h.frame.below.trans k.frame.below, fun i hi hm => by
    by_cases x : X i
    · exact (hk i x).trans (h.frame.keep i hi hm)
    · exact (k.frame.keep i (Nat.lt_of_lt_of_le hi h.frame.below.size) (fun hn => by
        rcases h.own i hn with y | y | y
        · exact hm y
        · exact x y
        · omega)).trans (h.frame.keep i hi hm)⟩
  own := fun i hi => by
    rcases k.own i hi with x | x | x
    · exact h.own i x
    · exact x.elim
    · exact .inr (.inr (Nat.le_trans h.frame.below.size x))
theorem Left.weaken {Y : Nat → Prop} (h : Left B sizes X w s w1 s1) (hXY : ∀ k, X k → Y k ∨ w.heap.size ≤ k) : Left B sizes Y w s w1 s1 :=
  ⟨h.at_, h.g, h.mb, h.frame, fun k hk => by
    rcases h.own k hk with x | x | x
    · exact .inl x
    · exact .inr (hXY k x)
    · exact .inr (.inr x)⟩
theorem Left.still (h : CacheAt B sizes w s) (l : Left B sizes X w s w1 s1) : Still B w w1 := h.still l.frame
theorem Left.of_below (h : CacheAt B sizes w s) (hb : Below w.heap.size w w1) : Left B sizes X w s w1 s :=
  ⟨h.below hb, rfl, rfl, .of_below hb (Nat.le_trans h.lo (Nat.le_of_lt (blk_lt h.cells))) _, fun k hk => .inl hk⟩
theorem Left.drewN (h : CacheAt B sizes w s) (n : Nat) : Left B sizes X w s (w.drewN n) s := .of_below h (pw_below_drewN (Below.refl _ _) n)
/-- A store into one of the cache's own cells that no slice stands in. -/
theorem Left.set (h : CacheAt B sizes w s) (i : Nat) (u : Value) (p' : PS) (hk : p'.kept = s.p.kept) (hp : p'.picks = s.p.picks) (hcs : s.cs.setIfInBounds i u = { s with p := p' }.cs) : Left B sizes X w s (w.setCell ⟨s.g, i, none⟩ u) { s with p := p' } :=
  ⟨h.set i u p' hk hp hcs, rfl, rfl, .set h.lo (.inl rfl) _ _, fun k hk => .inl hk⟩
theorem cs_set3 (s : Cs) (v : Value) (l : List Ent) : s.cs.setIfInBounds 3 v = { s with kv := v, ents := l, p := { s.p with kept := l.map Ent.k } }.cs := by
  simp [Cs.cs]
/-- The entries are others: their row has been written, then the cache's cell. -/
theorem Left.rekept (h : CacheAt B sizes w s) (hb : Below B w w1) (hk : ∀ j, j < w.heap.size → s.kv.ownBlock ≠ some j → w1.heap[j]? = w.heap[j]?) (v : Value) (l : List Ent)
    (ho : w1.ownsRow B 62 1 v l.length (ptrs l)) (hv : v.ownBlock = s.kv.ownBlock ∨ ∃ b, v.ownBlock = some b ∧ w.heap.size ≤ b) (he : ∀ e ∈ l, e ∈ s.ents ∨ (X e.b ∧ EntAt B w1 e)) (hn : (l.map Ent.b).Nodup) :
    Left B sizes X w s (w1.setCell ⟨s.g, 3, none⟩ v) { s with kv := v, ents := l, p := { s.p with kept := l.map Ent.k } } := by
  have hg : w1.heap[s.g]? = some (.cells s.cs 61 (0, 0)) := (hk _ (blk_lt h.cells) h.kv_ne_g).trans h.cells
  have fr1 : Frame B w w1 (Mut s) := ⟨hb, fun k hlt hm => hk k hlt (fun q => hm (.inr (.inl q)))⟩
  have fr : Frame B w (w1.setCell ⟨s.g, 3, none⟩ v) (Mut s) := fr1.trans (Frame.set (w := w1) h.lo (.inl rfl) _ _) (fun i hi => .inl hi)
  have m := h.still fr
  have m1 : Still B w1 (w1.setCell ⟨s.g, 3, none⟩ v) := Still.set hg rfl h.lo 3 v
  have far : ∀ k, k ≠ s.g → (w1.setCell ⟨s.g, 3, none⟩ v).heap[k]? = w1.heap[k]? := fun k hk => Below.heap_setCell w1 ⟨s.g, 3, none⟩ _ k hk
  have gk : v.ownBlock ≠ some s.g := fun q => by
    obtain ⟨cs, hc⟩ := own_typed ho _ q
    have := blk_ty hc hg
    revert this
    decide
  exact {
    at_ := {
      cells := blk_put hg 3 _ (cs_set3 s v l)
      lo := h.lo
      made := h.made.move m
      picks := h.picks.int m
      pc := h.pc
      kv := own_move ho fun k hk => far k (fun q => gk (q ▸ hk))
      kept := rfl
      ents := fun e hel => by
        rcases he e hel with x | ⟨_, x⟩
        · have e1 := h.ents e x
          have n1 := h.g_ne_e x
          have n2 := h.kv_ne_e x
          exact ⟨(far _ n1.symm).trans ((hk _ (blk_lt e1.cells) n2).trans e1.cells), e1.lo, e1.mesh.move m⟩
        · have n1 : e.b ≠ s.g := fun q => by
            have hc := x.cells
            rw [q] at hc
            have := blk_ty hc hg
            revert this
            decide
          exact ⟨(far _ n1).trans x.cells, x.lo, x.mesh.move m1⟩
      nodup := hn }
    g := rfl
    mb := rfl
    frame := fr
    own := fun k hk => by
      rcases hk with rfl | hk | ⟨e, hel, rfl⟩
      · exact .inl (.inl rfl)
      · rcases hv with q | ⟨b, q, hb⟩
        · exact .inl (.inr (.inl (by rw [← q]; exact hk)))
        · have : b = k := by
            replace hk : v.ownBlock = some k := hk
            rw [q] at hk
            injection hk
          exact .inr (.inr (by omega))
      · rcases he e hel with x | ⟨x, _⟩
        · exact .inl (.inr (.inr ⟨e, x, rfl⟩))
        · exact .inr (.inl x) }
end
/-- Variables of the call's own are written. -/
theorem Left.poke {B : Nat} {sizes : List Int} {X : Nat → Prop} {w w1 w2 : World} {s s1 : Cs} (l : Left B sizes X w s w1 s1) (hb : Below B w1 w2) {D : Nat → Prop} (hD : ∀ k, ¬ D k → w2.heap[k]? = w1.heap[k]?)
    (hd : ∀ k, D k → w.heap.size ≤ k ∧ B ≤ k ∧ ∃ cs t, w1.heap[k]? = some (.cells cs t (0, 0)) ∧ (t = 40 ∨ t = 43 ∨ t = 32)) : Left B sizes X w s w2 s1 where
  at_ := l.at_.move ⟨hb.size, fun k hk => hD k (fun d => by
      obtain ⟨_, hB, cs, t, hc, ht⟩ := hd k d
      exact hk.no hc (by rcases ht with e | e | e <;> rw [e] <;> rfl) hB)⟩ fun k hk => hD k (fun d => by
      obtain ⟨_, hB, cs, t, hc, ht⟩ := hd k d
      rcases hk with rfl | hk | ⟨e, he, rfl⟩
      · have := blk_ty hc l.at_.cells
        rw [this] at ht
        revert ht
        decide
      · obtain ⟨cs', hc'⟩ := l.at_.kvTyped hk
        have := blk_ty hc hc'
        rw [this] at ht
        revert ht
        decide
      · have := blk_ty hc (l.at_.ents e he).cells
        rw [this] at ht
        revert ht
        decide)
  g := l.g
  mb := l.mb
  frame := ⟨l.frame.below.trans hb, fun k hk hm => (hD k (fun d => by have := (hd k d).1; omega)).trans (l.frame.keep k hk hm)⟩
  own := l.own
/-- An entry that isn't the cache's stays. -/
theorem EntAt.left {B : Nat} {sizes : List Int} {X : Nat → Prop} {w w1 : World} {s s1 : Cs} {e : Ent} (h : EntAt B w e) (hc : CacheAt B sizes w s) (l : Left B sizes X w s w1 s1) (hm : ¬ Mut s e.b) : EntAt B w1 e :=
  ⟨(l.frame.keep _ (blk_lt h.cells) hm).trans h.cells, h.lo, h.mesh.move (Left.still hc l)⟩
theorem EntAt.below {B : Nat} {w w1 : World} {e : Ent} (h : EntAt B w e) (hb : Below w.heap.size w w1) : EntAt B w1 e :=
  ⟨blk_below h.cells hb, h.lo, h.mesh.move (.of_below hb)⟩
theorem EntAt.drewN {B : Nat} {w : World} {e : Ent} (h : EntAt B w e) (n : Nat) : EntAt B (w.drewN n) e := h.below (pw_below_drewN (Below.refl _ _) n)
end Go.Proofs.Ytfhjdhhflpekiaa.G
