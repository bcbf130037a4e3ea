/- The cache in memory: what lies in which block. -/
import Derived.Test.YtfhjdhhflpekiaaGx0
import Derived.Test.YtfhjdhhflpekiaaCPlain
import Derived.Laws.CopyOwn
namespace Go.Proofs.Ytfhjdhhflpekiaa.G
open Go.RowKit Go.Proofs.Cache Go.Proofs.YtfhjdhhflpekiaaW.PrintWords Go.Proofs.YtfhjdhhflpekiaaW.PrintLast Go.Proofs.YtfhjdhhflpekiaaW.PrintMore
set_option linter.unusedVariables false
set_option linter.unusedSimpArgs false
/-- The types of the blocks that are written again: a cache, its row, its entries; variables that hold a mesh, a tree, a tally. -/
def dirty (t : TypeId) : Bool := t == 61 || t == 62 || t == 64 || t == 40 || t == 43 || t == 32 || t == 34
/-- A block that no cache writes: it came in, or its type is none of those that a cache writes. -/
def SafeB (B : Nat) (w : World) (k : Nat) : Prop := k < w.heap.size ∧ (k < B ∨ ∃ cs t fr, w.heap[k]? = some (.cells cs t fr) ∧ dirty t = false)
/-- Of w all that lies in safe blocks lies in w1. -/
structure Still (B : Nat) (w w1 : World) : Prop where
  size : w.heap.size ≤ w1.heap.size
  same : ∀ k, SafeB B w k → w1.heap[k]? = w.heap[k]?
theorem SafeB.move {B : Nat} {w w1 : World} {k : Nat} (h : SafeB B w k) (m : Still B w w1) : SafeB B w1 k := by
  refine ⟨Nat.lt_of_lt_of_le h.1 m.size, ?_⟩
  rcases h.2 with h2 | ⟨cs, t, fr, hb, h2⟩
  · exact .inl h2
  · exact .inr ⟨cs, t, fr, (m.same k h).trans hb, h2⟩
theorem Still.refl (B : Nat) (w : World) : Still B w w := ⟨Nat.le_refl _, fun _ _ => rfl⟩
theorem Still.trans {B : Nat} {a b c : World} (h : Still B a b) (k : Still B b c) : Still B a c :=
  ⟨Nat.le_trans h.size k.size, fun i hi => (k.same i (hi.move h)).trans (h.same i hi)⟩
theorem Still.of_below {B : Nat} {w w1 : World} (h : Below w.heap.size w w1) : Still B w w1 := ⟨h.size, fun k hk => h.block k hk.1⟩
theorem Still.lower {B B' : Nat} {w w1 : World} (h : Still B w w1) (hb : B' ≤ B) : Still B' w w1 :=
  ⟨h.size, fun k hk => h.same k ⟨hk.1, hk.2.imp (fun x => by omega) id⟩⟩
theorem SafeB.no {B : Nat} {w : World} {g : Nat} {cs : Array Value} {t : TypeId} {fr : Nat × Nat} (h : SafeB B w g) (hg : w.heap[g]? = some (.cells cs t fr)) (ht : dirty t = true) (hB : B ≤ g) : False := by
  rcases h.2 with h | ⟨cs', t', fr', hb, h1⟩
  · omega
  · rw [hb] at hg
    injection hg with hg
    injection hg with _ hg
    rw [hg, ht] at h1
    cases h1
theorem Still.of_but {B : Nat} {w w1 : World} {g : Nat} {cs : Array Value} {t : TypeId} {fr : Nat × Nat} (hg : w.heap[g]? = some (.cells cs t fr)) (ht : dirty t = true) (hB : B ≤ g) (hs : w.heap.size ≤ w1.heap.size) (hk : ∀ k, k ≠ g → w1.heap[k]? = w.heap[k]?) : Still B w w1 :=
  ⟨hs, fun k h => hk k (by rintro rfl; exact h.no hg ht hB)⟩
theorem Still.set {B : Nat} {w : World} {g : Nat} {cs : Array Value} {t : TypeId} {fr : Nat × Nat} (hg : w.heap[g]? = some (.cells cs t fr)) (ht : dirty t = true) (hB : B ≤ g) (i : Nat) (u : Value) : Still B w (w.setCell ⟨g, i, none⟩ u) :=
  .of_but hg ht hB (by simp [World.setCell]) fun k hk => Below.heap_setCell w ⟨g, i, none⟩ u k hk
theorem addB (a : Addr) (n : Nat) : (a.add n).block = a.block := by unfold Addr.add; split <;> rfl
/-- A slice that is read, whose cells no cache writes. -/
def Rd {α : Type} (d : Kd α) (B : Nat) (w : World) (A : Option Addr) (xs : List α) : Prop := Kd.C d w A xs.length xs ∧ (0 < xs.length → ∀ a, A = some a → SafeB B w a.block)
theorem Rd.move {α : Type} {d : Kd α} {B : Nat} {w w1 : World} {A : Option Addr} {xs : List α} (h : Rd d B w A xs) (m : Still B w w1) (hK : ∀ x c, d.K w x c → d.K w1 x c) : Rd d B w1 A xs := by
  refine ⟨⟨h.1.1, h.1.2.1, fun hn => ?_⟩, fun hn a e => (h.2 hn a e).move m⟩
  obtain ⟨ad, e, hc⟩ := h.1.2.2 hn
  refine ⟨ad, e, fun j p hj => ?_⟩
  obtain ⟨c, hs, hr, hcell⟩ := hc j p hj
  exact ⟨c, hs, hK _ _ hr, fun i u hu => (World.cell?_of_block (a := ad.add _) (m.same (ad.add _).block (by rw [addB]; exact h.2 hn ad e))).trans (hcell i u hu)⟩
theorem Rd.int {B : Nat} {w w1 : World} {A : Option Addr} {xs : List Int} (h : Rd (Kd.int .i64) B w A xs) (m : Still B w w1) : Rd (Kd.int .i64) B w1 A xs := h.move m fun _ _ h => h
theorem Rd.v {B : Nat} {w w1 : World} {A : Option Addr} {xs : List S69} (h : Rd k69 B w A xs) (m : Still B w w1) : Rd k69 B w1 A xs := h.move m fun _ _ h => h
theorem Rd.tri {B : Nat} {w w1 : World} {A : Option Addr} {xs : List S73} (h : Rd k73 B w A xs) (m : Still B w w1) : Rd k73 B w1 A xs := h.move m fun _ _ h => h
/-- A mesh and a tree as Make answers them. -/
structure Msh where
  i : Int
  n : Nat
  vA : Option Addr
  vc : Nat
  tA : Option Addr
  tc : Nat
  iA : Option Addr
  ic : Nat
def Msh.mesh (m : Msh) : Array Value := #[.slice m.vA 1 m.vc, .slice none 0 0, .slice m.tA m.n m.tc]
def Msh.tree (m : Msh) : Array Value := #[.slice none 0 0, .slice m.iA 1 m.ic]
structure MshAt (B : Nat) (w : World) (m : Msh) : Prop where
  v : Rd k69 B w m.vA [⟨m.i, 0, 0⟩]
  vc : 1 ≤ m.vc
  t : Rd k73 B w m.tA (List.replicate m.n ⟨0, 0, 0⟩)
  tc : m.n ≤ m.tc
  it : Rd (Kd.int .i64) B w m.iA [m.i]
  ic : 1 ≤ m.ic
theorem MshAt.move {B : Nat} {w w1 : World} {m : Msh} (h : MshAt B w m) (s : Still B w w1) : MshAt B w1 m := ⟨h.v.v s, h.vc, h.t.tri s, h.tc, h.it.int s, h.ic⟩
/-- An entry: its block, its mesh, when it was asked last. -/
structure Ent where
  b : Nat
  m : Msh
  asked : Int
def Ent.k (e : Ent) : Ke := ⟨e.m.i, e.asked, e.m.n⟩
def Ent.p (e : Ent) : Value := .pointer (some ⟨e.b, 0, none⟩)
def Ent.cs (e : Ent) : Array Value := #[.int .i64 e.m.i, .slice e.m.vA 1 e.m.vc, .slice none 0 0, .slice e.m.tA e.m.n e.m.tc, .slice none 0 0, .slice e.m.iA 1 e.m.ic, .int .i64 e.asked]
structure EntAt (B : Nat) (w : World) (e : Ent) : Prop where
  cells : w.heap[e.b]? = some (.cells e.cs 64 (0, 0))
  lo : B ≤ e.b
  mesh : MshAt B w e.m
/-- A cache: its block, its slices' places, its entries. -/
structure Cs where
  g : Nat
  pA : Option Addr
  pc : Nat
  mb : Nat
  kv : Value
  ents : List Ent
  p : PS
def Cs.cs (s : Cs) : Array Value := #[.int .i64 s.p.room, .slice s.pA s.p.picks.length s.pc, .iface 28 (.pointer (some ⟨s.mb, 0, none⟩)), s.kv, .int .i64 s.p.now, .int .i64 s.p.tb, .int .i64 s.p.td, .int .i64 s.p.tp, .int .i64 s.p.tm]
def ptrs (l : List Ent) : List Value := l.map Ent.p
structure MadeAt (B : Nat) (sizes : List Int) (w : World) (mb : Nat) : Prop where
  made : ∃ A c, w.heap[mb]? = some (.cells #[.slice A sizes.length c] 30 (0, 0)) ∧ sizes.length ≤ c ∧ Rd (Kd.int .i64) B w A sizes
theorem MadeAt.move {B : Nat} {sizes : List Int} {w w1 : World} {mb : Nat} (h : MadeAt B sizes w mb) (s : Still B w w1) : MadeAt B sizes w1 mb := by
  obtain ⟨A, c, hb, hc, hr⟩ := h.made
  exact ⟨A, c, (s.same mb ⟨blk_lt hb, .inr ⟨_, _, _, hb, by decide⟩⟩).trans hb, hc, hr.int s⟩
structure CacheAt (B : Nat) (sizes : List Int) (w : World) (s : Cs) : Prop where
  cells : w.heap[s.g]? = some (.cells s.cs 61 (0, 0))
  lo : B ≤ s.g
  made : MadeAt B sizes w s.mb
  picks : Rd (Kd.int .i64) B w s.pA s.p.picks
  pc : s.p.picks.length ≤ s.pc
  kv : w.ownsRow B 62 1 s.kv s.ents.length (ptrs s.ents)
  kept : s.p.kept = s.ents.map Ent.k
  ents : ∀ e ∈ s.ents, EntAt B w e
  nodup : (s.ents.map Ent.b).Nodup
/-- The blocks that a cache may write. -/
def Mut (s : Cs) (k : Nat) : Prop := k = s.g ∨ s.kv.ownBlock = some k ∨ ∃ e ∈ s.ents, e.b = k
/-- What a call on a cache leaves: the safe blocks, and whatever is not the cache's own. -/
structure Frame (B : Nat) (w w1 : World) (M : Nat → Prop) : Prop where
  below : Below B w w1
  keep : ∀ k, k < w.heap.size → ¬ M k → w1.heap[k]? = w.heap[k]?
theorem Frame.refl (B : Nat) (w : World) (M : Nat → Prop) : Frame B w w M := ⟨Below.refl _ _, fun _ _ _ => rfl⟩
theorem Frame.of_below {B : Nat} {w w1 : World} (h : Below w.heap.size w w1) (hB : B ≤ w.heap.size) (M : Nat → Prop) : Frame B w w1 M := ⟨h.mono hB, fun k hk _ => h.block k hk⟩
theorem Frame.trans {B : Nat} {a b c : World} {M N : Nat → Prop} (h : Frame B a b M) (k : Frame B b c N) (hN : ∀ i, N i → M i ∨ a.heap.size ≤ i) : Frame B a c M :=
  ⟨h.below.trans k.below, fun i hi hm => (k.keep i (Nat.lt_of_lt_of_le hi h.below.size) (fun hn => by rcases hN i hn with x | x; exact hm x; omega)).trans (h.keep i hi hm)⟩
theorem Frame.mono {B : Nat} {a b : World} {M N : Nat → Prop} (h : Frame B a b M) (hM : ∀ i, M i → N i) : Frame B a b N := ⟨h.below, fun i hi hn => h.keep i hi fun hm => hn (hM i hm)⟩
theorem Frame.set {B : Nat} {w : World} {g : Nat} (hB : B ≤ g) {M : Nat → Prop} (hM : M g) (i : Nat) (u : Value) : Frame B w (w.setCell ⟨g, i, none⟩ u) M :=
  ⟨(Below.refl _ _).setCell hB _, fun k _ hm => Below.heap_setCell _ _ _ _ (by rintro rfl; exact hm hM)⟩
section
variable {B : Nat} {sizes : List Int} {w w1 : World} {s : Cs}
theorem CacheAt.kvTyped (h : CacheAt B sizes w s) {k : Nat} (hk : s.kv.ownBlock = some k) : ∃ cs, w.heap[k]? = some (.cells cs 62 (0, 0)) := own_typed h.kv k hk
theorem blk_ty {w : World} {g : Nat} {cs cs' : Array Value} {t t' : TypeId} {fr fr' : Nat × Nat} (h : w.heap[g]? = some (.cells cs t fr)) (h' : w.heap[g]? = some (.cells cs' t' fr')) : t = t' := by
  rw [h] at h'
  injection h' with h'
  injection h' with _ h'
theorem CacheAt.typed (h : CacheAt B sizes w s) {k : Nat} (hk : Mut s k) : B ≤ k ∧ ∃ cs t, w.heap[k]? = some (.cells cs t (0, 0)) ∧ dirty t = true := by
  rcases hk with rfl | hk | ⟨e, he, rfl⟩
  · exact ⟨h.lo, _, _, h.cells, rfl⟩
  · obtain ⟨cs, hc⟩ := h.kvTyped hk
    exact ⟨own_base h.kv k hk, _, _, hc, rfl⟩
  · exact ⟨(h.ents e he).lo, _, _, (h.ents e he).cells, rfl⟩
theorem CacheAt.lt (h : CacheAt B sizes w s) {k : Nat} (hk : Mut s k) : k < w.heap.size := by
  obtain ⟨_, cs, t, hc, _⟩ := h.typed hk
  exact blk_lt hc
theorem CacheAt.safe (h : CacheAt B sizes w s) {k : Nat} (hk : SafeB B w k) : ¬ Mut s k := by
  intro hm
  obtain ⟨h1, cs, t, hc, ht⟩ := h.typed hm
  exact hk.no hc ht h1
theorem CacheAt.still (h : CacheAt B sizes w s) (f : Frame B w w1 (Mut s)) : Still B w w1 := ⟨f.below.size, fun k hk => f.keep k hk.1 (h.safe hk)⟩
/-- What leaves a cache's own blocks and the safe ones leaves the cache. -/
theorem CacheAt.move (h : CacheAt B sizes w s) (m : Still B w w1) (hm : ∀ k, Mut s k → w1.heap[k]? = w.heap[k]?) : CacheAt B sizes w1 s where
  cells := (hm _ (.inl rfl)).trans h.cells
  lo := h.lo
  made := h.made.move m
  picks := h.picks.int m
  pc := h.pc
  kv := own_move h.kv fun k hk => hm k (.inr (.inl hk))
  kept := h.kept
  ents := fun e he => ⟨(hm _ (.inr (.inr ⟨e, he, rfl⟩))).trans (h.ents e he).cells, (h.ents e he).lo, (h.ents e he).mesh.move m⟩
  nodup := h.nodup
theorem CacheAt.below (h : CacheAt B sizes w s) (hb : Below w.heap.size w w1) : CacheAt B sizes w1 s := h.move (.of_below hb) fun k hk => hb.block k (h.lt hk)
theorem CacheAt.drewN (h : CacheAt B sizes w s) (n : Nat) : CacheAt B sizes (w.drewN n) s := h.below (pw_below_drewN (Below.refl _ _) n)
/-- Another cache's call. -/
theorem CacheAt.other (h : CacheAt B sizes w s) {M : Nat → Prop} (f : Frame B w w1 M) (hs : ∀ k, M k → ¬ SafeB B w k) (hd : ∀ k, Mut s k → ¬ M k) : CacheAt B sizes w1 s :=
  h.move ⟨f.below.size, fun k hk => f.keep k hk.1 fun hm => hs k hm hk⟩ fun k hk => f.keep k (h.lt hk) (hd k hk)
theorem CacheAt.g_ne_e (h : CacheAt B sizes w s) {e : Ent} (he : e ∈ s.ents) : s.g ≠ e.b := fun q => by
  have a := h.cells
  rw [q] at a
  have := blk_ty a (h.ents e he).cells
  revert this
  decide
theorem CacheAt.kv_ne_g (h : CacheAt B sizes w s) : s.kv.ownBlock ≠ some s.g := fun q => by
  obtain ⟨cs, hc⟩ := h.kvTyped q
  have := blk_ty hc h.cells
  revert this
  decide
theorem CacheAt.kv_ne_e (h : CacheAt B sizes w s) {e : Ent} (he : e ∈ s.ents) : s.kv.ownBlock ≠ some e.b := fun q => by
  obtain ⟨cs, hc⟩ := h.kvTyped q
  have := blk_ty hc (h.ents e he).cells
  revert this
  decide
/-- A store into the cache's own block. -/
theorem CacheAt.set (h : CacheAt B sizes w s) (i : Nat) (u : Value) (p' : PS) (hk : p'.kept = s.p.kept) (hp : p'.picks = s.p.picks) (hcs : s.cs.setIfInBounds i u = { s with p := p' }.cs) : CacheAt B sizes (w.setCell ⟨s.g, i, none⟩ u) { s with p := p' } := by
  have m : Still B w (w.setCell ⟨s.g, i, none⟩ u) := .set h.cells rfl h.lo i u
  have far : ∀ k, k ≠ s.g → (w.setCell ⟨s.g, i, none⟩ u).heap[k]? = w.heap[k]? := fun k hk => Below.heap_setCell _ _ _ _ hk
  exact {
    cells := blk_put h.cells i u hcs
    lo := h.lo
    made := h.made.move m
    picks := by show Rd _ _ _ _ p'.picks; rw [hp]; exact h.picks.int m
    pc := by show p'.picks.length ≤ _; rw [hp]; exact h.pc
    kv := own_move h.kv fun k hk => far k (fun q => h.kv_ne_g (q ▸ hk))
    kept := hk.trans h.kept
    ents := fun e he => ⟨(far _ (h.g_ne_e he).symm).trans (h.ents e he).cells, (h.ents e he).lo, (h.ents e he).mesh.move m⟩
    nodup := h.nodup }
end
end Go.Proofs.Ytfhjdhhflpekiaa.G
