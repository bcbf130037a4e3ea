/- Texts of the cache, put together: CKit, CRead, CHeld, CLeft, CEv. -/
import Derived.Test.YtfhjdhhflpekiaaGx0
import Derived.Test.YtfhjdhhflpekiaaCPA
import Derived.Laws.CopyOwn
import Derived.Deep.MidRow
import Derived.LaidEqlPtr
namespace Go.Proofs.Ytfhjdhhflpekiaa.G
open Go.RowKit Go.Proofs.Cache Go.Proofs.YtfhjdhhflpekiaaW.PrintWords Go.Proofs.YtfhjdhhflpekiaaW.PrintLast Go.Proofs.YtfhjdhhflpekiaaW.PrintMore
set_option linter.unusedVariables false
set_option linter.unusedSimpArgs false
/-- The types of the blocks that are written again: a cache, its row, its entries; variables that hold a mesh, a tree, a tally. -/
def dirty (t : TypeId) : Bool := t == 61 || t == 62 || t == 64 || t == 40 || t == 43 || t == 32 || t == 34
/-- From which block on a cache's blocks lie; N: the rows of whole numbers that somebody else writes. -/
structure Bd where
  n : Nat
  N : Nat → Prop
instance : Coe Bd Nat := ⟨Bd.n⟩
/-- Nobody else writes rows. -/
abbrev bd0 (n : Nat) : Bd := ⟨n, fun _ => False⟩
/-- A block that no cache writes: it came in, or its type is none of those that a cache writes. -/
def SafeB (B : Bd) (w : World) (k : Nat) : Prop := k < w.heap.size ∧ (k < B ∨ ∃ cs t fr, w.heap[k]? = some (.cells cs t fr) ∧ dirty t = false ∧ (t = 3 → ¬ B.N k))
/-- Of w all that lies in safe blocks lies in w1. -/
structure Still (B : Bd) (w w1 : World) : Prop where
  size : w.heap.size ≤ w1.heap.size
  same : ∀ k, SafeB B w k → w1.heap[k]? = w.heap[k]?
theorem SafeB.move {B : Bd} {w w1 : World} {k : Nat} (h : SafeB B w k) (m : Still B w w1) : SafeB B w1 k := by
  refine ⟨Nat.lt_of_lt_of_le h.1 m.size, ?_⟩
  rcases h.2 with h2 | ⟨cs, t, fr, hb, h2⟩
  · exact .inl h2
  · exact .inr ⟨cs, t, fr, (m.same k h).trans hb, h2⟩
theorem Still.refl (B : Bd) (w : World) : Still B w w := ⟨Nat.le_refl _, fun _ _ => rfl⟩
theorem Still.trans {B : Bd} {a b c : World} (h : Still B a b) (k : Still B b c) : Still B a c :=
  ⟨Nat.le_trans h.size k.size, fun i hi => (k.same i (hi.move h)).trans (h.same i hi)⟩
theorem Still.of_below {B : Bd} {w w1 : World} (h : Below w.heap.size w w1) : Still B w w1 := ⟨h.size, fun k hk => h.block k hk.1⟩
theorem SafeB.no {B : Bd} {w : World} {g : Nat} {cs : Array Value} {t : TypeId} {fr : Nat × Nat} (h : SafeB B w g) (hg : w.heap[g]? = some (.cells cs t fr)) (ht : dirty t = true) (hB : B ≤ g) : False := by
  rcases h.2 with h | ⟨cs', t', fr', hb, h1, _⟩
  · omega
  · rw [hb] at hg
    injection hg with hg
    injection hg with _ hg
    rw [hg, ht] at h1
    cases h1
theorem Still.of_but {B : Bd} {w w1 : World} {g : Nat} {cs : Array Value} {t : TypeId} {fr : Nat × Nat} (hg : w.heap[g]? = some (.cells cs t fr)) (ht : dirty t = true) (hB : B ≤ g) (hs : w.heap.size ≤ w1.heap.size) (hk : ∀ k, k ≠ g → w1.heap[k]? = w.heap[k]?) : Still B w w1 :=
  ⟨hs, fun k h => hk k (by rintro rfl; exact h.no hg ht hB)⟩
theorem Still.set {B : Bd} {w : World} {g : Nat} {cs : Array Value} {t : TypeId} {fr : Nat × Nat} (hg : w.heap[g]? = some (.cells cs t fr)) (ht : dirty t = true) (hB : B ≤ g) (i : Nat) (u : Value) : Still B w (w.setCell ⟨g, i, none⟩ u) :=
  .of_but hg ht hB (by simp [World.setCell]) fun k hk => Below.heap_setCell w ⟨g, i, none⟩ u k hk
theorem addB (a : Addr) (n : Nat) : (a.add n).block = a.block := by unfold Addr.add; split <;> rfl
/-- A slice that is read, whose cells no cache writes. -/
def Rd {α : Type} (d : Kd α) (B : Bd) (w : World) (A : Option Addr) (xs : List α) : Prop := Kd.C d w A xs.length xs ∧ (0 < xs.length → ∀ a, A = some a → SafeB B w a.block)
theorem Rd.move {α : Type} {d : Kd α} {B : Bd} {w w1 : World} {A : Option Addr} {xs : List α} (h : Rd d B w A xs) (m : Still B w w1) (hK : ∀ x c, d.K w x c → d.K w1 x c) : Rd d B w1 A xs := by
  refine ⟨⟨h.1.1, h.1.2.1, fun hn => ?_⟩, fun hn a e => (h.2 hn a e).move m⟩
  obtain ⟨ad, e, hc⟩ := h.1.2.2 hn
  refine ⟨ad, e, fun j p hj => ?_⟩
  obtain ⟨c, hs, hr, hcell⟩ := hc j p hj
  exact ⟨c, hs, hK _ _ hr, fun i u hu => (World.cell?_of_block (a := ad.add _) (m.same (ad.add _).block (by rw [addB]; exact h.2 hn ad e))).trans (hcell i u hu)⟩
theorem Rd.int {B : Bd} {w w1 : World} {A : Option Addr} {xs : List Int} (h : Rd (Kd.int .i64) B w A xs) (m : Still B w w1) : Rd (Kd.int .i64) B w1 A xs := h.move m fun _ _ h => h
theorem Rd.v {B : Bd} {w w1 : World} {A : Option Addr} {xs : List S69} (h : Rd k69 B w A xs) (m : Still B w w1) : Rd k69 B w1 A xs := h.move m fun _ _ h => h
theorem Rd.tri {B : Bd} {w w1 : World} {A : Option Addr} {xs : List S73} (h : Rd k73 B w A xs) (m : Still B w w1) : Rd k73 B w1 A xs := h.move m fun _ _ h => h
/-- A mesh and a tree as Make answers them. -/
structure Msh where
  i : Int
  n : Nat
  vA : Option Addr
  vc : Nat
  tA : Option Addr
  tc : Nat
  iA : Option Addr
  ic : Nat
def Msh.mesh (m : Msh) : Array Value := #[.slice m.vA 1 m.vc, .slice none 0 0, .slice m.tA m.n m.tc]
def Msh.tree (m : Msh) : Array Value := #[.slice none 0 0, .slice m.iA 1 m.ic]
structure MshAt (B : Bd) (w : World) (m : Msh) : Prop where
  v : Rd k69 B w m.vA [⟨m.i, 0, 0⟩]
  vc : 1 ≤ m.vc
  t : Rd k73 B w m.tA (List.replicate m.n ⟨0, 0, 0⟩)
  tc : m.n ≤ m.tc
  it : Rd (Kd.int .i64) B w m.iA [m.i]
  ic : 1 ≤ m.ic
theorem MshAt.move {B : Bd} {w w1 : World} {m : Msh} (h : MshAt B w m) (s : Still B w w1) : MshAt B w1 m := ⟨h.v.v s, h.vc, h.t.tri s, h.tc, h.it.int s, h.ic⟩
/-- An entry: its block, its mesh, when it was asked last. -/
structure Ent where
  b : Nat
  m : Msh
  asked : Int
def Ent.k (e : Ent) : Ke := ⟨e.m.i, e.asked, e.m.n⟩
def Ent.p (e : Ent) : Value := .pointer (some ⟨e.b, 0, none⟩)
def Ent.cs (e : Ent) : Array Value := #[.int .i64 e.m.i, .slice e.m.vA 1 e.m.vc, .slice none 0 0, .slice e.m.tA e.m.n e.m.tc, .slice none 0 0, .slice e.m.iA 1 e.m.ic, .int .i64 e.asked]
structure EntAt (B : Bd) (w : World) (e : Ent) : Prop where
  cells : w.heap[e.b]? = some (.cells e.cs 64 (0, 0))
  lo : B ≤ e.b
  mesh : MshAt B w e.m
/-- A cache: its block, its slices' places, its entries. -/
structure Cs where
  g : Nat
  pA : Option Addr
  pc : Nat
  mb : Nat
  kv : Value
  ents : List Ent
  p : PS
def Cs.cs (s : Cs) : Array Value := #[.int .i64 s.p.room, .slice s.pA s.p.picks.length s.pc, .iface 28 (.pointer (some ⟨s.mb, 0, none⟩)), s.kv, .int .i64 s.p.now, .int .i64 s.p.tb, .int .i64 s.p.td, .int .i64 s.p.tp, .int .i64 s.p.tm]
def ptrs (l : List Ent) : List Value := l.map Ent.p
structure MadeAt (B : Bd) (sizes : List Int) (w : World) (mb : Nat) : Prop where
  made : ∃ A c, w.heap[mb]? = some (.cells #[.slice A sizes.length c] 30 (0, 0)) ∧ sizes.length ≤ c ∧ Rd (Kd.int .i64) B w A sizes
theorem MadeAt.move {B : Bd} {sizes : List Int} {w w1 : World} {mb : Nat} (h : MadeAt B sizes w mb) (s : Still B w w1) : MadeAt B sizes w1 mb := by
  obtain ⟨A, c, hb, hc, hr⟩ := h.made
  exact ⟨A, c, (s.same mb ⟨blk_lt hb, .inr ⟨_, _, _, hb, by decide, fun q => absurd q (by decide)⟩⟩).trans hb, hc, hr.int s⟩
structure CacheAt (B : Bd) (sizes : List Int) (w : World) (s : Cs) : Prop where
  cells : w.heap[s.g]? = some (.cells s.cs 61 (0, 0))
  lo : B ≤ s.g
  made : MadeAt B sizes w s.mb
  picks : Rd (Kd.int .i64) B w s.pA s.p.picks
  pc : s.p.picks.length ≤ s.pc
  kv : w.ownsRow B 62 1 s.kv s.ents.length (ptrs s.ents)
  kept : s.p.kept = s.ents.map Ent.k
  ents : ∀ e ∈ s.ents, EntAt B w e
  nodup : (s.ents.map Ent.b).Nodup
  nlt : ∀ k, B.N k → k < w.heap.size
/-- The blocks that a cache may write. -/
def Mut (s : Cs) (k : Nat) : Prop := k = s.g ∨ s.kv.ownBlock = some k ∨ ∃ e ∈ s.ents, e.b = k
/-- What a call on a cache leaves: the safe blocks, and whatever is not the cache's own. -/
structure Frame (B : Bd) (w w1 : World) (M : Nat → Prop) : Prop where
  below : Below B w w1
  keep : ∀ k, k < w.heap.size → ¬ M k → w1.heap[k]? = w.heap[k]?
theorem Frame.refl (B : Bd) (w : World) (M : Nat → Prop) : Frame B w w M := ⟨Below.refl _ _, fun _ _ _ => rfl⟩
theorem Frame.of_below {B : Bd} {w w1 : World} (h : Below w.heap.size w w1) (hB : B ≤ w.heap.size) (M : Nat → Prop) : Frame B w w1 M := ⟨h.mono hB, fun k hk _ => h.block k hk⟩
theorem Frame.trans {B : Bd} {a b c : World} {M N : Nat → Prop} (h : Frame B a b M) (k : Frame B b c N) (hN : ∀ i, N i → M i ∨ a.heap.size ≤ i) : Frame B a c M :=
  ⟨h.below.trans k.below, fun i hi hm => (k.keep i (Nat.lt_of_lt_of_le hi h.below.size) (fun hn => by rcases hN i hn with x | x; exact hm x; omega)).trans (h.keep i hi hm)⟩
theorem Frame.mono {B : Bd} {a b : World} {M N : Nat → Prop} (h : Frame B a b M) (hM : ∀ i, M i → N i) : Frame B a b N := ⟨h.below, fun i hi hn => h.keep i hi fun hm => hn (hM i hm)⟩
theorem Frame.set {B : Bd} {w : World} {g : Nat} (hB : B ≤ g) {M : Nat → Prop} (hM : M g) (i : Nat) (u : Value) : Frame B w (w.setCell ⟨g, i, none⟩ u) M :=
  ⟨(Below.refl _ _).setCell hB _, fun k _ hm => Below.heap_setCell _ _ _ _ (by rintro rfl; exact hm hM)⟩
section
variable {B : Bd} {sizes : List Int} {w w1 : World} {s : Cs}
theorem CacheAt.kvTyped (h : CacheAt B sizes w s) {k : Nat} (hk : s.kv.ownBlock = some k) : ∃ cs, w.heap[k]? = some (.cells cs 62 (0, 0)) := own_typed h.kv k hk
theorem blk_ty {w : World} {g : Nat} {cs cs' : Array Value} {t t' : TypeId} {fr fr' : Nat × Nat} (h : w.heap[g]? = some (.cells cs t fr)) (h' : w.heap[g]? = some (.cells cs' t' fr')) : t = t' := by
  rw [h] at h'
  injection h' with h'
  injection h' with _ h'
theorem CacheAt.typed (h : CacheAt B sizes w s) {k : Nat} (hk : Mut s k) : B ≤ k ∧ ∃ cs t, w.heap[k]? = some (.cells cs t (0, 0)) ∧ dirty t = true := by
  rcases hk with rfl | hk | ⟨e, he, rfl⟩
  · exact ⟨h.lo, _, _, h.cells, rfl⟩
  · obtain ⟨cs, hc⟩ := h.kvTyped hk
    exact ⟨own_base h.kv k hk, _, _, hc, rfl⟩
  · exact ⟨(h.ents e he).lo, _, _, (h.ents e he).cells, rfl⟩
theorem CacheAt.lt (h : CacheAt B sizes w s) {k : Nat} (hk : Mut s k) : k < w.heap.size := by
  obtain ⟨_, cs, t, hc, _⟩ := h.typed hk
  exact blk_lt hc
theorem CacheAt.safe (h : CacheAt B sizes w s) {k : Nat} (hk : SafeB B w k) : ¬ Mut s k := by
  intro hm
  obtain ⟨h1, cs, t, hc, ht⟩ := h.typed hm
  exact hk.no hc ht h1
theorem CacheAt.still (h : CacheAt B sizes w s) (f : Frame B w w1 (Mut s)) : Still B w w1 := ⟨f.below.size, fun k hk => f.keep k hk.1 (h.safe hk)⟩
/-- What leaves a cache's own blocks and the safe ones leaves the cache. -/
theorem CacheAt.move (h : CacheAt B sizes w s) (m : Still B w w1) (hm : ∀ k, Mut s k → w1.heap[k]? = w.heap[k]?) : CacheAt B sizes w1 s where
  cells := (hm _ (.inl rfl)).trans h.cells
  lo := h.lo
  made := h.made.move m
  picks := h.picks.int m
  pc := h.pc
  kv := own_move h.kv fun k hk => hm k (.inr (.inl hk))
  kept := h.kept
  ents := fun e he => ⟨(hm _ (.inr (.inr ⟨e, he, rfl⟩))).trans (h.ents e he).cells, (h.ents e he).lo, (h.ents e he).mesh.move m⟩
  nodup := h.nodup
  nlt := fun k hk => Nat.lt_of_lt_of_le (h.nlt k hk) m.size
theorem CacheAt.below (h : CacheAt B sizes w s) (hb : Below w.heap.size w w1) : CacheAt B sizes w1 s := h.move (.of_below hb) fun k hk => hb.block k (h.lt hk)
theorem CacheAt.drewN (h : CacheAt B sizes w s) (n : Nat) : CacheAt B sizes (w.drewN n) s := h.below (pw_below_drewN (Below.refl _ _) n)
/-- Another cache's call. -/
theorem CacheAt.other (h : CacheAt B sizes w s) {M : Nat → Prop} (f : Frame B w w1 M) (hs : ∀ k, M k → ¬ SafeB B w k) (hd : ∀ k, Mut s k → ¬ M k) : CacheAt B sizes w1 s :=
  h.move ⟨f.below.size, fun k hk => f.keep k hk.1 fun hm => hs k hm hk⟩ fun k hk => f.keep k (h.lt hk) (hd k hk)
theorem CacheAt.g_ne_e (h : CacheAt B sizes w s) {e : Ent} (he : e ∈ s.ents) : s.g ≠ e.b := fun q => by
  have a := h.cells
  rw [q] at a
  have := blk_ty a (h.ents e he).cells
  revert this
  decide
theorem CacheAt.kv_ne_g (h : CacheAt B sizes w s) : s.kv.ownBlock ≠ some s.g := fun q => by
  obtain ⟨cs, hc⟩ := h.kvTyped q
  have := blk_ty hc h.cells
  revert this
  decide
theorem CacheAt.kv_ne_e (h : CacheAt B sizes w s) {e : Ent} (he : e ∈ s.ents) : s.kv.ownBlock ≠ some e.b := fun q => by
  obtain ⟨cs, hc⟩ := h.kvTyped q
  have := blk_ty hc (h.ents e he).cells
  revert this
  decide
/-- A store into the cache's own block. -/
theorem CacheAt.set (h : CacheAt B sizes w s) (i : Nat) (u : Value) (p' : PS) (hk : p'.kept = s.p.kept) (hp : p'.picks = s.p.picks) (hcs : s.cs.setIfInBounds i u = { s with p := p' }.cs) : CacheAt B sizes (w.setCell ⟨s.g, i, none⟩ u) { s with p := p' } := by
  have m : Still B w (w.setCell ⟨s.g, i, none⟩ u) := .set h.cells rfl h.lo i u
  have far : ∀ k, k ≠ s.g → (w.setCell ⟨s.g, i, none⟩ u).heap[k]? = w.heap[k]? := fun k hk => Below.heap_setCell _ _ _ _ hk
  exact {
    cells := blk_put h.cells i u hcs
    lo := h.lo
    made := h.made.move m
    picks := by show Rd _ _ _ _ p'.picks; rw [hp]; exact h.picks.int m
    pc := by show p'.picks.length ≤ _; rw [hp]; exact h.pc
    kv := own_move h.kv fun k hk => far k (fun q => h.kv_ne_g (q ▸ hk))
    kept := hk.trans h.kept
    ents := fun e he => ⟨(far _ (h.g_ne_e he).symm).trans (h.ents e he).cells, (h.ents e he).lo, (h.ents e he).mesh.move m⟩
    nodup := h.nodup
    nlt := fun k hk => Nat.lt_of_lt_of_le (h.nlt k hk) m.size }
end
end Go.Proofs.Ytfhjdhhflpekiaa.G

namespace Go.Proofs.Ytfhjdhhflpekiaa.G
open Go.RowKit Go.Proofs.Cache Go.Proofs.YtfhjdhhflpekiaaW.PrintWords Go.Proofs.YtfhjdhhflpekiaaW.PrintLast Go.Proofs.YtfhjdhhflpekiaaW.PrintMore
set_option linter.unusedVariables false
set_option linter.unusedSimpArgs false
set_option maxHeartbeats 1000000 in
set_option maxRecDepth 100000 in
theorem size.calls (B : Bd) (e : Ent) (w : World) (h : EntAt B w e) :
    Calls Try.prog 26 #[e.p] w fun x w' => x = .returned (.int .i64 e.m.n) ∧ w' = w := by
  have c3 : w.cell? ⟨e.b, 3, none⟩ = some (.slice e.m.tA e.m.n e.m.tc) := (blk_cell h.cells 3).trans rfl
  clear h
  unfold Ent.p
  go_enter Try.func26, Try.ntmps26
  go_wp2
  go_ret
  exact ⟨rfl, rfl⟩
def cmpI (a b : Int) : Int := if a < b then -1 else if b < a then 1 else 0
set_option maxHeartbeats 1000000 in
set_option maxRecDepth 100000 in
theorem isNaN.calls (a : Int) (w : World) : Calls Try.prog 34 #[.int .i64 a] w fun x w' => x = .returned (.bool false) ∧ w' = w := by
  go_enter Try.func34, Try.ntmps34
  go_wp2
  go_ret
  exact ⟨by simp, rfl⟩
set_option maxHeartbeats 1000000 in
set_option maxRecDepth 100000 in
theorem compare.calls (a b : Int) (w : World) : Calls Try.prog 32 #[.int .i64 a, .int .i64 b] w fun x w' => x = .returned (.int .i64 (cmpI a b)) ∧ w' = w := by
  unfold cmpI
  by_cases c1 : a < b
  · rw [if_pos c1]
    have d1 : decide (a < b) = true := decide_eq_true c1
    clear c1
    go_enter Try.func32, Try.ntmps32
    go_wp2_with (go_at_call 34; (with_reducible refine (isNaN.calls _ _).mono ?_); rintro e w' ⟨rfl, rfl⟩)
    go_ret
    exact ⟨rfl, rfl⟩
  · rw [if_neg c1]
    have d1 : decide (a < b) = false := decide_eq_false c1
    clear c1
    by_cases c2 : b < a
    · rw [if_pos c2]
      have d2 : decide (a > b) = true := decide_eq_true c2
      clear c2
      go_enter Try.func32, Try.ntmps32
      go_wp2_with (go_at_call 34; (with_reducible refine (isNaN.calls _ _).mono ?_); rintro e w' ⟨rfl, rfl⟩)
      go_ret
      exact ⟨rfl, rfl⟩
    · rw [if_neg c2]
      have d2 : decide (a > b) = false := decide_eq_false c2
      clear c2
      go_enter Try.func32, Try.ntmps32
      go_wp2_with (go_at_call 34; (with_reducible refine (isNaN.calls _ _).mono ?_); rintro e w' ⟨rfl, rfl⟩)
      go_ret
      exact ⟨rfl, rfl⟩
set_option maxHeartbeats 1000000 in
set_option maxRecDepth 100000 in
theorem closure.calls (a b : Nat) (x y : Int) (w : World) (ha : w.cell? ⟨a, 6, none⟩ = some (.int .i64 x)) (hb : w.cell? ⟨b, 6, none⟩ = some (.int .i64 y)) :
    Calls Try.prog 31 #[.pointer (some ⟨a, 0, none⟩), .pointer (some ⟨b, 0, none⟩)] w fun e w' => e = .returned (.int .i64 (cmpI x y)) ∧ Drawn0 w w' := by
  go_enter Try.func31, Try.ntmps31
  go_wp2
  go_quiet ((go_at_call 32; exact Calls.quiet_of_same (compare.calls _ _ _)))
  go_wp2
  go_ret
  exact ⟨rfl, by repeat (first | exact Drawn0.refl _ | apply Drawn0.step)⟩
end Go.Proofs.Ytfhjdhhflpekiaa.G

namespace Go.Proofs.Ytfhjdhhflpekiaa.G
open Go.RowKit Go.Proofs.Cache Go.Proofs.YtfhjdhhflpekiaaW.PrintWords Go.Proofs.YtfhjdhhflpekiaaW.PrintLast Go.Proofs.YtfhjdhhflpekiaaW.PrintMore
set_option linter.unusedVariables false
set_option linter.unusedSimpArgs false
def dE : Ent := ⟨0, ⟨0, 0, none, 0, none, 0, none, 0⟩, 0⟩
theorem getE {l : List Ent} {j : Nat} (h : j < l.length) : l.getD j dE ∈ l := by
  rw [List.getD_eq_getElem?_getD, List.getElem?_eq_getElem h]
  exact List.getElem_mem h
theorem ptrs_get {l : List Ent} {j : Nat} (h : j < l.length) : (ptrs l)[j]? = some (l.getD j dE).p := by
  simp [ptrs, h]
/-- The slice of a cache's entries. -/
theorem kv_open {B : Bd} {w : World} {v : Value} {l : List Ent} (h : w.ownsRow B 62 1 v l.length (ptrs l)) :
    ∃ A c, v = .slice A l.length c ∧ l.length ≤ c ∧ c ≤ maxLen ∧ ∀ j, j < l.length → ∃ g, A = some ⟨g, 0, none⟩ ∧ w.cell? ⟨g, j, none⟩ = some (l.getD j dE).p := by
  rcases h.2 with ⟨rfl, h0⟩ | ⟨g, cap, cur, rfl, hg, hh, h1, h2, h3, h4⟩
  · rw [h0]
    exact ⟨none, 0, rfl, Nat.le_refl _, by decide, fun j hj => by omega⟩
  · refine ⟨_, cap, rfl, h1, h2, fun j hj => ⟨g, rfl, ?_⟩⟩
    rw [blk_cell hh, ← ptrs_get hj, ← h4, List.getElem?_take, if_pos (by omega), Array.getElem?_toList]
theorem kept_get {l : List Ent} {j : Nat} (h : j < l.length) : (l.map Ent.k).getD j ⟨0, 0, 0⟩ = (l.getD j dE).k := by
  simp [List.getD_eq_getElem?_getD, h]
theorem asked_get {l : List Ent} {j : Nat} (h : j < l.length) : (l.map (·.asked)).getD j 0 = (l.getD j dE).asked := by
  simp [List.getD_eq_getElem?_getD, h]
set_option maxHeartbeats 1000000 in
set_option maxRecDepth 100000 in
theorem held.calls (B : Bd) (sizes : List Int) (s : Cs) (w : World) (h : CacheAt B sizes w s) (hb : ∀ e ∈ s.ents, e.m.n ≤ 1000) (hl : s.ents.length ≤ 1000000) :
    Calls Try.prog 18 #[.pointer (some ⟨s.g, 0, none⟩)] w fun x w' => x = .returned (.int .i64 (held s.p.kept)) ∧ w' = w := by
  obtain ⟨A, c, ek, hc, hm, hg⟩ := kv_open h.kv
  have HG := Aside0.mk hg
  clear hg
  have c3 : w.cell? ⟨s.g, 3, none⟩ = some (.slice A s.ents.length c) := by rw [← ek]; exact (blk_cell h.cells 3).trans rfl
  have HL : ∀ j, j ≤ s.ents.length → heldTo s.p.kept j ≤ j * 1000 := by
    rw [h.kept]
    intro j hj
    refine heldTo_le _ 1000 ?_ j (by simpa using hj)
    intro k hk
    obtain ⟨e, he, rfl⟩ := List.mem_map.1 hk
    exact hb e he
  have HH : held s.p.kept = heldTo s.p.kept s.ents.length := by rw [held, h.kept, List.length_map]
  have HE : ∀ j, j < s.ents.length → heldTo s.p.kept (j + 1) = heldTo s.p.kept j + (s.ents.getD j dE).m.n := by
    intro j hj
    rw [heldTo, h.kept, kept_get hj]
    rfl
  have HN := fun j hj => h.ents _ (getE (l := s.ents) (j := j) hj)
  rw [HH]
  have H1 := Aside0.mk HL
  have H2 := Aside0.mk HE
  have H3 := Aside0.mk HN
  clear HH HL HE HN ek hb hm
  generalize s.ents.length = n at *
  generalize heldTo s.p.kept = f at *
  generalize s.ents.getD = q at *
  clear h
  go_enter Try.func18, Try.ntmps18
  go_wp2
  go_loopg [3, 11] n (fun kq v3 v11 w' => ∃ j : Nat, v11 = .int .i64 j ∧ v3 = .int .i64 (f j) ∧ Aside0 (j + kq = n) ∧ w' = w)
  case atStart => exact ⟨0, rfl, by have := H1.out 0 (by omega); simp at this; rw [this]; rfl, ⟨by omega⟩, rfl⟩
  case round =>
    obtain ⟨j, rfl, rfl, HJ, rfl⟩ := hrel
    have hj := HJ.out
    by_cases hlt : j < n
    · have c1 : decide ((j : Int) < (n : Int)) = true := decide_eq_true (by omega)
      have i0 : 0 ≤ (j : Int) := by omega
      have i1 : (j : Int) < (n : Int) := by omega
      obtain ⟨g, rfl, hcell⟩ := HG.out j hlt
      have hE := H3.out j hlt
      have hF := H2.out j hlt
      have hB := H1.out (j + 1) hlt
      cases gk with
      | zero => omega
      | succ k1 =>
        go_wp2_with (go_at_call 26; (with_reducible refine (size.calls B _ _ hE).mono ?_); rintro e w' ⟨rfl, rfl⟩)
        go_roundg k1
        case measure => omega
        case rel => exact ⟨j + 1, by simp, by rw [hF]; simp, ⟨by omega⟩, rfl⟩
    · have c1 : decide ((j : Int) < (n : Int)) = false := decide_eq_false (by omega)
      have e1 : j = n := by omega
      subst e1
      go_wp2
      go_ret
      exact ⟨rfl, rfl⟩
end Go.Proofs.Ytfhjdhhflpekiaa.G

namespace Go.Proofs.Ytfhjdhhflpekiaa.G
open Go.RowKit Go.Proofs.Cache Go.Proofs.YtfhjdhhflpekiaaW.PrintWords Go.Proofs.YtfhjdhhflpekiaaW.PrintLast Go.Proofs.YtfhjdhhflpekiaaW.PrintMore
set_option linter.unusedVariables false
set_option linter.unusedSimpArgs false
/-- What a call on a cache leaves; X: the block of an entry that came in. -/
structure Left (B : Bd) (sizes : List Int) (X : Nat → Prop) (w : World) (s : Cs) (w' : World) (s' : Cs) : Prop where
  at_ : CacheAt B sizes w' s'
  g : s'.g = s.g
  mb : s'.mb = s.mb
  frame : Frame B w w' (Mut s)
  own : ∀ k, Mut s' k → Mut s k ∨ X k ∨ w.heap.size ≤ k
def NoX : Nat → Prop := fun _ => False
section
variable {B : Bd} {sizes : List Int} {X : Nat → Prop} {w w1 w2 : World} {s s1 s2 : Cs}
theorem Left.refl (h : CacheAt B sizes w s) : Left B sizes X w s w s := ⟨h, rfl, rfl, .refl _ _ _, fun k hk => .inl hk⟩
theorem Left.trans (h : Left B sizes NoX w s w1 s1) (k : Left B sizes X w1 s1 w2 s2) : Left B sizes X w s w2 s2 :=
  ⟨k.at_, k.g.trans h.g, k.mb.trans h.mb, h.frame.trans k.frame (fun i hi => by
    rcases h.own i hi with x | x | x
    · exact .inl x
    · exact x.elim
    · exact .inr x), fun i hi => by
    rcases k.own i hi with x | x | x
    · rcases h.own i x with y | y | y
      · exact .inl y
      · exact y.elim
      · exact .inr (.inr y)
    · exact .inr (.inl x)
    · exact .inr (.inr (Nat.le_trans h.frame.below.size x))⟩
/-- The second call may write what the first has taken in. -/
theorem Left.then_ (h : Left B sizes X w s w1 s1) (k : Left B sizes NoX w1 s1 w2 s2) (hk : ∀ i, X i → w2.heap[i]? = w1.heap[i]?) : Left B sizes X w s w2 s2 where
  at_ := k.at_
  g := k.g.trans h.g
  mb := k.mb.trans h.mb
  frame := ⟨h.frame.below.trans k.frame.below, fun i hi hm => by
    by_cases x : X i
    · exact (hk i x).trans (h.frame.keep i hi hm)
    · exact (k.frame.keep i (Nat.lt_of_lt_of_le hi h.frame.below.size) (fun hn => by
        rcases h.own i hn with y | y | y
        · exact hm y
        · exact x y
        · omega)).trans (h.frame.keep i hi hm)⟩
  own := fun i hi => by
    rcases k.own i hi with x | x | x
    · exact h.own i x
    · exact x.elim
    · exact .inr (.inr (Nat.le_trans h.frame.below.size x))
theorem Left.weaken {Y : Nat → Prop} (h : Left B sizes X w s w1 s1) (hXY : ∀ k, X k → Y k ∨ w.heap.size ≤ k) : Left B sizes Y w s w1 s1 :=
  ⟨h.at_, h.g, h.mb, h.frame, fun k hk => by
    rcases h.own k hk with x | x | x
    · exact .inl x
    · exact .inr (hXY k x)
    · exact .inr (.inr x)⟩
theorem Left.still (h : CacheAt B sizes w s) (l : Left B sizes X w s w1 s1) : Still B w w1 := h.still l.frame
theorem Left.of_below (h : CacheAt B sizes w s) (hb : Below w.heap.size w w1) : Left B sizes X w s w1 s :=
  ⟨h.below hb, rfl, rfl, .of_below hb (Nat.le_trans h.lo (Nat.le_of_lt (blk_lt h.cells))) _, fun k hk => .inl hk⟩
theorem Left.drewN (h : CacheAt B sizes w s) (n : Nat) : Left B sizes X w s (w.drewN n) s := .of_below h (pw_below_drewN (Below.refl _ _) n)
/-- A store into one of the cache's own cells that no slice stands in. -/
theorem Left.set (h : CacheAt B sizes w s) (i : Nat) (u : Value) (p' : PS) (hk : p'.kept = s.p.kept) (hp : p'.picks = s.p.picks) (hcs : s.cs.setIfInBounds i u = { s with p := p' }.cs) : Left B sizes X w s (w.setCell ⟨s.g, i, none⟩ u) { s with p := p' } :=
  ⟨h.set i u p' hk hp hcs, rfl, rfl, .set h.lo (.inl rfl) _ _, fun k hk => .inl hk⟩
theorem cs_set3 (s : Cs) (v : Value) (l : List Ent) : s.cs.setIfInBounds 3 v = { s with kv := v, ents := l, p := { s.p with kept := l.map Ent.k } }.cs := by
  simp [Cs.cs]
/-- The entries are others: their row has been written, then the cache's cell. -/
theorem Left.rekept (h : CacheAt B sizes w s) (hb : Below B w w1) (hk : ∀ j, j < w.heap.size → s.kv.ownBlock ≠ some j → w1.heap[j]? = w.heap[j]?) (v : Value) (l : List Ent)
    (ho : w1.ownsRow B 62 1 v l.length (ptrs l)) (hv : v.ownBlock = s.kv.ownBlock ∨ ∃ b, v.ownBlock = some b ∧ w.heap.size ≤ b) (he : ∀ e ∈ l, e ∈ s.ents ∨ (X e.b ∧ EntAt B w1 e)) (hn : (l.map Ent.b).Nodup) :
    Left B sizes X w s (w1.setCell ⟨s.g, 3, none⟩ v) { s with kv := v, ents := l, p := { s.p with kept := l.map Ent.k } } := by
  have hg : w1.heap[s.g]? = some (.cells s.cs 61 (0, 0)) := (hk _ (blk_lt h.cells) h.kv_ne_g).trans h.cells
  have fr1 : Frame B w w1 (Mut s) := ⟨hb, fun k hlt hm => hk k hlt (fun q => hm (.inr (.inl q)))⟩
  have fr : Frame B w (w1.setCell ⟨s.g, 3, none⟩ v) (Mut s) := fr1.trans (Frame.set (w := w1) h.lo (.inl rfl) _ _) (fun i hi => .inl hi)
  have m := h.still fr
  have m1 : Still B w1 (w1.setCell ⟨s.g, 3, none⟩ v) := Still.set hg rfl h.lo 3 v
  have far : ∀ k, k ≠ s.g → (w1.setCell ⟨s.g, 3, none⟩ v).heap[k]? = w1.heap[k]? := fun k hk => Below.heap_setCell w1 ⟨s.g, 3, none⟩ _ k hk
  have gk : v.ownBlock ≠ some s.g := fun q => by
    obtain ⟨cs, hc⟩ := own_typed ho _ q
    have := blk_ty hc hg
    revert this
    decide
  exact {
    at_ := {
      cells := blk_put hg 3 _ (cs_set3 s v l)
      lo := h.lo
      made := h.made.move m
      picks := h.picks.int m
      pc := h.pc
      kv := own_move ho fun k hk => far k (fun q => gk (q ▸ hk))
      kept := rfl
      ents := fun e hel => by
        rcases he e hel with x | ⟨_, x⟩
        · have e1 := h.ents e x
          have n1 := h.g_ne_e x
          have n2 := h.kv_ne_e x
          exact ⟨(far _ n1.symm).trans ((hk _ (blk_lt e1.cells) n2).trans e1.cells), e1.lo, e1.mesh.move m⟩
        · have n1 : e.b ≠ s.g := fun q => by
            have hc := x.cells
            rw [q] at hc
            have := blk_ty hc hg
            revert this
            decide
          exact ⟨(far _ n1).trans x.cells, x.lo, x.mesh.move m1⟩
      nodup := hn
      nlt := fun k hk => Nat.lt_of_lt_of_le (h.nlt k hk) m.size }
    g := rfl
    mb := rfl
    frame := fr
    own := fun k hk => by
      rcases hk with rfl | hk | ⟨e, hel, rfl⟩
      · exact .inl (.inl rfl)
      · rcases hv with q | ⟨b, q, hb⟩
        · exact .inl (.inr (.inl (by rw [← q]; exact hk)))
        · have : b = k := by
            replace hk : v.ownBlock = some k := hk
            rw [q] at hk
            injection hk
          exact .inr (.inr (by omega))
      · rcases he e hel with x | ⟨x, _⟩
        · exact .inl (.inr (.inr ⟨e, x, rfl⟩))
        · exact .inr (.inl x) }
end
/-- Variables of the call's own are written. -/
theorem Left.poke {B : Bd} {sizes : List Int} {X : Nat → Prop} {w w1 w2 : World} {s s1 : Cs} (l : Left B sizes X w s w1 s1) (hb : Below B w1 w2) {D : Nat → Prop} (hD : ∀ k, ¬ D k → w2.heap[k]? = w1.heap[k]?)
    (hd : ∀ k, D k → w.heap.size ≤ k ∧ B ≤ k ∧ ∃ cs t, w1.heap[k]? = some (.cells cs t (0, 0)) ∧ (t = 40 ∨ t = 43 ∨ t = 32)) : Left B sizes X w s w2 s1 where
  at_ := l.at_.move ⟨hb.size, fun k hk => hD k (fun d => by
      obtain ⟨_, hB, cs, t, hc, ht⟩ := hd k d
      exact hk.no hc (by rcases ht with e | e | e <;> rw [e] <;> rfl) hB)⟩ fun k hk => hD k (fun d => by
      obtain ⟨_, hB, cs, t, hc, ht⟩ := hd k d
      rcases hk with rfl | hk | ⟨e, he, rfl⟩
      · have := blk_ty hc l.at_.cells
        rw [this] at ht
        revert ht
        decide
      · obtain ⟨cs', hc'⟩ := l.at_.kvTyped hk
        have := blk_ty hc hc'
        rw [this] at ht
        revert ht
        decide
      · have := blk_ty hc (l.at_.ents e he).cells
        rw [this] at ht
        revert ht
        decide)
  g := l.g
  mb := l.mb
  frame := ⟨l.frame.below.trans hb, fun k hk hm => (hD k (fun d => by have := (hd k d).1; omega)).trans (l.frame.keep k hk hm)⟩
  own := l.own
/-- An entry that isn't the cache's stays. -/
theorem EntAt.left {B : Bd} {sizes : List Int} {X : Nat → Prop} {w w1 : World} {s s1 : Cs} {e : Ent} (h : EntAt B w e) (hc : CacheAt B sizes w s) (l : Left B sizes X w s w1 s1) (hm : ¬ Mut s e.b) : EntAt B w1 e :=
  ⟨(l.frame.keep _ (blk_lt h.cells) hm).trans h.cells, h.lo, h.mesh.move (Left.still hc l)⟩
theorem EntAt.below {B : Bd} {w w1 : World} {e : Ent} (h : EntAt B w e) (hb : Below w.heap.size w w1) : EntAt B w1 e :=
  ⟨blk_below h.cells hb, h.lo, h.mesh.move (.of_below hb)⟩
theorem EntAt.drewN {B : Bd} {w : World} {e : Ent} (h : EntAt B w e) (n : Nat) : EntAt B (w.drewN n) e := h.below (pw_below_drewN (Below.refl _ _) n)
end Go.Proofs.Ytfhjdhhflpekiaa.G

namespace Go.Proofs.Ytfhjdhhflpekiaa.G
open Go.RowKit Go.Proofs.Cache Go.Proofs.YtfhjdhhflpekiaaW.PrintWords Go.Proofs.YtfhjdhhflpekiaaW.PrintLast Go.Proofs.YtfhjdhhflpekiaaW.PrintMore
set_option linter.unusedVariables false
set_option linter.unusedSimpArgs false
section
variable {P : Program} {ops : Array Oper} {rest : List Oper} {o : Oper} {a : Act} {Q : Exit → Act → World → Prop} {W w0 : World}
theorem gate_store2 {t : TypeId} {x y : Operand} (_ho : o.op = .store t x y) (h : wpList P ops Q (o :: rest) a W) : wpList P ops Q (o :: rest) a W := h
/-- A whole variable is stored. -/
theorem ev_row {B : Nat} (hgd : o.guard = none) (ty : TypeId) (x y : Operand) (ho : o.op = .store ty x y) (hN : o.dst = none) (g : Nat) (cells : Array Value) (hx : a.eval x = .pointer (some ⟨g, 0, none⟩)) (hy : a.eval y = .agg cells)
    (t : TypeId) (old : Array Value) (hg : W.heap[g]? = some (.cells old t (0, 0))) (hi : (P.info? ty).map (·.size) = some cells.size) (hold : old.size = cells.size) (h1 : cells.all (·.oneCell') = true)
    (HB : Below B w0 W) (hBg : B ≤ g)
    (h : ∀ w1, w1.heap[g]? = some (.cells cells t (0, 0)) → Below B w0 w1 → (∀ k, k ≠ g → w1.heap[k]? = W.heap[k]?) → wpList P ops Q rest a w1) : wpList P ops Q (o :: rest) a W := by
  refine wpList_store_row hgd ty x y ho g cells hx hy t old hg hi hold h1 ?_
  rw [hN]
  exact h _ (setRow_heap W g old cells t (0, 0) hg) (Go.below_setRow HB hBg _) (fun k hk => setRow_other W g k _ hk)
theorem wanted_step (hw : Region.wanted o (yielded ops a.tmps) = true) (h : ∀ K : Act → World → Prop, (∀ a w, wpList P ops Q rest a w → K a w) → o.wp P a W K Q) : wpList P ops Q (o :: rest) a W :=
  wpList_step fun K hK => by rw [if_pos hw]; exact h K hK
/-- A row in the midst of a variable is read. -/
theorem ev_mid (hw : Region.wanted o (yielded ops a.tmps) = true) (ty : TypeId) (x : Operand) (ho : o.op = .load ty x) (b k : Nat) (hx : a.eval x = .pointer (some ⟨b, k, none⟩)) (cs : List Value) (cells : Array Value) (hcs : cs.toArray = cells) (d : TypeDesc) (hc : W.rangeAt b k cs)
    (hu : P.underlying ty = some d) (hd : d.isRow = true) (hi : (P.info? ty).map (·.size) = some cells.size) (h : wpList P ops Q rest (a.put o.dst (.agg cells)) W) : wpList P ops Q (o :: rest) a W :=
  wanted_step hw fun K hK => wp_load_mid ty x ho b k hx cs d hc hu hd (by rw [hi, ← hcs]; simp) (hK _ _ (by rw [hcs]; exact h))
/-- A struct is built. -/
theorem ev_build (hgd : o.guard = none) (t : TypeId) (parts : Array (Nat × Operand)) (ho : o.op = .build t parts) (l : List (Nat × Value)) (hl : (parts.map fun (i, x) => (i, a.eval x)).toList = l) (cs : Array Value) (hb : P.built t l = some cs)
    (h : wpList P ops Q rest (a.put o.dst (.agg cs)) W) : wpList P ops Q (o :: rest) a W := by
  refine wpList_build hgd t parts ho ?_ ?_
  · rw [hl, hb]
    rfl
  · rw [hl, hb]
    exact h
/-- A cell is stored. -/
theorem ev_cell {B : Nat} (hgd : o.guard = none) (hN : o.dst = none) (g i : Nat) (v : Value) (t : TypeId) (old : Array Value) (hg : W.heap[g]? = some (.cells old t (0, 0)))
    (hrun : (execOp a.eval o).run P W = .ok .skip (W.setCell ⟨g, i, none⟩ v))
    (HB : Below B w0 W) (hBg : B ≤ g)
    (h : ∀ w1, w1.heap[g]? = some (.cells (old.setIfInBounds i v) t (0, 0)) → Below B w0 w1 → (∀ k, k ≠ g → w1.heap[k]? = W.heap[k]?) → wpList P ops Q rest a w1) : wpList P ops Q (o :: rest) a W := by
  refine wpList_plain hgd fun K hK => ?_
  unfold Oper.wp
  rw [hrun]
  show K (a.put o.dst undef) _
  rw [hN]
  refine hK _ _ (h _ (blk_set hg i v) (HB.setCell hBg _) (fun k hk => ?_))
  exact Go.heap_setCell_other W ⟨g, i, none⟩ k v hk
end
theorem range_of {w : World} {b : Nat} {cs : Array Value} {t : TypeId} {fr : Nat × Nat} (h : w.heap[b]? = some (.cells cs t fr)) (k : Nat) (l : List Value) (hl : ∀ j v, l[j]? = some v → cs[k + j]? = some v) : w.rangeAt b k l := by
  intro j v hv
  rw [cell_of_row w b (k + j) cs t fr h]
  exact hl j v hv
theorem eql_same (a : Nat) (w : World) : Sem.run Try.prog (binOp .eql 62 (.pointer (some ⟨a, 0, none⟩)) (.pointer (some ⟨a, 0, none⟩))) w = .ok (.bool true) w := by
  have hi : (Try.prog.info? 64).isSome = true := by kernel_rfl
  obtain ⟨j, hj⟩ := Option.isSome_iff_exists.1 hi
  exact run_eql_ptr_same w _ Try.underlying62 hj
theorem eql_other {a b : Nat} {w : World} {ca cb : Array Value} {ta tb : TypeId} (hne : a ≠ b) (ha : w.heap[a]? = some (.cells ca ta (0, 0))) (hb : w.heap[b]? = some (.cells cb tb (0, 0))) :
    Sem.run Try.prog (binOp .eql 62 (.pointer (some ⟨a, 0, none⟩)) (.pointer (some ⟨b, 0, none⟩))) w = .ok (.bool false) w := by
  have hi : (Try.prog.info? 64).map (·.size) = some 7 := by kernel_rfl
  obtain ⟨j, hj, hs⟩ := Option.map_eq_some_iff.1 hi
  exact run_eql_ptr_other w (a := ⟨a, 0, none⟩) (b := ⟨b, 0, none⟩) Try.underlying62 hj (by rw [hs]; decide) (by intro e; exact hne (congrArg Addr.block e)) ha hb
end Go.Proofs.Ytfhjdhhflpekiaa.G
