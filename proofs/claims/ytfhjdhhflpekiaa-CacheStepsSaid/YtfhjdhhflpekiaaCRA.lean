/- Texts of the cache, put together: CRef, CTurn, CRefP, CRVic, CRHit, CRBad, CRPlain. -/
import Derived.Test.YtfhjdhhflpekiaaCLaw
import Derived.Test.YtfhjdhhflpekiaaCWith
import Derived.Test.YtfhjdhhflpekiaaCPA
import Derived.Test.YtfhjdhhflpekiaaGx21
import Derived.Test.YtfhjdhhflpekiaaCVic
namespace Go.Proofs.Ytfhjdhhflpekiaa.G
open Go.RowKit Go.Proofs.Cache Go.Proofs.YtfhjdhhflpekiaaW.PrintWords Go.Proofs.YtfhjdhhflpekiaaW.PrintLast Go.Proofs.YtfhjdhhflpekiaaW.PrintMore
set_option linter.unusedVariables false
set_option linter.unusedSimpArgs false
/-- What the document's cache holds. -/
structure RD where
  room : Int
  picks : List Int
  K : List Int
  A : List Int
  now : Int
  tb : Int
  td : Int
  tp : Int
  tm : Int
/-- Where it lies. -/
structure Rf where
  g : Nat
  pA : Option Addr
  pc : Nat
  sA : Option Addr
  sc : Nat
  kv : Value
  av : Value
def Rf.cs (r : Rf) (sizes : List Int) (d : RD) : Array Value := #[.int .i64 d.room, .slice r.pA d.picks.length r.pc, .slice r.sA sizes.length r.sc, r.kv, r.av, .int .i64 d.now, .int .i64 d.tb, .int .i64 d.td, .int .i64 d.tp, .int .i64 d.tm]
/-- A slice whose block is none of the ref's own. -/
def Away (r : Rf) (A : Option Addr) (n : Nat) : Prop := 0 < n → ∀ a, A = some a → r.kv.ownBlock ≠ some a.block ∧ r.av.ownBlock ≠ some a.block ∧ a.block ≠ r.g
structure RefS (b : Nat) (sizes : List Int) (w : World) (r : Rf) (d : RD) : Prop where
  cells : w.heap[r.g]? = some (.cells (r.cs sizes d) 34 (0, 0))
  lo : b ≤ r.g
  picks : Kd.C (Kd.int .i64) w r.pA d.picks.length d.picks
  pc : d.picks.length ≤ r.pc
  szs : Kd.C (Kd.int .i64) w r.sA sizes.length sizes
  sc : sizes.length ≤ r.sc
  kv : w.ownsRow b 3 1 r.kv d.K.length (nums .i64 d.K)
  av : w.ownsRow b 3 1 r.av d.A.length (nums .i64 d.A)
  ne : ∀ k, r.kv.ownBlock = some k → r.av.ownBlock ≠ some k
  pk : Away r r.pA d.picks.length
  sk : Away r r.sA sizes.length
/-- What a call on it leaves. -/
structure RefL (b : Nat) (w : World) (r : Rf) (w' : World) (r' : Rf) : Prop where
  g : r'.g = r.g
  below : Below b w w'
  keep : ∀ k, k < w.heap.size → k ≠ r.g → r.kv.ownBlock ≠ some k → r.av.ownBlock ≠ some k → w'.heap[k]? = w.heap[k]?
  kvo : ∀ k, r'.kv.ownBlock = some k → r.kv.ownBlock = some k ∨ w.heap.size ≤ k
  avo : ∀ k, r'.av.ownBlock = some k → r.av.ownBlock = some k ∨ w.heap.size ≤ k
  sA : r'.sA = r.sA
  pA : ∀ a, r'.pA = some a → ∃ a0, r.pA = some a0 ∧ a.block = a0.block
section
variable {b : Nat} {sizes : List Int} {w w1 w2 : World} {r r1 r2 : Rf} {d d1 : RD}
theorem RefL.refl : RefL b w r w r := ⟨rfl, Below.refl _ _, fun _ _ _ _ _ => rfl, fun _ h => .inl h, fun _ h => .inl h, rfl, fun a h => ⟨a, h, rfl⟩⟩
theorem RefL.trans (h : RefL b w r w1 r1) (k : RefL b w1 r1 w2 r2) : RefL b w r w2 r2 where
  g := k.g.trans h.g
  below := h.below.trans k.below
  keep := fun i hi h1 h2 h3 => (k.keep i (Nat.lt_of_lt_of_le hi h.below.size) (by rw [h.g]; exact h1) (fun q => by
    rcases h.kvo i q with x | x
    · exact h2 x
    · omega) (fun q => by
    rcases h.avo i q with x | x
    · exact h3 x
    · omega)).trans (h.keep i hi h1 h2 h3)
  kvo := fun i q => by
    rcases k.kvo i q with x | x
    · exact h.kvo i x
    · exact .inr (Nat.le_trans h.below.size x)
  avo := fun i q => by
    rcases k.avo i q with x | x
    · exact h.avo i x
    · exact .inr (Nat.le_trans h.below.size x)
  sA := k.sA.trans h.sA
  pA := fun a q => by
    obtain ⟨a1, e1, f1⟩ := k.pA a q
    obtain ⟨a0, e0, f0⟩ := h.pA a1 e1
    exact ⟨a0, e0, f1.trans f0⟩
theorem RefL.of_below (h : Below w.heap.size w w1) (hb : b ≤ w.heap.size) : RefL b w r w1 r := ⟨rfl, h.mono hb, fun k hk _ _ _ => h.block k hk, fun _ h => .inl h, fun _ h => .inl h, rfl, fun a h => ⟨a, h, rfl⟩⟩
/-- Cells of a slice stay while its block does. -/
theorem kdC_keep {A : Option Addr} {l : List Int} (h : Kd.C (Kd.int .i64) w A l.length l) (hk : 0 < l.length → ∀ a, A = some a → w1.heap[a.block]? = w.heap[a.block]?) : Kd.C (Kd.int .i64) w1 A l.length l := by
  refine ⟨h.1, h.2.1, fun hn => ?_⟩
  obtain ⟨ad, e, hc⟩ := h.2.2 hn
  refine ⟨ad, e, fun j p hj => ?_⟩
  obtain ⟨c, hs, hr, hcell⟩ := hc j p hj
  exact ⟨c, hs, hr, fun i u hu => (World.cell?_of_block (a := ad.add _) (by rw [addB]; exact hk hn ad e)).trans (hcell i u hu)⟩
theorem RefS.lt (h : RefS b sizes w r d) : r.g < w.heap.size := blk_lt h.cells
theorem RefS.kv_ne (h : RefS b sizes w r d) : r.kv.ownBlock ≠ some r.g := fun q => by
  obtain ⟨cs, hc⟩ := own_typed h.kv _ q
  have := blk_ty hc h.cells
  revert this
  decide
theorem RefS.av_ne (h : RefS b sizes w r d) : r.av.ownBlock ≠ some r.g := fun q => by
  obtain ⟨cs, hc⟩ := own_typed h.av _ q
  have := blk_ty hc h.cells
  revert this
  decide
/-- All that it rests on stays. -/
theorem RefS.move (h : RefS b sizes w r d) (hg : w1.heap[r.g]? = w.heap[r.g]?) (hk : ∀ k, r.kv.ownBlock = some k → w1.heap[k]? = w.heap[k]?) (ha : ∀ k, r.av.ownBlock = some k → w1.heap[k]? = w.heap[k]?)
    (hp : 0 < d.picks.length → ∀ a, r.pA = some a → w1.heap[a.block]? = w.heap[a.block]?) (hs : 0 < sizes.length → ∀ a, r.sA = some a → w1.heap[a.block]? = w.heap[a.block]?) : RefS b sizes w1 r d :=
  ⟨hg.trans h.cells, h.lo, kdC_keep h.picks hp, h.pc, kdC_keep h.szs hs, h.sc, own_move h.kv hk, own_move h.av ha, h.ne, h.pk, h.sk⟩
theorem kdC_in {A : Option Addr} {l : List Int} (h : Kd.C (Kd.int .i64) w A l.length l) (hn : 0 < l.length) {a : Addr} (e : A = some a) : a.block < w.heap.size := by
  subst e
  exact Kd.C_lt h hn (by decide)
theorem RefS.below (h : RefS b sizes w r d) (hb : Below w.heap.size w w1) : RefS b sizes w1 r d :=
  h.move (hb.block _ h.lt) (fun k hk => by obtain ⟨cs, hc⟩ := own_typed h.kv k hk; exact hb.block k (blk_lt hc)) (fun k hk => by obtain ⟨cs, hc⟩ := own_typed h.av k hk; exact hb.block k (blk_lt hc)) (fun hn a e => hb.block _ (kdC_in h.picks hn e)) (fun hn a e => hb.block _ (kdC_in h.szs hn e))
theorem RefS.drewN (h : RefS b sizes w r d) (n : Nat) : RefS b sizes (w.drewN n) r d := h.below (pw_below_drewN (Below.refl _ _) n)
/-- A store into one of its own cells. -/
theorem RefS.put (h : RefS b sizes w r d) (i : Nat) (v : Value) (r1 : Rf) (d1 : RD) (hg : r1.g = r.g) (hcs : (r.cs sizes d).setIfInBounds i v = r1.cs sizes d1) (hk : r1.kv = r.kv) (ha : r1.av = r.av) (hK : d1.K = d.K) (hA : d1.A = d.A) (hsA : r1.sA = r.sA) (hsc : r1.sc = r.sc)
    (hp : Kd.C (Kd.int .i64) w r1.pA d1.picks.length d1.picks) (hpc : d1.picks.length ≤ r1.pc) (hpk : Away r1 r1.pA d1.picks.length) : RefS b sizes (w.setCell ⟨r.g, i, none⟩ v) r1 d1 := by
  have far : ∀ k, k ≠ r.g → (w.setCell ⟨r.g, i, none⟩ v).heap[k]? = w.heap[k]? := fun k hk => Below.heap_setCell _ _ _ _ hk
  refine ⟨?_, by rw [hg]; exact h.lo, kdC_keep hp fun hn a e => far _ (by rw [← hg]; exact (hpk hn a e).2.2), hpc, ?_, by rw [hsc]; exact h.sc, ?_, ?_, ?_, hpk, ?_⟩
  · rw [hg]
    exact blk_put h.cells i v hcs
  · rw [hsA]
    exact kdC_keep h.szs fun hn a e => far _ (h.sk hn a e).2.2
  · rw [hk, hK]
    exact own_move h.kv fun k q => far k (by rintro rfl; exact h.kv_ne q)
  · rw [ha, hA]
    exact own_move h.av fun k q => far k (by rintro rfl; exact h.av_ne q)
  · rw [hk, ha]
    exact h.ne
  · rw [hsA]
    intro hn a e
    rw [hk, ha, hg]
    exact h.sk hn a e
theorem RefS.put_left (h : RefS b sizes w r d) (i : Nat) (v : Value) (r1 : Rf) (hg : r1.g = r.g) (hk : r1.kv = r.kv) (ha : r1.av = r.av) (hsA : r1.sA = r.sA) (hpA : ∀ a, r1.pA = some a → ∃ a0, r.pA = some a0 ∧ a.block = a0.block) : RefL b w r (w.setCell ⟨r.g, i, none⟩ v) r1 :=
  ⟨hg, (Below.refl _ _).setCell h.lo _, fun k _ h1 _ _ => Below.heap_setCell _ _ _ _ h1, fun k q => .inl (by rw [← hk]; exact q), fun k q => .inl (by rw [← ha]; exact q), hsA, hpA⟩
/-- The row of numbers is another; its cell is written. -/
theorem RefS.newK (h : RefS b sizes w r d) (hb : Below b w w1) (hk : ∀ k, k < w.heap.size → r.kv.ownBlock ≠ some k → w1.heap[k]? = w.heap[k]?) {v : Value} {L : List Int} (ho : w1.ownsRow b 3 1 v L.length (nums .i64 L)) (hv : ∀ k, v.ownBlock = some k → r.kv.ownBlock = some k ∨ w.heap.size ≤ k) :
    RefS b sizes (w1.setCell ⟨r.g, 3, none⟩ v) { r with kv := v } { d with K := L } ∧ RefL b w r (w1.setCell ⟨r.g, 3, none⟩ v) { r with kv := v } := by
  have hg : w1.heap[r.g]? = some (.cells (r.cs sizes d) 34 (0, 0)) := (hk _ h.lt h.kv_ne).trans h.cells
  have far : ∀ k, k ≠ r.g → (w1.setCell ⟨r.g, 3, none⟩ v).heap[k]? = w1.heap[k]? := fun k hk => Below.heap_setCell _ _ _ _ hk
  have vg : v.ownBlock ≠ some r.g := fun q => by
    obtain ⟨cs, hc⟩ := own_typed ho _ q
    have := blk_ty hc hg
    revert this
    decide
  have aw : ∀ {A : Option Addr} {l : List Int}, Kd.C (Kd.int .i64) w A l.length l → Away r A l.length → Away { r with kv := v } A l.length ∧ Kd.C (Kd.int .i64) (w1.setCell ⟨r.g, 3, none⟩ v) A l.length l := fun {A l} hC hA => by
    refine ⟨fun hn a e => ⟨fun q => ?_, (hA hn a e).2.1, (hA hn a e).2.2⟩, kdC_keep hC fun hn a e => (far _ (hA hn a e).2.2).trans (hk _ (kdC_in hC hn e) (hA hn a e).1)⟩
    have := kdC_in hC hn e
    rcases hv _ q with x | x
    · exact (hA hn a e).1 x
    · omega
  have al : ∀ k, r.av.ownBlock = some k → k < w.heap.size := fun k hk => by obtain ⟨cs, hc⟩ := own_typed h.av k hk; exact blk_lt hc
  refine ⟨⟨blk_put hg 3 v (by simp [Rf.cs]), h.lo, (aw h.picks h.pk).2, h.pc, (aw h.szs h.sk).2, h.sc, own_move ho fun k q => far k (by rintro rfl; exact vg q), ?_, ?_, (aw h.picks h.pk).1, (aw h.szs h.sk).1⟩, rfl, hb.setCell h.lo _, ?_, hv, fun k q => .inl q, rfl, fun a q => ⟨a, q, rfl⟩⟩
  · exact own_move h.av fun k q => (far k (by rintro rfl; exact h.av_ne q)).trans (hk k (al k q) (fun x => h.ne k x q))
  · intro k q x
    rcases hv k q with y | y
    · exact h.ne k y x
    · have := al k x
      omega
  · intro k hlt h1 h2 h3
    exact (far k h1).trans (hk k hlt h2)
theorem RefS.newA (h : RefS b sizes w r d) (hb : Below b w w1) (hk : ∀ k, k < w.heap.size → r.av.ownBlock ≠ some k → w1.heap[k]? = w.heap[k]?) {v : Value} {L : List Int} (ho : w1.ownsRow b 3 1 v L.length (nums .i64 L)) (hv : ∀ k, v.ownBlock = some k → r.av.ownBlock = some k ∨ w.heap.size ≤ k) :
    RefS b sizes (w1.setCell ⟨r.g, 4, none⟩ v) { r with av := v } { d with A := L } ∧ RefL b w r (w1.setCell ⟨r.g, 4, none⟩ v) { r with av := v } := by
  have hg : w1.heap[r.g]? = some (.cells (r.cs sizes d) 34 (0, 0)) := (hk _ h.lt h.av_ne).trans h.cells
  have far : ∀ k, k ≠ r.g → (w1.setCell ⟨r.g, 4, none⟩ v).heap[k]? = w1.heap[k]? := fun k hk => Below.heap_setCell _ _ _ _ hk
  have vg : v.ownBlock ≠ some r.g := fun q => by
    obtain ⟨cs, hc⟩ := own_typed ho _ q
    have := blk_ty hc hg
    revert this
    decide
  have aw : ∀ {A : Option Addr} {l : List Int}, Kd.C (Kd.int .i64) w A l.length l → Away r A l.length → Away { r with av := v } A l.length ∧ Kd.C (Kd.int .i64) (w1.setCell ⟨r.g, 4, none⟩ v) A l.length l := fun {A l} hC hA => by
    refine ⟨fun hn a e => ⟨(hA hn a e).1, fun q => ?_, (hA hn a e).2.2⟩, kdC_keep hC fun hn a e => (far _ (hA hn a e).2.2).trans (hk _ (kdC_in hC hn e) (hA hn a e).2.1)⟩
    have := kdC_in hC hn e
    rcases hv _ q with x | x
    · exact (hA hn a e).2.1 x
    · omega
  have al : ∀ k, r.kv.ownBlock = some k → k < w.heap.size := fun k hk => by obtain ⟨cs, hc⟩ := own_typed h.kv k hk; exact blk_lt hc
  refine ⟨⟨blk_put hg 4 v (by simp [Rf.cs]), h.lo, (aw h.picks h.pk).2, h.pc, (aw h.szs h.sk).2, h.sc, ?_, own_move ho fun k q => far k (by rintro rfl; exact vg q), ?_, (aw h.picks h.pk).1, (aw h.szs h.sk).1⟩, rfl, hb.setCell h.lo _, ?_, fun k q => .inl q, hv, rfl, fun a q => ⟨a, q, rfl⟩⟩
  · exact own_move h.kv fun k q => (far k (by rintro rfl; exact h.kv_ne q)).trans (hk k (al k q) (fun x => h.ne k q x))
  · intro k q x
    rcases hv k x with y | y
    · exact h.ne k q y
    · have := al k q
      omega
  · intro k hlt h1 h2 h3
    exact (far k h1).trans (hk k hlt h3)
/-- A row of whole numbers, open. -/
theorem row_open {v : Value} {l : List Int} (h : w.ownsRow b 3 1 v l.length (nums .i64 l)) : ∃ A c, v = .slice A l.length c ∧ l.length ≤ c ∧ Kd.C (Kd.int .i64) w A l.length l ∧ (0 < l.length → ∃ g, A = some ⟨g, 0, none⟩) := by
  obtain ⟨A, c, e, hc, hC⟩ := Kd.R_reads (Kd.R_of_own (h1 := fun _ => rfl) (ok := fun _ => True) h (fun _ _ => trivial))
  refine ⟨A, c, e, hc, hC, fun hn => ?_⟩
  rcases h.2 with ⟨rfl, h0⟩ | ⟨g, cap, cur, rfl, hg, hh, h1, h2, h3, h4⟩
  · omega
  · cases e
    exact ⟨g, rfl⟩
/-- When a number was asked is written. -/
theorem RefS.ask (h : RefS b sizes w r d) {ab c : Nat} (e : r.av = .slice (some ⟨ab, 0, none⟩) d.A.length c) (j : Nat) (x : Int) : RefS b sizes (w.setCell ⟨ab, j, none⟩ (.int .i64 x)) r { d with A := d.A.set j x } ∧ RefL b w r (w.setCell ⟨ab, j, none⟩ (.int .i64 x)) r := by
  have ho : r.av.ownBlock = some ab := by rw [e]; rfl
  have far : ∀ k, k ≠ ab → (w.setCell ⟨ab, j, none⟩ (.int .i64 x)).heap[k]? = w.heap[k]? := fun k hk => Below.heap_setCell _ _ _ _ hk
  have hl : b ≤ ab := own_base h.av _ ho
  have hgn : r.g ≠ ab := fun q => h.av_ne (by rw [q]; exact ho)
  have hR := Kd.R_of_own (h1 := fun _ => rfl) (ok := fun _ => True) h.av (fun _ _ => trivial)
  rw [e] at hR
  have hP := (Kd.R_put hR (j : Int) x).1
  rw [Int.toNat_natCast] at hP
  have hO := Kd.own_of_R hP
  refine ⟨⟨(far _ hgn).trans h.cells |>.trans (by simp [Rf.cs]), h.lo, kdC_keep h.picks fun hn a q => far _ (fun z => (h.pk hn a q).2.1 (by rw [z]; exact ho)), h.pc, kdC_keep h.szs fun hn a q => far _ (fun z => (h.sk hn a q).2.1 (by rw [z]; exact ho)), h.sc, own_move h.kv fun k q => far k (by rintro rfl; exact h.ne _ q ho), ?_, h.ne, h.pk, h.sk⟩, rfl, (Below.refl _ _).setCell hl _, fun k _ _ _ h3 => far k (by rintro rfl; exact h3 ho), fun _ q => .inl q, fun _ q => .inl q, rfl, fun a q => ⟨a, q, rfl⟩⟩
  rw [e]
  have hlen : (d.A.set j x).length = d.A.length := List.length_set
  show World.ownsRow _ b 3 1 _ (d.A.set j x).length _
  rw [hlen] at hO ⊢
  exact hO
end
end Go.Proofs.Ytfhjdhhflpekiaa.G

namespace Go.Proofs.Ytfhjdhhflpekiaa.G
open Go.RowKit Go.Proofs.Cache Go.Proofs.YtfhjdhhflpekiaaW.PrintWords Go.Proofs.YtfhjdhhflpekiaaW.PrintLast Go.Proofs.YtfhjdhhflpekiaaW.PrintMore
set_option linter.unusedVariables false
set_option linter.unusedSimpArgs false
structure Turn (B B' : Bd) (w w1 : World) : Prop where
  still : Still B w w1
  n : B'.n = B.n
  N : ∀ k, B'.N k → B.N k ∨ w.heap.size ≤ k
  lt : ∀ k, B'.N k → k < w1.heap.size
section
variable {B B' : Bd} {sizes : List Int} {w w1 : World} {s : Cs}
theorem SafeB.turn {k : Nat} (h : SafeB B w k) (m : Turn B B' w w1) : SafeB B' w1 k := by
  refine ⟨Nat.lt_of_lt_of_le h.1 m.still.size, ?_⟩
  rcases h.2 with x | ⟨cs, t, fr, hb, h1, h2⟩
  · exact .inl (by rw [m.n]; exact x)
  · refine .inr ⟨cs, t, fr, (m.still.same k h).trans hb, h1, fun ht hN => ?_⟩
    rcases m.N k hN with y | y
    · exact h2 ht y
    · have := h.1
      omega
theorem Rd.turn {α : Type} {d : Kd α} {A : Option Addr} {xs : List α} (h : Rd d B w A xs) (m : Turn B B' w w1) (hK : ∀ x c, d.K w x c → d.K w1 x c) : Rd d B' w1 A xs :=
  ⟨(h.move m.still hK).1, fun hn a e => (h.2 hn a e).turn m⟩
theorem MshAt.turn {x : Msh} (h : MshAt B w x) (m : Turn B B' w w1) : MshAt B' w1 x :=
  ⟨h.v.turn m fun _ _ h => h, h.vc, h.t.turn m fun _ _ h => h, h.tc, h.it.turn m fun _ _ h => h, h.ic⟩
theorem MadeAt.turn {mb : Nat} (h : MadeAt B sizes w mb) (m : Turn B B' w w1) : MadeAt B' sizes w1 mb := by
  obtain ⟨A, c, hb, hc, hr⟩ := (h.move m.still).made
  obtain ⟨A0, c0, hb0, hc0, hr0⟩ := h.made
  have e := (m.still.same mb ⟨blk_lt hb0, .inr ⟨_, _, _, hb0, by decide, fun q => absurd q (by decide)⟩⟩).trans hb0
  exact ⟨A0, c0, e, hc0, hr0.turn m fun _ _ h => h⟩
theorem CacheAt.turn (h : CacheAt B sizes w s) (m : Turn B B' w w1) (hm : ∀ k, Mut s k → w1.heap[k]? = w.heap[k]?) : CacheAt B' sizes w1 s where
  cells := (hm _ (.inl rfl)).trans h.cells
  lo := by rw [m.n]; exact h.lo
  made := h.made.turn m
  picks := h.picks.turn m fun _ _ h => h
  pc := h.pc
  kv := by rw [m.n]; exact own_move h.kv fun k hk => hm k (.inr (.inl hk))
  kept := h.kept
  ents := fun e he => ⟨(hm _ (.inr (.inr ⟨e, he, rfl⟩))).trans (h.ents e he).cells, by rw [m.n]; exact (h.ents e he).lo, (h.ents e he).mesh.turn m⟩
  nodup := h.nodup
  nlt := m.lt
/-- The rows of the document's cache. -/
def NR (r : Rf) (k : Nat) : Prop := r.kv.ownBlock = some k ∨ r.av.ownBlock = some k
theorem turn_ref {b : Nat} {d d' : RD} {r r' : Rf} (h : RefS b sizes w r d) (h' : RefS b sizes w1 r' d') (l : RefL b w r w1 r') : Turn ⟨b, NR r⟩ ⟨b, NR r'⟩ w w1 where
  still := ⟨l.below.size, fun k hk => by
    refine l.keep k hk.1 ?_ ?_ ?_
    · rintro rfl
      exact hk.no h.cells rfl h.lo
    · intro q
      obtain ⟨cs, hc⟩ := own_typed h.kv k q
      rcases hk.2 with x | ⟨cs', t, fr, hb, _, h3⟩
      · have hbk := own_base h.kv k q
        have : k < b := x
        omega
      · exact h3 (blk_ty hb hc) (.inl q)
    · intro q
      obtain ⟨cs, hc⟩ := own_typed h.av k q
      rcases hk.2 with x | ⟨cs', t, fr, hb, _, h3⟩
      · have hbk := own_base h.av k q
        have : k < b := x
        omega
      · exact h3 (blk_ty hb hc) (.inr q)⟩
  n := rfl
  N := fun k hk => by
    rcases hk with x | x
    · exact (l.kvo k x).imp .inl id
    · exact (l.avo k x).imp .inr id
  lt := fun k hk => by
    rcases hk with x | x
    · obtain ⟨cs, hc⟩ := own_typed h'.kv k x
      exact blk_lt hc
    · obtain ⟨cs, hc⟩ := own_typed h'.av k x
      exact blk_lt hc
/-- A cache's own blocks are none of the document's. -/
theorem CacheAt.ref (h : CacheAt B sizes w s) {b : Nat} {szs : List Int} {d : RD} {r : Rf} (hr : RefS b szs w r d) {k : Nat} (hk : Mut s k) : k ≠ r.g ∧ r.kv.ownBlock ≠ some k ∧ r.av.ownBlock ≠ some k := by
  have ty : ∃ cs t, w.heap[k]? = some (.cells cs t (0, 0)) ∧ (t = 61 ∨ t = 62 ∨ t = 64) := by
    rcases hk with rfl | hk | ⟨e, he, rfl⟩
    · exact ⟨_, _, h.cells, .inl rfl⟩
    · obtain ⟨cs, hc⟩ := h.kvTyped hk
      exact ⟨_, _, hc, .inr (.inl rfl)⟩
    · exact ⟨_, _, (h.ents e he).cells, .inr (.inr rfl)⟩
  obtain ⟨cs, t, hb, ht⟩ := ty
  have no : ∀ {cs' : Array Value} {t' : TypeId}, w.heap[k]? = some (.cells cs' t' (0, 0)) → t' = 34 ∨ t' = 3 → False := fun hc q => by
    have := blk_ty hb hc
    subst this
    rcases q with rfl | rfl <;> revert ht <;> decide
  refine ⟨?_, fun q => ?_, fun q => ?_⟩
  · rintro rfl
    exact no hr.cells (.inl rfl)
  · obtain ⟨cs', hc⟩ := own_typed hr.kv k q
    exact no hc (.inr rfl)
  · obtain ⟨cs', hc⟩ := own_typed hr.av k q
    exact no hc (.inr rfl)
/-- The document's cache stays while the cache is called. -/
theorem RefS.left {b : Nat} {szs : List Int} {d : RD} {r : Rf} {s1 : Cs} (hr : RefS b szs w r d) (h : CacheAt B sizes w s) (l : Left B sizes NoX w s w1 s1) (hp : Rd (Kd.int .i64) B w r.pA d.picks) (hs : Rd (Kd.int .i64) B w r.sA szs) : RefS b szs w1 r d := by
  have st := Left.still h l
  refine hr.move ?_ ?_ ?_ (fun hn a e => st.same _ (hp.2 hn a e)) (fun hn a e => st.same _ (hs.2 hn a e))
  · exact l.frame.keep _ hr.lt fun hm => (h.ref hr hm).1 rfl
  · intro k q
    obtain ⟨cs, hc⟩ := own_typed hr.kv k q
    exact l.frame.keep k (blk_lt hc) fun hm => (h.ref hr hm).2.1 q
  · intro k q
    obtain ⟨cs, hc⟩ := own_typed hr.av k q
    exact l.frame.keep k (blk_lt hc) fun hm => (h.ref hr hm).2.2 q
/-- What the document's cache reads stays safe while it is called itself. -/
theorem rd_ref {b : Nat} {szs : List Int} {d d' : RD} {r r' : Rf} (h : RefS b szs w r d) (h' : RefS b szs w1 r' d') (l : RefL b w r w1 r') (hl : d'.picks.length ≤ d.picks.length) (hp : Rd (Kd.int .i64) ⟨b, NR r⟩ w r.pA d.picks) (hs : Rd (Kd.int .i64) ⟨b, NR r⟩ w r.sA szs) :
    Rd (Kd.int .i64) ⟨b, NR r'⟩ w1 r'.pA d'.picks ∧ Rd (Kd.int .i64) ⟨b, NR r'⟩ w1 r'.sA szs := by
  have t := turn_ref h h' l
  refine ⟨⟨h'.picks, fun hn a e => ?_⟩, by rw [l.sA]; exact hs.turn t fun _ _ h => h⟩
  obtain ⟨a0, e0, hb⟩ := l.pA a e
  rw [hb]
  exact (hp.2 (by omega) a0 e0).turn t
end
end Go.Proofs.Ytfhjdhhflpekiaa.G

namespace Go.Proofs.Ytfhjdhhflpekiaa.G
open Go.RowKit Go.Proofs.Cache Go.Proofs.YtfhjdhhflpekiaaW.PrintWords Go.Proofs.YtfhjdhhflpekiaaW.PrintLast Go.Proofs.YtfhjdhhflpekiaaW.PrintMore
set_option linter.unusedVariables false
set_option linter.unusedSimpArgs false
/-- How many triangles these numbers have. -/
def sumS (sizes : List Int) (K : List Int) : Nat → Int
  | 0 => 0
  | j + 1 => sumS sizes K j + rd sizes (rd K j)
/-- Each is a number of a mesh, of no more than 1000. -/
def GoodK (sizes : List Int) (K : List Int) : Prop := ∀ x ∈ K, 0 ≤ x ∧ x < sizes.length ∧ 0 ≤ rd sizes x ∧ rd sizes x ≤ 1000
theorem rd_mem {K : List Int} {j : Nat} (h : j < K.length) : rd K (j : Int) ∈ K := by
  show K.getD (j : Int).toNat 0 ∈ K
  rw [Int.toNat_natCast, List.getD_eq_getElem?_getD, List.getElem?_eq_getElem h]
  exact List.getElem_mem _
theorem sumS_le {sizes K : List Int} (h : GoodK sizes K) : ∀ j, j ≤ K.length → 0 ≤ sumS sizes K j ∧ sumS sizes K j ≤ 1000 * j
  | 0, _ => by simp [sumS]
  | j + 1, hj => by
    have ih := sumS_le h j (by omega)
    have := h _ (rd_mem (show j < K.length by omega))
    rw [sumS]
    omega
theorem held_l0 (room : Int) (P S K A : List Int) (n1 n2 n3 n4 n5 : Int) (h : GoodK S K) (hl : K.length ≤ 1000000) : ∀ d j, j ≤ K.length → K.length - j = d →
    relievoref17_Cache_Held.l0 (d + 1) (sumS S K j) (j : Int) room P S K A n1 n2 n3 n4 n5 = some (sumS S K K.length)
  | 0, j, hj, hd => by
    rw [relievoref17_Cache_Held.l0, if_neg (by omega), show j = K.length by omega]
  | d + 1, j, hj, hd => by
    have hx := h _ (rd_mem (show j < K.length by omega))
    have hs := sumS_le h j hj
    have e1 : wrap64 ((j : Int) + 1) = ((j + 1 : Nat) : Int) := by unfold wrap64; omega
    have e2 : wrap64 (sumS S K j + rd S (rd K (j : Int))) = sumS S K (j + 1) := by rw [sumS]; unfold wrap64; omega
    rw [relievoref17_Cache_Held.l0, if_pos (by omega)]
    repeat rw [if_pos (by omega)]
    rw [e1, e2]
    exact held_l0 room P S K A n1 n2 n3 n4 n5 h hl d (j + 1) (by omega) (by omega)
theorem refHeld.calls {b : Nat} {sizes : List Int} {w : World} {r : Rf} {d : RD} (h : RefS b sizes w r d) (hK : GoodK sizes d.K) (hl : d.K.length ≤ 1000000) :
    Calls Try.prog 19 #[.agg (r.cs sizes d)] w fun e w' => e = .returned (.int .i64 (sumS sizes d.K d.K.length)) ∧ Below w.heap.size w w' := by
  obtain ⟨A1, c1, e1, hc1, hC1, _⟩ := row_open h.kv
  obtain ⟨A2, c2, e2, hc2, hC2, _⟩ := row_open h.av
  unfold Rf.cs
  rw [e1, e2]
  exact relievoref17_Cache_Held.calls (d.K.length + 1) d.room r.pA r.pc d.picks r.sA r.sc sizes A1 c1 d.K A2 c2 d.A d.now d.tb d.td d.tp d.tm _ w h.picks h.pc h.szs h.sc hC1 hc1 hC2 hc2 (held_l0 _ _ _ _ _ _ _ _ _ _ hK hl _ 0 (by omega) (by omega))
end Go.Proofs.Ytfhjdhhflpekiaa.G

namespace Go.Proofs.Ytfhjdhhflpekiaa.G
open Go.RowKit Go.Proofs.Cache Go.Proofs.YtfhjdhhflpekiaaW.PrintWords Go.Proofs.YtfhjdhhflpekiaaW.PrintLast Go.Proofs.YtfhjdhhflpekiaaW.PrintMore
set_option linter.unusedVariables false
set_option linter.unusedSimpArgs false
def victimR (d : RD) : Nat := match d.picks with
  | [] => minAt d.A d.K.length
  | x :: _ => (x % (d.K.length : Int)).toNat
def VicR (b : Nat) (sizes : List Int) (w : World) (r : Rf) (d : RD) (vk : Nat) (pk : List Int) (e : Ending) (w' : World) : Prop :=
  e = .returned (.int .i64 vk) ∧ ∃ r', RefS b sizes w' r' { d with picks := pk } ∧ RefL b w r w' r'
section
variable {b : Nat} {sizes : List Int} {w w1 : World} {r : Rf} {d : RD}
theorem RefS.size_le (h : RefS b sizes w r d) : b ≤ w.heap.size := Nat.le_trans h.lo (Nat.le_of_lt h.lt)
theorem RefS.next (h : RefS b sizes w r d) {x : Int} {t : List Int} (hp : d.picks = x :: t) {ad : Addr} (hA : r.pA = some ad) :
    Kd.C (Kd.int .i64) w (if r.pc = 1 then some ad else some ⟨ad.block, ad.off + 1, none⟩) t.length t := by
  have hC := Kd.C_drop h.picks (m := 1) (c := r.pc) (by rw [hp]; simp) h.pc
  have e : (if r.pc = 1 then r.pA else r.pA.map (·.add (1 * (Kd.int .i64).sz))) = if r.pc = 1 then some ad else some ⟨ad.block, ad.off + 1, none⟩ := by
    rw [hA]
    show (if r.pc = 1 then some ad else some (ad.add (1 * 1))) = _
    simp [Addr.add]
  rw [e, hp] at hC
  exact hC
theorem RefS.picked (h : RefS b sizes w r d) {x : Int} {t : List Int} (hp : d.picks = x :: t) {ad : Addr} (hA : r.pA = some ad) (A : Option Addr) (c : Nat) (hC : Kd.C (Kd.int .i64) w A t.length t) (hc : t.length ≤ c) (hb : ∀ a, A = some a → a.block = ad.block) (n : Nat) :
    RefS b sizes ((w.drewN n).setCell ⟨r.g, 1, none⟩ (.slice A t.length c)) { r with pA := A, pc := c } { d with picks := t } ∧ RefL b w r ((w.drewN n).setCell ⟨r.g, 1, none⟩ (.slice A t.length c)) { r with pA := A, pc := c } := by
  have hd := h.drewN n
  have hlen : d.picks.length = t.length + 1 := by rw [hp]; rfl
  constructor
  · refine hd.put 1 _ _ _ rfl (by simp [Rf.cs]) rfl rfl rfl rfl rfl rfl (Kd.C_drewN hC n) hc fun hn a e => ?_
    have := h.pk (by omega) ad hA
    rw [hb a e]
    exact this
  · refine (RefL.of_below (pw_below_drewN (Below.refl _ _) n) h.size_le).trans (hd.put_left 1 _ _ rfl rfl rfl rfl fun a e => ⟨ad, hA, hb a e⟩)
end
set_option maxHeartbeats 1000000 in
set_option maxRecDepth 100000 in
theorem rvicA.calls {b : Nat} {sizes : List Int} {w : World} {r : Rf} {d : RD} {x : Int} {t : List Int} (h : RefS b sizes w r d) (hp : d.picks = x :: t) (h0 : 0 < d.K.length) (hl : d.K.length ≤ 1000000) :
    Calls Try.prog 24 #[.pointer (some ⟨r.g, 0, none⟩)] w (VicR b sizes w r d (victimR d) t) := by
  obtain ⟨A, c, ek, hc, hC, _⟩ := row_open h.kv
  have c3 : w.cell? ⟨r.g, 3, none⟩ = some (.slice A d.K.length c) := by rw [← ek]; exact (blk_cell h.cells 3).trans rfl
  have c1 : w.cell? ⟨r.g, 1, none⟩ = some (.slice r.pA (t.length + 1) r.pc) := by
    refine (blk_cell h.cells 1).trans ?_
    show some (Value.slice r.pA d.picks.length r.pc) = _
    rw [hp]
    rfl
  have hpc : t.length + 1 ≤ r.pc := by have := h.pc; rw [hp] at this; exact this
  obtain ⟨ad, hA, hx⟩ : ∃ ad, r.pA = some ad ∧ w.cell? ad = some (.int .i64 x) := by
    obtain ⟨ad, e, hcell⟩ := Kd.at_int h.picks 0 (Int.le_refl _) (by rw [hp]; simp)
    refine ⟨ad, e, ?_⟩
    rw [hp] at hcell
    simpa [rd, Addr.add] using hcell
  rw [hA] at c1
  have hvk : victimR d = (x % (d.K.length : Int)).toNat := by unfold victimR; rw [hp]
  have f1 := blk_frozen h.cells 1
  have hn := h.next hp hA
  have hv0 := Int.emod_nonneg x (show (d.K.length : Int) ≠ 0 by omega)
  have hv1 := Int.emod_lt_of_pos x (show 0 < (d.K.length : Int) by omega)
  have V : Aside0 (∀ (A : Option Addr) (c n : Nat) (i : Int), Kd.C (Kd.int .i64) w A t.length t → t.length ≤ c → (∀ a, A = some a → a.block = ad.block) → i = x % (d.K.length : Int) → VicR b sizes w r d (victimR d) t (.returned (.int .i64 i)) ((w.drewN n).setCell ⟨r.g, 1, none⟩ (.slice A t.length c))) := ⟨fun A c n i h1 h2 h3 h4 =>
    ⟨by rw [hvk, h4]; congr 2; omega, { r with pA := A, pc := c }, h.picked hp hA A c h1 h2 h3 n⟩⟩
  generalize victimR d = vk at V ⊢
  have e2 := Aside0.mk (And.intro hv0 hv1)
  by_cases sg : x.tmod (d.K.length : Int) < 0
  · have e1 := Aside0.mk (emod_no (x := x) (n := (d.K.length : Int)) (by omega) sg)
    have d1 : decide (x.tmod (d.K.length : Int) < 0) = true := decide_eq_true sg
    by_cases cc : r.pc = 1
    · rw [if_pos cc] at hn
      have N := Aside0.mk hn
      have PC := Aside0.mk hpc
      clear hpc hvk ek hp hA h hn hv0 hv1 sg hC
      generalize r.pc = q at *
      subst cc
      have hn0 : ¬ ((d.K.length : Int) = 0) := by omega
      go_enter Try.func24, Try.ntmps24
      go_wp2
      go_quiet (fail)
      go_wp2
      go_ret
      exact V.out _ _ _ _ N.out (by have := PC.out; omega) (fun a e => by cases e; rfl) (by have h1 := e1.out; have h2 := e2.out; unfold wrap64; omega)
    · rw [if_neg cc] at hn
      have N := Aside0.mk hn
      have PC := Aside0.mk hpc
      clear hpc hvk ek hp hA h hn hv0 hv1 sg hC
      generalize r.pc = q at *
      have cb : ¬ (q = 1) := cc
      have hn0 : ¬ ((d.K.length : Int) = 0) := by omega
      go_enter Try.func24, Try.ntmps24
      go_wp2
      go_quiet (fail)
      go_wp2
      go_ret
      exact V.out _ _ _ _ N.out (by have := PC.out; omega) (fun a e => by cases e; rfl) (by have h1 := e1.out; have h2 := e2.out; unfold wrap64; omega)
  · have e1 := Aside0.mk (emod_yes (x := x) (n := (d.K.length : Int)) (by omega) sg)
    have d1 : decide (x.tmod (d.K.length : Int) < 0) = false := decide_eq_false sg
    by_cases cc : r.pc = 1
    · rw [if_pos cc] at hn
      have N := Aside0.mk hn
      have PC := Aside0.mk hpc
      clear hpc hvk ek hp hA h hn hv0 hv1 sg hC
      generalize r.pc = q at *
      subst cc
      have hn0 : ¬ ((d.K.length : Int) = 0) := by omega
      go_enter Try.func24, Try.ntmps24
      go_wp2
      go_quiet (fail)
      go_wp2
      go_ret
      exact V.out _ _ _ _ N.out (by have := PC.out; omega) (fun a e => by cases e; rfl) e1.out
    · rw [if_neg cc] at hn
      have N := Aside0.mk hn
      have PC := Aside0.mk hpc
      clear hpc hvk ek hp hA h hn hv0 hv1 sg hC
      generalize r.pc = q at *
      have cb : ¬ (q = 1) := cc
      have hn0 : ¬ ((d.K.length : Int) = 0) := by omega
      go_enter Try.func24, Try.ntmps24
      go_wp2
      go_quiet (fail)
      go_wp2
      go_ret
      exact V.out _ _ _ _ N.out (by have := PC.out; omega) (fun a e => by cases e; rfl) e1.out
theorem rd_nat (l : List Int) (j : Nat) : rd l (j : Int) = l.getD j 0 := by
  show l.getD (j : Int).toNat 0 = _
  rw [Int.toNat_natCast]
theorem minAt_le (l : List Int) : ∀ j, minAt l j ≤ j
  | 0 => Nat.le_refl _
  | j + 1 => by
    have := minAt_le l j
    rw [minAt]
    split <;> omega
set_option maxHeartbeats 2000000 in
set_option maxRecDepth 100000 in
theorem rvicB.calls {b : Nat} {sizes : List Int} {w : World} {r : Rf} {d : RD} (h : RefS b sizes w r d) (hp : d.picks = []) (hKA : d.K.length = d.A.length) (h0 : 0 < d.K.length) (hl : d.K.length ≤ 1000000) :
    Calls Try.prog 24 #[.pointer (some ⟨r.g, 0, none⟩)] w (VicR b sizes w r d (victimR d) []) := by
  obtain ⟨A, c, ek, hc, hC, _⟩ := row_open h.kv
  obtain ⟨A4, c4, ea, hc4, hC4, _⟩ := row_open h.av
  have hc3 : w.cell? ⟨r.g, 3, none⟩ = some (.slice A d.K.length c) := by rw [← ek]; exact (blk_cell h.cells 3).trans rfl
  have hcell4 : w.cell? ⟨r.g, 4, none⟩ = some (.slice A4 d.K.length c4) := by rw [hKA, ← ea]; exact (blk_cell h.cells 4).trans rfl
  have hc1 : w.cell? ⟨r.g, 1, none⟩ = some (.slice r.pA 0 r.pc) := by
    refine (blk_cell h.cells 1).trans ?_
    show some (Value.slice r.pA d.picks.length r.pc) = _
    rw [hp]
    rfl
  have hvk : victimR d = minAt d.A d.K.length := by unfold victimR; rw [hp]
  have HA4 := Aside0.mk hC4
  have V : Aside0 (∀ n, VicR b sizes w r d (victimR d) [] (.returned (.int .i64 (minAt d.A d.K.length))) (w.drewN n)) := ⟨fun n => ⟨by rw [hvk], r, by rw [← hp]; exact h.drewN n, RefL.of_below (pw_below_drewN (Below.refl _ _) n) h.size_le⟩⟩
  have HKA := Aside0.mk hKA
  clear hvk ek ea hp h hC hC4 hc hc4 hKA
  go_enter Try.func24, Try.ntmps24
  go_wp2
  go_loopg [4, 5] d.K.length (fun kq v4 v5 w' => ∃ j : Nat, v5 = .int .i64 j ∧ v4 = .int .i64 (minAt d.A j) ∧ Aside0 (j + kq = d.K.length) ∧ ∃ n, w' = w.drewN n)
  case atStart => exact ⟨0, rfl, rfl, ⟨by omega⟩, 0, rfl⟩
  case round =>
    obtain ⟨j, rfl, rfl, HJ, ⟨n, rfl⟩⟩ := hrel
    have hj := HJ.out
    by_cases hlt : j < d.K.length
    · have e1 : decide ((j : Int) < (d.K.length : Int)) = true := decide_eq_true (by omega)
      have hm : minAt d.A j < d.K.length := by have := minAt_le d.A j; omega
      have hKA := HKA.out
      have j0 : 0 ≤ (j : Int) := by omega
      have j1 : (j : Int) < (d.A.length : Int) := by omega
      have m0 : 0 ≤ (minAt d.A j : Int) := by omega
      have m1 : (minAt d.A j : Int) < (d.A.length : Int) := by omega
      obtain ⟨ad1, q1, hx1⟩ := Kd.at_int HA4.out (j : Int) j0 j1
      obtain ⟨ad2, q2, hx2⟩ := Kd.at_int HA4.out (minAt d.A j : Int) m0 m1
      rw [q1] at q2
      cases q2
      subst q1
      rw [Int.toNat_natCast] at hx1 hx2
      rw [← hKA] at j1 m1
      have hst : minAt d.A (j + 1) = if rd d.A (j : Int) < rd d.A (minAt d.A j : Int) then j else minAt d.A j := by rw [minAt, rd_nat, rd_nat]
      have HST := Aside0.mk hst
      clear hst hKA hm
      generalize rd d.A (j : Int) = x at *
      generalize hmm : minAt d.A j = mm at *
      generalize rd d.A (mm : Int) = y at *
      clear hmm
      cases gk with
      | zero => omega
      | succ k1 =>
        by_cases q : x < y
        · have e2 : decide (x < y) = true := decide_eq_true q
          rw [if_pos q] at HST
          clear q
          go_wp2
          go_quiet (fail)
          go_wp2
          go_roundg k1
          case measure => omega
          case rel => exact ⟨j + 1, by simp, by rw [HST.out], ⟨by omega⟩, by first | exact ⟨_, rfl⟩ | exact ⟨_, (World.drewN_drewN _ _ _).symm⟩ | exact ⟨_, World.drewN_drewN _ _ _⟩⟩
        · have e2 : decide (x < y) = false := decide_eq_false q
          rw [if_neg q] at HST
          clear q
          go_wp2
          go_quiet (fail)
          go_wp2
          go_roundg k1
          case measure => omega
          case rel => exact ⟨j + 1, by simp, by rw [HST.out], ⟨by omega⟩, by first | exact ⟨_, rfl⟩ | exact ⟨_, (World.drewN_drewN _ _ _).symm⟩ | exact ⟨_, World.drewN_drewN _ _ _⟩⟩
    · have e1 : decide ((j : Int) < (d.K.length : Int)) = false := decide_eq_false (by omega)
      have e2 : j = d.K.length := by omega
      subst e2
      go_wp2
      go_ret
      exact V.out _
theorem rvic.calls {b : Nat} {sizes : List Int} {w : World} {r : Rf} {d : RD} (h : RefS b sizes w r d) (hKA : d.K.length = d.A.length) (h0 : 0 < d.K.length) (hl : d.K.length ≤ 1000000) :
    Calls Try.prog 24 #[.pointer (some ⟨r.g, 0, none⟩)] w (VicR b sizes w r d (victimR d) d.picks.tail) := by
  rcases hp : d.picks with _ | ⟨x, t⟩
  · exact rvicB.calls h hp hKA h0 hl
  · exact rvicA.calls h hp h0 hl
end Go.Proofs.Ytfhjdhhflpekiaa.G

namespace Go.Proofs.Ytfhjdhhflpekiaa.G
open Go.RowKit Go.Proofs.Cache Go.Proofs.YtfhjdhhflpekiaaW.PrintWords Go.Proofs.YtfhjdhhflpekiaaW.PrintLast Go.Proofs.YtfhjdhhflpekiaaW.PrintMore
set_option linter.unusedVariables false
set_option linter.unusedSimpArgs false
def findR (K : List Int) (i : Int) : Nat := K.findIdx (· == i)
theorem findR_lt {K : List Int} {i : Int} {j : Nat} (h : j < findR K i) : (rd K (j : Int) == i) = false := by
  have := List.not_of_lt_findIdx h
  rw [rd_nat, List.getD_eq_getElem?_getD, List.getElem?_eq_getElem (Nat.lt_of_lt_of_le h List.findIdx_le_length)]
  simpa using this
theorem findR_at {K : List Int} {i : Int} (h : findR K i < K.length) : (rd K (findR K i : Int) == i) = true := by
  rw [rd_nat, List.getD_eq_getElem?_getD, List.getElem?_eq_getElem h]
  exact List.findIdx_getElem (w := h)
def RGot (b : Nat) (sizes : List Int) (w : World) (r : Rf) (ok : Bool) (d' : RD) (e : Ending) (w' : World) : Prop :=
  e = .returned (.bool ok) ∧ ∃ r', RefS b sizes w' r' d' ∧ RefL b w r w' r'
section
variable {b : Nat} {sizes : List Int} {w w1 : World} {r : Rf} {d : RD}
theorem RefS.kC (h : RefS b sizes w r d) {A : Option Addr} {c : Nat} (e : r.kv = .slice A d.K.length c) : Kd.C (Kd.int .i64) w A d.K.length d.K := by
  obtain ⟨A', c', e', _, hC, _⟩ := row_open h.kv
  rw [e] at e'
  injection e' with e1
  rw [e1]
  exact hC
theorem RefS.aC (h : RefS b sizes w r d) {A : Option Addr} {c : Nat} (e : r.av = .slice A d.A.length c) : Kd.C (Kd.int .i64) w A d.A.length d.A := by
  obtain ⟨A', c', e', _, hC, _⟩ := row_open h.av
  rw [e] at e'
  injection e' with e1
  rw [e1]
  exact hC
/-- One of its five numbers is written. -/
theorem RefS.num (h : RefS b sizes w r d) (i : Nat) (v : Int) (d1 : RD) (hcs : (r.cs sizes d).setIfInBounds i (.int .i64 v) = r.cs sizes d1) (hK : d1.K = d.K) (hA : d1.A = d.A) (hp : d1.picks = d.picks) : RefS b sizes (w.setCell ⟨r.g, i, none⟩ (.int .i64 v)) r d1 ∧ RefL b w r (w.setCell ⟨r.g, i, none⟩ (.int .i64 v)) r :=
  ⟨h.put i _ _ _ rfl hcs rfl rfl hK hA rfl rfl (by rw [hp]; exact h.picks) (by rw [hp]; exact h.pc) (by rw [hp]; exact h.pk), h.put_left i _ _ rfl rfl rfl rfl fun a e => ⟨a, e, rfl⟩⟩
end
def RD.tick (d : RD) : RD := { d with now := d.now + 1 }
set_option maxHeartbeats 2000000 in
set_option maxRecDepth 100000 in
theorem rgetHit.calls {b : Nat} {sizes : List Int} {w : World} {r : Rf} {d : RD} (i : Int) (h : RefS b sizes w r d) (hKA : d.K.length = d.A.length) (hl : d.K.length ≤ 1000000) (hn : 0 ≤ d.now ∧ d.now ≤ 1000000) (hj : findR d.K i < d.K.length) :
    Calls Try.prog 14 #[.pointer (some ⟨r.g, 0, none⟩), .int .i64 i] w (RGot b sizes w r true { d.tick with A := d.A.set (findR d.K i) (d.now + 1) }) := by
  obtain ⟨A, c, ek, hc, hC, _⟩ := row_open h.kv
  obtain ⟨A4, c4, ea, hc4, hC4, hg4⟩ := row_open h.av
  obtain ⟨ab, rfl⟩ := hg4 (by omega)
  have hn0 := hn.1
  have hn1 := hn.2
  have c5 : w.cell? ⟨r.g, 5, none⟩ = some (.int .i64 d.now) := (blk_cell h.cells 5).trans rfl
  have f5 := blk_frozen h.cells 5
  have NM := h.num 5 (d.now + 1) d.tick (by simp [Rf.cs, RD.tick]) rfl rfl rfl
  have HK : Aside0 (d.K.length = d.A.length) := ⟨hKA⟩
  have EK := Aside0.mk ek
  have EA := Aside0.mk ea
  have HJ := Aside0.mk hj
  have hkl : (d.K.length : Int) ≤ 1000000 := by omega
  clear ek ea hC hC4 hg4 hc hc4 hKA hj hn h
  go_enter Try.func14, Try.ntmps14
  go_wp2
  have S1 := Aside0.mk NM.1
  have L1 := Aside0.mk NM.2
  clear NM c5 f5
  generalize w.setCell ⟨r.g, 5, none⟩ (.int .i64 (d.now + 1)) = w5 at *
  go_loopg [5] d.K.length (fun kq v5 w' => ∃ j : Nat, v5 = .int .i64 j ∧ Aside0 (j + kq = d.K.length) ∧ Aside0 (j ≤ findR d.K i) ∧ w5 = w')
  case atStart => exact ⟨0, rfl, ⟨by omega⟩, ⟨by omega⟩, rfl⟩
  case round =>
    obtain ⟨j, rfl, HJ1, HP, rfl⟩ := hrel
    have hj := HJ1.out
    have hp := HP.out
    have h0 := HJ.out
    have hlt : j < d.K.length := by omega
    have e1 : decide ((j : Int) < (d.K.length : Int)) = true := decide_eq_true (by omega)
    have j0 : 0 ≤ (j : Int) := by omega
    have j1 : (j : Int) < (d.K.length : Int) := by omega
    have c3 : w5.cell? ⟨r.g, 3, none⟩ = some (.slice A d.K.length c) := by rw [← EK.out]; exact (blk_cell S1.out.cells 3).trans rfl
    obtain ⟨ad, q1, hx1⟩ := Kd.at_int (S1.out.kC EK.out) (j : Int) j0 j1
    cases q1
    rw [Int.toNat_natCast] at hx1
    replace hx1 : w5.cell? (ad.add j) = some (.int .i64 (rd d.K (j : Int))) := hx1
    by_cases ej : j = findR d.K i
    · have e2 : (rd d.K (j : Int) == i) = true := by rw [ej]; exact findR_at h0
      have hKA := HK.out
      have j2 : (j : Int) < (d.A.length : Int) := by omega
      have c4' : w5.cell? ⟨r.g, 4, none⟩ = some (.slice (some ⟨ab, 0, none⟩) d.A.length c4) := by rw [← EA.out]; exact (blk_cell S1.out.cells 4).trans rfl
      have c5 : w5.cell? ⟨r.g, 5, none⟩ = some (.int .i64 (d.now + 1)) := (blk_cell S1.out.cells 5).trans rfl
      obtain ⟨cs4, hb4⟩ := own_typed S1.out.av ab (by rw [EA.out]; rfl)
      have f4 := blk_frozen hb4 j
      have AS := S1.out.ask (c := c4) EA.out j (d.now + 1)
      have HE := Aside0.mk ej
      have HB4 := Aside0.mk hb4
      obtain ⟨x4, hx4⟩ : ∃ v, w5.cell? ⟨ab, j, none⟩ = some v := by
        obtain ⟨ad2, q2, hx2⟩ := Kd.at_int (S1.out.aC (c := c4) EA.out) (j : Int) j0 j2
        cases q2
        rw [Int.toNat_natCast] at hx2
        refine ⟨_, Eq.trans ?_ hx2⟩
        congr 1
        simp [Addr.add]
      clear hKA hb4 ej h0
      go_wp2
      go_region
      have S2 := Aside0.mk AS.1
      have L2 := Aside0.mk (L1.out.trans AS.2)
      clear AS
      have FIN : Aside0 (∀ n, RGot b sizes w r true { d.tick with A := d.A.set (findR d.K i) (d.now + 1) } (.returned (.bool true)) ((w5.setCell ⟨ab, j, none⟩ (.int .i64 (d.now + 1))).drewN n)) := ⟨fun n => ⟨rfl, r, by rw [← HE.out]; exact S2.out.drewN n, L2.out.trans (RefL.of_below (pw_below_drewN (Below.refl _ _) n) S2.out.size_le)⟩⟩
      go_wp2
      go_ret
      exact FIN.out 1
    · have e2 := findR_lt (K := d.K) (i := i) (j := j) (by omega)
      generalize rd d.K (j : Int) = y at *
      have e3 : ¬ y = i := beq_eq_false_iff_ne.mp e2
      cases gk with
      | zero => omega
      | succ k1 =>
        go_wp2
        go_roundg k1
        case measure => omega
        case rel => exact ⟨j + 1, by simp, ⟨by omega⟩, ⟨by omega⟩, rfl⟩
end Go.Proofs.Ytfhjdhhflpekiaa.G

namespace Go.Proofs.Ytfhjdhhflpekiaa.G
open Go.RowKit Go.Proofs.Cache Go.Proofs.YtfhjdhhflpekiaaW.PrintWords Go.Proofs.YtfhjdhhflpekiaaW.PrintLast Go.Proofs.YtfhjdhhflpekiaaW.PrintMore
set_option linter.unusedVariables false
set_option linter.unusedSimpArgs false
set_option maxHeartbeats 2000000 in
set_option maxRecDepth 100000 in
theorem rgetNeg.calls {b : Nat} {sizes : List Int} {w : World} {r : Rf} {d : RD} (i : Int) (h : RefS b sizes w r d) (hl : d.K.length ≤ 1000000) (hn : 0 ≤ d.now ∧ d.now ≤ 1000000) (hj : findR d.K i = d.K.length) (hi : i < 0) :
    Calls Try.prog 14 #[.pointer (some ⟨r.g, 0, none⟩), .int .i64 i] w (RGot b sizes w r false d.tick) := by
  obtain ⟨A, c, ek, hc, hC, _⟩ := row_open h.kv
  have hn0 := hn.1
  have hn1 := hn.2
  have c5 : w.cell? ⟨r.g, 5, none⟩ = some (.int .i64 d.now) := (blk_cell h.cells 5).trans rfl
  have f5 := blk_frozen h.cells 5
  have NM := h.num 5 (d.now + 1) d.tick (by simp [Rf.cs, RD.tick]) rfl rfl rfl
  have EK := Aside0.mk ek
  have HJ := Aside0.mk hj
  have hkl : (d.K.length : Int) ≤ 1000000 := by omega
  have d1 : decide (i < 0) = true := decide_eq_true hi
  clear ek hC hc hj hn h hi
  go_enter Try.func14, Try.ntmps14
  go_wp2
  have S1 := Aside0.mk NM.1
  have L1 := Aside0.mk NM.2
  clear NM c5 f5
  generalize w.setCell ⟨r.g, 5, none⟩ (.int .i64 (d.now + 1)) = w5 at *
  go_loopg [5] d.K.length (fun kq v5 w' => ∃ j : Nat, v5 = .int .i64 j ∧ Aside0 (j + kq = d.K.length) ∧ w5 = w')
  case atStart => exact ⟨0, rfl, ⟨by omega⟩, rfl⟩
  case round =>
    obtain ⟨j, rfl, HJ1, rfl⟩ := hrel
    have hj := HJ1.out
    have c3 : w5.cell? ⟨r.g, 3, none⟩ = some (.slice A d.K.length c) := by rw [← EK.out]; exact (blk_cell S1.out.cells 3).trans rfl
    by_cases hlt : j < d.K.length
    · have e1 : decide ((j : Int) < (d.K.length : Int)) = true := decide_eq_true (by omega)
      have j0 : 0 ≤ (j : Int) := by omega
      have j1 : (j : Int) < (d.K.length : Int) := by omega
      obtain ⟨ad, q1, hx1⟩ := Kd.at_int (S1.out.kC EK.out) (j : Int) j0 j1
      cases q1
      rw [Int.toNat_natCast] at hx1
      replace hx1 : w5.cell? (ad.add j) = some (.int .i64 (rd d.K (j : Int))) := hx1
      have e2 := findR_lt (K := d.K) (i := i) (j := j) (by rw [HJ.out]; exact hlt)
      generalize rd d.K (j : Int) = y at *
      have e3 : ¬ y = i := beq_eq_false_iff_ne.mp e2
      cases gk with
      | zero => omega
      | succ k1 =>
        go_wp2
        go_roundg k1
        case measure => omega
        case rel => exact ⟨j + 1, by simp, ⟨by omega⟩, rfl⟩
    · have e1 : decide ((j : Int) < (d.K.length : Int)) = false := decide_eq_false (by omega)
      clear HJ1 hj
      go_wp2
      go_ret
      exact ⟨rfl, r, S1.out, L1.out⟩
set_option maxHeartbeats 2000000 in
set_option maxRecDepth 100000 in
theorem rgetFar.calls {b : Nat} {sizes : List Int} {w : World} {r : Rf} {d : RD} (i : Int) (h : RefS b sizes w r d) (hl : d.K.length ≤ 1000000) (hn : 0 ≤ d.now ∧ d.now ≤ 1000000) (hj : findR d.K i = d.K.length) (h0 : 0 ≤ i) (hi : (sizes.length : Int) ≤ i) :
    Calls Try.prog 14 #[.pointer (some ⟨r.g, 0, none⟩), .int .i64 i] w (RGot b sizes w r false d.tick) := by
  obtain ⟨A, c, ek, hc, hC, _⟩ := row_open h.kv
  have hn0 := hn.1
  have hn1 := hn.2
  have c5 : w.cell? ⟨r.g, 5, none⟩ = some (.int .i64 d.now) := (blk_cell h.cells 5).trans rfl
  have f5 := blk_frozen h.cells 5
  have NM := h.num 5 (d.now + 1) d.tick (by simp [Rf.cs, RD.tick]) rfl rfl rfl
  have EK := Aside0.mk ek
  have HJ := Aside0.mk hj
  have hkl : (d.K.length : Int) ≤ 1000000 := by omega
  have d1 : decide (i < 0) = false := decide_eq_false (by omega)
  have d2 : decide (i ≥ (sizes.length : Int)) = true := decide_eq_true hi
  clear ek hC hc hj hn h hi
  go_enter Try.func14, Try.ntmps14
  go_wp2
  have S1 := Aside0.mk NM.1
  have L1 := Aside0.mk NM.2
  clear NM c5 f5
  generalize w.setCell ⟨r.g, 5, none⟩ (.int .i64 (d.now + 1)) = w5 at *
  go_loopg [5] d.K.length (fun kq v5 w' => ∃ j : Nat, v5 = .int .i64 j ∧ Aside0 (j + kq = d.K.length) ∧ w5 = w')
  case atStart => exact ⟨0, rfl, ⟨by omega⟩, rfl⟩
  case round =>
    obtain ⟨j, rfl, HJ1, rfl⟩ := hrel
    have hj := HJ1.out
    have c3 : w5.cell? ⟨r.g, 3, none⟩ = some (.slice A d.K.length c) := by rw [← EK.out]; exact (blk_cell S1.out.cells 3).trans rfl
    by_cases hlt : j < d.K.length
    · have e1 : decide ((j : Int) < (d.K.length : Int)) = true := decide_eq_true (by omega)
      have j0 : 0 ≤ (j : Int) := by omega
      have j1 : (j : Int) < (d.K.length : Int) := by omega
      obtain ⟨ad, q1, hx1⟩ := Kd.at_int (S1.out.kC EK.out) (j : Int) j0 j1
      cases q1
      rw [Int.toNat_natCast] at hx1
      replace hx1 : w5.cell? (ad.add j) = some (.int .i64 (rd d.K (j : Int))) := hx1
      have e2 := findR_lt (K := d.K) (i := i) (j := j) (by rw [HJ.out]; exact hlt)
      generalize rd d.K (j : Int) = y at *
      have e3 : ¬ y = i := beq_eq_false_iff_ne.mp e2
      cases gk with
      | zero => omega
      | succ k1 =>
        go_wp2
        go_roundg k1
        case measure => omega
        case rel => exact ⟨j + 1, by simp, ⟨by omega⟩, rfl⟩
    · have e1 : decide ((j : Int) < (d.K.length : Int)) = false := decide_eq_false (by omega)
      clear HJ1 hj
      have c2 : w5.cell? ⟨r.g, 2, none⟩ = some (.slice r.sA sizes.length r.sc) := (blk_cell S1.out.cells 2).trans rfl
      go_wp2
      go_ret
      exact ⟨rfl, r, S1.out, L1.out⟩
set_option maxHeartbeats 2000000 in
set_option maxRecDepth 100000 in
theorem rgetLess.calls {b : Nat} {sizes : List Int} {w : World} {r : Rf} {d : RD} (i : Int) (h : RefS b sizes w r d) (hl : d.K.length ≤ 1000000) (hn : 0 ≤ d.now ∧ d.now ≤ 1000000) (hj : findR d.K i = d.K.length) (h0 : 0 ≤ i) (h1 : i < (sizes.length : Int)) (v : Int) (hv : rd sizes i = v) (hi : v < 0) :
    Calls Try.prog 14 #[.pointer (some ⟨r.g, 0, none⟩), .int .i64 i] w (RGot b sizes w r false d.tick) := by
  obtain ⟨A, c, ek, hc, hC, _⟩ := row_open h.kv
  have hn0 := hn.1
  have hn1 := hn.2
  have c5 : w.cell? ⟨r.g, 5, none⟩ = some (.int .i64 d.now) := (blk_cell h.cells 5).trans rfl
  have f5 := blk_frozen h.cells 5
  have NM := h.num 5 (d.now + 1) d.tick (by simp [Rf.cs, RD.tick]) rfl rfl rfl
  have EK := Aside0.mk ek
  have HJ := Aside0.mk hj
  have hkl : (d.K.length : Int) ≤ 1000000 := by omega
  have d1 : decide (i < 0) = false := decide_eq_false (by omega)
  have d2 : decide (i ≥ (sizes.length : Int)) = false := decide_eq_false (by omega)
  have d3 : decide (v < 0) = true := decide_eq_true hi
  clear ek hC hc hj hn h hi
  go_enter Try.func14, Try.ntmps14
  go_wp2
  have S1 := Aside0.mk NM.1
  have L1 := Aside0.mk NM.2
  clear NM c5 f5
  generalize w.setCell ⟨r.g, 5, none⟩ (.int .i64 (d.now + 1)) = w5 at *
  go_loopg [5] d.K.length (fun kq v5 w' => ∃ j : Nat, v5 = .int .i64 j ∧ Aside0 (j + kq = d.K.length) ∧ w5 = w')
  case atStart => exact ⟨0, rfl, ⟨by omega⟩, rfl⟩
  case round =>
    obtain ⟨j, rfl, HJ1, rfl⟩ := hrel
    have hj := HJ1.out
    have c3 : w5.cell? ⟨r.g, 3, none⟩ = some (.slice A d.K.length c) := by rw [← EK.out]; exact (blk_cell S1.out.cells 3).trans rfl
    by_cases hlt : j < d.K.length
    · have e1 : decide ((j : Int) < (d.K.length : Int)) = true := decide_eq_true (by omega)
      have j0 : 0 ≤ (j : Int) := by omega
      have j1 : (j : Int) < (d.K.length : Int) := by omega
      obtain ⟨ad, q1, hx1⟩ := Kd.at_int (S1.out.kC EK.out) (j : Int) j0 j1
      cases q1
      rw [Int.toNat_natCast] at hx1
      replace hx1 : w5.cell? (ad.add j) = some (.int .i64 (rd d.K (j : Int))) := hx1
      have e2 := findR_lt (K := d.K) (i := i) (j := j) (by rw [HJ.out]; exact hlt)
      generalize rd d.K (j : Int) = y at *
      have e3 : ¬ y = i := beq_eq_false_iff_ne.mp e2
      cases gk with
      | zero => omega
      | succ k1 =>
        go_wp2
        go_roundg k1
        case measure => omega
        case rel => exact ⟨j + 1, by simp, ⟨by omega⟩, rfl⟩
    · have e1 : decide ((j : Int) < (d.K.length : Int)) = false := decide_eq_false (by omega)
      clear HJ1 hj
      have c2 : w5.cell? ⟨r.g, 2, none⟩ = some (.slice r.sA sizes.length r.sc) := (blk_cell S1.out.cells 2).trans rfl
      obtain ⟨as_, q4, hx4⟩ := Kd.at_int S1.out.szs i h0 h1
      rw [q4] at c2
      rw [hv] at hx4
      go_wp2
      go_ret
      exact ⟨rfl, r, S1.out, L1.out⟩
/-- It is built and passes. -/
def RD.pass (d : RD) : RD := { d.tick with tb := d.tb + 1, tp := d.tp + 1 }
def RD.build (d : RD) : RD := { d.tick with tb := d.tb + 1 }
set_option maxHeartbeats 2000000 in
set_option maxRecDepth 100000 in
theorem rgetPass.calls {b : Nat} {sizes : List Int} {w : World} {r : Rf} {d : RD} (i : Int) (h : RefS b sizes w r d) (hl : d.K.length ≤ 1000000) (hn : 0 ≤ d.now ∧ d.now ≤ 1000000) (hj : findR d.K i = d.K.length) (h0 : 0 ≤ i) (h1 : i < (sizes.length : Int)) (v : Int) (hv : rd sizes i = v) (hv0 : 0 ≤ v) (hi : d.room < v) (htb : 0 ≤ d.tb ∧ d.tb ≤ 1000000) (htp : 0 ≤ d.tp ∧ d.tp ≤ 1000000) :
    Calls Try.prog 14 #[.pointer (some ⟨r.g, 0, none⟩), .int .i64 i] w (RGot b sizes w r true d.pass) := by
  obtain ⟨A, c, ek, hc, hC, _⟩ := row_open h.kv
  have hn0 := hn.1
  have hn1 := hn.2
  have c5 : w.cell? ⟨r.g, 5, none⟩ = some (.int .i64 d.now) := (blk_cell h.cells 5).trans rfl
  have f5 := blk_frozen h.cells 5
  have NM := h.num 5 (d.now + 1) d.tick (by simp [Rf.cs, RD.tick]) rfl rfl rfl
  have EK := Aside0.mk ek
  have HJ := Aside0.mk hj
  have hkl : (d.K.length : Int) ≤ 1000000 := by omega
  have d1 : decide (i < 0) = false := decide_eq_false (by omega)
  have d2 : decide (i ≥ (sizes.length : Int)) = false := decide_eq_false (by omega)
  have d3 : decide (v < 0) = false := decide_eq_false (by omega)
  have d4 : decide (v > d.room) = true := decide_eq_true hi
  have b0 := htb.1
  have b1 := htb.2
  have p0 := htp.1
  have p1 := htp.2
  clear ek hC hc hj hn h hi htb htp
  go_enter Try.func14, Try.ntmps14
  go_wp2
  have S1 := Aside0.mk NM.1
  have L1 := Aside0.mk NM.2
  clear NM c5 f5
  generalize w.setCell ⟨r.g, 5, none⟩ (.int .i64 (d.now + 1)) = w5 at *
  go_loopg [5] d.K.length (fun kq v5 w' => ∃ j : Nat, v5 = .int .i64 j ∧ Aside0 (j + kq = d.K.length) ∧ w5 = w')
  case atStart => exact ⟨0, rfl, ⟨by omega⟩, rfl⟩
  case round =>
    obtain ⟨j, rfl, HJ1, rfl⟩ := hrel
    have hj := HJ1.out
    have c3 : w5.cell? ⟨r.g, 3, none⟩ = some (.slice A d.K.length c) := by rw [← EK.out]; exact (blk_cell S1.out.cells 3).trans rfl
    by_cases hlt : j < d.K.length
    · have e1 : decide ((j : Int) < (d.K.length : Int)) = true := decide_eq_true (by omega)
      have j0 : 0 ≤ (j : Int) := by omega
      have j1 : (j : Int) < (d.K.length : Int) := by omega
      obtain ⟨ad, q1, hx1⟩ := Kd.at_int (S1.out.kC EK.out) (j : Int) j0 j1
      cases q1
      rw [Int.toNat_natCast] at hx1
      replace hx1 : w5.cell? (ad.add j) = some (.int .i64 (rd d.K (j : Int))) := hx1
      have e2 := findR_lt (K := d.K) (i := i) (j := j) (by rw [HJ.out]; exact hlt)
      generalize rd d.K (j : Int) = y at *
      have e3 : ¬ y = i := beq_eq_false_iff_ne.mp e2
      cases gk with
      | zero => omega
      | succ k1 =>
        go_wp2
        go_roundg k1
        case measure => omega
        case rel => exact ⟨j + 1, by simp, ⟨by omega⟩, rfl⟩
    · have e1 : decide ((j : Int) < (d.K.length : Int)) = false := decide_eq_false (by omega)
      clear HJ1 hj
      have c2 : w5.cell? ⟨r.g, 2, none⟩ = some (.slice r.sA sizes.length r.sc) := (blk_cell S1.out.cells 2).trans rfl
      obtain ⟨as_, q4, hx4⟩ := Kd.at_int S1.out.szs i h0 h1
      rw [q4] at c2
      rw [hv] at hx4
      have c6 : w5.cell? ⟨r.g, 6, none⟩ = some (.int .i64 d.tb) := (blk_cell S1.out.cells 6).trans rfl
      have f6 := blk_frozen S1.out.cells 6
      go_wp2
      have NM := S1.out.num 6 (d.tb + 1) d.build (by simp [Rf.cs, RD.tick, RD.build]) rfl rfl rfl
      have S2 := Aside0.mk NM.1
      have L2 := Aside0.mk (L1.out.trans NM.2)
      clear NM c6 f6 hx4 c2 c3
      generalize w5.setCell ⟨r.g, 6, none⟩ (.int .i64 (d.tb + 1)) = w6 at *
      have c2 : w6.cell? ⟨r.g, 2, none⟩ = some (.slice r.sA sizes.length r.sc) := (blk_cell S2.out.cells 2).trans rfl
      obtain ⟨as2, q5, hx4⟩ := Kd.at_int S2.out.szs i h0 h1
      rw [q5] at c2
      rw [hv] at hx4
      have c0 : w6.cell? ⟨r.g, 0, none⟩ = some (.int .i64 d.room) := (blk_cell S2.out.cells 0).trans rfl
      have c8 : w6.cell? ⟨r.g, 8, none⟩ = some (.int .i64 d.tp) := (blk_cell S2.out.cells 8).trans rfl
      have f8 := blk_frozen S2.out.cells 8
      go_quiet (fail)
      go_wp2
      have FIN : Aside0 (∀ n, RGot b sizes w r true d.pass (.returned (.bool true)) ((w6.drewN n).setCell ⟨r.g, 8, none⟩ (.int .i64 (d.tp + 1)))) := ⟨fun n => by
        have NM := (S2.out.drewN n).num 8 (d.tp + 1) d.pass (by simp [Rf.cs, RD.tick, RD.build, RD.pass]) rfl rfl rfl
        exact ⟨rfl, r, NM.1, (L2.out.trans (RefL.of_below (pw_below_drewN (Below.refl _ _) n) S2.out.size_le)).trans NM.2⟩⟩
      go_ret
      exact FIN.out _
end Go.Proofs.Ytfhjdhhflpekiaa.G

namespace Go.Proofs.Ytfhjdhhflpekiaa.G
open Go.RowKit Go.Proofs.Cache Go.Proofs.YtfhjdhhflpekiaaW.PrintWords Go.Proofs.YtfhjdhhflpekiaaW.PrintLast Go.Proofs.YtfhjdhhflpekiaaW.PrintMore
set_option linter.unusedVariables false
set_option linter.unusedSimpArgs false
def rdOf (p : PS) : RD := ⟨p.room, p.picks, ids p, p.kept.map (·.asked), p.now, p.tb, p.td, p.tp, p.tm⟩
def dropR (d : RD) : RD := { d with picks := d.picks.tail, K := d.K.eraseIdx (victimR d), A := d.A.eraseIdx (victimR d), td := d.td + 1 }
def roomR (sizes : List Int) (v : Int) : Nat → RD → RD
  | 0, d => d
  | f + 1, d => if sumS sizes d.K d.K.length + v > d.room then roomR sizes v f (dropR d) else d
def addR (sizes : List Int) (i : Int) (d : RD) : RD := { d with K := d.K ++ [i], A := d.A ++ [d.now], tm := max d.tm (sumS sizes (d.K ++ [i]) (d.K ++ [i]).length) }
theorem map_erase {α β : Type} (f : α → β) : ∀ (l : List α) (j : Nat), (l.eraseIdx j).map f = (l.map f).eraseIdx j
  | [], _ => by simp
  | x :: l, 0 => by simp
  | x :: l, j + 1 => by simp [map_erase f l j]
section
variable {sizes : List Int} {p : PS} {i : Int}
theorem rd_victim : victimR (rdOf p) = victimK p := by
  unfold victimR victimK rdOf
  cases p.picks <;> simp [ids]
theorem rd_drop : rdOf (dropP p) = dropR (rdOf p) := by
  unfold dropR
  rw [rd_victim]
  simp [rdOf, dropP, ids, map_erase]
theorem rd_find : findR (ids p) i = findI p.kept i := by
  unfold findR findI ids
  rw [List.findIdx_map]
  rfl
theorem rd_sum (h : ∀ k ∈ p.kept, badI sizes k.i = false ∧ k.n = sizeI sizes k.i) : ∀ j, j ≤ p.kept.length → sumS sizes (ids p) j = (heldTo p.kept j : Int)
  | 0, _ => rfl
  | j + 1, hj => by
    rw [sumS, heldTo, rd_sum h j (by omega)]
    have hm : p.kept[j] ∈ p.kept := List.getElem_mem (show j < p.kept.length by omega)
    have hk := h _ hm
    have hs := size_int hk.1
    have e1 : rd (ids p) (j : Int) = p.kept[j].i := by
      rw [rd_nat, List.getD_eq_getElem?_getD]
      simp [ids, show j < p.kept.length by omega]
    have e2 : p.kept.getD j ⟨0, 0, 0⟩ = p.kept[j] := by rw [List.getD_eq_getElem?_getD, List.getElem?_eq_getElem (show j < p.kept.length by omega)]; rfl
    rw [e1, e2, hk.2]
    show _ + sizes.getD p.kept[j].i.toNat 0 = _
    omega
theorem rd_held (h : ∀ k ∈ p.kept, badI sizes k.i = false ∧ k.n = sizeI sizes k.i) : sumS sizes (rdOf p).K (rdOf p).K.length = (held p.kept : Int) := by
  show sumS sizes (ids p) (ids p).length = _
  rw [ids_len, rd_sum h _ (Nat.le_refl _)]
  rfl
theorem rd_hit (j : Nat) : rdOf (hitP (nowP p) j) = { (rdOf p).tick with A := (rdOf p).A.set j (p.now + 1) } := by
  have h := ids_hit (p := nowP p) j
  unfold rdOf RD.tick
  rw [h]
  simp [hitP, nowP, ids]
theorem rd_room (n : Nat) : ∀ f (s : PS), (∀ k ∈ s.kept, badI sizes k.i = false ∧ k.n = sizeI sizes k.i) → rdOf (roomP n f s) = roomR sizes n f (rdOf s)
  | 0, s, _ => rfl
  | f + 1, s, h => by
    have hh := rd_held h
    rw [roomP, roomR, hh]
    by_cases c : s.room < (held s.kept : Int) + n
    · rw [if_pos c, if_pos (show (held s.kept : Int) + n > (rdOf s).room from c), ← rd_drop]
      exact rd_room n f (dropP s) fun k hk => h k (List.mem_of_mem_eraseIdx hk)
    · rw [if_neg c, if_neg (show ¬ (held s.kept : Int) + n > (rdOf s).room from c)]
theorem rd_add {s : PS} {k : Ke} (h : ∀ x ∈ s.kept, badI sizes x.i = false ∧ x.n = sizeI sizes x.i) (hk : badI sizes k.i = false ∧ k.n = sizeI sizes k.i) (ha : k.asked = s.now) : rdOf (addP s k) = addR sizes k.i (rdOf s) := by
  have hh := rd_held (sizes := sizes) (p := addP s k) (fun x hx => by
    rcases List.mem_append.1 hx with y | y
    · exact h x y
    · rw [List.mem_singleton.1 y]
      exact hk)
  have e : (rdOf (addP s k)).K = (rdOf s).K ++ [k.i] := by simp [rdOf, addP, ids]
  rw [e] at hh
  unfold addR
  rw [hh]
  simp [rdOf, addP, ids, ha]
end
end Go.Proofs.Ytfhjdhhflpekiaa.G
