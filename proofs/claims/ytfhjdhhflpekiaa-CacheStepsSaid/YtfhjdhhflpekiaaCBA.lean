/- Texts of the cache, put together: CBoth, CBothN. -/
import Derived.Test.YtfhjdhhflpekiaaCRA
import Derived.Test.YtfhjdhhflpekiaaCRGet
import Derived.Test.YtfhjdhhflpekiaaGx25
import Derived.Test.YtfhjdhhflpekiaaGx14
import Derived.Test.YtfhjdhhflpekiaaGx20
namespace Go.Proofs.Ytfhjdhhflpekiaa.G
open Go.RowKit Go.Proofs.Cache Go.Proofs.YtfhjdhhflpekiaaW.PrintWords Go.Proofs.YtfhjdhhflpekiaaW.PrintLast Go.Proofs.YtfhjdhhflpekiaaW.PrintMore
set_option linter.unusedVariables false
set_option linter.unusedSimpArgs false
theorem same_l0 (l : List Int) (hl : l.length ≤ 1000000) : ∀ d j, j ≤ l.length → l.length - j = d → relievoref00_SameInts.l0 (d + 1) l l (j : Int) = some true
  | 0, j, hj, hd => by rw [relievoref00_SameInts.l0, if_neg (by omega)]
  | d + 1, j, hj, hd => by
    have e : wrap64 ((j : Int) + 1) = ((j + 1 : Nat) : Int) := by unfold wrap64; omega
    rw [relievoref00_SameInts.l0, if_pos (by omega), if_pos (by omega), if_pos (by omega), if_pos rfl, e]
    exact same_l0 l hl d (j + 1) (by omega) (by omega)
theorem same_refl (l : List Int) (hl : l.length ≤ 1000000) : relievoref00_SameInts.f (l.length + 1) l l = some true := by
  unfold relievoref00_SameInts.f
  rw [if_pos rfl]
  exact same_l0 l hl l.length 0 (by omega) (by omega)
theorem copy_eq (l : List Int) (hl : l.length ≤ 1000000) : relievoref00_CopyInts.f l = some l := by
  unfold relievoref00_CopyInts.f
  simp only [Option.bind_some, List.length_nil, List.nil_append]
  rw [if_pos (by omega)]
theorem refnew_eq (room : Int) (l m : List Int) (hl : l.length ≤ 1000000) (hm : m.length ≤ 1000000) : relievoref17_New.f room l m = some (if room < 0 then 0 else room, l, m, [], [], 0, 0, 0, 0, 0) := by
  unfold relievoref17_New.f
  rw [copy_eq l hl, copy_eq m hm]
  rfl
theorem right_bad {sizes : List Int} {i : Int} (h : badI sizes i = true) : relievolaw17_right.f [] [] [] [] [] 20 sizes i = some true := by
  simp only [badI, Bool.or_eq_true, decide_eq_true_eq] at h
  unfold relievolaw17_right.f
  by_cases c1 : i < 0
  · rw [if_pos c1]
    rfl
  · rw [if_neg c1]
    by_cases c2 : i ≥ (sizes.length : Int)
    · rw [if_pos c2]
      rfl
    · have c3 : rd sizes i < 0 := by
        show sizes.getD i.toNat 0 < 0
        omega
      rw [if_neg c2, if_pos (by omega), if_pos (by omega), if_pos c3]
      rfl
theorem right_ok {sizes : List Int} {i : Int} (h : badI sizes i = false) : relievolaw17_right.f [⟨i, 0, 0⟩] [] (List.replicate (sizeI sizes i) ⟨0, 0, 0⟩) [] [i] 0 sizes i = some true := by
  obtain ⟨b1, b2, b3, b4⟩ := bad_parts h
  have e1 : (rd_T69 [⟨i, 0, 0⟩] 0).f0 = i := rfl
  have e2 : ((List.replicate (sizeI sizes i) (⟨0, 0, 0⟩ : S73)).length : Int) = rd sizes i := by rw [List.length_replicate]; exact b4.symm
  have e3 : (rd [i] 0 == i) = true := by
    show (i == i) = true
    simp
  unfold relievolaw17_right.f
  rw [if_neg (by omega), if_neg (by omega), if_pos b1, if_pos b2, if_neg (by omega), if_pos rfl, if_pos (show (([⟨i, 0, 0⟩] : List S69).length : Int) = 1 from rfl), if_pos (show (0 : Int) < (([⟨i, 0, 0⟩] : List S69).length : Int) by simp), if_pos e1, if_pos e2, if_pos (show (([i] : List Int).length : Int) = 1 from rfl), if_pos (show (0 : Int) < (([i] : List Int).length : Int) by simp), e3]
/-- What Get answers, in memory. -/
structure AnsAt (B : Bd) (w : World) (vA : Option Addr) (vl : List S69) (vc : Nat) (tA : Option Addr) (tl : List S73) (tc : Nat) (iA : Option Addr) (il : List Int) (ic : Nat) : Prop where
  v : Rd k69 B w vA vl
  vc : vl.length ≤ vc
  t : Rd k73 B w tA tl
  tc : tl.length ≤ tc
  it : Rd (Kd.int .i64) B w iA il
  ic : il.length ≤ ic
theorem kd_nil {α : Type} (d : Kd α) (w : World) : Kd.C d w none ([] : List α).length [] := ⟨rfl, Nat.zero_le _, fun h => absurd h (Nat.lt_irrefl 0)⟩
theorem rd_nil {α : Type} (d : Kd α) (B : Bd) (w : World) : Rd d B w none [] := ⟨kd_nil _ _, fun h => absurd h (by simp)⟩
section
variable {b : Nat} {sizes : List Int} {w w1 : World} {g : Nat} {p q : PS} {s : Cs} {r : Rf} {vA : Option Addr} {vl : List S69} {vc : Nat} {tA : Option Addr} {tl : List S73} {tc : Nat} {iA : Option Addr} {il : List Int} {ic : Nat}
theorem AnsAt.move {B : Bd} (h : AnsAt B w vA vl vc tA tl tc iA il ic) (m : Still B w w1) : AnsAt B w1 vA vl vc tA tl tc iA il ic := ⟨h.v.v m, h.vc, h.t.tri m, h.tc, h.it.int m, h.ic⟩
theorem AnsAt.turn {B B' : Bd} (h : AnsAt B w vA vl vc tA tl tc iA il ic) (m : Turn B B' w w1) : AnsAt B' w1 vA vl vc tA tl tc iA il ic :=
  ⟨h.v.turn m fun _ _ h => h, h.vc, h.t.turn m fun _ _ h => h, h.tc, h.it.turn m fun _ _ h => h, h.ic⟩
/-- The cache in state p, the document's in state q. -/
structure Both (b : Nat) (sizes : List Int) (w : World) (g : Nat) (p : PS) (s : Cs) (r : Rf) (q : PS) : Prop where
  live : Live ⟨b, NR r⟩ sizes w g p s
  ref : RefS b sizes w r (rdOf q)
  pk : Rd (Kd.int .i64) ⟨b, NR r⟩ w r.pA q.picks
  sz : Rd (Kd.int .i64) ⟨b, NR r⟩ w r.sA sizes
theorem Both.below (h : Both b sizes w g p s r q) (hb : Below w.heap.size w w1) : Both b sizes w1 g p s r q :=
  ⟨h.live.below hb, h.ref.below hb, h.pk.int (.of_below hb), h.sz.int (.of_below hb)⟩
theorem Both.but (h : Both b sizes w g p s r q) {k : Nat} {old : Array Value} {t : TypeId} (hg : w.heap[k]? = some (.cells old t (0, 0))) (ht : t = 40 ∨ t = 43) (hB : b ≤ k) (hs : w.heap.size ≤ w1.heap.size) (hk : ∀ i, i ≠ k → w1.heap[i]? = w.heap[i]?) : Both b sizes w1 g p s r q := by
  have hd : dirty t = true := by rcases ht with e | e <;> rw [e] <;> rfl
  have st : Still ⟨b, NR r⟩ w w1 := .of_but hg hd hB hs hk
  have nt : ∀ {k' : Nat} {cs : Array Value} {t' : TypeId}, w.heap[k']? = some (.cells cs t' (0, 0)) → t' = 34 ∨ t' = 3 → w1.heap[k']? = w.heap[k']? := fun hc q => hk _ (by
    rintro rfl
    have := blk_ty hg hc
    subst this
    rcases q with rfl | rfl <;> revert ht <;> decide)
  refine ⟨h.live.but hg (ht.imp id .inl) hB hs hk, h.ref.move (nt h.ref.cells (.inl rfl)) (fun k q => ?_) (fun k q => ?_) (fun hn a e => st.same _ (h.pk.2 hn a e)) (fun hn a e => st.same _ (h.sz.2 hn a e)), h.pk.int st, h.sz.int st⟩
  · obtain ⟨cs, hc⟩ := own_typed h.ref.kv k q
    exact nt hc (.inr rfl)
  · obtain ⟨cs, hc⟩ := own_typed h.ref.av k q
    exact nt hc (.inr rfl)
/-- What the cache's Get answers and leaves. -/
def BothGot (b : Nat) (sizes : List Int) (i : Int) (w : World) (g : Nat) (p : PS) (r : Rf) (q : PS) (e : Ending) (w' : World) : Prop :=
  ∃ vA vl vc tA tl tc iA il ic c s', e = .returned (.tuple #[.agg #[.slice vA (vl : List S69).length vc, .slice none 0 0, .slice tA (tl : List S73).length tc], .agg #[.slice none 0 0, .slice iA (il : List Int).length ic], .int .i64 c]) ∧ AnsAt ⟨b, NR r⟩ w' vA vl vc tA tl tc iA il ic ∧
    relievolaw17_right.f vl [] tl [] il c sizes i = some true ∧ (c == 0) = !badI sizes i ∧ Both b sizes w' g (getP sizes p i) s' r q ∧ Below b w w'
theorem Both.got (h : Both b sizes w g p s r q) {i : Int} {s1 : Cs} (hg : Got ⟨b, NR r⟩ sizes i w g p s w1 s1) : Both b sizes w1 g (getP sizes p i) s1 r q := by
  have st := Left.still h.live.at_ hg.left
  exact ⟨hg.live, h.ref.left h.live.at_ hg.left h.pk h.sz, h.pk.int st, h.sz.int st⟩
theorem Both.get (h : Both b sizes w g p s r q) (hs : ∀ x ∈ sizes, x ≤ 1000) {i : Int} (hi : I64 i) (hn : p.now ≤ 999999) :
    Calls Try.prog 13 #[.pointer (some ⟨g, 0, none⟩), .int .i64 i] w (BothGot b sizes i w g p r q) := by
  cases hb : badI sizes i with
  | true =>
    refine (h.live.get_bad hs hi hb hn).mono ?_
    rintro e w' ⟨s', rfl, hg⟩
    exact ⟨none, [], 0, none, [], 0, none, [], 0, 20, s', rfl, ⟨rd_nil _ _ _, Nat.le_refl _, rd_nil _ _ _, Nat.le_refl _, rd_nil _ _ _, Nat.le_refl _⟩, right_bad hb, by rw [hb]; rfl, h.got hg, hg.left.frame.below⟩
  | false =>
    refine (h.live.get_ok hs hi hb hn).mono ?_
    rintro e w' ⟨m, s', hmi, hmn, rfl, hm, hg⟩
    have e1 : (List.replicate m.n (⟨0, 0, 0⟩ : S73)).length = m.n := List.length_replicate
    refine ⟨m.vA, [⟨m.i, 0, 0⟩], m.vc, m.tA, List.replicate m.n ⟨0, 0, 0⟩, m.tc, m.iA, [m.i], m.ic, 0, s', by rw [e1]; rfl, ⟨hm.v, hm.vc, hm.t, by rw [e1]; exact hm.tc, hm.it, hm.ic⟩, ?_, by rw [hb]; rfl, h.got hg, hg.left.frame.below⟩
    rw [hmi, hmn]
    exact right_ok hb
/-- What the document's Get leaves. -/
def BothRef (b : Nat) (sizes : List Int) (i : Int) (w : World) (g : Nat) (p : PS) (s : Cs) (r : Rf) (q : PS) (e : Ending) (w' : World) : Prop :=
  e = .returned (.bool (!badI sizes i)) ∧ ∃ r', r'.g = r.g ∧ Both b sizes w' g p s r' (getP sizes q i) ∧ Turn ⟨b, NR r⟩ ⟨b, NR r'⟩ w w' ∧ Below b w w' ∧ ∀ (k : Nat) (cs : Array Value) (t : TypeId), w.heap[k]? = some (Obj.cells cs t (0, 0)) → t ≠ 34 → t ≠ 3 → w'.heap[k]? = some (Obj.cells cs t (0, 0))
theorem getP_picks (sizes : List Int) (p : PS) (i : Int) : (getP sizes p i).picks.length ≤ p.picks.length := by
  have hr : ∀ n f (s : PS), (roomP n f s).picks.length ≤ s.picks.length := fun n f => by
    induction f with
    | zero => exact fun s => Nat.le_refl _
    | succ f ih =>
      intro s
      rw [roomP]
      split
      · have := ih (dropP s)
        have e : (dropP s).picks.length ≤ s.picks.length := by
          show s.picks.tail.length ≤ _
          rw [List.length_tail]
          omega
        omega
      · exact Nat.le_refl _
  unfold getP
  split
  · exact Nat.le_refl _
  · split
    · exact Nat.le_refl _
    · unfold buildP keepP
      split
      · exact Nat.le_refl _
      · exact hr _ _ _
theorem Both.rget (h : Both b sizes w g p s r q) (hs : ∀ x ∈ sizes, x ≤ 1000) (hi : Inv sizes q) {i : Int} (hn : q.now ≤ 100000) :
    Calls Try.prog 14 #[.pointer (some ⟨r.g, 0, none⟩), .int .i64 i] w (BothRef b sizes i w g p s r q) := by
  refine (rget.calls h.ref hi hs hn).mono ?_
  rintro e w' ⟨rfl, r', h1, l⟩
  have t := turn_ref h.ref h1 l
  have hpk := rd_ref h.ref h1 l (getP_picks sizes q i) h.pk h.sz
  refine ⟨rfl, r', l.g, ⟨⟨h.live.at_.turn t fun k hk => ?_, h.live.ps, h.live.inv, h.live.gs⟩, h1, hpk.1, hpk.2⟩, t, l.below, fun k cs ty hb h34 h3 => ?_⟩
  · have := h.live.at_.ref h.ref hk
    exact l.keep k (h.live.at_.lt hk) this.1 this.2.1 this.2.2
  · refine (l.keep k (blk_lt hb) ?_ ?_ ?_).trans hb
    · rintro rfl
      exact h34 (blk_ty hb h.ref.cells)
    · intro z
      obtain ⟨cs', hc⟩ := own_typed h.ref.kv k z
      exact h3 (blk_ty hb hc)
    · intro z
      obtain ⟨cs', hc⟩ := own_typed h.ref.av k z
      exact h3 (blk_ty hb hc)
end
end Go.Proofs.Ytfhjdhhflpekiaa.G

namespace Go.Proofs.Ytfhjdhhflpekiaa.G
open Go.RowKit Go.Proofs.Cache Go.Proofs.YtfhjdhhflpekiaaW.PrintWords Go.Proofs.YtfhjdhhflpekiaaW.PrintLast Go.Proofs.YtfhjdhhflpekiaaW.PrintMore
set_option linter.unusedVariables false
set_option linter.unusedSimpArgs false
theorem own_at {w : World} {b n c : Nat} {A : Option Addr} {xs : List Value} (h : w.ownsRow b 3 1 (.slice A n c) n xs) {a : Addr} (e : A = some a) (hn : 0 < n) : (Value.slice A n c).ownBlock = some a.block := by
  rcases h.2 with ⟨q, h0⟩ | ⟨g, cap, cur, q, _⟩
  · omega
  · injection q with q
    subst q
    cases e
    rfl
theorem both_new {b : Nat} {sizes picks : List Int} {room : Int} {w11 w12 w14 : World} {g g11 : Nat} {s : Cs} {Ap As Ak Aa : Option Addr} {cp cs ck ca : Nat} (LV : Live ⟨b, fun _ => False⟩ sizes w11 g (startP room picks) s) (hb1 : b ≤ w11.heap.size) (hb : Below w11.heap.size w11 w12)
    (R1 : Kd.R (Kd.int .i64) 3 w12 w11.heap.size (fun k_ => some k_ ≠ (Value.slice As sizes.length cs).ownBlock ∧ some k_ ≠ (Value.slice Ak 0 ck).ownBlock ∧ some k_ ≠ (Value.slice Aa 0 ca).ownBlock) (.slice Ap picks.length cp) picks)
    (R2 : Kd.R (Kd.int .i64) 3 w12 w11.heap.size (fun k_ => some k_ ≠ (Value.slice Ap picks.length cp).ownBlock ∧ some k_ ≠ (Value.slice Ak 0 ck).ownBlock ∧ some k_ ≠ (Value.slice Aa 0 ca).ownBlock) (.slice As sizes.length cs) sizes)
    (R3 : Kd.R (Kd.int .i64) 3 w12 w11.heap.size (fun k_ => some k_ ≠ (Value.slice Ap picks.length cp).ownBlock ∧ some k_ ≠ (Value.slice As sizes.length cs).ownBlock ∧ some k_ ≠ (Value.slice Aa 0 ca).ownBlock) (.slice Ak 0 ck) [])
    (R4 : Kd.R (Kd.int .i64) 3 w12 w11.heap.size (fun k_ => some k_ ≠ (Value.slice Ap picks.length cp).ownBlock ∧ some k_ ≠ (Value.slice As sizes.length cs).ownBlock ∧ some k_ ≠ (Value.slice Ak 0 ck).ownBlock) (.slice Aa 0 ca) [])
    (hs : w12.heap.size ≤ w14.heap.size) (hw : ∀ k, k < w12.heap.size → w14.heap[k]? = w12.heap[k]?) (hg : w12.heap.size ≤ g11)
    (hc : w14.heap[g11]? = some (.cells #[.int .i64 (if room < 0 then 0 else room), .slice Ap picks.length cp, .slice As sizes.length cs, .slice Ak 0 ck, .slice Aa 0 ca, .int .i64 0, .int .i64 0, .int .i64 0, .int .i64 0, .int .i64 0] 34 (0, 0))) :
    Both b sizes w14 g (startP room picks) s ⟨g11, Ap, cp, As, cs, .slice Ak 0 ck, .slice Aa 0 ca⟩ (startP room picks) := by
  have o1 := Kd.own_of_R R1
  have o2 := Kd.own_of_R R2
  have o3 := Kd.own_of_R R3
  have o4 := Kd.own_of_R R4
  obtain ⟨_, _, q1, hcp, hC1⟩ := Kd.R_reads R1
  injection q1 with q1 _ q1'
  subst q1 q1'
  obtain ⟨_, _, q2, hcs, hC2⟩ := Kd.R_reads R2
  injection q2 with q2 _ q2'
  subst q2 q2'
  have hsz := hb.size
  have blkOf : ∀ {v : Value} {n : Nat} {xs : List Value}, w12.ownsRow w11.heap.size 3 1 v n xs → ∀ k, v.ownBlock = some k → w14.heap[k]? = w12.heap[k]? := fun ho k q => by
    obtain ⟨cs, hcc⟩ := own_typed ho k q
    exact hw k (blk_lt hcc)
  have still : ∀ k, k < w11.heap.size → w14.heap[k]? = w11.heap[k]? := fun k hk => (hw k (by omega)).trans (hb.block k hk)
  have t : Turn ⟨b, fun _ => False⟩ ⟨b, NR ⟨g11, Ap, cp, As, cs, .slice Ak 0 ck, .slice Aa 0 ca⟩⟩ w11 w14 := ⟨⟨by omega, fun k hk => still k hk.1⟩, rfl, fun k hk => by
    rcases hk with x | x
    · exact .inr (own_base o3 k x)
    · exact .inr (own_base o4 k x), fun k hk => by
    rcases hk with x | x
    · obtain ⟨cs, hcc⟩ := own_typed o3 k x
      have := blk_lt hcc
      omega
    · obtain ⟨cs, hcc⟩ := own_typed o4 k x
      have := blk_lt hcc
      omega⟩
  have k1 : 0 < picks.length → ∀ a, Ap = some a → w14.heap[a.block]? = w12.heap[a.block]? := fun hn a e => hw _ (kdC_in hC1 hn e)
  have k2 : 0 < sizes.length → ∀ a, As = some a → w14.heap[a.block]? = w12.heap[a.block]? := fun hn a e => hw _ (kdC_in hC2 hn e)
  have C1 : Kd.C (Kd.int .i64) w14 Ap picks.length picks := kdC_keep hC1 k1
  have C2 : Kd.C (Kd.int .i64) w14 As sizes.length sizes := kdC_keep hC2 k2
  have m3 : w14.ownsRow b 3 1 (.slice Ak 0 ck) 0 (nums .i64 []) := own_move (own_weaken o3 hb1) (blkOf o3)
  have m4 : w14.ownsRow b 3 1 (.slice Aa 0 ca) 0 (nums .i64 []) := own_move (own_weaken o4 hb1) (blkOf o4)
  refine ⟨⟨LV.at_.turn t fun k hk => still k (LV.at_.lt hk), LV.ps, LV.inv, LV.gs⟩, ⟨hc, (by show b ≤ g11; omega), C1, hcp, C2, hcs, m3, m4, fun k q z => ?_, fun hn a e => ⟨fun z => ?_, fun z => ?_, ?_⟩, fun hn a e => ⟨fun z => ?_, fun z => ?_, ?_⟩⟩, ⟨C1, fun hn a e => ?_⟩, ⟨C2, fun hn a e => ?_⟩⟩
  · exact (R3.1 k q).2.2 z.symm
  · exact (R1.1 a.block (own_at o1 e hn)).2.1 z.symm
  · exact (R1.1 a.block (own_at o1 e hn)).2.2 z.symm
  · have := kdC_in hC1 hn e
    show a.block ≠ g11
    omega
  · exact (R2.1 a.block (own_at o2 e hn)).2.1 z.symm
  · exact (R2.1 a.block (own_at o2 e hn)).2.2 z.symm
  · have := kdC_in hC2 hn e
    show a.block ≠ g11
    omega
  · obtain ⟨cs', hcc⟩ := own_typed o1 _ (own_at o1 e hn)
    refine ⟨Nat.lt_of_lt_of_le (blk_lt hcc) hs, .inr ⟨_, _, _, (k1 hn a e).trans hcc, rfl, fun _ hN => ?_⟩⟩
    have := R1.1 a.block (own_at o1 e hn)
    rcases hN with x | x
    · exact this.2.1 x.symm
    · exact this.2.2 x.symm
  · obtain ⟨cs', hcc⟩ := own_typed o2 _ (own_at o2 e hn)
    refine ⟨Nat.lt_of_lt_of_le (blk_lt hcc) hs, .inr ⟨_, _, _, (k2 hn a e).trans hcc, rfl, fun _ hN => ?_⟩⟩
    have := R2.1 a.block (own_at o2 e hn)
    rcases hN with x | x
    · exact this.2.1 x.symm
    · exact this.2.2 x.symm
end Go.Proofs.Ytfhjdhhflpekiaa.G
