/- The set of the numbers that were got, as a map. -/
import Derived.Test.YtfhjdhhflpekiaaCTwoA
import Derived.Test.YtfhjdhhflpekiaaCGreatP
import Derived.Maps.OwnSet
import Derived.Maps.Keyed
namespace Go.Proofs.Ytfhjdhhflpekiaa.G
open Go.RowKit Go.Proofs.Cache Go.Proofs.YtfhjdhhflpekiaaW.PrintWords Go.Proofs.YtfhjdhhflpekiaaW.PrintLast Go.Proofs.YtfhjdhhflpekiaaW.PrintMore
open Go.ChangeMaps Go.MapKept Go.WideShapes
set_option linter.unusedVariables false
set_option linter.unusedSimpArgs false
/-- Block b is a map from just the numbers of L, that are all true. -/
def Seen (w : World) (b n : Nat) (L : List Int) : Prop :=
  ∃ D : DataW Unit, w.ownsMap Try.prog 3 (plainElem Try.prog 4) b n D ∧ Maps.Tidy D ∧ Maps.size D = L.length ∧ ∀ x, Maps.has D (.int .i64 x) = decide (x ∈ L)
section
variable {w w1 : World} {b n : Nat} {L : List Int}
theorem Seen.lt (h : Seen w b n L) : b < w.heap.size := by
  obtain ⟨D, h, _⟩ := h
  exact h.lt
theorem Seen.same (h : Seen w b n L) (e : w1.heap[b]? = w.heap[b]?) : Seen w1 b n L := by
  obtain ⟨D, ⟨es, c, hb, r⟩, q⟩ := h
  exact ⟨D, ⟨es, c, e.trans hb, r⟩, q⟩
theorem Seen.below (h : Seen w b n L) (hb : Below w.heap.size w w1) : Seen w1 b n L := h.same (hb.block b h.lt)
theorem Seen.no_cells (h : Seen w b n L) {cs : Array Value} {t : TypeId} {fr : Nat × Nat} : w.heap[b]? ≠ some (.cells cs t fr) := fun e => by
  obtain ⟨D, ⟨es, c, hb, r⟩, q⟩ := h
  rw [hb] at e
  cases e
theorem Seen.but (h : Seen w b n L) {k : Nat} {old : Array Value} {t : TypeId} (hg : w.heap[k]? = some (.cells old t (0, 0))) (hk : ∀ i, i ≠ k → w1.heap[i]? = w.heap[i]?) : Seen w1 b n L :=
  h.same (hk b (by rintro rfl; exact h.no_cells hg))
theorem Seen.left {B : Nat} {sizes : List Int} {s s1 : Cs} (h : Seen w b n L) (hc : CacheAt B sizes w s) (l : Left B sizes NoX w s w1 s1) : Seen w1 b n L :=
  h.same (l.frame.keep b h.lt fun hm => by
    obtain ⟨_, cs, t, hb, _⟩ := hc.typed hm
    exact h.no_cells hb)
theorem Seen.made (w : World) : Seen (w.alloc (.map #[] 0)) w.heap.size 0 [] :=
  ⟨.map [], World.ownsMap_made _ _ _ _, Maps.tidy_empty, rfl, fun x => rfl⟩
theorem Seen.len (h : Seen w b n L) (ty : TypeId) : (Builtin.len_ #[56] ty #[.map (some b)]).run Try.prog w = .ok (.int .i64 L.length) w := by
  obtain ⟨D, h, _, e, _⟩ := h
  rw [h.len Try.underlying56 ty, e]
/-- One more number. -/
def addId (L : List Int) (x : Int) : List Int := if x ∈ L then L else L ++ [x]
theorem Seen.mono {m : Nat} (h : Seen w b n L) (hm : n ≤ m) : Seen w b m L := by
  obtain ⟨D, h, q⟩ := h
  exact ⟨D, h.mono hm, q⟩
theorem seen_put {D : DataW Unit} {x : Int} (h : w1.ownsMap Try.prog 3 (plainElem Try.prog 4) b (n + 1) (D.put (.int .i64 x) (.lit (.bool true)))) (ht : Maps.Tidy D) (hs : Maps.size D = L.length) (hh : ∀ x, Maps.has D (.int .i64 x) = decide (x ∈ L)) : Seen w1 b (n + 1) (addId L x) := by
  refine ⟨_, h, ht.put (by simp [WideAt.IsKeyLit]) _, ?_, fun y => ?_⟩
  · rw [Maps.size_put ht, hh, hs]
    unfold addId
    by_cases c : x ∈ L
    · rw [decide_eq_true c, if_pos rfl, if_pos c]
    · rw [decide_eq_false c, if_neg (by simp), if_neg c]
      simp
  · by_cases e : y = x
    · subst e
      rw [Maps.has_put_same ht.isMap (by simp [WideAt.IsKeyLit])]
      unfold addId
      symm
      apply decide_eq_true
      split
      · assumption
      · simp
    · rw [Maps.has_put_other (by simpa using e), hh]
      unfold addId
      by_cases c : x ∈ L
      · rw [if_pos c]
      · rw [if_neg c]
        simp [e]
theorem Live.grown {B : Nat} {sizes : List Int} {g : Nat} {p : PS} {s : Cs} (h : Live B sizes w g p s) {m : Nat} (hm : Seen w b m L) (hB : B ≤ b) (hg : w.grownBy w1 (some b)) : Live B sizes w1 g p s := by
  refine ⟨h.at_.move ⟨hg.size, fun k hk => hg.block k hk.1 ?_⟩ fun k hk => hg.block k (h.at_.lt hk) ?_, h.ps, h.inv, h.gs⟩
  · rintro e
    injection e with e
    subst e
    rcases hk.2 with x | ⟨cs, t, fr, hb, _⟩
    · omega
    · exact hm.no_cells hb
  · rintro e
    injection e with e
    subst e
    obtain ⟨_, cs, t, hb, _⟩ := h.at_.typed hk
    exact hm.no_cells hb
end
section
variable {ops : Array Oper} {rest : List Oper} {o : Oper} {a : Act} {Q : Exit → Act → World → Prop}
/-- A map is made. -/
theorem map_event {W : World} (hgd : o.guard = none) {N : Tmp} (_hd : o.dst = some N) (hrun : (execOp a.eval o).run Try.prog W = .ok (.value (.map (some W.heap.size))) (W.alloc (.map #[] 0)))
    (h : ∀ b, b = W.heap.size → ∀ w1, Seen w1 b 0 [] → Below W.heap.size W w1 → wpList Try.prog ops Q rest (a.put o.dst (.map (some b))) w1) : wpList Try.prog ops Q (o :: rest) a W :=
  Kd.event_run hgd hrun (h _ rfl _ (Seen.made W) (below_alloc (Below.refl _ _) _))
/-- A number is put into the set. -/
theorem seen_event {W : World} (hg : o.guard = none) (m x v : Operand) (hop : o.op = Op.mapUpdate 56 m x v) (b n : Nat) (L : List Int) (hm : a.eval m = .map (some b)) (hs : Seen W b n L) (hn : n < maxLen) (i : Int) (hx : a.eval x = .int .i64 i) (hv : a.eval v = .bool true) (hi : I64 i)
    (h : ∀ w1, Seen w1 b (n + 1) (addId L i) → W.grownBy w1 (some b) → wpList Try.prog ops Q rest (a.put o.dst undef) w1) : wpList Try.prog ops Q (o :: rest) a W := by
  have hwf : (Lit.int .i64 i).wf = true := by
    have e1 : IntKind.i64.min = -9223372036854775808 := by decide
    have e2 : IntKind.i64.max = 9223372036854775807 := by decide
    show (decide (IntKind.i64.min ≤ i) && decide (i ≤ IntKind.i64.max)) = true
    rw [e1, e2, Bool.and_eq_true, decide_eq_true_iff, decide_eq_true_iff]
    exact hi
  obtain ⟨D, hown, ht, hsz, hh⟩ := hs
  exact wpList_mapUpdate_own W hg m x v 56 hop 3 4 (Maps.int_keyed Try.underlying3) Try.underlying56 _ b n D hm hown hn _ _ (.int .i64 i) hx hv (Maps.keyOf_int_mk Try.underlying3 hwf) _ [] (plainElem_bool Try.underlying4 true) fun w1 h1 hg1 => h w1 (seen_put h1 ht hsz hh) hg1
end
end Go.Proofs.Ytfhjdhhflpekiaa.G
