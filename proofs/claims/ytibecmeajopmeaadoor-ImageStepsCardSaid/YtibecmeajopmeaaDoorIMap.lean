/- An image's pixels in memory: a map from places to sums. -/
import Derived.Test.YtibecmeajopmeaaDoorILine
import Derived.Maps.OwnSet
import Derived.Maps.Keyed
import Derived.Maps.OwnOps
import Derived.Maps.Views
import Derived.DeepKeys4
namespace Go.Proofs.YtibecmeajopmeaaDoor.G
open Go.RowKit Go.Proofs.YtibecmeajopmeaaDoorW.PrintWords Go.Proofs.YtibecmeajopmeaaDoorW.PrintLast Go.Proofs.YtibecmeajopmeaaDoorW.PrintMore
open Go.ChangeMaps Go.MapKept Go.WideShapes
set_option linter.unusedVariables false
set_option linter.unusedSimpArgs false
def I64 (i : Int) : Prop := -9223372036854775808 ≤ i ∧ i ≤ 9223372036854775807
theorem wf_i64 {i : Int} (h : I64 i) : (Lit.int .i64 i).wf = true := by
  have e1 : IntKind.i64.min = -9223372036854775808 := by decide
  have e2 : IntKind.i64.max = 9223372036854775807 := by decide
  show (decide (IntKind.i64.min ≤ i) && decide (i ≤ IntKind.i64.max)) = true
  rw [e1, e2, Bool.and_eq_true, decide_eq_true_iff, decide_eq_true_iff]
  exact h
/-- A pixel: the sums of its samples, and how many they are. -/
structure Px where
  r : Int
  g : Int
  b : Int
  n : Int
def Px.zero : Px := ⟨0, 0, 0, 0⟩
def Px.val (p : Px) : Value := .agg #[.int .i64 p.r, .int .i64 p.g, .int .i64 p.b, .int .i64 p.n]
def pd (p : Px) : DataW Unit := .agg [.lit (.int .i64 p.r), .lit (.int .i64 p.g), .lit (.int .i64 p.b), .lit (.int .i64 p.n)]
theorem pd_inj {p q : Px} (h : pd p = pd q) : p = q := by
  cases p; cases q
  simp [pd] at h
  simp [h]
theorem val_inj {p q : Px} (h : p.val = q.val) : p = q := by
  cases p; cases q
  simp [Px.val] at h
  simp [h]
open Classical in
/-- How a pixel in the map reads. -/
noncomputable def pxR (v : Value) : Option (DataW Unit × List MemPlace) := if h : ∃ p : Px, v = p.val then some (pd (Classical.choose h), []) else none
theorem pxR_val (p : Px) : pxR p.val = some (pd p, []) := by
  have h : ∃ q : Px, p.val = q.val := ⟨p, rfl⟩
  unfold pxR
  rw [dif_pos h, ← val_inj (Classical.choose_spec h)]
theorem pxR_inv {v : Value} {p : Px} {ps : List MemPlace} (h : pxR v = some (pd p, ps)) : v = p.val := by
  unfold pxR at h
  split at h
  · rename_i hc
    injection h with h
    injection h with h _
    rw [← pd_inj h]
    exact Classical.choose_spec hc
  · cases h
theorem laidOut : laidOutB Tryd.prog = true := by kernel_rfl
theorem row52 : (52 : TypeId) < Tryd.prog.types.size := of_decide_eq_true (by kernel_rfl)
theorem wide52 : (match Tryd.prog.underlying 52 with | some (.array _ _) | some (.struct _) => true | _ => false) = true := by rw [Tryd.underlying52]
theorem law52 : Maps.Keyed Tryd.prog 52 := Maps.Keyed.of_law (deep_law_laid laidOut (m := 2) (by omega) row52 (by kernel_rfl) wide52)
def spot (x y : Int) : Value := .agg #[.int .i64 x, .int .i64 y]
theorem cells52 : Tryd.prog.cellsOf 52 = 2 := by kernel_rfl
theorem cellsOf3 : Tryd.prog.cellsOf 3 = 1 := by kernel_rfl
theorem keyType52 : Tryd.prog.keyType 52 = true := by kernel_rfl
theorem key_some {x y : Int} (hx : I64 x) (hy : I64 y) : ∃ l, keyOf Tryd.prog 52 (spot x y) = some l := by
  obtain ⟨m, hm⟩ : ∃ m, Tryd.prog.types.size = m + 1 := ⟨_, (Nat.succ_pred_eq_of_pos (Nat.lt_of_le_of_lt (Nat.zero_le _) row52)).symm⟩
  have h1 := wf_i64 hx
  have h2 := wf_i64 hy
  have hf : (spot x y).formed Tryd.prog 52 = true := by simp [spot, Value.formed, Tryd.underlying52, cells52]
  unfold keyOf
  rw [Tryd.underlying52]
  simp only [keyType52, hf, Bool.and_self, if_true, hm]
  simp [spot, Value.cells, Program.keyLits, Tryd.underlying52, Tryd.underlying3, cells52, cellsOf3, h1, h2]
theorem spot_inj {x y x' y' : Int} (h : spot x y = spot x' y') : x = x' ∧ y = y' := by
  simpa [spot] using h
/-- Block b is a map that gives each place its pixel. -/
def PMap (w : World) (b n : Nat) (M : Int → Int → Px) : Prop :=
  ∃ D : DataW Unit, w.ownsMap Tryd.prog 52 pxR b n D ∧ Maps.Tidy D ∧ ∀ x y l, keyOf Tryd.prog 52 (spot x y) = some l → D.atKey l (pd Px.zero) = pd (M x y)
theorem zero50 (w : World) : (zeroValue 50).run Tryd.prog w = .ok Px.zero.val w := by kernel_rfl
def setM (M : Int → Int → Px) (x y : Int) (p : Px) : Int → Int → Px := fun x' y' => if x' = x ∧ y' = y then p else M x' y'
section
variable {w w1 : World} {b n : Nat} {M : Int → Int → Px}
theorem PMap.lt (h : PMap w b n M) : b < w.heap.size := by
  obtain ⟨D, h, _⟩ := h
  exact h.lt
theorem PMap.same (h : PMap w b n M) (e : w1.heap[b]? = w.heap[b]?) : PMap w1 b n M := by
  obtain ⟨D, ⟨es, c, hb, r⟩, q⟩ := h
  exact ⟨D, ⟨es, c, e.trans hb, r⟩, q⟩
theorem PMap.no_cells (h : PMap w b n M) {cs : Array Value} {t : TypeId} {fr : Nat × Nat} : w.heap[b]? ≠ some (.cells cs t fr) := fun e => by
  obtain ⟨D, ⟨es, c, hb, r⟩, q⟩ := h
  rw [hb] at e
  cases e
theorem PMap.others {e : TypeId} {k : Nat} (h : PMap w b n M) (ho : Lib.OthersKept e (some k) w w1) (hk : b ≠ k) : PMap w1 b n M := by
  obtain ⟨D, ⟨es, c, hb, r⟩, q⟩ := h
  refine ⟨D, ⟨es, c, ho b _ hb (fun x => hk (by injection x)) (fun c fz e => by cases e), r⟩, q⟩
theorem PMap.mono {m : Nat} (h : PMap w b n M) (hm : n ≤ m) : PMap w b m M := by
  obtain ⟨D, h, q⟩ := h
  exact ⟨D, h.mono hm, q⟩
theorem PMap.made (w : World) : PMap (w.alloc (.map #[] 0)) w.heap.size 0 (fun _ _ => Px.zero) :=
  ⟨.map [], World.ownsMap_made _ _ _ _, Maps.tidy_empty, fun x y l _ => rfl⟩
theorem PMap.look (h : PMap w b n M) {x y : Int} (hx : I64 x) (hy : I64 y) : (Instr.lookup 44 (.map (some b)) (spot x y) false).run Tryd.prog w = .ok (M x y).val w := by
  obtain ⟨D, h, ht, hM⟩ := h
  obtain ⟨l, hl⟩ := key_some hx hy
  obtain ⟨v, ps, hrun, hv⟩ := h.lookup law52 Tryd.underlying44 (zero50 w) (pxR_val _) hl
  rw [hM x y l hl] at hv
  rw [hrun, pxR_inv hv]
theorem pmap_put {D : DataW Unit} {x y : Int} {l : Lit} {p : Px} (h : w1.ownsMap Tryd.prog 52 pxR b (n + 1) (D.put l (pd p))) (ht : Maps.Tidy D) (hM : ∀ x y l, keyOf Tryd.prog 52 (spot x y) = some l → D.atKey l (pd Px.zero) = pd (M x y)) (hl : keyOf Tryd.prog 52 (spot x y) = some l) : PMap w1 b (n + 1) (setM M x y p) := by
  have hk : WideAt.IsKeyLit l := law52.key hl
  refine ⟨_, h, ht.put hk _, fun x' y' l' hl' => ?_⟩
  by_cases e : l' = l
  · subst e
    have := spot_inj (law52.inj hl hl')
    rw [Maps.atKey_put_same ht.isMap hk]
    unfold setM
    rw [if_pos ⟨this.1.symm, this.2.symm⟩]
  · rw [Maps.atKey_put_other e, hM x' y' l' hl']
    unfold setM
    rw [if_neg]
    rintro ⟨rfl, rfl⟩
    rw [hl] at hl'
    injection hl' with hl'
    exact e hl'.symm
end
section
variable {ops : Array Oper} {rest : List Oper} {o : Oper} {a : Act} {Q : Exit → Act → World → Prop}
theorem map_event {W : World} (hgd : o.guard = none) {N : Tmp} (_hd : o.dst = some N) (hrun : (execOp a.eval o).run Tryd.prog W = .ok (.value (.map (some W.heap.size))) (W.alloc (.map #[] 0)))
    (h : ∀ b, b = W.heap.size → ∀ w1, PMap w1 b 0 (fun _ _ => Px.zero) → Below W.heap.size W w1 → wpList Tryd.prog ops Q rest (a.put o.dst (.map (some b))) w1) : wpList Tryd.prog ops Q (o :: rest) a W :=
  Kd.event_run hgd hrun (h _ rfl _ (PMap.made W) (below_alloc (Below.refl _ _) _))
theorem put_event {W : World} (hg : o.guard = none) (m x v : Operand) (hop : o.op = Op.mapUpdate 44 m x v) (b n : Nat) (M : Int → Int → Px) (hm : a.eval m = .map (some b)) (hs : PMap W b n M) (hn : n < maxLen) (i j : Int) (p : Px) (hx : a.eval x = spot i j) (hv : a.eval v = p.val) (hi : I64 i) (hj : I64 j)
    (h : ∀ w1, PMap w1 b (n + 1) (setM M i j p) → W.grownBy w1 (some b) → wpList Tryd.prog ops Q rest (a.put o.dst undef) w1) : wpList Tryd.prog ops Q (o :: rest) a W := by
  obtain ⟨l, hl⟩ := key_some hi hj
  obtain ⟨D, hown, ht, hM⟩ := hs
  exact wpList_mapUpdate_own W hg m x v 44 hop 52 50 law52 Tryd.underlying44 pxR b n D hm hown hn _ _ l hx hv hl (pd p) [] (pxR_val p) fun w1 h1 hg1 => h w1 (pmap_put h1 ht hM hl) hg1
end
end Go.Proofs.YtibecmeajopmeaaDoor.G
