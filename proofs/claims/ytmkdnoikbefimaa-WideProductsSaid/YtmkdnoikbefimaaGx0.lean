-- Written by a program of this session (wip/gen), out of the translation; Lean checks it.
import Derived.Test.YtmkdnoikbefimaaProg
import Derived.Below
import Derived.Deep.Draws
import Derived.Deep.AppendLies
import Derived.Maps.AppendAt
import Derived.OwnWalk
import Derived.Laws.BytesArg
import Derived.Laws.MakeOwn
import Derived.Laws.OwnMore
import Derived.Deep.OwnRows
import Derived.Tactics
import Derived.Lib.ConvBytes
import Derived.Laws.Slices
import Derived.WalkKit
import Derived.KernelRfl
import Derived.RowKit3
import Derived.Deep.LoopGhost
import Derived.Deep.QuietTactic
import Derived.BigQuiet
import Derived.WideLaws
import Derived.Deep.DeepCutAuto
import Derived.Deep.CutBlock
import Derived.Deep.RegionHeld3
import Derived.Laws.Rows
import Derived.Lib.AppendStr
import Derived.ArgAppend
import Derived.Laws.IdiomCopy
import Derived.OrdersHeld
import Derived.Laws.BitsLemmas
import Derived.RowKit
import Derived.Test.YtmkdnoikbefimaaWWords
import Derived.Test.YtmkdnoikbefimaaWLast
import Derived.Test.YtmkdnoikbefimaaWTab
import Derived.Test.YtmkdnoikbefimaaWFour
import Derived.Test.YtmkdnoikbefimaaWQPut
import Derived.Test.YtmkdnoikbefimaaWApart
import Derived.Test.YtmkdnoikbefimaaWArr
import Derived.Test.YtmkdnoikbefimaaWZeros
import Derived.Test.YtmkdnoikbefimaaWFoot
import Derived.Test.YtmkdnoikbefimaaWKept
import Derived.Test.YtmkdnoikbefimaaWShare
import Derived.Test.YtmkdnoikbefimaaWN
import Derived.Test.YtmkdnoikbefimaaWFootNe
import Derived.Test.YtmkdnoikbefimaaWAt
import Derived.Test.YtmkdnoikbefimaaWEqStruct
import Derived.Test.YtmkdnoikbefimaaWRepsOne
import Derived.Test.YtmkdnoikbefimaaWInv
import Derived.Test.YtmkdnoikbefimaaWInvWords
import Derived.Test.YtmkdnoikbefimaaWGuard
import Derived.Test.YtmkdnoikbefimaaWNEv
import Derived.Test.YtmkdnoikbefimaaWMore
namespace Go.Proofs.Ytmkdnoikbefimaa.G
open Go.RowKit Go.Proofs.YtmkdnoikbefimaaW.PrintWords Go.Proofs.YtmkdnoikbefimaaW.PrintLast Go.Proofs.YtmkdnoikbefimaaW.PrintMore
attribute [local go_sem] max2_int min2_int max_two min_two max_three min_three max_four min_four   -- for this text's walks alone
set_option linter.unusedVariables false
set_option linter.unusedSimpArgs false



def errW : Option Int → Value
  | none => .nilIface
  | some c => .iface 0 (.int .i64 c)
theorem errW_none : errW none = .nilIface := rfl
theorem errW_some (c : Int) : errW (some c) = .iface 0 (.int .i64 c) := rfl

theorem cells2 {W : World} {g : Nat} {t : TypeId} {a0 a1 : Value} (h : W.heap[g]? = some (.cells #[a0, a1] t (0, 0))) : W.cell? ⟨g, 0, none⟩ = some a0 ∧ W.cell? ⟨g, 1, none⟩ = some a1 := ⟨(blk_cell h 0).trans rfl, (blk_cell h 1).trans rfl⟩
theorem cells4 {W : World} {g : Nat} {t : TypeId} {a0 a1 a2 a3 : Value} (h : W.heap[g]? = some (.cells #[a0, a1, a2, a3] t (0, 0))) : W.cell? ⟨g, 0, none⟩ = some a0 ∧ W.cell? ⟨g, 1, none⟩ = some a1 ∧ W.cell? ⟨g, 2, none⟩ = some a2 ∧ W.cell? ⟨g, 3, none⟩ = some a3 := ⟨(blk_cell h 0).trans rfl, (blk_cell h 1).trans rfl, (blk_cell h 2).trans rfl, (blk_cell h 3).trans rfl⟩
theorem cf {w : World} {g h i j : Nat} {u : Value} {x : Option Value} (hp : h ≠ g) (hc : w.cell? ⟨h, i, none⟩ = x) : (w.setCell ⟨g, j, none⟩ u).cell? ⟨h, i, none⟩ = x := (cell_far (p := ⟨g, j, none⟩) hp u).trans hc
theorem bB {w w1 : World} {g : Nat} {o : Obj} (hb : Below w.heap.size w w1) (h : w.heap[g]? = some o) : w1.heap[g]? = some o := blk_below h hb
theorem bN {W : World} {g g1 : Nat} {o : Obj} (hg : g1 = W.heap.size) (h : W.heap[g]? = some o) : g ≠ g1 := by rw [hg]; exact Nat.ne_of_lt (blk_lt h)
theorem bM {W : World} {g g1 : Nat} {o : Obj} (hg : g1 = W.heap.size) (h : W.heap[g]? = some o) : g1 ≠ g := by rw [hg]; exact Nat.ne_of_gt (blk_lt h)
theorem bG {w W : World} {g : Nat} (hg : g = W.heap.size) (h : Below w.heap.size w W) : w.heap.size ≤ g := by rw [hg]; exact h.size
theorem cB {w w1 : World} {g : Nat} {o : Obj} (hb : Below w.heap.size w w1) (h : Aside0 (w.heap[g]? = some o)) : Aside0 (w1.heap[g]? = some o) := ⟨blk_below h.out hb⟩
theorem cN {W : World} {g g1 : Nat} {o : Obj} (hg : g1 = W.heap.size) (h : Aside0 (W.heap[g]? = some o)) : Aside0 (g ≠ g1) := ⟨bN hg h.out⟩
theorem cM {W : World} {g g1 : Nat} {o : Obj} (hg : g1 = W.heap.size) (h : Aside0 (W.heap[g]? = some o)) : Aside0 (g1 ≠ g) := ⟨bM hg h.out⟩
theorem bF {w w1 : World} {g : Nat} {o : Obj} (hw : w = w1) (h : w.heap[g]? = some o) : w1.heap[g]? = some o := hw ▸ h
theorem bH {w W W1 : World} (hw : W = W1) (h : Below w.heap.size w W) : Below w.heap.size w W1 := hw ▸ h
theorem info3 : (Try.prog.info? 3).map (fun i => (i.zero, i.size, i.bytes)) = some (some (.int .i64 0), 1, 8) := by kernel_rfl
-- the values' own types

end Go.Proofs.Ytmkdnoikbefimaa.G
