-- Written by a program of this session (wip/gen), out of the translation; Lean checks it.
import Derived.Test.YtfmbophennepdaaProg
import Derived.Below
import Derived.Deep.Draws
import Derived.Deep.AppendLies
import Derived.Maps.AppendAt
import Derived.OwnWalk
import Derived.Laws.BytesArg
import Derived.Laws.MakeOwn
import Derived.Laws.OwnMore
import Derived.Deep.OwnRows
import Derived.Tactics
import Derived.Lib.ConvBytes
import Derived.Laws.Slices
import Derived.WalkKit
import Derived.KernelRfl
import Derived.RowKit3
import Derived.Deep.LoopGhost
import Derived.Deep.QuietTactic
import Derived.BigQuiet
import Derived.WideLaws
import Derived.Deep.DeepCutAuto
import Derived.Deep.CutBlock
import Derived.Deep.RegionHeld3
import Derived.Laws.Rows
import Derived.Lib.AppendStr
import Derived.ArgAppend
import Derived.Laws.IdiomCopy
import Derived.OrdersHeld
import Derived.Laws.BitsLemmas
import Derived.RowKit
import Derived.Test.YtfmbophennepdaaWWords
import Derived.Test.YtfmbophennepdaaWLast
import Derived.Test.YtfmbophennepdaaWTab
import Derived.Test.YtfmbophennepdaaWApart
import Derived.Test.YtfmbophennepdaaWFoot
import Derived.Test.YtfmbophennepdaaWKept
import Derived.Test.YtfmbophennepdaaWShare
import Derived.Test.YtfmbophennepdaaWN
import Derived.Test.YtfmbophennepdaaWEqStruct
import Derived.Test.YtfmbophennepdaaWRepsOne
import Derived.Test.YtfmbophennepdaaWInv
import Derived.Test.YtfmbophennepdaaWGuard
import Derived.Test.YtfmbophennepdaaWMore
namespace Go.Proofs.Ytfmbophennepdaa.G
open Go.RowKit Go.Proofs.YtfmbophennepdaaW.PrintWords Go.Proofs.YtfmbophennepdaaW.PrintLast Go.Proofs.YtfmbophennepdaaW.PrintMore
attribute [local go_sem] max2_int min2_int max_two min_two max_three min_three max_four min_four   -- for this text's walks alone
set_option linter.unusedVariables false
set_option linter.unusedSimpArgs false



def errW : Option Int → Value
  | none => .nilIface
  | some c => .iface 0 (.int .i64 c)
theorem errW_none : errW none = .nilIface := rfl
theorem errW_some (c : Int) : errW (some c) = .iface 0 (.int .i64 c) := rfl

theorem idx43_0 (w : World) (a0 a1 a2 a3 a4 a5 a6 a7 a8 : Value) : (Instr.index 43 (.agg #[a0, a1, a2, a3, a4, a5, a6, a7, a8]) (.int .i64 0)).run Try.prog w = .ok (.agg #[a0, a1, a2]) w := by kernel_rfl
theorem idx43_1 (w : World) (a0 a1 a2 a3 a4 a5 a6 a7 a8 : Value) : (Instr.index 43 (.agg #[a0, a1, a2, a3, a4, a5, a6, a7, a8]) (.int .i64 1)).run Try.prog w = .ok (.agg #[a3, a4, a5]) w := by kernel_rfl
theorem idx43_2 (w : World) (a0 a1 a2 a3 a4 a5 a6 a7 a8 : Value) : (Instr.index 43 (.agg #[a0, a1, a2, a3, a4, a5, a6, a7, a8]) (.int .i64 2)).run Try.prog w = .ok (.agg #[a6, a7, a8]) w := by kernel_rfl
theorem wl0 : wrap64 0 = 0 := by unfold wrap64; decide
theorem wl1 : wrap64 1 = 1 := by unfold wrap64; decide
theorem wl2 : wrap64 2 = 2 := by unfold wrap64; decide
theorem wl3 : wrap64 3 = 3 := by unfold wrap64; decide
theorem wl4 : wrap64 4 = 4 := by unfold wrap64; decide
theorem wl5 : wrap64 5 = 5 := by unfold wrap64; decide
theorem tm0_3 : Int.tmod 0 3 = 0 := by decide
theorem tm1_3 : Int.tmod 1 3 = 1 := by decide
theorem tm2_3 : Int.tmod 2 3 = 2 := by decide
theorem tm3_3 : Int.tmod 3 3 = 0 := by decide
theorem tm4_3 : Int.tmod 4 3 = 1 := by decide
theorem tm5_3 : Int.tmod 5 3 = 2 := by decide
theorem cells2 {W : World} {g : Nat} {t : TypeId} {a0 a1 : Value} (h : W.heap[g]? = some (.cells #[a0, a1] t (0, 0))) : W.cell? ⟨g, 0, none⟩ = some a0 ∧ W.cell? ⟨g, 1, none⟩ = some a1 := ⟨(blk_cell h 0).trans rfl, (blk_cell h 1).trans rfl⟩
theorem cells3 {W : World} {g : Nat} {t : TypeId} {a0 a1 a2 : Value} (h : W.heap[g]? = some (.cells #[a0, a1, a2] t (0, 0))) : W.cell? ⟨g, 0, none⟩ = some a0 ∧ W.cell? ⟨g, 1, none⟩ = some a1 ∧ W.cell? ⟨g, 2, none⟩ = some a2 := ⟨(blk_cell h 0).trans rfl, (blk_cell h 1).trans rfl, (blk_cell h 2).trans rfl⟩
theorem cells4 {W : World} {g : Nat} {t : TypeId} {a0 a1 a2 a3 : Value} (h : W.heap[g]? = some (.cells #[a0, a1, a2, a3] t (0, 0))) : W.cell? ⟨g, 0, none⟩ = some a0 ∧ W.cell? ⟨g, 1, none⟩ = some a1 ∧ W.cell? ⟨g, 2, none⟩ = some a2 ∧ W.cell? ⟨g, 3, none⟩ = some a3 := ⟨(blk_cell h 0).trans rfl, (blk_cell h 1).trans rfl, (blk_cell h 2).trans rfl, (blk_cell h 3).trans rfl⟩
theorem cells5 {W : World} {g : Nat} {t : TypeId} {a0 a1 a2 a3 a4 : Value} (h : W.heap[g]? = some (.cells #[a0, a1, a2, a3, a4] t (0, 0))) : W.cell? ⟨g, 0, none⟩ = some a0 ∧ W.cell? ⟨g, 1, none⟩ = some a1 ∧ W.cell? ⟨g, 2, none⟩ = some a2 ∧ W.cell? ⟨g, 3, none⟩ = some a3 ∧ W.cell? ⟨g, 4, none⟩ = some a4 := ⟨(blk_cell h 0).trans rfl, (blk_cell h 1).trans rfl, (blk_cell h 2).trans rfl, (blk_cell h 3).trans rfl, (blk_cell h 4).trans rfl⟩
theorem cells9 {W : World} {g : Nat} {t : TypeId} {a0 a1 a2 a3 a4 a5 a6 a7 a8 : Value} (h : W.heap[g]? = some (.cells #[a0, a1, a2, a3, a4, a5, a6, a7, a8] t (0, 0))) : W.cell? ⟨g, 0, none⟩ = some a0 ∧ W.cell? ⟨g, 1, none⟩ = some a1 ∧ W.cell? ⟨g, 2, none⟩ = some a2 ∧ W.cell? ⟨g, 3, none⟩ = some a3 ∧ W.cell? ⟨g, 4, none⟩ = some a4 ∧ W.cell? ⟨g, 5, none⟩ = some a5 ∧ W.cell? ⟨g, 6, none⟩ = some a6 ∧ W.cell? ⟨g, 7, none⟩ = some a7 ∧ W.cell? ⟨g, 8, none⟩ = some a8 := ⟨(blk_cell h 0).trans rfl, (blk_cell h 1).trans rfl, (blk_cell h 2).trans rfl, (blk_cell h 3).trans rfl, (blk_cell h 4).trans rfl, (blk_cell h 5).trans rfl, (blk_cell h 6).trans rfl, (blk_cell h 7).trans rfl, (blk_cell h 8).trans rfl⟩
theorem cf {w : World} {g h i j : Nat} {u : Value} {x : Option Value} (hp : h ≠ g) (hc : w.cell? ⟨h, i, none⟩ = x) : (w.setCell ⟨g, j, none⟩ u).cell? ⟨h, i, none⟩ = x := (cell_far (p := ⟨g, j, none⟩) hp u).trans hc
theorem bB {w w1 : World} {g : Nat} {o : Obj} (hb : Below w.heap.size w w1) (h : w.heap[g]? = some o) : w1.heap[g]? = some o := blk_below h hb
theorem bN {W : World} {g g1 : Nat} {o : Obj} (hg : g1 = W.heap.size) (h : W.heap[g]? = some o) : g ≠ g1 := by rw [hg]; exact Nat.ne_of_lt (blk_lt h)
theorem bM {W : World} {g g1 : Nat} {o : Obj} (hg : g1 = W.heap.size) (h : W.heap[g]? = some o) : g1 ≠ g := by rw [hg]; exact Nat.ne_of_gt (blk_lt h)
theorem bG {w W : World} {g : Nat} (hg : g = W.heap.size) (h : Below w.heap.size w W) : w.heap.size ≤ g := by rw [hg]; exact h.size
theorem cB {w w1 : World} {g : Nat} {o : Obj} (hb : Below w.heap.size w w1) (h : Aside0 (w.heap[g]? = some o)) : Aside0 (w1.heap[g]? = some o) := ⟨blk_below h.out hb⟩
theorem cN {W : World} {g g1 : Nat} {o : Obj} (hg : g1 = W.heap.size) (h : Aside0 (W.heap[g]? = some o)) : Aside0 (g ≠ g1) := ⟨bN hg h.out⟩
theorem cM {W : World} {g g1 : Nat} {o : Obj} (hg : g1 = W.heap.size) (h : Aside0 (W.heap[g]? = some o)) : Aside0 (g1 ≠ g) := ⟨bM hg h.out⟩
theorem bF {w w1 : World} {g : Nat} {o : Obj} (hw : w = w1) (h : w.heap[g]? = some o) : w1.heap[g]? = some o := hw ▸ h
theorem bH {w W W1 : World} (hw : W = W1) (h : Below w.heap.size w W) : Below w.heap.size w W1 := hw ▸ h
theorem info3 : (Try.prog.info? 3).map (fun i => (i.zero, i.size, i.bytes)) = some (some (.int .i64 0), 1, 8) := by kernel_rfl
-- the values' own types

def bmL (k : Nat) : Nat → List Bool → List Bool
  | 0, r => r
  | n + 1, r => bmL k n (Nat.testBit k n :: r)
/-- A row of n bools, told by a number. -/
def bm (n k : Nat) : Array Bool := (bmL k n []).toArray
end Go.Proofs.Ytfmbophennepdaa.G
