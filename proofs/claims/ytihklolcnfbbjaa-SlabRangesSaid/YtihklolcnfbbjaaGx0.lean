-- Written by a program of this session (wip/gen), out of the translation; Lean checks it.
import Derived.Test.YtihklolcnfbbjaaProg
import Derived.Below
import Derived.Deep.Draws
import Derived.Deep.AppendLies
import Derived.Maps.AppendAt
import Derived.OwnWalk
import Derived.Laws.BytesArg
import Derived.Laws.MakeOwn
import Derived.Laws.OwnMore
import Derived.Deep.OwnRows
import Derived.Tactics
import Derived.Lib.ConvBytes
import Derived.Laws.Slices
import Derived.WalkKit
import Derived.KernelRfl
import Derived.RowKit3
import Derived.Deep.LoopGhost
import Derived.Deep.QuietTactic
import Derived.BigQuiet
import Derived.WideLaws
import Derived.Deep.DeepCutAuto
import Derived.Deep.CutBlock
import Derived.Deep.RegionHeld3
import Derived.Laws.Rows
import Derived.Lib.AppendStr
import Derived.ArgAppend
import Derived.Laws.IdiomCopy
import Derived.OrdersHeld
import Derived.Laws.BitsLemmas
import Derived.RowKit
import Derived.Test.YtihklolcnfbbjaaWWords
import Derived.Test.YtihklolcnfbbjaaWLast
import Derived.Test.YtihklolcnfbbjaaWTab
import Derived.Test.YtihklolcnfbbjaaWFour
import Derived.Test.YtihklolcnfbbjaaWQPut
import Derived.Test.YtihklolcnfbbjaaWApart
import Derived.Test.YtihklolcnfbbjaaWArr
import Derived.Test.YtihklolcnfbbjaaWZeros
import Derived.Test.YtihklolcnfbbjaaWFoot
import Derived.Test.YtihklolcnfbbjaaWKept
import Derived.Test.YtihklolcnfbbjaaWShare
import Derived.Test.YtihklolcnfbbjaaWN
import Derived.Test.YtihklolcnfbbjaaWFootNe
import Derived.Test.YtihklolcnfbbjaaWAt
import Derived.Test.YtihklolcnfbbjaaWEqStruct
import Derived.Test.YtihklolcnfbbjaaWRepsOne
import Derived.Test.YtihklolcnfbbjaaWInv
import Derived.Test.YtihklolcnfbbjaaWInvWords
import Derived.Test.YtihklolcnfbbjaaWGuard
import Derived.Test.YtihklolcnfbbjaaWNEv
import Derived.Test.YtihklolcnfbbjaaWMore
namespace Go.Proofs.Ytihklolcnfbbjaa.G
open Go.RowKit Go.Proofs.YtihklolcnfbbjaaW.PrintWords Go.Proofs.YtihklolcnfbbjaaW.PrintLast Go.Proofs.YtihklolcnfbbjaaW.PrintMore
attribute [local go_sem] max2_int min2_int max_two min_two max_three min_three max_four min_four   -- for this text's walks alone
set_option linter.unusedVariables false
set_option linter.unusedSimpArgs false



def errW : Option Int → Value
  | none => .nilIface
  | some c => .iface 0 (.int .i64 c)
theorem errW_none : errW none = .nilIface := rfl
theorem errW_some (c : Int) : errW (some c) = .iface 0 (.int .i64 c) := rfl

theorem idx35_0 (w : World) (a0 a1 a2 a3 a4 a5 a6 a7 a8 a9 a10 a11 a12 a13 a14 a15 a16 a17 a18 a19 a20 a21 a22 a23 a24 a25 a26 a27 a28 a29 a30 a31 a32 a33 a34 a35 : Value) : (Instr.index 35 (.agg #[a0, a1, a2, a3, a4, a5, a6, a7, a8, a9, a10, a11, a12, a13, a14, a15, a16, a17, a18, a19, a20, a21, a22, a23, a24, a25, a26, a27, a28, a29, a30, a31, a32, a33, a34, a35]) (.int .i64 0)).run Try.prog w = .ok (.agg #[a0, a1, a2, a3, a4, a5, a6, a7, a8]) w := by kernel_rfl
theorem idx35_1 (w : World) (a0 a1 a2 a3 a4 a5 a6 a7 a8 a9 a10 a11 a12 a13 a14 a15 a16 a17 a18 a19 a20 a21 a22 a23 a24 a25 a26 a27 a28 a29 a30 a31 a32 a33 a34 a35 : Value) : (Instr.index 35 (.agg #[a0, a1, a2, a3, a4, a5, a6, a7, a8, a9, a10, a11, a12, a13, a14, a15, a16, a17, a18, a19, a20, a21, a22, a23, a24, a25, a26, a27, a28, a29, a30, a31, a32, a33, a34, a35]) (.int .i64 1)).run Try.prog w = .ok (.agg #[a9, a10, a11, a12, a13, a14, a15, a16, a17]) w := by kernel_rfl
theorem idx35_2 (w : World) (a0 a1 a2 a3 a4 a5 a6 a7 a8 a9 a10 a11 a12 a13 a14 a15 a16 a17 a18 a19 a20 a21 a22 a23 a24 a25 a26 a27 a28 a29 a30 a31 a32 a33 a34 a35 : Value) : (Instr.index 35 (.agg #[a0, a1, a2, a3, a4, a5, a6, a7, a8, a9, a10, a11, a12, a13, a14, a15, a16, a17, a18, a19, a20, a21, a22, a23, a24, a25, a26, a27, a28, a29, a30, a31, a32, a33, a34, a35]) (.int .i64 2)).run Try.prog w = .ok (.agg #[a18, a19, a20, a21, a22, a23, a24, a25, a26]) w := by kernel_rfl
theorem idx35_3 (w : World) (a0 a1 a2 a3 a4 a5 a6 a7 a8 a9 a10 a11 a12 a13 a14 a15 a16 a17 a18 a19 a20 a21 a22 a23 a24 a25 a26 a27 a28 a29 a30 a31 a32 a33 a34 a35 : Value) : (Instr.index 35 (.agg #[a0, a1, a2, a3, a4, a5, a6, a7, a8, a9, a10, a11, a12, a13, a14, a15, a16, a17, a18, a19, a20, a21, a22, a23, a24, a25, a26, a27, a28, a29, a30, a31, a32, a33, a34, a35]) (.int .i64 3)).run Try.prog w = .ok (.agg #[a27, a28, a29, a30, a31, a32, a33, a34, a35]) w := by kernel_rfl
theorem idx41_0 (w : World) (a0 a1 a2 a3 a4 a5 a6 a7 a8 : Value) : (Instr.index 41 (.agg #[a0, a1, a2, a3, a4, a5, a6, a7, a8]) (.int .i64 0)).run Try.prog w = .ok (.agg #[a0, a1, a2]) w := by kernel_rfl
theorem idx41_1 (w : World) (a0 a1 a2 a3 a4 a5 a6 a7 a8 : Value) : (Instr.index 41 (.agg #[a0, a1, a2, a3, a4, a5, a6, a7, a8]) (.int .i64 1)).run Try.prog w = .ok (.agg #[a3, a4, a5]) w := by kernel_rfl
theorem idx41_2 (w : World) (a0 a1 a2 a3 a4 a5 a6 a7 a8 : Value) : (Instr.index 41 (.agg #[a0, a1, a2, a3, a4, a5, a6, a7, a8]) (.int .i64 2)).run Try.prog w = .ok (.agg #[a6, a7, a8]) w := by kernel_rfl
theorem idx84_0 (w : World) (a0 a1 a2 a3 a4 a5 a6 a7 a8 a9 a10 a11 : Value) : (Instr.index 84 (.agg #[a0, a1, a2, a3, a4, a5, a6, a7, a8, a9, a10, a11]) (.int .i64 0)).run Try.prog w = .ok (.agg #[a0, a1, a2, a3]) w := by kernel_rfl
theorem idx84_1 (w : World) (a0 a1 a2 a3 a4 a5 a6 a7 a8 a9 a10 a11 : Value) : (Instr.index 84 (.agg #[a0, a1, a2, a3, a4, a5, a6, a7, a8, a9, a10, a11]) (.int .i64 1)).run Try.prog w = .ok (.agg #[a4, a5, a6, a7]) w := by kernel_rfl
theorem idx84_2 (w : World) (a0 a1 a2 a3 a4 a5 a6 a7 a8 a9 a10 a11 : Value) : (Instr.index 84 (.agg #[a0, a1, a2, a3, a4, a5, a6, a7, a8, a9, a10, a11]) (.int .i64 2)).run Try.prog w = .ok (.agg #[a8, a9, a10, a11]) w := by kernel_rfl
theorem idx88_0 (w : World) (a0 a1 a2 : Value) : (Instr.index 88 (.agg #[a0, a1, a2]) (.int .i64 0)).run Try.prog w = .ok (a0) w := by kernel_rfl
theorem idx88_1 (w : World) (a0 a1 a2 : Value) : (Instr.index 88 (.agg #[a0, a1, a2]) (.int .i64 1)).run Try.prog w = .ok (a1) w := by kernel_rfl
theorem idx88_2 (w : World) (a0 a1 a2 : Value) : (Instr.index 88 (.agg #[a0, a1, a2]) (.int .i64 2)).run Try.prog w = .ok (a2) w := by kernel_rfl
theorem wl0 : wrap64 0 = 0 := by unfold wrap64; decide
theorem wl1 : wrap64 1 = 1 := by unfold wrap64; decide
theorem wl2 : wrap64 2 = 2 := by unfold wrap64; decide
theorem wl3 : wrap64 3 = 3 := by unfold wrap64; decide
theorem wl4 : wrap64 4 = 4 := by unfold wrap64; decide
theorem wl5 : wrap64 5 = 5 := by unfold wrap64; decide
theorem tm0_3 : Int.tmod 0 3 = 0 := by decide
theorem tm1_3 : Int.tmod 1 3 = 1 := by decide
theorem tm2_3 : Int.tmod 2 3 = 2 := by decide
theorem tm3_3 : Int.tmod 3 3 = 0 := by decide
theorem tm4_3 : Int.tmod 4 3 = 1 := by decide
theorem tm5_3 : Int.tmod 5 3 = 2 := by decide
theorem cells2 {W : World} {g : Nat} {t : TypeId} {a0 a1 : Value} (h : W.heap[g]? = some (.cells #[a0, a1] t (0, 0))) : W.cell? ⟨g, 0, none⟩ = some a0 ∧ W.cell? ⟨g, 1, none⟩ = some a1 := ⟨(blk_cell h 0).trans rfl, (blk_cell h 1).trans rfl⟩
theorem cells3 {W : World} {g : Nat} {t : TypeId} {a0 a1 a2 : Value} (h : W.heap[g]? = some (.cells #[a0, a1, a2] t (0, 0))) : W.cell? ⟨g, 0, none⟩ = some a0 ∧ W.cell? ⟨g, 1, none⟩ = some a1 ∧ W.cell? ⟨g, 2, none⟩ = some a2 := ⟨(blk_cell h 0).trans rfl, (blk_cell h 1).trans rfl, (blk_cell h 2).trans rfl⟩
theorem cells4 {W : World} {g : Nat} {t : TypeId} {a0 a1 a2 a3 : Value} (h : W.heap[g]? = some (.cells #[a0, a1, a2, a3] t (0, 0))) : W.cell? ⟨g, 0, none⟩ = some a0 ∧ W.cell? ⟨g, 1, none⟩ = some a1 ∧ W.cell? ⟨g, 2, none⟩ = some a2 ∧ W.cell? ⟨g, 3, none⟩ = some a3 := ⟨(blk_cell h 0).trans rfl, (blk_cell h 1).trans rfl, (blk_cell h 2).trans rfl, (blk_cell h 3).trans rfl⟩
theorem cells5 {W : World} {g : Nat} {t : TypeId} {a0 a1 a2 a3 a4 : Value} (h : W.heap[g]? = some (.cells #[a0, a1, a2, a3, a4] t (0, 0))) : W.cell? ⟨g, 0, none⟩ = some a0 ∧ W.cell? ⟨g, 1, none⟩ = some a1 ∧ W.cell? ⟨g, 2, none⟩ = some a2 ∧ W.cell? ⟨g, 3, none⟩ = some a3 ∧ W.cell? ⟨g, 4, none⟩ = some a4 := ⟨(blk_cell h 0).trans rfl, (blk_cell h 1).trans rfl, (blk_cell h 2).trans rfl, (blk_cell h 3).trans rfl, (blk_cell h 4).trans rfl⟩
theorem cells6 {W : World} {g : Nat} {t : TypeId} {a0 a1 a2 a3 a4 a5 : Value} (h : W.heap[g]? = some (.cells #[a0, a1, a2, a3, a4, a5] t (0, 0))) : W.cell? ⟨g, 0, none⟩ = some a0 ∧ W.cell? ⟨g, 1, none⟩ = some a1 ∧ W.cell? ⟨g, 2, none⟩ = some a2 ∧ W.cell? ⟨g, 3, none⟩ = some a3 ∧ W.cell? ⟨g, 4, none⟩ = some a4 ∧ W.cell? ⟨g, 5, none⟩ = some a5 := ⟨(blk_cell h 0).trans rfl, (blk_cell h 1).trans rfl, (blk_cell h 2).trans rfl, (blk_cell h 3).trans rfl, (blk_cell h 4).trans rfl, (blk_cell h 5).trans rfl⟩
theorem cells9 {W : World} {g : Nat} {t : TypeId} {a0 a1 a2 a3 a4 a5 a6 a7 a8 : Value} (h : W.heap[g]? = some (.cells #[a0, a1, a2, a3, a4, a5, a6, a7, a8] t (0, 0))) : W.cell? ⟨g, 0, none⟩ = some a0 ∧ W.cell? ⟨g, 1, none⟩ = some a1 ∧ W.cell? ⟨g, 2, none⟩ = some a2 ∧ W.cell? ⟨g, 3, none⟩ = some a3 ∧ W.cell? ⟨g, 4, none⟩ = some a4 ∧ W.cell? ⟨g, 5, none⟩ = some a5 ∧ W.cell? ⟨g, 6, none⟩ = some a6 ∧ W.cell? ⟨g, 7, none⟩ = some a7 ∧ W.cell? ⟨g, 8, none⟩ = some a8 := ⟨(blk_cell h 0).trans rfl, (blk_cell h 1).trans rfl, (blk_cell h 2).trans rfl, (blk_cell h 3).trans rfl, (blk_cell h 4).trans rfl, (blk_cell h 5).trans rfl, (blk_cell h 6).trans rfl, (blk_cell h 7).trans rfl, (blk_cell h 8).trans rfl⟩
theorem cells12 {W : World} {g : Nat} {t : TypeId} {a0 a1 a2 a3 a4 a5 a6 a7 a8 a9 a10 a11 : Value} (h : W.heap[g]? = some (.cells #[a0, a1, a2, a3, a4, a5, a6, a7, a8, a9, a10, a11] t (0, 0))) : W.cell? ⟨g, 0, none⟩ = some a0 ∧ W.cell? ⟨g, 1, none⟩ = some a1 ∧ W.cell? ⟨g, 2, none⟩ = some a2 ∧ W.cell? ⟨g, 3, none⟩ = some a3 ∧ W.cell? ⟨g, 4, none⟩ = some a4 ∧ W.cell? ⟨g, 5, none⟩ = some a5 ∧ W.cell? ⟨g, 6, none⟩ = some a6 ∧ W.cell? ⟨g, 7, none⟩ = some a7 ∧ W.cell? ⟨g, 8, none⟩ = some a8 ∧ W.cell? ⟨g, 9, none⟩ = some a9 ∧ W.cell? ⟨g, 10, none⟩ = some a10 ∧ W.cell? ⟨g, 11, none⟩ = some a11 := ⟨(blk_cell h 0).trans rfl, (blk_cell h 1).trans rfl, (blk_cell h 2).trans rfl, (blk_cell h 3).trans rfl, (blk_cell h 4).trans rfl, (blk_cell h 5).trans rfl, (blk_cell h 6).trans rfl, (blk_cell h 7).trans rfl, (blk_cell h 8).trans rfl, (blk_cell h 9).trans rfl, (blk_cell h 10).trans rfl, (blk_cell h 11).trans rfl⟩
theorem cells36 {W : World} {g : Nat} {t : TypeId} {a0 a1 a2 a3 a4 a5 a6 a7 a8 a9 a10 a11 a12 a13 a14 a15 a16 a17 a18 a19 a20 a21 a22 a23 a24 a25 a26 a27 a28 a29 a30 a31 a32 a33 a34 a35 : Value} (h : W.heap[g]? = some (.cells #[a0, a1, a2, a3, a4, a5, a6, a7, a8, a9, a10, a11, a12, a13, a14, a15, a16, a17, a18, a19, a20, a21, a22, a23, a24, a25, a26, a27, a28, a29, a30, a31, a32, a33, a34, a35] t (0, 0))) : W.cell? ⟨g, 0, none⟩ = some a0 ∧ W.cell? ⟨g, 1, none⟩ = some a1 ∧ W.cell? ⟨g, 2, none⟩ = some a2 ∧ W.cell? ⟨g, 3, none⟩ = some a3 ∧ W.cell? ⟨g, 4, none⟩ = some a4 ∧ W.cell? ⟨g, 5, none⟩ = some a5 ∧ W.cell? ⟨g, 6, none⟩ = some a6 ∧ W.cell? ⟨g, 7, none⟩ = some a7 ∧ W.cell? ⟨g, 8, none⟩ = some a8 ∧ W.cell? ⟨g, 9, none⟩ = some a9 ∧ W.cell? ⟨g, 10, none⟩ = some a10 ∧ W.cell? ⟨g, 11, none⟩ = some a11 ∧ W.cell? ⟨g, 12, none⟩ = some a12 ∧ W.cell? ⟨g, 13, none⟩ = some a13 ∧ W.cell? ⟨g, 14, none⟩ = some a14 ∧ W.cell? ⟨g, 15, none⟩ = some a15 ∧ W.cell? ⟨g, 16, none⟩ = some a16 ∧ W.cell? ⟨g, 17, none⟩ = some a17 ∧ W.cell? ⟨g, 18, none⟩ = some a18 ∧ W.cell? ⟨g, 19, none⟩ = some a19 ∧ W.cell? ⟨g, 20, none⟩ = some a20 ∧ W.cell? ⟨g, 21, none⟩ = some a21 ∧ W.cell? ⟨g, 22, none⟩ = some a22 ∧ W.cell? ⟨g, 23, none⟩ = some a23 ∧ W.cell? ⟨g, 24, none⟩ = some a24 ∧ W.cell? ⟨g, 25, none⟩ = some a25 ∧ W.cell? ⟨g, 26, none⟩ = some a26 ∧ W.cell? ⟨g, 27, none⟩ = some a27 ∧ W.cell? ⟨g, 28, none⟩ = some a28 ∧ W.cell? ⟨g, 29, none⟩ = some a29 ∧ W.cell? ⟨g, 30, none⟩ = some a30 ∧ W.cell? ⟨g, 31, none⟩ = some a31 ∧ W.cell? ⟨g, 32, none⟩ = some a32 ∧ W.cell? ⟨g, 33, none⟩ = some a33 ∧ W.cell? ⟨g, 34, none⟩ = some a34 ∧ W.cell? ⟨g, 35, none⟩ = some a35 := ⟨(blk_cell h 0).trans rfl, (blk_cell h 1).trans rfl, (blk_cell h 2).trans rfl, (blk_cell h 3).trans rfl, (blk_cell h 4).trans rfl, (blk_cell h 5).trans rfl, (blk_cell h 6).trans rfl, (blk_cell h 7).trans rfl, (blk_cell h 8).trans rfl, (blk_cell h 9).trans rfl, (blk_cell h 10).trans rfl, (blk_cell h 11).trans rfl, (blk_cell h 12).trans rfl, (blk_cell h 13).trans rfl, (blk_cell h 14).trans rfl, (blk_cell h 15).trans rfl, (blk_cell h 16).trans rfl, (blk_cell h 17).trans rfl, (blk_cell h 18).trans rfl, (blk_cell h 19).trans rfl, (blk_cell h 20).trans rfl, (blk_cell h 21).trans rfl, (blk_cell h 22).trans rfl, (blk_cell h 23).trans rfl, (blk_cell h 24).trans rfl, (blk_cell h 25).trans rfl, (blk_cell h 26).trans rfl, (blk_cell h 27).trans rfl, (blk_cell h 28).trans rfl, (blk_cell h 29).trans rfl, (blk_cell h 30).trans rfl, (blk_cell h 31).trans rfl, (blk_cell h 32).trans rfl, (blk_cell h 33).trans rfl, (blk_cell h 34).trans rfl, (blk_cell h 35).trans rfl⟩
theorem cf {w : World} {g h i j : Nat} {u : Value} {x : Option Value} (hp : h ≠ g) (hc : w.cell? ⟨h, i, none⟩ = x) : (w.setCell ⟨g, j, none⟩ u).cell? ⟨h, i, none⟩ = x := (cell_far (p := ⟨g, j, none⟩) hp u).trans hc
theorem bB {w w1 : World} {g : Nat} {o : Obj} (hb : Below w.heap.size w w1) (h : w.heap[g]? = some o) : w1.heap[g]? = some o := blk_below h hb
theorem bN {W : World} {g g1 : Nat} {o : Obj} (hg : g1 = W.heap.size) (h : W.heap[g]? = some o) : g ≠ g1 := by rw [hg]; exact Nat.ne_of_lt (blk_lt h)
theorem bM {W : World} {g g1 : Nat} {o : Obj} (hg : g1 = W.heap.size) (h : W.heap[g]? = some o) : g1 ≠ g := by rw [hg]; exact Nat.ne_of_gt (blk_lt h)
theorem bG {w W : World} {g : Nat} (hg : g = W.heap.size) (h : Below w.heap.size w W) : w.heap.size ≤ g := by rw [hg]; exact h.size
theorem cB {w w1 : World} {g : Nat} {o : Obj} (hb : Below w.heap.size w w1) (h : Aside0 (w.heap[g]? = some o)) : Aside0 (w1.heap[g]? = some o) := ⟨blk_below h.out hb⟩
theorem cN {W : World} {g g1 : Nat} {o : Obj} (hg : g1 = W.heap.size) (h : Aside0 (W.heap[g]? = some o)) : Aside0 (g ≠ g1) := ⟨bN hg h.out⟩
theorem cM {W : World} {g g1 : Nat} {o : Obj} (hg : g1 = W.heap.size) (h : Aside0 (W.heap[g]? = some o)) : Aside0 (g1 ≠ g) := ⟨bM hg h.out⟩
theorem bF {w w1 : World} {g : Nat} {o : Obj} (hw : w = w1) (h : w.heap[g]? = some o) : w1.heap[g]? = some o := hw ▸ h
theorem bH {w W W1 : World} (hw : W = W1) (h : Below w.heap.size w W) : Below w.heap.size w W1 := hw ▸ h
theorem info3 : (Try.prog.info? 3).map (fun i => (i.zero, i.size, i.bytes)) = some (some (.int .i64 0), 1, 8) := by kernel_rfl
theorem info23 : (Try.prog.info? 23).map (fun i => (i.zero, i.size, i.bytes)) = some (some (.agg #[(.int .i64 0), (.int .i64 0), (.int .i64 0)]), 3, 24) := by kernel_rfl
-- the values' own types
/-! #### struct type 23 -/
structure S23 where
  f0 : Int
  f1 : Int
  f2 : Int
def z23 : S23 := ⟨(0 : Int), (0 : Int), (0 : Int)⟩
def k23 : Kd S23 := Kd.iso (Kd.pair (Kd.int .i64) (Kd.pair (Kd.int .i64) (Kd.int .i64))) (fun x : S23 => (x.f0, x.f1, x.f2))
theorem k23_open {w : World} {x : S23} {cs : List Value} (h : k23.K w x cs) : cs = [.int .i64 x.f0, .int .i64 x.f1, .int .i64 x.f2] := by
  obtain ⟨_, _, rfl, rfl, ⟨_, _, rfl, rfl, rfl⟩⟩ := h
  exact rfl
theorem k23_openM {w : World} {base : Nat} {ok : Nat → Prop} {x : S23} {cs : List Value} (h : k23.M w base ok x cs) : cs = [.int .i64 x.f0, .int .i64 x.f1, .int .i64 x.f2] := by
  obtain ⟨_, _, rfl, rfl, ⟨_, _, rfl, rfl, rfl⟩⟩ := h
  exact rfl
theorem k23_mk (w : World) (x : S23)  : k23.K w x [.int .i64 x.f0, .int .i64 x.f1, .int .i64 x.f2] := ⟨[.int .i64 x.f0], [.int .i64 x.f1, .int .i64 x.f2], rfl, rfl, ⟨[.int .i64 x.f1], [.int .i64 x.f2], rfl, rfl, rfl⟩⟩
theorem k23_mkM (w : World) (base : Nat) (ok : Nat → Prop) (x : S23)  : k23.M w base ok x [.int .i64 x.f0, .int .i64 x.f1, .int .i64 x.f2] := ⟨[.int .i64 x.f0], [.int .i64 x.f1, .int .i64 x.f2], rfl, rfl, ⟨[.int .i64 x.f1], [.int .i64 x.f2], rfl, rfl, rfl⟩⟩
def rd_T23 (xs : List S23) (i : Int) : S23 := xs.getD i.toNat z23
theorem at_T23 {w : World} {A : Option Addr} {n : Nat} {xs : List S23} (h : Kd.C k23 w A n xs) (i : Int) (h0 : 0 ≤ i) (h1 : i < n) : ∃ ad , A = some ad ∧ w.cell? (ad.add (i.toNat * 3)) = some (.int .i64 (rd_T23 xs i).f0) ∧ w.cell? ⟨(ad.add (i.toNat * 3)).block, (ad.add (i.toNat * 3)).off + 1, none⟩ = some (.int .i64 (rd_T23 xs i).f1) ∧ w.cell? ⟨(ad.add (i.toNat * 3)).block, (ad.add (i.toNat * 3)).off + 2, none⟩ = some (.int .i64 (rd_T23 xs i).f2) := by
  obtain ⟨ad, c, e, _, hK, hc0⟩ := Kd.C_get h z23 i h0 h1
  have hc : ∀ j u, c[j]? = some u → w.cell? (ad.add (i.toNat * 3 + j)) = some u := hc0
  obtain rfl := k23_open hK
  exact ⟨ad, e, hc 0 _ rfl, by rw [← add_field _ _ 1 (by omega)]; exact hc 1 _ rfl, by rw [← add_field _ _ 2 (by omega)]; exact hc 2 _ rfl⟩

end Go.Proofs.Ytihklolcnfbbjaa.G
