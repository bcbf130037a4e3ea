/-
  No cell of these rows narrows 'for every input' (looked for: loops, veiled, ifaces, maps, wideKeys, modest, calm, conditions, laid).
  DERIVED. THE GIVEN ROWS OF THIS SEAT. 16 by the template 'for every input the law returns true; each argument reads behind the call as it read before'; 0 by the template 'total and deterministic' (their statements: YtihklolcnfbbjaaTotals.lean).
  GIVEN WITH THE SEED: the statements are not yours to turn. If you find one false, say at which input.
  Laid BY PROGRAM, IN A SANDBOX (cutbox-rows.mjs): the forced cells as the released guide's own fill.sh prints them over the translation cfc63b79036b2aaf… (all of the seat's roots in one cut). By AI agents, Wed Nov 11 2026. No macro, syntax, notation, axiom, sorry.
-/
import Derived.Test.YtihklolcnfbbjaaChecked
import GoSem.Claim
import GoSem.ClaimJoined
import GoSem.ClaimMapViews
import Derived.JoinedTies
import Derived.KernelRfl
namespace Go.Proofs.Ytihklolcnfbbjaa
/- THE CELL 'sum', in the pinned program and in every row, IS THE sha256 OF THE DUMP (.gsa) THAT YtihklolcnfbbjaaProg.lean LOADS. Nothing in Lean hashes anything: it is a label: what it is worth is what the hold of that sum in a sandbox is worth. -/
noncomputable def Try.pinned : Pinned := { name := "ytihklolcnfbbjaa", sum := "cfc63b79036b2aaf4555435f6aa1bca64911234e7b8f827983a3b8e171fa4b55", checked := Try.checked }
namespace Rows
def none {H : Type} : Left H := { results := [], args := [] }

/-- 'relievolaw03.SideRound': WHATEVER THE INPUT: true; the input reads as it did. -/
def sideRoundSpec : ChangeSpec := { name := "sideRound", fn := fun _ => fun
  | [d1, d2, d3] => { results := [.lit (.bool true)], args := [d1, d2, d3] }
  | _ => none }
def sideRoundRow : OpenClaim := { program := "ytihklolcnfbbjaa", sum := "cfc63b79036b2aaf4555435f6aa1bca64911234e7b8f827983a3b8e171fa4b55", func := "relievo/relievolaw03.SideRound", spec := "sideRound", apart := false }
def SideRoundSaid : Prop := sideRoundRow.holds Try.pinned (OpenSpec.ofChange sideRoundSpec)

/-- ITS FALSE NEIGHBOUR: 'it returns false'. Refute it at one input. -/
def sideRoundWrong : ChangeSpec := { name := "sideRound", fn := fun _ => fun
  | [d1, d2, d3] => { results := [.lit (.bool false)], args := [d1, d2, d3] }
  | _ => none }
def SideRoundWrongFalsely : Prop := sideRoundRow.holds Try.pinned (OpenSpec.ofChange sideRoundWrong)

/-- 'relievolaw03.SideClosed': WHATEVER THE INPUT: true; the input reads as it did. -/
def sideClosedSpec : ChangeSpec := { name := "sideClosed", fn := fun _ => fun
  | [d1, d2, d3, d4, d5, d6] => { results := [.lit (.bool true)], args := [d1, d2, d3, d4, d5, d6] }
  | _ => none }
def sideClosedRow : OpenClaim := { program := "ytihklolcnfbbjaa", sum := "cfc63b79036b2aaf4555435f6aa1bca64911234e7b8f827983a3b8e171fa4b55", func := "relievo/relievolaw03.SideClosed", spec := "sideClosed", apart := false }
def SideClosedSaid : Prop := sideClosedRow.holds Try.pinned (OpenSpec.ofChange sideClosedSpec)

/-- ITS FALSE NEIGHBOUR: 'it returns false'. Refute it at one input. -/
def sideClosedWrong : ChangeSpec := { name := "sideClosed", fn := fun _ => fun
  | [d1, d2, d3, d4, d5, d6] => { results := [.lit (.bool false)], args := [d1, d2, d3, d4, d5, d6] }
  | _ => none }
def SideClosedWrongFalsely : Prop := sideClosedRow.holds Try.pinned (OpenSpec.ofChange sideClosedWrong)

/-- 'relievolaw03.SideSplit': WHATEVER THE INPUT: true; the input reads as it did. -/
def sideSplitSpec : ChangeSpec := { name := "sideSplit", fn := fun _ => fun
  | [d1, d2, d3, d4] => { results := [.lit (.bool true)], args := [d1, d2, d3, d4] }
  | _ => none }
def sideSplitRow : OpenClaim := { program := "ytihklolcnfbbjaa", sum := "cfc63b79036b2aaf4555435f6aa1bca64911234e7b8f827983a3b8e171fa4b55", func := "relievo/relievolaw03.SideSplit", spec := "sideSplit", apart := false }
def SideSplitSaid : Prop := sideSplitRow.holds Try.pinned (OpenSpec.ofChange sideSplitSpec)

/-- ITS FALSE NEIGHBOUR: 'it returns false'. Refute it at one input. -/
def sideSplitWrong : ChangeSpec := { name := "sideSplit", fn := fun _ => fun
  | [d1, d2, d3, d4] => { results := [.lit (.bool false)], args := [d1, d2, d3, d4] }
  | _ => none }
def SideSplitWrongFalsely : Prop := sideSplitRow.holds Try.pinned (OpenSpec.ofChange sideSplitWrong)

/-- 'relievolaw03.SideWithin': WHATEVER THE INPUT: true; the input reads as it did. -/
def sideWithinSpec : ChangeSpec := { name := "sideWithin", fn := fun _ => fun
  | [d1, d2, d3] => { results := [.lit (.bool true)], args := [d1, d2, d3] }
  | _ => none }
def sideWithinRow : OpenClaim := { program := "ytihklolcnfbbjaa", sum := "cfc63b79036b2aaf4555435f6aa1bca64911234e7b8f827983a3b8e171fa4b55", func := "relievo/relievolaw03.SideWithin", spec := "sideWithin", apart := false }
def SideWithinSaid : Prop := sideWithinRow.holds Try.pinned (OpenSpec.ofChange sideWithinSpec)

/-- ITS FALSE NEIGHBOUR: 'it returns false'. Refute it at one input. -/
def sideWithinWrong : ChangeSpec := { name := "sideWithin", fn := fun _ => fun
  | [d1, d2, d3] => { results := [.lit (.bool false)], args := [d1, d2, d3] }
  | _ => none }
def SideWithinWrongFalsely : Prop := sideWithinRow.holds Try.pinned (OpenSpec.ofChange sideWithinWrong)

/-- 'relievolaw03.SideMoved': WHATEVER THE INPUT: true; the input reads as it did. -/
def sideMovedSpec : ChangeSpec := { name := "sideMoved", fn := fun _ => fun
  | [d1, d2, d3, d4] => { results := [.lit (.bool true)], args := [d1, d2, d3, d4] }
  | _ => none }
def sideMovedRow : OpenClaim := { program := "ytihklolcnfbbjaa", sum := "cfc63b79036b2aaf4555435f6aa1bca64911234e7b8f827983a3b8e171fa4b55", func := "relievo/relievolaw03.SideMoved", spec := "sideMoved", apart := false }
def SideMovedSaid : Prop := sideMovedRow.holds Try.pinned (OpenSpec.ofChange sideMovedSpec)

/-- ITS FALSE NEIGHBOUR: 'it returns false'. Refute it at one input. -/
def sideMovedWrong : ChangeSpec := { name := "sideMoved", fn := fun _ => fun
  | [d1, d2, d3, d4] => { results := [.lit (.bool false)], args := [d1, d2, d3, d4] }
  | _ => none }
def SideMovedWrongFalsely : Prop := sideMovedRow.holds Try.pinned (OpenSpec.ofChange sideMovedWrong)

/-- 'relievolaw03.SideAlong': WHATEVER THE INPUT: true; the input reads as it did. -/
def sideAlongSpec : ChangeSpec := { name := "sideAlong", fn := fun _ => fun
  | [d1, d2, d3, d4, d5] => { results := [.lit (.bool true)], args := [d1, d2, d3, d4, d5] }
  | _ => none }
def sideAlongRow : OpenClaim := { program := "ytihklolcnfbbjaa", sum := "cfc63b79036b2aaf4555435f6aa1bca64911234e7b8f827983a3b8e171fa4b55", func := "relievo/relievolaw03.SideAlong", spec := "sideAlong", apart := false }
def SideAlongSaid : Prop := sideAlongRow.holds Try.pinned (OpenSpec.ofChange sideAlongSpec)

/-- ITS FALSE NEIGHBOUR: 'it returns false'. Refute it at one input. -/
def sideAlongWrong : ChangeSpec := { name := "sideAlong", fn := fun _ => fun
  | [d1, d2, d3, d4, d5] => { results := [.lit (.bool false)], args := [d1, d2, d3, d4, d5] }
  | _ => none }
def SideAlongWrongFalsely : Prop := sideAlongRow.holds Try.pinned (OpenSpec.ofChange sideAlongWrong)

/-- 'relievolaw03.SideFlat': WHATEVER THE INPUT: true; the input reads as it did. -/
def sideFlatSpec : ChangeSpec := { name := "sideFlat", fn := fun _ => fun
  | [d1, d2, d3, d4, d5] => { results := [.lit (.bool true)], args := [d1, d2, d3, d4, d5] }
  | _ => none }
def sideFlatRow : OpenClaim := { program := "ytihklolcnfbbjaa", sum := "cfc63b79036b2aaf4555435f6aa1bca64911234e7b8f827983a3b8e171fa4b55", func := "relievo/relievolaw03.SideFlat", spec := "sideFlat", apart := false }
def SideFlatSaid : Prop := sideFlatRow.holds Try.pinned (OpenSpec.ofChange sideFlatSpec)

/-- ITS FALSE NEIGHBOUR: 'it returns false'. Refute it at one input. -/
def sideFlatWrong : ChangeSpec := { name := "sideFlat", fn := fun _ => fun
  | [d1, d2, d3, d4, d5] => { results := [.lit (.bool false)], args := [d1, d2, d3, d4, d5] }
  | _ => none }
def SideFlatWrongFalsely : Prop := sideFlatRow.holds Try.pinned (OpenSpec.ofChange sideFlatWrong)

/-- 'relievolaw03.SideTurned': WHATEVER THE INPUT: true; the input reads as it did. -/
def sideTurnedSpec : ChangeSpec := { name := "sideTurned", fn := fun _ => fun
  | [d1, d2, d3] => { results := [.lit (.bool true)], args := [d1, d2, d3] }
  | _ => none }
def sideTurnedRow : OpenClaim := { program := "ytihklolcnfbbjaa", sum := "cfc63b79036b2aaf4555435f6aa1bca64911234e7b8f827983a3b8e171fa4b55", func := "relievo/relievolaw03.SideTurned", spec := "sideTurned", apart := false }
def SideTurnedSaid : Prop := sideTurnedRow.holds Try.pinned (OpenSpec.ofChange sideTurnedSpec)

/-- ITS FALSE NEIGHBOUR: 'it returns false'. Refute it at one input. -/
def sideTurnedWrong : ChangeSpec := { name := "sideTurned", fn := fun _ => fun
  | [d1, d2, d3] => { results := [.lit (.bool false)], args := [d1, d2, d3] }
  | _ => none }
def SideTurnedWrongFalsely : Prop := sideTurnedRow.holds Try.pinned (OpenSpec.ofChange sideTurnedWrong)

/-- 'relievolaw04.SlabRanges': WHATEVER THE INPUT: true; the input reads as it did. -/
def slabRangesSpec : ChangeSpec := { name := "slabRanges", fn := fun _ => fun
  | [d1, d2, d3] => { results := [.lit (.bool true)], args := [d1, d2, d3] }
  | _ => none }
def slabRangesRow : OpenClaim := { program := "ytihklolcnfbbjaa", sum := "cfc63b79036b2aaf4555435f6aa1bca64911234e7b8f827983a3b8e171fa4b55", func := "relievo/relievolaw04.SlabRanges", spec := "slabRanges", apart := false }
def SlabRangesSaid : Prop := slabRangesRow.holds Try.pinned (OpenSpec.ofChange slabRangesSpec)

/-- ITS FALSE NEIGHBOUR: 'it returns false'. Refute it at one input. -/
def slabRangesWrong : ChangeSpec := { name := "slabRanges", fn := fun _ => fun
  | [d1, d2, d3] => { results := [.lit (.bool false)], args := [d1, d2, d3] }
  | _ => none }
def SlabRangesWrongFalsely : Prop := slabRangesRow.holds Try.pinned (OpenSpec.ofChange slabRangesWrong)

/-- 'relievolaw04.SlabMoved': WHATEVER THE INPUT: true; the input reads as it did. -/
def slabMovedSpec : ChangeSpec := { name := "slabMoved", fn := fun _ => fun
  | [d1, d2, d3, d4] => { results := [.lit (.bool true)], args := [d1, d2, d3, d4] }
  | _ => none }
def slabMovedRow : OpenClaim := { program := "ytihklolcnfbbjaa", sum := "cfc63b79036b2aaf4555435f6aa1bca64911234e7b8f827983a3b8e171fa4b55", func := "relievo/relievolaw04.SlabMoved", spec := "slabMoved", apart := false }
def SlabMovedSaid : Prop := slabMovedRow.holds Try.pinned (OpenSpec.ofChange slabMovedSpec)

/-- ITS FALSE NEIGHBOUR: 'it returns false'. Refute it at one input. -/
def slabMovedWrong : ChangeSpec := { name := "slabMoved", fn := fun _ => fun
  | [d1, d2, d3, d4] => { results := [.lit (.bool false)], args := [d1, d2, d3, d4] }
  | _ => none }
def SlabMovedWrongFalsely : Prop := slabMovedRow.holds Try.pinned (OpenSpec.ofChange slabMovedWrong)

/-- 'relievolaw04.SlabFaster': WHATEVER THE INPUT: true; the input reads as it did. -/
def slabFasterSpec : ChangeSpec := { name := "slabFaster", fn := fun _ => fun
  | [d1, d2, d3, d4] => { results := [.lit (.bool true)], args := [d1, d2, d3, d4] }
  | _ => none }
def slabFasterRow : OpenClaim := { program := "ytihklolcnfbbjaa", sum := "cfc63b79036b2aaf4555435f6aa1bca64911234e7b8f827983a3b8e171fa4b55", func := "relievo/relievolaw04.SlabFaster", spec := "slabFaster", apart := false }
def SlabFasterSaid : Prop := slabFasterRow.holds Try.pinned (OpenSpec.ofChange slabFasterSpec)

/-- ITS FALSE NEIGHBOUR: 'it returns false'. Refute it at one input. -/
def slabFasterWrong : ChangeSpec := { name := "slabFaster", fn := fun _ => fun
  | [d1, d2, d3, d4] => { results := [.lit (.bool false)], args := [d1, d2, d3, d4] }
  | _ => none }
def SlabFasterWrongFalsely : Prop := slabFasterRow.holds Try.pinned (OpenSpec.ofChange slabFasterWrong)

/-- 'relievolaw04.SlabMirror': WHATEVER THE INPUT: true; the input reads as it did. -/
def slabMirrorSpec : ChangeSpec := { name := "slabMirror", fn := fun _ => fun
  | [d1, d2, d3] => { results := [.lit (.bool true)], args := [d1, d2, d3] }
  | _ => none }
def slabMirrorRow : OpenClaim := { program := "ytihklolcnfbbjaa", sum := "cfc63b79036b2aaf4555435f6aa1bca64911234e7b8f827983a3b8e171fa4b55", func := "relievo/relievolaw04.SlabMirror", spec := "slabMirror", apart := false }
def SlabMirrorSaid : Prop := slabMirrorRow.holds Try.pinned (OpenSpec.ofChange slabMirrorSpec)

/-- ITS FALSE NEIGHBOUR: 'it returns false'. Refute it at one input. -/
def slabMirrorWrong : ChangeSpec := { name := "slabMirror", fn := fun _ => fun
  | [d1, d2, d3] => { results := [.lit (.bool false)], args := [d1, d2, d3] }
  | _ => none }
def SlabMirrorWrongFalsely : Prop := slabMirrorRow.holds Try.pinned (OpenSpec.ofChange slabMirrorWrong)

/-- 'relievolaw04.SlabInside': WHATEVER THE INPUT: true; the input reads as it did. -/
def slabInsideSpec : ChangeSpec := { name := "slabInside", fn := fun _ => fun
  | [d1, d2, d3] => { results := [.lit (.bool true)], args := [d1, d2, d3] }
  | _ => none }
def slabInsideRow : OpenClaim := { program := "ytihklolcnfbbjaa", sum := "cfc63b79036b2aaf4555435f6aa1bca64911234e7b8f827983a3b8e171fa4b55", func := "relievo/relievolaw04.SlabInside", spec := "slabInside", apart := false }
def SlabInsideSaid : Prop := slabInsideRow.holds Try.pinned (OpenSpec.ofChange slabInsideSpec)

/-- ITS FALSE NEIGHBOUR: 'it returns false'. Refute it at one input. -/
def slabInsideWrong : ChangeSpec := { name := "slabInside", fn := fun _ => fun
  | [d1, d2, d3] => { results := [.lit (.bool false)], args := [d1, d2, d3] }
  | _ => none }
def SlabInsideWrongFalsely : Prop := slabInsideRow.holds Try.pinned (OpenSpec.ofChange slabInsideWrong)

/-- 'relievolaw04.SlabWider': WHATEVER THE INPUT: true; the input reads as it did. -/
def slabWiderSpec : ChangeSpec := { name := "slabWider", fn := fun _ => fun
  | [d1, d2, d3, d4] => { results := [.lit (.bool true)], args := [d1, d2, d3, d4] }
  | _ => none }
def slabWiderRow : OpenClaim := { program := "ytihklolcnfbbjaa", sum := "cfc63b79036b2aaf4555435f6aa1bca64911234e7b8f827983a3b8e171fa4b55", func := "relievo/relievolaw04.SlabWider", spec := "slabWider", apart := false }
def SlabWiderSaid : Prop := slabWiderRow.holds Try.pinned (OpenSpec.ofChange slabWiderSpec)

/-- ITS FALSE NEIGHBOUR: 'it returns false'. Refute it at one input. -/
def slabWiderWrong : ChangeSpec := { name := "slabWider", fn := fun _ => fun
  | [d1, d2, d3, d4] => { results := [.lit (.bool false)], args := [d1, d2, d3, d4] }
  | _ => none }
def SlabWiderWrongFalsely : Prop := slabWiderRow.holds Try.pinned (OpenSpec.ofChange slabWiderWrong)

/-- 'relievolaw04.SlabHolds': WHATEVER THE INPUT: true; the input reads as it did. -/
def slabHoldsSpec : ChangeSpec := { name := "slabHolds", fn := fun _ => fun
  | [d1, d2, d3, d4] => { results := [.lit (.bool true)], args := [d1, d2, d3, d4] }
  | _ => none }
def slabHoldsRow : OpenClaim := { program := "ytihklolcnfbbjaa", sum := "cfc63b79036b2aaf4555435f6aa1bca64911234e7b8f827983a3b8e171fa4b55", func := "relievo/relievolaw04.SlabHolds", spec := "slabHolds", apart := false }
def SlabHoldsSaid : Prop := slabHoldsRow.holds Try.pinned (OpenSpec.ofChange slabHoldsSpec)

/-- ITS FALSE NEIGHBOUR: 'it returns false'. Refute it at one input. -/
def slabHoldsWrong : ChangeSpec := { name := "slabHolds", fn := fun _ => fun
  | [d1, d2, d3, d4] => { results := [.lit (.bool false)], args := [d1, d2, d3, d4] }
  | _ => none }
def SlabHoldsWrongFalsely : Prop := slabHoldsRow.holds Try.pinned (OpenSpec.ofChange slabHoldsWrong)

/-- 'relievolaw03.SideMeets': WHATEVER THE INPUT: true; the input reads as it did. -/
def sideMeetsSpec : ChangeSpec := { name := "sideMeets", fn := fun _ => fun
  | [d1, d2, d3, d4] => { results := [.lit (.bool true)], args := [d1, d2, d3, d4] }
  | _ => none }
def sideMeetsRow : OpenClaim := { program := "ytihklolcnfbbjaa", sum := "cfc63b79036b2aaf4555435f6aa1bca64911234e7b8f827983a3b8e171fa4b55", func := "relievo/relievolaw03.SideMeets", spec := "sideMeets", inPlace := ["math/bits.Add64"], named := ["math/bits.divideError", "math/bits.overflowError"], apart := false }
def SideMeetsSaid : Prop := sideMeetsRow.holds Try.pinned (OpenSpec.ofChange sideMeetsSpec)

/-- ITS FALSE NEIGHBOUR: 'it returns false'. Refute it at one input. -/
def sideMeetsWrong : ChangeSpec := { name := "sideMeets", fn := fun _ => fun
  | [d1, d2, d3, d4] => { results := [.lit (.bool false)], args := [d1, d2, d3, d4] }
  | _ => none }
def SideMeetsWrongFalsely : Prop := sideMeetsRow.holds Try.pinned (OpenSpec.ofChange sideMeetsWrong)

/- THE SECOND FORM. 'bulk': how many values and letters a reading holds, each counted each time it is reached (what is shared counts as often as it is met; a slice's spare places count too). A statement '..UptoSaid' is the law's where the arguments, and the package variables that the reading takes, are together of bulk at most 1048576: NARROWER than '..Said'. Prove '..Said' where nothing that the law and all that it calls make is longer than what came in: it says more and counts as full. Else prove '..UptoSaid'. A law counts once. -/
mutual
def uptoBulk {H : Type} : DataW H → Nat
  | .lit (.string bytes) => bytes.length + 1
  | .lit _ => 1
  | .nil => 1
  | .ptr d => uptoBulk d + 1
  | .slice elems spare => uptoBulkAll elems + uptoBulkAll spare + 1
  | .agg parts => uptoBulkAll parts + 1
  | .iface _ d => uptoBulk d + 1
  | .map entries => uptoBulkEntries entries + 1
  | .held _ => 1
def uptoBulkAll {H : Type} : List (DataW H) → Nat
  | [] => 0
  | d :: r => uptoBulk d + uptoBulkAll r
def uptoBulkEntries {H : Type} : List (Lit × DataW H) → Nat
  | [] => 0
  | x :: r => uptoBulkEntry x + uptoBulkEntries r
def uptoBulkEntry {H : Type} : Lit × DataW H → Nat
  | (.string bytes, d) => bytes.length + uptoBulk d + 1
  | (_, d) => uptoBulk d + 1
 end
def uptoSmall : (H : Type) → List (DataW H) → Bool := fun _ ds => decide (uptoBulkAll ds ≤ 1048576)
def OpenSpec.upto (s : _root_.Go.ChangeSpec) : _root_.Go.OpenSpec := { _root_.Go.OpenSpec.ofChange s with cond := some uptoSmall }

/-- 'relievolaw03.SideRound', WHERE WHAT IT READS IS OF BULK AT MOST 1048576: true; the input reads as it did. -/
def sideRoundUptoRow : OpenClaim := { program := "ytihklolcnfbbjaa", sum := "cfc63b79036b2aaf4555435f6aa1bca64911234e7b8f827983a3b8e171fa4b55", func := "relievo/relievolaw03.SideRound", spec := "sideRound", apart := false, narrowed := true }
def SideRoundUptoSaid : Prop := sideRoundUptoRow.holds Try.pinned (OpenSpec.upto sideRoundSpec)

/-- 'relievolaw03.SideClosed', WHERE WHAT IT READS IS OF BULK AT MOST 1048576: true; the input reads as it did. -/
def sideClosedUptoRow : OpenClaim := { program := "ytihklolcnfbbjaa", sum := "cfc63b79036b2aaf4555435f6aa1bca64911234e7b8f827983a3b8e171fa4b55", func := "relievo/relievolaw03.SideClosed", spec := "sideClosed", apart := false, narrowed := true }
def SideClosedUptoSaid : Prop := sideClosedUptoRow.holds Try.pinned (OpenSpec.upto sideClosedSpec)

/-- 'relievolaw03.SideSplit', WHERE WHAT IT READS IS OF BULK AT MOST 1048576: true; the input reads as it did. -/
def sideSplitUptoRow : OpenClaim := { program := "ytihklolcnfbbjaa", sum := "cfc63b79036b2aaf4555435f6aa1bca64911234e7b8f827983a3b8e171fa4b55", func := "relievo/relievolaw03.SideSplit", spec := "sideSplit", apart := false, narrowed := true }
def SideSplitUptoSaid : Prop := sideSplitUptoRow.holds Try.pinned (OpenSpec.upto sideSplitSpec)

/-- 'relievolaw03.SideWithin', WHERE WHAT IT READS IS OF BULK AT MOST 1048576: true; the input reads as it did. -/
def sideWithinUptoRow : OpenClaim := { program := "ytihklolcnfbbjaa", sum := "cfc63b79036b2aaf4555435f6aa1bca64911234e7b8f827983a3b8e171fa4b55", func := "relievo/relievolaw03.SideWithin", spec := "sideWithin", apart := false, narrowed := true }
def SideWithinUptoSaid : Prop := sideWithinUptoRow.holds Try.pinned (OpenSpec.upto sideWithinSpec)

/-- 'relievolaw03.SideMoved', WHERE WHAT IT READS IS OF BULK AT MOST 1048576: true; the input reads as it did. -/
def sideMovedUptoRow : OpenClaim := { program := "ytihklolcnfbbjaa", sum := "cfc63b79036b2aaf4555435f6aa1bca64911234e7b8f827983a3b8e171fa4b55", func := "relievo/relievolaw03.SideMoved", spec := "sideMoved", apart := false, narrowed := true }
def SideMovedUptoSaid : Prop := sideMovedUptoRow.holds Try.pinned (OpenSpec.upto sideMovedSpec)

/-- 'relievolaw03.SideAlong', WHERE WHAT IT READS IS OF BULK AT MOST 1048576: true; the input reads as it did. -/
def sideAlongUptoRow : OpenClaim := { program := "ytihklolcnfbbjaa", sum := "cfc63b79036b2aaf4555435f6aa1bca64911234e7b8f827983a3b8e171fa4b55", func := "relievo/relievolaw03.SideAlong", spec := "sideAlong", apart := false, narrowed := true }
def SideAlongUptoSaid : Prop := sideAlongUptoRow.holds Try.pinned (OpenSpec.upto sideAlongSpec)

/-- 'relievolaw03.SideFlat', WHERE WHAT IT READS IS OF BULK AT MOST 1048576: true; the input reads as it did. -/
def sideFlatUptoRow : OpenClaim := { program := "ytihklolcnfbbjaa", sum := "cfc63b79036b2aaf4555435f6aa1bca64911234e7b8f827983a3b8e171fa4b55", func := "relievo/relievolaw03.SideFlat", spec := "sideFlat", apart := false, narrowed := true }
def SideFlatUptoSaid : Prop := sideFlatUptoRow.holds Try.pinned (OpenSpec.upto sideFlatSpec)

/-- 'relievolaw03.SideTurned', WHERE WHAT IT READS IS OF BULK AT MOST 1048576: true; the input reads as it did. -/
def sideTurnedUptoRow : OpenClaim := { program := "ytihklolcnfbbjaa", sum := "cfc63b79036b2aaf4555435f6aa1bca64911234e7b8f827983a3b8e171fa4b55", func := "relievo/relievolaw03.SideTurned", spec := "sideTurned", apart := false, narrowed := true }
def SideTurnedUptoSaid : Prop := sideTurnedUptoRow.holds Try.pinned (OpenSpec.upto sideTurnedSpec)

/-- 'relievolaw04.SlabRanges', WHERE WHAT IT READS IS OF BULK AT MOST 1048576: true; the input reads as it did. -/
def slabRangesUptoRow : OpenClaim := { program := "ytihklolcnfbbjaa", sum := "cfc63b79036b2aaf4555435f6aa1bca64911234e7b8f827983a3b8e171fa4b55", func := "relievo/relievolaw04.SlabRanges", spec := "slabRanges", apart := false, narrowed := true }
def SlabRangesUptoSaid : Prop := slabRangesUptoRow.holds Try.pinned (OpenSpec.upto slabRangesSpec)

/-- 'relievolaw04.SlabMoved', WHERE WHAT IT READS IS OF BULK AT MOST 1048576: true; the input reads as it did. -/
def slabMovedUptoRow : OpenClaim := { program := "ytihklolcnfbbjaa", sum := "cfc63b79036b2aaf4555435f6aa1bca64911234e7b8f827983a3b8e171fa4b55", func := "relievo/relievolaw04.SlabMoved", spec := "slabMoved", apart := false, narrowed := true }
def SlabMovedUptoSaid : Prop := slabMovedUptoRow.holds Try.pinned (OpenSpec.upto slabMovedSpec)

/-- 'relievolaw04.SlabFaster', WHERE WHAT IT READS IS OF BULK AT MOST 1048576: true; the input reads as it did. -/
def slabFasterUptoRow : OpenClaim := { program := "ytihklolcnfbbjaa", sum := "cfc63b79036b2aaf4555435f6aa1bca64911234e7b8f827983a3b8e171fa4b55", func := "relievo/relievolaw04.SlabFaster", spec := "slabFaster", apart := false, narrowed := true }
def SlabFasterUptoSaid : Prop := slabFasterUptoRow.holds Try.pinned (OpenSpec.upto slabFasterSpec)

/-- 'relievolaw04.SlabMirror', WHERE WHAT IT READS IS OF BULK AT MOST 1048576: true; the input reads as it did. -/
def slabMirrorUptoRow : OpenClaim := { program := "ytihklolcnfbbjaa", sum := "cfc63b79036b2aaf4555435f6aa1bca64911234e7b8f827983a3b8e171fa4b55", func := "relievo/relievolaw04.SlabMirror", spec := "slabMirror", apart := false, narrowed := true }
def SlabMirrorUptoSaid : Prop := slabMirrorUptoRow.holds Try.pinned (OpenSpec.upto slabMirrorSpec)

/-- 'relievolaw04.SlabInside', WHERE WHAT IT READS IS OF BULK AT MOST 1048576: true; the input reads as it did. -/
def slabInsideUptoRow : OpenClaim := { program := "ytihklolcnfbbjaa", sum := "cfc63b79036b2aaf4555435f6aa1bca64911234e7b8f827983a3b8e171fa4b55", func := "relievo/relievolaw04.SlabInside", spec := "slabInside", apart := false, narrowed := true }
def SlabInsideUptoSaid : Prop := slabInsideUptoRow.holds Try.pinned (OpenSpec.upto slabInsideSpec)

/-- 'relievolaw04.SlabWider', WHERE WHAT IT READS IS OF BULK AT MOST 1048576: true; the input reads as it did. -/
def slabWiderUptoRow : OpenClaim := { program := "ytihklolcnfbbjaa", sum := "cfc63b79036b2aaf4555435f6aa1bca64911234e7b8f827983a3b8e171fa4b55", func := "relievo/relievolaw04.SlabWider", spec := "slabWider", apart := false, narrowed := true }
def SlabWiderUptoSaid : Prop := slabWiderUptoRow.holds Try.pinned (OpenSpec.upto slabWiderSpec)

/-- 'relievolaw04.SlabHolds', WHERE WHAT IT READS IS OF BULK AT MOST 1048576: true; the input reads as it did. -/
def slabHoldsUptoRow : OpenClaim := { program := "ytihklolcnfbbjaa", sum := "cfc63b79036b2aaf4555435f6aa1bca64911234e7b8f827983a3b8e171fa4b55", func := "relievo/relievolaw04.SlabHolds", spec := "slabHolds", apart := false, narrowed := true }
def SlabHoldsUptoSaid : Prop := slabHoldsUptoRow.holds Try.pinned (OpenSpec.upto slabHoldsSpec)

/-- 'relievolaw03.SideMeets', WHERE WHAT IT READS IS OF BULK AT MOST 1048576: true; the input reads as it did. -/
def sideMeetsUptoRow : OpenClaim := { program := "ytihklolcnfbbjaa", sum := "cfc63b79036b2aaf4555435f6aa1bca64911234e7b8f827983a3b8e171fa4b55", func := "relievo/relievolaw03.SideMeets", spec := "sideMeets", inPlace := ["math/bits.Add64"], named := ["math/bits.divideError", "math/bits.overflowError"], apart := false, narrowed := true }
def SideMeetsUptoSaid : Prop := sideMeetsUptoRow.holds Try.pinned (OpenSpec.upto sideMeetsSpec)

end Rows
end Go.Proofs.Ytihklolcnfbbjaa
