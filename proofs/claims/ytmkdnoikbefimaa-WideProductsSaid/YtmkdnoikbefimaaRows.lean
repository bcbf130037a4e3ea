/-
  No cell of these rows narrows 'for every input' (looked for: loops, veiled, ifaces, maps, wideKeys, modest, calm, conditions, laid).
  DERIVED. THE GIVEN ROWS OF THIS SEAT. 8 by the template 'for every input the law returns true; each argument reads behind the call as it read before'; 0 by the template 'total and deterministic' (their statements: YtmkdnoikbefimaaTotals.lean).
  GIVEN WITH THE SEED: the statements are not yours to turn. If you find one false, say at which input.
  Laid BY PROGRAM, IN A SANDBOX (cutbox-rows.mjs): the forced cells as the released guide's own fill.sh prints them over the translation 3eede4cfc7f19338… (all of the seat's roots in one cut). By AI agents, Wed Nov 11 2026. No macro, syntax, notation, axiom, sorry.
-/
import Derived.Test.YtmkdnoikbefimaaChecked
import GoSem.Claim
import GoSem.ClaimJoined
import GoSem.ClaimMapViews
import Derived.JoinedTies
import Derived.KernelRfl
namespace Go.Proofs.Ytmkdnoikbefimaa
/- THE CELL 'sum', in the pinned program and in every row, IS THE sha256 OF THE DUMP (.gsa) THAT YtmkdnoikbefimaaProg.lean LOADS. Nothing in Lean hashes anything: it is a label: what it is worth is what the hold of that sum in a sandbox is worth. -/
noncomputable def Try.pinned : Pinned := { name := "ytmkdnoikbefimaa", sum := "3eede4cfc7f19338f853cebe0725641100e19bcdcdb4287ea09b0134544ece2d", checked := Try.checked }
namespace Rows
def none {H : Type} : Left H := { results := [], args := [] }

/-- 'relievolaw01.WideOrder': WHATEVER THE INPUT: true; the input reads as it did. -/
def wideOrderSpec : ChangeSpec := { name := "wideOrder", fn := fun _ => fun
  | [d1, d2, d3, d4] => { results := [.lit (.bool true)], args := [d1, d2, d3, d4] }
  | _ => none }
def wideOrderRow : OpenClaim := { program := "ytmkdnoikbefimaa", sum := "3eede4cfc7f19338f853cebe0725641100e19bcdcdb4287ea09b0134544ece2d", func := "relievo/relievolaw01.WideOrder", spec := "wideOrder", inPlace := ["math/bits.Add64"], named := ["math/bits.divideError", "math/bits.overflowError"], apart := false }
def WideOrderSaid : Prop := wideOrderRow.holds Try.pinned (OpenSpec.ofChange wideOrderSpec)

/-- ITS FALSE NEIGHBOUR: 'it returns false'. Refute it at one input. -/
def wideOrderWrong : ChangeSpec := { name := "wideOrder", fn := fun _ => fun
  | [d1, d2, d3, d4] => { results := [.lit (.bool false)], args := [d1, d2, d3, d4] }
  | _ => none }
def WideOrderWrongFalsely : Prop := wideOrderRow.holds Try.pinned (OpenSpec.ofChange wideOrderWrong)

/-- 'relievolaw01.WideSigns': WHATEVER THE INPUT: true; the input reads as it did. -/
def wideSignsSpec : ChangeSpec := { name := "wideSigns", fn := fun _ => fun
  | [d1, d2] => { results := [.lit (.bool true)], args := [d1, d2] }
  | _ => none }
def wideSignsRow : OpenClaim := { program := "ytmkdnoikbefimaa", sum := "3eede4cfc7f19338f853cebe0725641100e19bcdcdb4287ea09b0134544ece2d", func := "relievo/relievolaw01.WideSigns", spec := "wideSigns", inPlace := ["math/bits.Add64"], named := ["math/bits.divideError", "math/bits.overflowError"], apart := false }
def WideSignsSaid : Prop := wideSignsRow.holds Try.pinned (OpenSpec.ofChange wideSignsSpec)

/-- ITS FALSE NEIGHBOUR: 'it returns false'. Refute it at one input. -/
def wideSignsWrong : ChangeSpec := { name := "wideSigns", fn := fun _ => fun
  | [d1, d2] => { results := [.lit (.bool false)], args := [d1, d2] }
  | _ => none }
def WideSignsWrongFalsely : Prop := wideSignsRow.holds Try.pinned (OpenSpec.ofChange wideSignsWrong)

/-- 'relievolaw01.WideSpreads': WHATEVER THE INPUT: true; the input reads as it did. -/
def wideSpreadsSpec : ChangeSpec := { name := "wideSpreads", fn := fun _ => fun
  | [d1, d2, d3] => { results := [.lit (.bool true)], args := [d1, d2, d3] }
  | _ => none }
def wideSpreadsRow : OpenClaim := { program := "ytmkdnoikbefimaa", sum := "3eede4cfc7f19338f853cebe0725641100e19bcdcdb4287ea09b0134544ece2d", func := "relievo/relievolaw01.WideSpreads", spec := "wideSpreads", inPlace := ["math/bits.Add64"], named := ["math/bits.divideError", "math/bits.overflowError"], apart := false }
def WideSpreadsSaid : Prop := wideSpreadsRow.holds Try.pinned (OpenSpec.ofChange wideSpreadsSpec)

/-- ITS FALSE NEIGHBOUR: 'it returns false'. Refute it at one input. -/
def wideSpreadsWrong : ChangeSpec := { name := "wideSpreads", fn := fun _ => fun
  | [d1, d2, d3] => { results := [.lit (.bool false)], args := [d1, d2, d3] }
  | _ => none }
def WideSpreadsWrongFalsely : Prop := wideSpreadsRow.holds Try.pinned (OpenSpec.ofChange wideSpreadsWrong)

/-- 'relievolaw01.WideRests': WHATEVER THE INPUT: true; the input reads as it did. -/
def wideRestsSpec : ChangeSpec := { name := "wideRests", fn := fun _ => fun
  | [d1, d2, d3] => { results := [.lit (.bool true)], args := [d1, d2, d3] }
  | _ => none }
def wideRestsRow : OpenClaim := { program := "ytmkdnoikbefimaa", sum := "3eede4cfc7f19338f853cebe0725641100e19bcdcdb4287ea09b0134544ece2d", func := "relievo/relievolaw01.WideRests", spec := "wideRests", inPlace := ["math/bits.Add64"], named := ["math/bits.divideError", "math/bits.overflowError"], apart := false }
def WideRestsSaid : Prop := wideRestsRow.holds Try.pinned (OpenSpec.ofChange wideRestsSpec)

/-- ITS FALSE NEIGHBOUR: 'it returns false'. Refute it at one input. -/
def wideRestsWrong : ChangeSpec := { name := "wideRests", fn := fun _ => fun
  | [d1, d2, d3] => { results := [.lit (.bool false)], args := [d1, d2, d3] }
  | _ => none }
def WideRestsWrongFalsely : Prop := wideRestsRow.holds Try.pinned (OpenSpec.ofChange wideRestsWrong)

/-- 'relievolaw01.WideProducts': WHATEVER THE INPUT: true; the input reads as it did. -/
def wideProductsSpec : ChangeSpec := { name := "wideProducts", fn := fun _ => fun
  | [d1, d2, d3, d4, d5] => { results := [.lit (.bool true)], args := [d1, d2, d3, d4, d5] }
  | _ => none }
def wideProductsRow : OpenClaim := { program := "ytmkdnoikbefimaa", sum := "3eede4cfc7f19338f853cebe0725641100e19bcdcdb4287ea09b0134544ece2d", func := "relievo/relievolaw01.WideProducts", spec := "wideProducts", inPlace := ["math/bits.Add64"], named := ["math/bits.divideError", "math/bits.overflowError"], apart := false }
def WideProductsSaid : Prop := wideProductsRow.holds Try.pinned (OpenSpec.ofChange wideProductsSpec)

/-- ITS FALSE NEIGHBOUR: 'it returns false'. Refute it at one input. -/
def wideProductsWrong : ChangeSpec := { name := "wideProducts", fn := fun _ => fun
  | [d1, d2, d3, d4, d5] => { results := [.lit (.bool false)], args := [d1, d2, d3, d4, d5] }
  | _ => none }
def WideProductsWrongFalsely : Prop := wideProductsRow.holds Try.pinned (OpenSpec.ofChange wideProductsWrong)

/-- 'relievolaw01.WideSums': WHATEVER THE INPUT: true; the input reads as it did. -/
def wideSumsSpec : ChangeSpec := { name := "wideSums", fn := fun _ => fun
  | [d1, d2, d3] => { results := [.lit (.bool true)], args := [d1, d2, d3] }
  | _ => none }
def wideSumsRow : OpenClaim := { program := "ytmkdnoikbefimaa", sum := "3eede4cfc7f19338f853cebe0725641100e19bcdcdb4287ea09b0134544ece2d", func := "relievo/relievolaw01.WideSums", spec := "wideSums", inPlace := ["math/bits.Add64"], named := ["math/bits.divideError", "math/bits.overflowError"], apart := false }
def WideSumsSaid : Prop := wideSumsRow.holds Try.pinned (OpenSpec.ofChange wideSumsSpec)

/-- ITS FALSE NEIGHBOUR: 'it returns false'. Refute it at one input. -/
def wideSumsWrong : ChangeSpec := { name := "wideSums", fn := fun _ => fun
  | [d1, d2, d3] => { results := [.lit (.bool false)], args := [d1, d2, d3] }
  | _ => none }
def WideSumsWrongFalsely : Prop := wideSumsRow.holds Try.pinned (OpenSpec.ofChange wideSumsWrong)

/-- 'relievolaw01.WideBack': WHATEVER THE INPUT: true; the input reads as it did. -/
def wideBackSpec : ChangeSpec := { name := "wideBack", fn := fun _ => fun
  | [d1, d2, d3, d4] => { results := [.lit (.bool true)], args := [d1, d2, d3, d4] }
  | _ => none }
def wideBackRow : OpenClaim := { program := "ytmkdnoikbefimaa", sum := "3eede4cfc7f19338f853cebe0725641100e19bcdcdb4287ea09b0134544ece2d", func := "relievo/relievolaw01.WideBack", spec := "wideBack", inPlace := ["math/bits.Add64"], named := ["math/bits.divideError", "math/bits.overflowError"], apart := false }
def WideBackSaid : Prop := wideBackRow.holds Try.pinned (OpenSpec.ofChange wideBackSpec)

/-- ITS FALSE NEIGHBOUR: 'it returns false'. Refute it at one input. -/
def wideBackWrong : ChangeSpec := { name := "wideBack", fn := fun _ => fun
  | [d1, d2, d3, d4] => { results := [.lit (.bool false)], args := [d1, d2, d3, d4] }
  | _ => none }
def WideBackWrongFalsely : Prop := wideBackRow.holds Try.pinned (OpenSpec.ofChange wideBackWrong)

/-- 'relievolaw01.WideRoots': WHATEVER THE INPUT: true; the input reads as it did. -/
def wideRootsSpec : ChangeSpec := { name := "wideRoots", fn := fun _ => fun
  | [d] => { results := [.lit (.bool true)], args := [d] }
  | _ => none }
def wideRootsRow : OpenClaim := { program := "ytmkdnoikbefimaa", sum := "3eede4cfc7f19338f853cebe0725641100e19bcdcdb4287ea09b0134544ece2d", func := "relievo/relievolaw01.WideRoots", spec := "wideRoots", inPlace := ["math/bits.Add64"], named := ["math/bits.divideError", "math/bits.overflowError"], apart := false }
def WideRootsSaid : Prop := wideRootsRow.holds Try.pinned (OpenSpec.ofChange wideRootsSpec)

/-- ITS FALSE NEIGHBOUR: 'it returns false'. Refute it at one input. -/
def wideRootsWrong : ChangeSpec := { name := "wideRoots", fn := fun _ => fun
  | [d] => { results := [.lit (.bool false)], args := [d] }
  | _ => none }
def WideRootsWrongFalsely : Prop := wideRootsRow.holds Try.pinned (OpenSpec.ofChange wideRootsWrong)

/- THE SECOND FORM. 'bulk': how many values and letters a reading holds, each counted each time it is reached (what is shared counts as often as it is met; a slice's spare places count too). A statement '..UptoSaid' is the law's where the arguments, and the package variables that the reading takes, are together of bulk at most 1048576: NARROWER than '..Said'. Prove '..Said' where nothing that the law and all that it calls make is longer than what came in: it says more and counts as full. Else prove '..UptoSaid'. A law counts once. -/
mutual
def uptoBulk {H : Type} : DataW H → Nat
  | .lit (.string bytes) => bytes.length + 1
  | .lit _ => 1
  | .nil => 1
  | .ptr d => uptoBulk d + 1
  | .slice elems spare => uptoBulkAll elems + uptoBulkAll spare + 1
  | .agg parts => uptoBulkAll parts + 1
  | .iface _ d => uptoBulk d + 1
  | .map entries => uptoBulkEntries entries + 1
  | .held _ => 1
def uptoBulkAll {H : Type} : List (DataW H) → Nat
  | [] => 0
  | d :: r => uptoBulk d + uptoBulkAll r
def uptoBulkEntries {H : Type} : List (Lit × DataW H) → Nat
  | [] => 0
  | x :: r => uptoBulkEntry x + uptoBulkEntries r
def uptoBulkEntry {H : Type} : Lit × DataW H → Nat
  | (.string bytes, d) => bytes.length + uptoBulk d + 1
  | (_, d) => uptoBulk d + 1
 end
def uptoSmall : (H : Type) → List (DataW H) → Bool := fun _ ds => decide (uptoBulkAll ds ≤ 1048576)
def OpenSpec.upto (s : _root_.Go.ChangeSpec) : _root_.Go.OpenSpec := { _root_.Go.OpenSpec.ofChange s with cond := some uptoSmall }

/-- 'relievolaw01.WideOrder', WHERE WHAT IT READS IS OF BULK AT MOST 1048576: true; the input reads as it did. -/
def wideOrderUptoRow : OpenClaim := { program := "ytmkdnoikbefimaa", sum := "3eede4cfc7f19338f853cebe0725641100e19bcdcdb4287ea09b0134544ece2d", func := "relievo/relievolaw01.WideOrder", spec := "wideOrder", inPlace := ["math/bits.Add64"], named := ["math/bits.divideError", "math/bits.overflowError"], apart := false, narrowed := true }
def WideOrderUptoSaid : Prop := wideOrderUptoRow.holds Try.pinned (OpenSpec.upto wideOrderSpec)

/-- 'relievolaw01.WideSigns', WHERE WHAT IT READS IS OF BULK AT MOST 1048576: true; the input reads as it did. -/
def wideSignsUptoRow : OpenClaim := { program := "ytmkdnoikbefimaa", sum := "3eede4cfc7f19338f853cebe0725641100e19bcdcdb4287ea09b0134544ece2d", func := "relievo/relievolaw01.WideSigns", spec := "wideSigns", inPlace := ["math/bits.Add64"], named := ["math/bits.divideError", "math/bits.overflowError"], apart := false, narrowed := true }
def WideSignsUptoSaid : Prop := wideSignsUptoRow.holds Try.pinned (OpenSpec.upto wideSignsSpec)

/-- 'relievolaw01.WideSpreads', WHERE WHAT IT READS IS OF BULK AT MOST 1048576: true; the input reads as it did. -/
def wideSpreadsUptoRow : OpenClaim := { program := "ytmkdnoikbefimaa", sum := "3eede4cfc7f19338f853cebe0725641100e19bcdcdb4287ea09b0134544ece2d", func := "relievo/relievolaw01.WideSpreads", spec := "wideSpreads", inPlace := ["math/bits.Add64"], named := ["math/bits.divideError", "math/bits.overflowError"], apart := false, narrowed := true }
def WideSpreadsUptoSaid : Prop := wideSpreadsUptoRow.holds Try.pinned (OpenSpec.upto wideSpreadsSpec)

/-- 'relievolaw01.WideRests', WHERE WHAT IT READS IS OF BULK AT MOST 1048576: true; the input reads as it did. -/
def wideRestsUptoRow : OpenClaim := { program := "ytmkdnoikbefimaa", sum := "3eede4cfc7f19338f853cebe0725641100e19bcdcdb4287ea09b0134544ece2d", func := "relievo/relievolaw01.WideRests", spec := "wideRests", inPlace := ["math/bits.Add64"], named := ["math/bits.divideError", "math/bits.overflowError"], apart := false, narrowed := true }
def WideRestsUptoSaid : Prop := wideRestsUptoRow.holds Try.pinned (OpenSpec.upto wideRestsSpec)

/-- 'relievolaw01.WideProducts', WHERE WHAT IT READS IS OF BULK AT MOST 1048576: true; the input reads as it did. -/
def wideProductsUptoRow : OpenClaim := { program := "ytmkdnoikbefimaa", sum := "3eede4cfc7f19338f853cebe0725641100e19bcdcdb4287ea09b0134544ece2d", func := "relievo/relievolaw01.WideProducts", spec := "wideProducts", inPlace := ["math/bits.Add64"], named := ["math/bits.divideError", "math/bits.overflowError"], apart := false, narrowed := true }
def WideProductsUptoSaid : Prop := wideProductsUptoRow.holds Try.pinned (OpenSpec.upto wideProductsSpec)

/-- 'relievolaw01.WideSums', WHERE WHAT IT READS IS OF BULK AT MOST 1048576: true; the input reads as it did. -/
def wideSumsUptoRow : OpenClaim := { program := "ytmkdnoikbefimaa", sum := "3eede4cfc7f19338f853cebe0725641100e19bcdcdb4287ea09b0134544ece2d", func := "relievo/relievolaw01.WideSums", spec := "wideSums", inPlace := ["math/bits.Add64"], named := ["math/bits.divideError", "math/bits.overflowError"], apart := false, narrowed := true }
def WideSumsUptoSaid : Prop := wideSumsUptoRow.holds Try.pinned (OpenSpec.upto wideSumsSpec)

/-- 'relievolaw01.WideBack', WHERE WHAT IT READS IS OF BULK AT MOST 1048576: true; the input reads as it did. -/
def wideBackUptoRow : OpenClaim := { program := "ytmkdnoikbefimaa", sum := "3eede4cfc7f19338f853cebe0725641100e19bcdcdb4287ea09b0134544ece2d", func := "relievo/relievolaw01.WideBack", spec := "wideBack", inPlace := ["math/bits.Add64"], named := ["math/bits.divideError", "math/bits.overflowError"], apart := false, narrowed := true }
def WideBackUptoSaid : Prop := wideBackUptoRow.holds Try.pinned (OpenSpec.upto wideBackSpec)

/-- 'relievolaw01.WideRoots', WHERE WHAT IT READS IS OF BULK AT MOST 1048576: true; the input reads as it did. -/
def wideRootsUptoRow : OpenClaim := { program := "ytmkdnoikbefimaa", sum := "3eede4cfc7f19338f853cebe0725641100e19bcdcdb4287ea09b0134544ece2d", func := "relievo/relievolaw01.WideRoots", spec := "wideRoots", inPlace := ["math/bits.Add64"], named := ["math/bits.divideError", "math/bits.overflowError"], apart := false, narrowed := true }
def WideRootsUptoSaid : Prop := wideRootsUptoRow.holds Try.pinned (OpenSpec.upto wideRootsSpec)

end Rows
end Go.Proofs.Ytmkdnoikbefimaa
