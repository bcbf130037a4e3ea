/-
  No cell of these rows narrows 'for every input' (looked for: loops, veiled, ifaces, maps, wideKeys, modest, calm, conditions, laid).
  DERIVED. THE GIVEN ROWS OF THIS SEAT. 8 by the template 'for every input the law returns true; each argument reads behind the call as it read before'; 0 by the template 'total and deterministic' (their statements: YtmhnidmbgicgeaaTotals.lean).
  GIVEN WITH THE SEED: the statements are not yours to turn. If you find one false, say at which input.
  Laid BY PROGRAM, IN A SANDBOX (cutbox-rows.mjs): the forced cells as the released guide's own fill.sh prints them over the translation 632449cd53217346… (all of the seat's roots in one cut). By AI agents, Wed Nov 11 2026. No macro, syntax, notation, axiom, sorry.
-/
import Derived.Test.YtmhnidmbgicgeaaChecked
import GoSem.Claim
import GoSem.ClaimJoined
import GoSem.ClaimMapViews
import Derived.JoinedTies
import Derived.KernelRfl
namespace Go.Proofs.Ytmhnidmbgicgeaa
/- THE CELL 'sum', in the pinned program and in every row, IS THE sha256 OF THE DUMP (.gsa) THAT YtmhnidmbgicgeaaProg.lean LOADS. Nothing in Lean hashes anything: it is a label: what it is worth is what the hold of that sum in a sandbox is worth. -/
noncomputable def Try.pinned : Pinned := { name := "ytmhnidmbgicgeaa", sum := "632449cd53217346afc4234d843276310784876699c65a251ec394115986b5ef", checked := Try.checked }
namespace Rows
def none {H : Type} : Left H := { results := [], args := [] }

/-- 'relievolaw19.LightPower': WHATEVER THE INPUT: true; the input reads as it did. -/
def lightPowerSpec : ChangeSpec := { name := "lightPower", fn := fun _ => fun
  | [d1, d2] => { results := [.lit (.bool true)], args := [d1, d2] }
  | _ => none }
def lightPowerRow : OpenClaim := { program := "ytmhnidmbgicgeaa", sum := "632449cd53217346afc4234d843276310784876699c65a251ec394115986b5ef", func := "relievo/relievolaw19.LightPower", spec := "lightPower", unfollowed := true, recurses := true, apart := false }
def LightPowerSaid : Prop := lightPowerRow.holds Try.pinned (OpenSpec.ofChange lightPowerSpec)

/-- ITS FALSE NEIGHBOUR: 'it returns false'. Refute it at one input. -/
def lightPowerWrong : ChangeSpec := { name := "lightPower", fn := fun _ => fun
  | [d1, d2] => { results := [.lit (.bool false)], args := [d1, d2] }
  | _ => none }
def LightPowerWrongFalsely : Prop := lightPowerRow.holds Try.pinned (OpenSpec.ofChange lightPowerWrong)

/-- 'relievolaw19.LightMirror': WHATEVER THE INPUT: true; the input reads as it did. -/
def lightMirrorSpec : ChangeSpec := { name := "lightMirror", fn := fun _ => fun
  | [d1, d2, d3] => { results := [.lit (.bool true)], args := [d1, d2, d3] }
  | _ => none }
def lightMirrorRow : OpenClaim := { program := "ytmhnidmbgicgeaa", sum := "632449cd53217346afc4234d843276310784876699c65a251ec394115986b5ef", func := "relievo/relievolaw19.LightMirror", spec := "lightMirror", unfollowed := true, recurses := true, apart := false }
def LightMirrorSaid : Prop := lightMirrorRow.holds Try.pinned (OpenSpec.ofChange lightMirrorSpec)

/-- ITS FALSE NEIGHBOUR: 'it returns false'. Refute it at one input. -/
def lightMirrorWrong : ChangeSpec := { name := "lightMirror", fn := fun _ => fun
  | [d1, d2, d3] => { results := [.lit (.bool false)], args := [d1, d2, d3] }
  | _ => none }
def LightMirrorWrongFalsely : Prop := lightMirrorRow.holds Try.pinned (OpenSpec.ofChange lightMirrorWrong)

/-- 'relievolaw19.LightBends': WHATEVER THE INPUT: true; the input reads as it did. -/
def lightBendsSpec : ChangeSpec := { name := "lightBends", fn := fun _ => fun
  | [d1, d2, d3] => { results := [.lit (.bool true)], args := [d1, d2, d3] }
  | _ => none }
def lightBendsRow : OpenClaim := { program := "ytmhnidmbgicgeaa", sum := "632449cd53217346afc4234d843276310784876699c65a251ec394115986b5ef", func := "relievo/relievolaw19.LightBends", spec := "lightBends", unfollowed := true, recurses := true, apart := false }
def LightBendsSaid : Prop := lightBendsRow.holds Try.pinned (OpenSpec.ofChange lightBendsSpec)

/-- ITS FALSE NEIGHBOUR: 'it returns false'. Refute it at one input. -/
def lightBendsWrong : ChangeSpec := { name := "lightBends", fn := fun _ => fun
  | [d1, d2, d3] => { results := [.lit (.bool false)], args := [d1, d2, d3] }
  | _ => none }
def LightBendsWrongFalsely : Prop := lightBendsRow.holds Try.pinned (OpenSpec.ofChange lightBendsWrong)

/-- 'relievolaw19.LightCos': WHATEVER THE INPUT: true; the input reads as it did. -/
def lightCosSpec : ChangeSpec := { name := "lightCos", fn := fun _ => fun
  | [d1, d2] => { results := [.lit (.bool true)], args := [d1, d2] }
  | _ => none }
def lightCosRow : OpenClaim := { program := "ytmhnidmbgicgeaa", sum := "632449cd53217346afc4234d843276310784876699c65a251ec394115986b5ef", func := "relievo/relievolaw19.LightCos", spec := "lightCos", unfollowed := true, recurses := true, apart := false }
def LightCosSaid : Prop := lightCosRow.holds Try.pinned (OpenSpec.ofChange lightCosSpec)

/-- ITS FALSE NEIGHBOUR: 'it returns false'. Refute it at one input. -/
def lightCosWrong : ChangeSpec := { name := "lightCos", fn := fun _ => fun
  | [d1, d2] => { results := [.lit (.bool false)], args := [d1, d2] }
  | _ => none }
def LightCosWrongFalsely : Prop := lightCosRow.holds Try.pinned (OpenSpec.ofChange lightCosWrong)

/-- 'relievolaw19.LightLonger': WHATEVER THE INPUT: true; the input reads as it did. -/
def lightLongerSpec : ChangeSpec := { name := "lightLonger", fn := fun _ => fun
  | [d1, d2, d3] => { results := [.lit (.bool true)], args := [d1, d2, d3] }
  | _ => none }
def lightLongerRow : OpenClaim := { program := "ytmhnidmbgicgeaa", sum := "632449cd53217346afc4234d843276310784876699c65a251ec394115986b5ef", func := "relievo/relievolaw19.LightLonger", spec := "lightLonger", unfollowed := true, recurses := true, apart := false }
def LightLongerSaid : Prop := lightLongerRow.holds Try.pinned (OpenSpec.ofChange lightLongerSpec)

/-- ITS FALSE NEIGHBOUR: 'it returns false'. Refute it at one input. -/
def lightLongerWrong : ChangeSpec := { name := "lightLonger", fn := fun _ => fun
  | [d1, d2, d3] => { results := [.lit (.bool false)], args := [d1, d2, d3] }
  | _ => none }
def LightLongerWrongFalsely : Prop := lightLongerRow.holds Try.pinned (OpenSpec.ofChange lightLongerWrong)

/-- 'relievolaw19.LightStraight': WHATEVER THE INPUT: true; the input reads as it did. -/
def lightStraightSpec : ChangeSpec := { name := "lightStraight", fn := fun _ => fun
  | [d1, d2] => { results := [.lit (.bool true)], args := [d1, d2] }
  | _ => none }
def lightStraightRow : OpenClaim := { program := "ytmhnidmbgicgeaa", sum := "632449cd53217346afc4234d843276310784876699c65a251ec394115986b5ef", func := "relievo/relievolaw19.LightStraight", spec := "lightStraight", unfollowed := true, recurses := true, apart := false }
def LightStraightSaid : Prop := lightStraightRow.holds Try.pinned (OpenSpec.ofChange lightStraightSpec)

/-- ITS FALSE NEIGHBOUR: 'it returns false'. Refute it at one input. -/
def lightStraightWrong : ChangeSpec := { name := "lightStraight", fn := fun _ => fun
  | [d1, d2] => { results := [.lit (.bool false)], args := [d1, d2] }
  | _ => none }
def LightStraightWrongFalsely : Prop := lightStraightRow.holds Try.pinned (OpenSpec.ofChange lightStraightWrong)

/-- 'relievolaw19.LightAnswers': WHATEVER THE INPUT: true; the input reads as it did. -/
def lightAnswersSpec : ChangeSpec := { name := "lightAnswers", fn := fun _ => fun
  | [d1, d2, d3, d4, d5, d6, d7, d8] => { results := [.lit (.bool true)], args := [d1, d2, d3, d4, d5, d6, d7, d8] }
  | _ => none }
def lightAnswersRow : OpenClaim := { program := "ytmhnidmbgicgeaa", sum := "632449cd53217346afc4234d843276310784876699c65a251ec394115986b5ef", func := "relievo/relievolaw19.LightAnswers", spec := "lightAnswers", unfollowed := true, recurses := true, apart := false }
def LightAnswersSaid : Prop := lightAnswersRow.holds Try.pinned (OpenSpec.ofChange lightAnswersSpec)

/-- ITS FALSE NEIGHBOUR: 'it returns false'. Refute it at one input. -/
def lightAnswersWrong : ChangeSpec := { name := "lightAnswers", fn := fun _ => fun
  | [d1, d2, d3, d4, d5, d6, d7, d8] => { results := [.lit (.bool false)], args := [d1, d2, d3, d4, d5, d6, d7, d8] }
  | _ => none }
def LightAnswersWrongFalsely : Prop := lightAnswersRow.holds Try.pinned (OpenSpec.ofChange lightAnswersWrong)

/-- 'relievolaw19.LightBlend': WHATEVER THE INPUT: true; the input reads as it did. -/
def lightBlendSpec : ChangeSpec := { name := "lightBlend", fn := fun _ => fun
  | [d1, d2, d3, d4, d5] => { results := [.lit (.bool true)], args := [d1, d2, d3, d4, d5] }
  | _ => none }
def lightBlendRow : OpenClaim := { program := "ytmhnidmbgicgeaa", sum := "632449cd53217346afc4234d843276310784876699c65a251ec394115986b5ef", func := "relievo/relievolaw19.LightBlend", spec := "lightBlend", unfollowed := true, recurses := true, apart := false }
def LightBlendSaid : Prop := lightBlendRow.holds Try.pinned (OpenSpec.ofChange lightBlendSpec)

/-- ITS FALSE NEIGHBOUR: 'it returns false'. Refute it at one input. -/
def lightBlendWrong : ChangeSpec := { name := "lightBlend", fn := fun _ => fun
  | [d1, d2, d3, d4, d5] => { results := [.lit (.bool false)], args := [d1, d2, d3, d4, d5] }
  | _ => none }
def LightBlendWrongFalsely : Prop := lightBlendRow.holds Try.pinned (OpenSpec.ofChange lightBlendWrong)

/- THE SECOND FORM. 'bulk': how many values and letters a reading holds, each counted each time it is reached (what is shared counts as often as it is met; a slice's spare places count too). A statement '..UptoSaid' is the law's where the arguments, and the package variables that the reading takes, are together of bulk at most 1048576: NARROWER than '..Said'. Prove '..Said' where nothing that the law and all that it calls make is longer than what came in: it says more and counts as full. Else prove '..UptoSaid'. A law counts once. -/
mutual
def uptoBulk {H : Type} : DataW H → Nat
  | .lit (.string bytes) => bytes.length + 1
  | .lit _ => 1
  | .nil => 1
  | .ptr d => uptoBulk d + 1
  | .slice elems spare => uptoBulkAll elems + uptoBulkAll spare + 1
  | .agg parts => uptoBulkAll parts + 1
  | .iface _ d => uptoBulk d + 1
  | .map entries => uptoBulkEntries entries + 1
  | .held _ => 1
def uptoBulkAll {H : Type} : List (DataW H) → Nat
  | [] => 0
  | d :: r => uptoBulk d + uptoBulkAll r
def uptoBulkEntries {H : Type} : List (Lit × DataW H) → Nat
  | [] => 0
  | x :: r => uptoBulkEntry x + uptoBulkEntries r
def uptoBulkEntry {H : Type} : Lit × DataW H → Nat
  | (.string bytes, d) => bytes.length + uptoBulk d + 1
  | (_, d) => uptoBulk d + 1
 end
def uptoSmall : (H : Type) → List (DataW H) → Bool := fun _ ds => decide (uptoBulkAll ds ≤ 1048576)
def OpenSpec.upto (s : _root_.Go.ChangeSpec) : _root_.Go.OpenSpec := { _root_.Go.OpenSpec.ofChange s with cond := some uptoSmall }

/-- 'relievolaw19.LightPower', WHERE WHAT IT READS IS OF BULK AT MOST 1048576: true; the input reads as it did. -/
def lightPowerUptoRow : OpenClaim := { program := "ytmhnidmbgicgeaa", sum := "632449cd53217346afc4234d843276310784876699c65a251ec394115986b5ef", func := "relievo/relievolaw19.LightPower", spec := "lightPower", unfollowed := true, recurses := true, apart := false, narrowed := true }
def LightPowerUptoSaid : Prop := lightPowerUptoRow.holds Try.pinned (OpenSpec.upto lightPowerSpec)

/-- 'relievolaw19.LightMirror', WHERE WHAT IT READS IS OF BULK AT MOST 1048576: true; the input reads as it did. -/
def lightMirrorUptoRow : OpenClaim := { program := "ytmhnidmbgicgeaa", sum := "632449cd53217346afc4234d843276310784876699c65a251ec394115986b5ef", func := "relievo/relievolaw19.LightMirror", spec := "lightMirror", unfollowed := true, recurses := true, apart := false, narrowed := true }
def LightMirrorUptoSaid : Prop := lightMirrorUptoRow.holds Try.pinned (OpenSpec.upto lightMirrorSpec)

/-- 'relievolaw19.LightBends', WHERE WHAT IT READS IS OF BULK AT MOST 1048576: true; the input reads as it did. -/
def lightBendsUptoRow : OpenClaim := { program := "ytmhnidmbgicgeaa", sum := "632449cd53217346afc4234d843276310784876699c65a251ec394115986b5ef", func := "relievo/relievolaw19.LightBends", spec := "lightBends", unfollowed := true, recurses := true, apart := false, narrowed := true }
def LightBendsUptoSaid : Prop := lightBendsUptoRow.holds Try.pinned (OpenSpec.upto lightBendsSpec)

/-- 'relievolaw19.LightCos', WHERE WHAT IT READS IS OF BULK AT MOST 1048576: true; the input reads as it did. -/
def lightCosUptoRow : OpenClaim := { program := "ytmhnidmbgicgeaa", sum := "632449cd53217346afc4234d843276310784876699c65a251ec394115986b5ef", func := "relievo/relievolaw19.LightCos", spec := "lightCos", unfollowed := true, recurses := true, apart := false, narrowed := true }
def LightCosUptoSaid : Prop := lightCosUptoRow.holds Try.pinned (OpenSpec.upto lightCosSpec)

/-- 'relievolaw19.LightLonger', WHERE WHAT IT READS IS OF BULK AT MOST 1048576: true; the input reads as it did. -/
def lightLongerUptoRow : OpenClaim := { program := "ytmhnidmbgicgeaa", sum := "632449cd53217346afc4234d843276310784876699c65a251ec394115986b5ef", func := "relievo/relievolaw19.LightLonger", spec := "lightLonger", unfollowed := true, recurses := true, apart := false, narrowed := true }
def LightLongerUptoSaid : Prop := lightLongerUptoRow.holds Try.pinned (OpenSpec.upto lightLongerSpec)

/-- 'relievolaw19.LightStraight', WHERE WHAT IT READS IS OF BULK AT MOST 1048576: true; the input reads as it did. -/
def lightStraightUptoRow : OpenClaim := { program := "ytmhnidmbgicgeaa", sum := "632449cd53217346afc4234d843276310784876699c65a251ec394115986b5ef", func := "relievo/relievolaw19.LightStraight", spec := "lightStraight", unfollowed := true, recurses := true, apart := false, narrowed := true }
def LightStraightUptoSaid : Prop := lightStraightUptoRow.holds Try.pinned (OpenSpec.upto lightStraightSpec)

/-- 'relievolaw19.LightAnswers', WHERE WHAT IT READS IS OF BULK AT MOST 1048576: true; the input reads as it did. -/
def lightAnswersUptoRow : OpenClaim := { program := "ytmhnidmbgicgeaa", sum := "632449cd53217346afc4234d843276310784876699c65a251ec394115986b5ef", func := "relievo/relievolaw19.LightAnswers", spec := "lightAnswers", unfollowed := true, recurses := true, apart := false, narrowed := true }
def LightAnswersUptoSaid : Prop := lightAnswersUptoRow.holds Try.pinned (OpenSpec.upto lightAnswersSpec)

/-- 'relievolaw19.LightBlend', WHERE WHAT IT READS IS OF BULK AT MOST 1048576: true; the input reads as it did. -/
def lightBlendUptoRow : OpenClaim := { program := "ytmhnidmbgicgeaa", sum := "632449cd53217346afc4234d843276310784876699c65a251ec394115986b5ef", func := "relievo/relievolaw19.LightBlend", spec := "lightBlend", unfollowed := true, recurses := true, apart := false, narrowed := true }
def LightBlendUptoSaid : Prop := lightBlendUptoRow.holds Try.pinned (OpenSpec.upto lightBlendSpec)

end Rows
end Go.Proofs.Ytmhnidmbgicgeaa
