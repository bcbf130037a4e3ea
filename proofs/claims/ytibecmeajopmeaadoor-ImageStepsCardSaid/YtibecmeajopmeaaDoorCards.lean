/-
  DERIVED. GIVEN WITH THE SEED: THE CARDS: each row of YtibecmeajopmeaaDoorRows.lean that lists a variable, with what it lists TIED to the program's text (the seventh form; the later family's looks); each row that meets fmt, with fmt's text TOLD by the authors' own Lean function (tested against real Go, not proved from fmt's source: count such statements apart). THE CARD IS WHAT COUNTS. Prove the row's statement (the work); the ties are given (YtibecmeajopmeaaDoorTie.lean); close each card by the builder's one call (the guide's Derived/Test/ToyasCard.lean, 'card_holds'). Laid BY PROGRAM, IN A SANDBOX (cutbox-door.mjs). By AI agents, Wed Nov 11 2026. No macro, syntax, notation, axiom, sorry.
-/
import Derived.Test.YtibecmeajopmeaaDoorRows
import GoSem.ClaimSeven
namespace Go.Proofs.YtibecmeajopmeaaDoor
namespace Rows

/-- THE TIED CARD OF 'relievolaw22.ImageSteps'. -/
def imageStepsCard : Claim7 := { stood := { row := imageStepsRow, standIns := [], harness := (true, "99777306641913ca5bc22b17ba47b825362cd470c1d187d5b8631613edffde73"), looks := false }, kinds := [], alts := [], laidByText := true, laidKinds := [.data, .data, .data], laidTests := true, laidLooks := .later }
def ImageStepsCardSaid : Prop := Claim7.holds Tryd.pinned (.plain (OpenSpec.ofChange imageStepsSpec)) imageStepsCard

/-- THE TIED CARD OF 'relievolaw22.ImageOrder'. -/
def imageOrderCard : Claim7 := { stood := { row := imageOrderRow, standIns := [], harness := (true, "99777306641913ca5bc22b17ba47b825362cd470c1d187d5b8631613edffde73"), looks := false }, kinds := [], alts := [], laidByText := true, laidKinds := [.data, .data, .data], laidTests := true, laidLooks := .later }
def ImageOrderCardSaid : Prop := Claim7.holds Tryd.pinned (.plain (OpenSpec.ofChange imageOrderSpec)) imageOrderCard

/-- THE TIED CARD OF 'relievolaw22.ImageAlike'. -/
def imageAlikeCard : Claim7 := { stood := { row := imageAlikeRow, standIns := [], harness := (true, "99777306641913ca5bc22b17ba47b825362cd470c1d187d5b8631613edffde73"), looks := false }, kinds := [], alts := [], laidByText := true, laidKinds := [.data, .data, .data], laidTests := true, laidLooks := .later }
def ImageAlikeCardSaid : Prop := Claim7.holds Tryd.pinned (.plain (OpenSpec.ofChange imageAlikeSpec)) imageAlikeCard

/-- THE TIED CARD OF 'relievolaw22.ImageLines'. -/
def imageLinesCard : Claim7 := { stood := { row := imageLinesRow, standIns := [], harness := (true, "99777306641913ca5bc22b17ba47b825362cd470c1d187d5b8631613edffde73"), looks := false }, kinds := [], alts := [], laidByText := true, laidKinds := [.data, .data, .data], laidTests := true, laidLooks := .later }
def ImageLinesCardSaid : Prop := Claim7.holds Tryd.pinned (.plain (OpenSpec.ofChange imageLinesSpec)) imageLinesCard

/-- THE SECOND FORM's CARD OF 'relievolaw22.ImageSteps'. -/
def imageStepsUptoCard : Claim7 := { stood := { row := imageStepsUptoRow, standIns := [], harness := (true, "99777306641913ca5bc22b17ba47b825362cd470c1d187d5b8631613edffde73"), looks := false }, kinds := [], alts := [], laidByText := true, laidKinds := [.data, .data, .data], laidTests := true, laidLooks := .later }
def ImageStepsUptoCardSaid : Prop := Claim7.holds Tryd.pinned (.plain (OpenSpec.upto imageStepsSpec)) imageStepsUptoCard

/-- THE SECOND FORM's CARD OF 'relievolaw22.ImageOrder'. -/
def imageOrderUptoCard : Claim7 := { stood := { row := imageOrderUptoRow, standIns := [], harness := (true, "99777306641913ca5bc22b17ba47b825362cd470c1d187d5b8631613edffde73"), looks := false }, kinds := [], alts := [], laidByText := true, laidKinds := [.data, .data, .data], laidTests := true, laidLooks := .later }
def ImageOrderUptoCardSaid : Prop := Claim7.holds Tryd.pinned (.plain (OpenSpec.upto imageOrderSpec)) imageOrderUptoCard

/-- THE SECOND FORM's CARD OF 'relievolaw22.ImageAlike'. -/
def imageAlikeUptoCard : Claim7 := { stood := { row := imageAlikeUptoRow, standIns := [], harness := (true, "99777306641913ca5bc22b17ba47b825362cd470c1d187d5b8631613edffde73"), looks := false }, kinds := [], alts := [], laidByText := true, laidKinds := [.data, .data, .data], laidTests := true, laidLooks := .later }
def ImageAlikeUptoCardSaid : Prop := Claim7.holds Tryd.pinned (.plain (OpenSpec.upto imageAlikeSpec)) imageAlikeUptoCard

/-- THE SECOND FORM's CARD OF 'relievolaw22.ImageLines'. -/
def imageLinesUptoCard : Claim7 := { stood := { row := imageLinesUptoRow, standIns := [], harness := (true, "99777306641913ca5bc22b17ba47b825362cd470c1d187d5b8631613edffde73"), looks := false }, kinds := [], alts := [], laidByText := true, laidKinds := [.data, .data, .data], laidTests := true, laidLooks := .later }
def ImageLinesUptoCardSaid : Prop := Claim7.holds Tryd.pinned (.plain (OpenSpec.upto imageLinesSpec)) imageLinesUptoCard
end Rows
end Go.Proofs.YtibecmeajopmeaaDoor
