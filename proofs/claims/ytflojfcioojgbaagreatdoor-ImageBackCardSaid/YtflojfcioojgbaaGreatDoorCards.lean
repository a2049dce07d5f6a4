/-
  DERIVED. GIVEN WITH THE SEED: THE CARDS: each row of YtflojfcioojgbaaGreatDoorRows.lean that lists a variable, with what it lists TIED to the program's text (the seventh form; the later family's looks); each row that meets fmt, with fmt's text TOLD by the authors' own Lean function (tested against real Go, not proved from fmt's source: count such statements apart). THE CARD IS WHAT COUNTS. Prove the row's statement (the work); the ties are given (YtflojfcioojgbaaGreatDoorTie.lean); close each card by the builder's one call (the guide's Derived/Test/ToyasCard.lean, 'card_holds'). Laid BY PROGRAM, IN A SANDBOX (cutbox-door.mjs). By AI agents, Wed Nov 11 2026. No macro, syntax, notation, axiom, sorry.
-/
import Derived.Test.YtflojfcioojgbaaGreatDoorRows
import GoSem.ClaimSeven
namespace Go.Proofs.YtflojfcioojgbaaGreatDoor
namespace Rows

/-- THE TIED CARD OF 'cleatlaw27.ImageBack'. -/
def imageBackCard : Claim7 := { stood := { row := imageBackRow, standIns := [], harness := (true, "9ad906d4cffe55d41ab1fb6891ed7fd019cb7297af580d9c6c6f96d4c45bd091"), looks := true }, kinds := [], alts := [], laidByText := true, laidKinds := [.data], laidTests := true, laidLooks := .later }
def ImageBackCardSaid : Prop := Claim7.holds Tryz.pinned (.plain (OpenSpec.ofChange imageBackSpec)) imageBackCard

/-- THE TIED CARD OF 'cleatlaw27.ImageOnly'. -/
def imageOnlyCard : Claim7 := { stood := { row := imageOnlyRow, standIns := [], harness := (true, "9ad906d4cffe55d41ab1fb6891ed7fd019cb7297af580d9c6c6f96d4c45bd091"), looks := true }, kinds := [], alts := [], laidByText := true, laidKinds := [.data], laidTests := true, laidLooks := .later }
def ImageOnlyCardSaid : Prop := Claim7.holds Tryz.pinned (.plain (OpenSpec.ofChange imageOnlySpec)) imageOnlyCard

/-- THE TIED CARD OF 'cleatlaw27.ImageSame'. -/
def imageSameCard : Claim7 := { stood := { row := imageSameRow, standIns := [], harness := (true, "9ad906d4cffe55d41ab1fb6891ed7fd019cb7297af580d9c6c6f96d4c45bd091"), looks := true }, kinds := [], alts := [], laidByText := true, laidKinds := [.data], laidTests := true, laidLooks := .later }
def ImageSameCardSaid : Prop := Claim7.holds Tryz.pinned (.plain (OpenSpec.ofChange imageSameSpec)) imageSameCard

/-- THE TIED CARD OF 'cleatlaw27.ImageLonger'. -/
def imageLongerCard : Claim7 := { stood := { row := imageLongerRow, standIns := [], harness := (true, "9ad906d4cffe55d41ab1fb6891ed7fd019cb7297af580d9c6c6f96d4c45bd091"), looks := true }, kinds := [], alts := [], laidByText := true, laidKinds := [.data], laidTests := true, laidLooks := .later }
def ImageLongerCardSaid : Prop := Claim7.holds Tryz.pinned (.plain (OpenSpec.ofChange imageLongerSpec)) imageLongerCard

/-- THE TIED CARD OF 'cleatlaw27.ImageDoes'. -/
def imageDoesCard : Claim7 := { stood := { row := imageDoesRow, standIns := [], harness := (true, "9ad906d4cffe55d41ab1fb6891ed7fd019cb7297af580d9c6c6f96d4c45bd091"), looks := true }, kinds := [], alts := [], laidByText := true, laidKinds := [.data], laidTests := true, laidLooks := .later }
def ImageDoesCardSaid : Prop := Claim7.holds Tryz.pinned (.plain (OpenSpec.ofChange imageDoesSpec)) imageDoesCard

/-- THE TIED CARD OF 'cleatlaw27.ImageRuns'. -/
def imageRunsCard : Claim7 := { stood := { row := imageRunsRow, standIns := [], harness := (true, "9ad906d4cffe55d41ab1fb6891ed7fd019cb7297af580d9c6c6f96d4c45bd091"), looks := true }, kinds := [], alts := [], laidByText := true, laidKinds := [.data], laidTests := true, laidLooks := .later }
def ImageRunsCardSaid : Prop := Claim7.holds Tryz.pinned (.plain (OpenSpec.ofChange imageRunsSpec)) imageRunsCard

/-- THE SECOND FORM's CARD OF 'cleatlaw27.ImageBack'. -/
def imageBackUptoCard : Claim7 := { stood := { row := imageBackUptoRow, standIns := [], harness := (true, "9ad906d4cffe55d41ab1fb6891ed7fd019cb7297af580d9c6c6f96d4c45bd091"), looks := true }, kinds := [], alts := [], laidByText := true, laidKinds := [.data], laidTests := true, laidLooks := .later }
def ImageBackUptoCardSaid : Prop := Claim7.holds Tryz.pinned (.plain (OpenSpec.upto imageBackSpec)) imageBackUptoCard

/-- THE SECOND FORM's CARD OF 'cleatlaw27.ImageOnly'. -/
def imageOnlyUptoCard : Claim7 := { stood := { row := imageOnlyUptoRow, standIns := [], harness := (true, "9ad906d4cffe55d41ab1fb6891ed7fd019cb7297af580d9c6c6f96d4c45bd091"), looks := true }, kinds := [], alts := [], laidByText := true, laidKinds := [.data], laidTests := true, laidLooks := .later }
def ImageOnlyUptoCardSaid : Prop := Claim7.holds Tryz.pinned (.plain (OpenSpec.upto imageOnlySpec)) imageOnlyUptoCard

/-- THE SECOND FORM's CARD OF 'cleatlaw27.ImageSame'. -/
def imageSameUptoCard : Claim7 := { stood := { row := imageSameUptoRow, standIns := [], harness := (true, "9ad906d4cffe55d41ab1fb6891ed7fd019cb7297af580d9c6c6f96d4c45bd091"), looks := true }, kinds := [], alts := [], laidByText := true, laidKinds := [.data], laidTests := true, laidLooks := .later }
def ImageSameUptoCardSaid : Prop := Claim7.holds Tryz.pinned (.plain (OpenSpec.upto imageSameSpec)) imageSameUptoCard

/-- THE SECOND FORM's CARD OF 'cleatlaw27.ImageLonger'. -/
def imageLongerUptoCard : Claim7 := { stood := { row := imageLongerUptoRow, standIns := [], harness := (true, "9ad906d4cffe55d41ab1fb6891ed7fd019cb7297af580d9c6c6f96d4c45bd091"), looks := true }, kinds := [], alts := [], laidByText := true, laidKinds := [.data], laidTests := true, laidLooks := .later }
def ImageLongerUptoCardSaid : Prop := Claim7.holds Tryz.pinned (.plain (OpenSpec.upto imageLongerSpec)) imageLongerUptoCard

/-- THE SECOND FORM's CARD OF 'cleatlaw27.ImageDoes'. -/
def imageDoesUptoCard : Claim7 := { stood := { row := imageDoesUptoRow, standIns := [], harness := (true, "9ad906d4cffe55d41ab1fb6891ed7fd019cb7297af580d9c6c6f96d4c45bd091"), looks := true }, kinds := [], alts := [], laidByText := true, laidKinds := [.data], laidTests := true, laidLooks := .later }
def ImageDoesUptoCardSaid : Prop := Claim7.holds Tryz.pinned (.plain (OpenSpec.upto imageDoesSpec)) imageDoesUptoCard

/-- THE SECOND FORM's CARD OF 'cleatlaw27.ImageRuns'. -/
def imageRunsUptoCard : Claim7 := { stood := { row := imageRunsUptoRow, standIns := [], harness := (true, "9ad906d4cffe55d41ab1fb6891ed7fd019cb7297af580d9c6c6f96d4c45bd091"), looks := true }, kinds := [], alts := [], laidByText := true, laidKinds := [.data], laidTests := true, laidLooks := .later }
def ImageRunsUptoCardSaid : Prop := Claim7.holds Tryz.pinned (.plain (OpenSpec.upto imageRunsSpec)) imageRunsUptoCard
end Rows
end Go.Proofs.YtflojfcioojgbaaGreatDoor
