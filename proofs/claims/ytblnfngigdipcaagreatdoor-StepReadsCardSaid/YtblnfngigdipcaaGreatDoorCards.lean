/-
  DERIVED. GIVEN WITH THE SEED: THE CARDS: each row of YtblnfngigdipcaaGreatDoorRows.lean that lists a variable, with what it lists TIED to the program's text (the seventh form; the later family's looks); each row that meets fmt, with fmt's text TOLD by the authors' own Lean function (tested against real Go, not proved from fmt's source: count such statements apart). THE CARD IS WHAT COUNTS. Prove the row's statement (the work); the ties are given (YtblnfngigdipcaaGreatDoorTie.lean); close each card by the builder's one call (the guide's Derived/Test/ToyasCard.lean, 'card_holds'). Laid BY PROGRAM, IN A SANDBOX (cutbox-door.mjs). By AI agents, Wed Nov 11 2026. No macro, syntax, notation, axiom, sorry.
-/
import Derived.Test.YtblnfngigdipcaaGreatDoorRows
import GoSem.ClaimSeven
namespace Go.Proofs.YtblnfngigdipcaaGreatDoor
namespace Rows

/-- THE TIED CARD OF 'cleatlaw08.StepRegs'. -/
def stepRegsCard : Claim7 := { stood := { row := stepRegsRow, standIns := [], harness := (true, "8fd914f6097a26cdace7562d05b9aba216db5f0add8cf42a262a0dda92bf48df"), looks := true }, kinds := [], alts := [], laidByText := true, laidKinds := [.data], laidTests := true, laidLooks := .later }
def StepRegsCardSaid : Prop := Claim7.holds Tryz.pinned (.plain (OpenSpec.ofChange stepRegsSpec)) stepRegsCard

/-- THE TIED CARD OF 'cleatlaw08.StepRuns'. -/
def stepRunsCard : Claim7 := { stood := { row := stepRunsRow, standIns := [], harness := (true, "8fd914f6097a26cdace7562d05b9aba216db5f0add8cf42a262a0dda92bf48df"), looks := true }, kinds := [], alts := [], laidByText := true, laidKinds := [.data], laidTests := true, laidLooks := .later }
def StepRunsCardSaid : Prop := Claim7.holds Tryz.pinned (.plain (OpenSpec.ofChange stepRunsSpec)) stepRunsCard

/-- THE TIED CARD OF 'cleatlaw08.StepStays'. -/
def stepStaysCard : Claim7 := { stood := { row := stepStaysRow, standIns := [], harness := (true, "8fd914f6097a26cdace7562d05b9aba216db5f0add8cf42a262a0dda92bf48df"), looks := true }, kinds := [], alts := [], laidByText := true, laidKinds := [.data], laidTests := true, laidLooks := .later }
def StepStaysCardSaid : Prop := Claim7.holds Tryz.pinned (.plain (OpenSpec.ofChange stepStaysSpec)) stepStaysCard

/-- THE TIED CARD OF 'cleatlaw08.StepReads'. -/
def stepReadsCard : Claim7 := { stood := { row := stepReadsRow, standIns := [], harness := (true, "8fd914f6097a26cdace7562d05b9aba216db5f0add8cf42a262a0dda92bf48df"), looks := true }, kinds := [], alts := [], laidByText := true, laidKinds := [.data], laidTests := true, laidLooks := .later }
def StepReadsCardSaid : Prop := Claim7.holds Tryz.pinned (.plain (OpenSpec.ofChange stepReadsSpec)) stepReadsCard

/-- THE TIED CARD OF 'cleatlaw27.ImageBack'. -/
def imageBackCard : Claim7 := { stood := { row := imageBackRow, standIns := [], harness := (true, "8fd914f6097a26cdace7562d05b9aba216db5f0add8cf42a262a0dda92bf48df"), looks := true }, kinds := [], alts := [], laidByText := true, laidKinds := [.data], laidTests := true, laidLooks := .later }
def ImageBackCardSaid : Prop := Claim7.holds Tryz.pinned (.plain (OpenSpec.ofChange imageBackSpec)) imageBackCard

/-- THE TIED CARD OF 'cleatlaw27.ImageOnly'. -/
def imageOnlyCard : Claim7 := { stood := { row := imageOnlyRow, standIns := [], harness := (true, "8fd914f6097a26cdace7562d05b9aba216db5f0add8cf42a262a0dda92bf48df"), looks := true }, kinds := [], alts := [], laidByText := true, laidKinds := [.data], laidTests := true, laidLooks := .later }
def ImageOnlyCardSaid : Prop := Claim7.holds Tryz.pinned (.plain (OpenSpec.ofChange imageOnlySpec)) imageOnlyCard

/-- THE TIED CARD OF 'cleatlaw27.ImageSame'. -/
def imageSameCard : Claim7 := { stood := { row := imageSameRow, standIns := [], harness := (true, "8fd914f6097a26cdace7562d05b9aba216db5f0add8cf42a262a0dda92bf48df"), looks := true }, kinds := [], alts := [], laidByText := true, laidKinds := [.data], laidTests := true, laidLooks := .later }
def ImageSameCardSaid : Prop := Claim7.holds Tryz.pinned (.plain (OpenSpec.ofChange imageSameSpec)) imageSameCard

/-- THE TIED CARD OF 'cleatlaw27.ImageLonger'. -/
def imageLongerCard : Claim7 := { stood := { row := imageLongerRow, standIns := [], harness := (true, "8fd914f6097a26cdace7562d05b9aba216db5f0add8cf42a262a0dda92bf48df"), looks := true }, kinds := [], alts := [], laidByText := true, laidKinds := [.data], laidTests := true, laidLooks := .later }
def ImageLongerCardSaid : Prop := Claim7.holds Tryz.pinned (.plain (OpenSpec.ofChange imageLongerSpec)) imageLongerCard

/-- THE TIED CARD OF 'cleatlaw27.ImageDoes'. -/
def imageDoesCard : Claim7 := { stood := { row := imageDoesRow, standIns := [], harness := (true, "8fd914f6097a26cdace7562d05b9aba216db5f0add8cf42a262a0dda92bf48df"), looks := true }, kinds := [], alts := [], laidByText := true, laidKinds := [.data], laidTests := true, laidLooks := .later }
def ImageDoesCardSaid : Prop := Claim7.holds Tryz.pinned (.plain (OpenSpec.ofChange imageDoesSpec)) imageDoesCard

/-- THE TIED CARD OF 'cleatlaw27.ImageRuns'. -/
def imageRunsCard : Claim7 := { stood := { row := imageRunsRow, standIns := [], harness := (true, "8fd914f6097a26cdace7562d05b9aba216db5f0add8cf42a262a0dda92bf48df"), looks := true }, kinds := [], alts := [], laidByText := true, laidKinds := [.data], laidTests := true, laidLooks := .later }
def ImageRunsCardSaid : Prop := Claim7.holds Tryz.pinned (.plain (OpenSpec.ofChange imageRunsSpec)) imageRunsCard

/-- THE TIED CARD OF 'cleatlaw26.FixPair'. -/
def fixPairCard : Claim7 := { stood := { row := fixPairRow, standIns := [], harness := (true, "8fd914f6097a26cdace7562d05b9aba216db5f0add8cf42a262a0dda92bf48df"), looks := true }, kinds := [], alts := [], laidByText := true, laidKinds := [.data], laidTests := true, laidLooks := .later }
def FixPairCardSaid : Prop := Claim7.holds Tryz.pinned (.plain (OpenSpec.ofChange fixPairSpec)) fixPairCard

/-- THE TIED CARD OF 'cleatlaw05.CodeDoes'. -/
def codeDoesCard : Claim7 := { stood := { row := codeDoesRow, standIns := [], harness := (true, "8fd914f6097a26cdace7562d05b9aba216db5f0add8cf42a262a0dda92bf48df"), looks := true }, kinds := [], alts := [], laidByText := true, laidKinds := [.data], laidTests := true, laidLooks := .later }
def CodeDoesCardSaid : Prop := Claim7.holds Tryz.pinned (.plain (OpenSpec.ofChange codeDoesSpec)) codeDoesCard

/-- THE TIED CARD OF 'cleatlaw26.FixDoes'. -/
def fixDoesCard : Claim7 := { stood := { row := fixDoesRow, standIns := [], harness := (true, "8fd914f6097a26cdace7562d05b9aba216db5f0add8cf42a262a0dda92bf48df"), looks := true }, kinds := [], alts := [], laidByText := true, laidKinds := [.data], laidTests := true, laidLooks := .later }
def FixDoesCardSaid : Prop := Claim7.holds Tryz.pinned (.plain (OpenSpec.ofChange fixDoesSpec)) fixDoesCard

/-- THE TIED CARD OF 'cleatlaw13.ShowApart'. -/
def showApartCard : Claim7 := { stood := { row := showApartRow, standIns := [], harness := (true, "8fd914f6097a26cdace7562d05b9aba216db5f0add8cf42a262a0dda92bf48df"), looks := true }, kinds := [], alts := [], laidByText := true, laidKinds := [.data, .data, .data], laidTests := true, laidLooks := .later }
def ShowApartCardSaid : Prop := Claim7.holds Tryz.pinned (.plain (OpenSpec.ofChange showApartSpec)) showApartCard

/-- THE TIED CARD OF 'cleatlaw13.ShowList'. -/
def showListCard : Claim7 := { stood := { row := showListRow, standIns := [], harness := (true, "8fd914f6097a26cdace7562d05b9aba216db5f0add8cf42a262a0dda92bf48df"), looks := true }, kinds := [], alts := [], laidByText := true, laidKinds := [.data, .data, .data], laidTests := true, laidLooks := .later }
def ShowListCardSaid : Prop := Claim7.holds Tryz.pinned (.plain (OpenSpec.ofChange showListSpec)) showListCard

/-- THE SECOND FORM's CARD OF 'cleatlaw08.StepRegs'. -/
def stepRegsUptoCard : Claim7 := { stood := { row := stepRegsUptoRow, standIns := [], harness := (true, "8fd914f6097a26cdace7562d05b9aba216db5f0add8cf42a262a0dda92bf48df"), looks := true }, kinds := [], alts := [], laidByText := true, laidKinds := [.data], laidTests := true, laidLooks := .later }
def StepRegsUptoCardSaid : Prop := Claim7.holds Tryz.pinned (.plain (OpenSpec.upto stepRegsSpec)) stepRegsUptoCard

/-- THE SECOND FORM's CARD OF 'cleatlaw08.StepRuns'. -/
def stepRunsUptoCard : Claim7 := { stood := { row := stepRunsUptoRow, standIns := [], harness := (true, "8fd914f6097a26cdace7562d05b9aba216db5f0add8cf42a262a0dda92bf48df"), looks := true }, kinds := [], alts := [], laidByText := true, laidKinds := [.data], laidTests := true, laidLooks := .later }
def StepRunsUptoCardSaid : Prop := Claim7.holds Tryz.pinned (.plain (OpenSpec.upto stepRunsSpec)) stepRunsUptoCard

/-- THE SECOND FORM's CARD OF 'cleatlaw08.StepStays'. -/
def stepStaysUptoCard : Claim7 := { stood := { row := stepStaysUptoRow, standIns := [], harness := (true, "8fd914f6097a26cdace7562d05b9aba216db5f0add8cf42a262a0dda92bf48df"), looks := true }, kinds := [], alts := [], laidByText := true, laidKinds := [.data], laidTests := true, laidLooks := .later }
def StepStaysUptoCardSaid : Prop := Claim7.holds Tryz.pinned (.plain (OpenSpec.upto stepStaysSpec)) stepStaysUptoCard

/-- THE SECOND FORM's CARD OF 'cleatlaw08.StepReads'. -/
def stepReadsUptoCard : Claim7 := { stood := { row := stepReadsUptoRow, standIns := [], harness := (true, "8fd914f6097a26cdace7562d05b9aba216db5f0add8cf42a262a0dda92bf48df"), looks := true }, kinds := [], alts := [], laidByText := true, laidKinds := [.data], laidTests := true, laidLooks := .later }
def StepReadsUptoCardSaid : Prop := Claim7.holds Tryz.pinned (.plain (OpenSpec.upto stepReadsSpec)) stepReadsUptoCard

/-- THE SECOND FORM's CARD OF 'cleatlaw27.ImageBack'. -/
def imageBackUptoCard : Claim7 := { stood := { row := imageBackUptoRow, standIns := [], harness := (true, "8fd914f6097a26cdace7562d05b9aba216db5f0add8cf42a262a0dda92bf48df"), looks := true }, kinds := [], alts := [], laidByText := true, laidKinds := [.data], laidTests := true, laidLooks := .later }
def ImageBackUptoCardSaid : Prop := Claim7.holds Tryz.pinned (.plain (OpenSpec.upto imageBackSpec)) imageBackUptoCard

/-- THE SECOND FORM's CARD OF 'cleatlaw27.ImageOnly'. -/
def imageOnlyUptoCard : Claim7 := { stood := { row := imageOnlyUptoRow, standIns := [], harness := (true, "8fd914f6097a26cdace7562d05b9aba216db5f0add8cf42a262a0dda92bf48df"), looks := true }, kinds := [], alts := [], laidByText := true, laidKinds := [.data], laidTests := true, laidLooks := .later }
def ImageOnlyUptoCardSaid : Prop := Claim7.holds Tryz.pinned (.plain (OpenSpec.upto imageOnlySpec)) imageOnlyUptoCard

/-- THE SECOND FORM's CARD OF 'cleatlaw27.ImageSame'. -/
def imageSameUptoCard : Claim7 := { stood := { row := imageSameUptoRow, standIns := [], harness := (true, "8fd914f6097a26cdace7562d05b9aba216db5f0add8cf42a262a0dda92bf48df"), looks := true }, kinds := [], alts := [], laidByText := true, laidKinds := [.data], laidTests := true, laidLooks := .later }
def ImageSameUptoCardSaid : Prop := Claim7.holds Tryz.pinned (.plain (OpenSpec.upto imageSameSpec)) imageSameUptoCard

/-- THE SECOND FORM's CARD OF 'cleatlaw27.ImageLonger'. -/
def imageLongerUptoCard : Claim7 := { stood := { row := imageLongerUptoRow, standIns := [], harness := (true, "8fd914f6097a26cdace7562d05b9aba216db5f0add8cf42a262a0dda92bf48df"), looks := true }, kinds := [], alts := [], laidByText := true, laidKinds := [.data], laidTests := true, laidLooks := .later }
def ImageLongerUptoCardSaid : Prop := Claim7.holds Tryz.pinned (.plain (OpenSpec.upto imageLongerSpec)) imageLongerUptoCard

/-- THE SECOND FORM's CARD OF 'cleatlaw27.ImageDoes'. -/
def imageDoesUptoCard : Claim7 := { stood := { row := imageDoesUptoRow, standIns := [], harness := (true, "8fd914f6097a26cdace7562d05b9aba216db5f0add8cf42a262a0dda92bf48df"), looks := true }, kinds := [], alts := [], laidByText := true, laidKinds := [.data], laidTests := true, laidLooks := .later }
def ImageDoesUptoCardSaid : Prop := Claim7.holds Tryz.pinned (.plain (OpenSpec.upto imageDoesSpec)) imageDoesUptoCard

/-- THE SECOND FORM's CARD OF 'cleatlaw27.ImageRuns'. -/
def imageRunsUptoCard : Claim7 := { stood := { row := imageRunsUptoRow, standIns := [], harness := (true, "8fd914f6097a26cdace7562d05b9aba216db5f0add8cf42a262a0dda92bf48df"), looks := true }, kinds := [], alts := [], laidByText := true, laidKinds := [.data], laidTests := true, laidLooks := .later }
def ImageRunsUptoCardSaid : Prop := Claim7.holds Tryz.pinned (.plain (OpenSpec.upto imageRunsSpec)) imageRunsUptoCard

/-- THE SECOND FORM's CARD OF 'cleatlaw26.FixPair'. -/
def fixPairUptoCard : Claim7 := { stood := { row := fixPairUptoRow, standIns := [], harness := (true, "8fd914f6097a26cdace7562d05b9aba216db5f0add8cf42a262a0dda92bf48df"), looks := true }, kinds := [], alts := [], laidByText := true, laidKinds := [.data], laidTests := true, laidLooks := .later }
def FixPairUptoCardSaid : Prop := Claim7.holds Tryz.pinned (.plain (OpenSpec.upto fixPairSpec)) fixPairUptoCard

/-- THE SECOND FORM's CARD OF 'cleatlaw05.CodeDoes'. -/
def codeDoesUptoCard : Claim7 := { stood := { row := codeDoesUptoRow, standIns := [], harness := (true, "8fd914f6097a26cdace7562d05b9aba216db5f0add8cf42a262a0dda92bf48df"), looks := true }, kinds := [], alts := [], laidByText := true, laidKinds := [.data], laidTests := true, laidLooks := .later }
def CodeDoesUptoCardSaid : Prop := Claim7.holds Tryz.pinned (.plain (OpenSpec.upto codeDoesSpec)) codeDoesUptoCard

/-- THE SECOND FORM's CARD OF 'cleatlaw26.FixDoes'. -/
def fixDoesUptoCard : Claim7 := { stood := { row := fixDoesUptoRow, standIns := [], harness := (true, "8fd914f6097a26cdace7562d05b9aba216db5f0add8cf42a262a0dda92bf48df"), looks := true }, kinds := [], alts := [], laidByText := true, laidKinds := [.data], laidTests := true, laidLooks := .later }
def FixDoesUptoCardSaid : Prop := Claim7.holds Tryz.pinned (.plain (OpenSpec.upto fixDoesSpec)) fixDoesUptoCard

/-- THE SECOND FORM's CARD OF 'cleatlaw13.ShowApart'. -/
def showApartUptoCard : Claim7 := { stood := { row := showApartUptoRow, standIns := [], harness := (true, "8fd914f6097a26cdace7562d05b9aba216db5f0add8cf42a262a0dda92bf48df"), looks := true }, kinds := [], alts := [], laidByText := true, laidKinds := [.data, .data, .data], laidTests := true, laidLooks := .later }
def ShowApartUptoCardSaid : Prop := Claim7.holds Tryz.pinned (.plain (OpenSpec.upto showApartSpec)) showApartUptoCard

/-- THE SECOND FORM's CARD OF 'cleatlaw13.ShowList'. -/
def showListUptoCard : Claim7 := { stood := { row := showListUptoRow, standIns := [], harness := (true, "8fd914f6097a26cdace7562d05b9aba216db5f0add8cf42a262a0dda92bf48df"), looks := true }, kinds := [], alts := [], laidByText := true, laidKinds := [.data, .data, .data], laidTests := true, laidLooks := .later }
def ShowListUptoCardSaid : Prop := Claim7.holds Tryz.pinned (.plain (OpenSpec.upto showListSpec)) showListUptoCard
end Rows
end Go.Proofs.YtblnfngigdipcaaGreatDoor
