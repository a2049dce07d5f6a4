/-
  DERIVED. GIVEN WITH THE SEED: THE CARDS: each row of YtbklmlbmbnnjkaaDoorRows.lean that lists a variable, with what it lists TIED to the program's text (the seventh form; the later family's looks); each row that meets fmt, with fmt's text TOLD by the authors' own Lean function (tested against real Go, not proved from fmt's source: count such statements apart). THE CARD IS WHAT COUNTS. Prove the row's statement (the work); the ties are given (YtbklmlbmbnnjkaaDoorTie.lean); close each card by the builder's one call (the guide's Derived/Test/ToyasCard.lean, 'card_holds'). Laid BY PROGRAM, IN A SANDBOX (cutbox-door.mjs). By AI agents, Wed Nov 11 2026. No macro, syntax, notation, axiom, sorry.
-/
import Derived.Test.YtbklmlbmbnnjkaaDoorRows
import GoSem.ClaimSeven
namespace Go.Proofs.YtbklmlbmbnnjkaaDoor
namespace Rows

/-- THE TIED CARD OF 'cleatlaw02.MaskDoes'. -/
def maskDoesCard : Claim7 := { stood := { row := maskDoesRow, standIns := [], harness := (true, "a787b70e6e1540200936403ceaa9e1c676e681fb6e0344885e1ab3ccf087b56a"), looks := false }, kinds := [], alts := [], laidByText := true, laidKinds := [.data], laidTests := true, laidLooks := .later }
def MaskDoesCardSaid : Prop := Claim7.holds Tryd.pinned (.plain (OpenSpec.ofChange maskDoesSpec)) maskDoesCard

/-- THE TIED CARD OF 'cleatlaw02.MaskBack'. -/
def maskBackCard : Claim7 := { stood := { row := maskBackRow, standIns := [], harness := (true, "a787b70e6e1540200936403ceaa9e1c676e681fb6e0344885e1ab3ccf087b56a"), looks := false }, kinds := [], alts := [], laidByText := true, laidKinds := [.data], laidTests := true, laidLooks := .later }
def MaskBackCardSaid : Prop := Claim7.holds Tryd.pinned (.plain (OpenSpec.ofChange maskBackSpec)) maskBackCard

/-- THE TIED CARD OF 'cleatlaw02.MaskOther'. -/
def maskOtherCard : Claim7 := { stood := { row := maskOtherRow, standIns := [], harness := (true, "a787b70e6e1540200936403ceaa9e1c676e681fb6e0344885e1ab3ccf087b56a"), looks := false }, kinds := [], alts := [], laidByText := true, laidKinds := [.data], laidTests := true, laidLooks := .later }
def MaskOtherCardSaid : Prop := Claim7.holds Tryd.pinned (.plain (OpenSpec.ofChange maskOtherSpec)) maskOtherCard

/-- THE TIED CARD OF 'cleatlaw02.MaskRow'. -/
def maskRowCard : Claim7 := { stood := { row := maskRowRow, standIns := [], harness := (true, "a787b70e6e1540200936403ceaa9e1c676e681fb6e0344885e1ab3ccf087b56a"), looks := false }, kinds := [], alts := [], laidByText := true, laidKinds := [.data], laidTests := true, laidLooks := .later }
def MaskRowCardSaid : Prop := Claim7.holds Tryd.pinned (.plain (OpenSpec.ofChange maskRowSpec)) maskRowCard

/-- THE TIED CARD OF 'cleatlaw02.MaskSize'. -/
def maskSizeCard : Claim7 := { stood := { row := maskSizeRow, standIns := [], harness := (true, "a787b70e6e1540200936403ceaa9e1c676e681fb6e0344885e1ab3ccf087b56a"), looks := false }, kinds := [], alts := [], laidByText := true, laidKinds := [.data], laidTests := true, laidLooks := .later }
def MaskSizeCardSaid : Prop := Claim7.holds Tryd.pinned (.plain (OpenSpec.ofChange maskSizeSpec)) maskSizeCard

/-- THE TIED CARD OF 'cleatlaw04.InstDoes'. -/
def instDoesCard : Claim7 := { stood := { row := instDoesRow, standIns := [], harness := (true, "a787b70e6e1540200936403ceaa9e1c676e681fb6e0344885e1ab3ccf087b56a"), looks := false }, kinds := [], alts := [], laidByText := true, laidKinds := [.data], laidTests := true, laidLooks := .later }
def InstDoesCardSaid : Prop := Claim7.holds Tryd.pinned (.plain (OpenSpec.ofChange instDoesSpec)) instDoesCard

/-- THE TIED CARD OF 'cleatlaw04.InstOwn'. -/
def instOwnCard : Claim7 := { stood := { row := instOwnRow, standIns := [], harness := (true, "a787b70e6e1540200936403ceaa9e1c676e681fb6e0344885e1ab3ccf087b56a"), looks := false }, kinds := [], alts := [], laidByText := true, laidKinds := [.data], laidTests := true, laidLooks := .later }
def InstOwnCardSaid : Prop := Claim7.holds Tryd.pinned (.plain (OpenSpec.ofChange instOwnSpec)) instOwnCard

/-- THE TIED CARD OF 'cleatlaw04.InstRenamed'. -/
def instRenamedCard : Claim7 := { stood := { row := instRenamedRow, standIns := [], harness := (true, "a787b70e6e1540200936403ceaa9e1c676e681fb6e0344885e1ab3ccf087b56a"), looks := false }, kinds := [], alts := [], laidByText := true, laidKinds := [.data], laidTests := true, laidLooks := .later }
def InstRenamedCardSaid : Prop := Claim7.holds Tryd.pinned (.plain (OpenSpec.ofChange instRenamedSpec)) instRenamedCard

/-- THE TIED CARD OF 'cleatlaw04.InstMask'. -/
def instMaskCard : Claim7 := { stood := { row := instMaskRow, standIns := [], harness := (true, "a787b70e6e1540200936403ceaa9e1c676e681fb6e0344885e1ab3ccf087b56a"), looks := false }, kinds := [], alts := [], laidByText := true, laidKinds := [.data], laidTests := true, laidLooks := .later }
def InstMaskCardSaid : Prop := Claim7.holds Tryd.pinned (.plain (OpenSpec.ofChange instMaskSpec)) instMaskCard

/-- THE TIED CARD OF 'cleatlaw04.InstNamed'. -/
def instNamedCard : Claim7 := { stood := { row := instNamedRow, standIns := [], harness := (true, "a787b70e6e1540200936403ceaa9e1c676e681fb6e0344885e1ab3ccf087b56a"), looks := false }, kinds := [], alts := [], laidByText := true, laidKinds := [.data], laidTests := true, laidLooks := .later }
def InstNamedCardSaid : Prop := Claim7.holds Tryd.pinned (.plain (OpenSpec.ofChange instNamedSpec)) instNamedCard

/-- THE TIED CARD OF 'cleatlaw04.InstBack'. -/
def instBackCard : Claim7 := { stood := { row := instBackRow, standIns := [], harness := (true, "a787b70e6e1540200936403ceaa9e1c676e681fb6e0344885e1ab3ccf087b56a"), looks := false }, kinds := [], alts := [], laidByText := true, laidKinds := [.data], laidTests := true, laidLooks := .later }
def InstBackCardSaid : Prop := Claim7.holds Tryd.pinned (.plain (OpenSpec.ofChange instBackSpec)) instBackCard

/-- THE SECOND FORM's CARD OF 'cleatlaw02.MaskDoes'. -/
def maskDoesUptoCard : Claim7 := { stood := { row := maskDoesUptoRow, standIns := [], harness := (true, "a787b70e6e1540200936403ceaa9e1c676e681fb6e0344885e1ab3ccf087b56a"), looks := false }, kinds := [], alts := [], laidByText := true, laidKinds := [.data], laidTests := true, laidLooks := .later }
def MaskDoesUptoCardSaid : Prop := Claim7.holds Tryd.pinned (.plain (OpenSpec.upto maskDoesSpec)) maskDoesUptoCard

/-- THE SECOND FORM's CARD OF 'cleatlaw02.MaskBack'. -/
def maskBackUptoCard : Claim7 := { stood := { row := maskBackUptoRow, standIns := [], harness := (true, "a787b70e6e1540200936403ceaa9e1c676e681fb6e0344885e1ab3ccf087b56a"), looks := false }, kinds := [], alts := [], laidByText := true, laidKinds := [.data], laidTests := true, laidLooks := .later }
def MaskBackUptoCardSaid : Prop := Claim7.holds Tryd.pinned (.plain (OpenSpec.upto maskBackSpec)) maskBackUptoCard

/-- THE SECOND FORM's CARD OF 'cleatlaw02.MaskOther'. -/
def maskOtherUptoCard : Claim7 := { stood := { row := maskOtherUptoRow, standIns := [], harness := (true, "a787b70e6e1540200936403ceaa9e1c676e681fb6e0344885e1ab3ccf087b56a"), looks := false }, kinds := [], alts := [], laidByText := true, laidKinds := [.data], laidTests := true, laidLooks := .later }
def MaskOtherUptoCardSaid : Prop := Claim7.holds Tryd.pinned (.plain (OpenSpec.upto maskOtherSpec)) maskOtherUptoCard

/-- THE SECOND FORM's CARD OF 'cleatlaw02.MaskRow'. -/
def maskRowUptoCard : Claim7 := { stood := { row := maskRowUptoRow, standIns := [], harness := (true, "a787b70e6e1540200936403ceaa9e1c676e681fb6e0344885e1ab3ccf087b56a"), looks := false }, kinds := [], alts := [], laidByText := true, laidKinds := [.data], laidTests := true, laidLooks := .later }
def MaskRowUptoCardSaid : Prop := Claim7.holds Tryd.pinned (.plain (OpenSpec.upto maskRowSpec)) maskRowUptoCard

/-- THE SECOND FORM's CARD OF 'cleatlaw02.MaskSize'. -/
def maskSizeUptoCard : Claim7 := { stood := { row := maskSizeUptoRow, standIns := [], harness := (true, "a787b70e6e1540200936403ceaa9e1c676e681fb6e0344885e1ab3ccf087b56a"), looks := false }, kinds := [], alts := [], laidByText := true, laidKinds := [.data], laidTests := true, laidLooks := .later }
def MaskSizeUptoCardSaid : Prop := Claim7.holds Tryd.pinned (.plain (OpenSpec.upto maskSizeSpec)) maskSizeUptoCard

/-- THE SECOND FORM's CARD OF 'cleatlaw04.InstDoes'. -/
def instDoesUptoCard : Claim7 := { stood := { row := instDoesUptoRow, standIns := [], harness := (true, "a787b70e6e1540200936403ceaa9e1c676e681fb6e0344885e1ab3ccf087b56a"), looks := false }, kinds := [], alts := [], laidByText := true, laidKinds := [.data], laidTests := true, laidLooks := .later }
def InstDoesUptoCardSaid : Prop := Claim7.holds Tryd.pinned (.plain (OpenSpec.upto instDoesSpec)) instDoesUptoCard

/-- THE SECOND FORM's CARD OF 'cleatlaw04.InstOwn'. -/
def instOwnUptoCard : Claim7 := { stood := { row := instOwnUptoRow, standIns := [], harness := (true, "a787b70e6e1540200936403ceaa9e1c676e681fb6e0344885e1ab3ccf087b56a"), looks := false }, kinds := [], alts := [], laidByText := true, laidKinds := [.data], laidTests := true, laidLooks := .later }
def InstOwnUptoCardSaid : Prop := Claim7.holds Tryd.pinned (.plain (OpenSpec.upto instOwnSpec)) instOwnUptoCard

/-- THE SECOND FORM's CARD OF 'cleatlaw04.InstRenamed'. -/
def instRenamedUptoCard : Claim7 := { stood := { row := instRenamedUptoRow, standIns := [], harness := (true, "a787b70e6e1540200936403ceaa9e1c676e681fb6e0344885e1ab3ccf087b56a"), looks := false }, kinds := [], alts := [], laidByText := true, laidKinds := [.data], laidTests := true, laidLooks := .later }
def InstRenamedUptoCardSaid : Prop := Claim7.holds Tryd.pinned (.plain (OpenSpec.upto instRenamedSpec)) instRenamedUptoCard

/-- THE SECOND FORM's CARD OF 'cleatlaw04.InstMask'. -/
def instMaskUptoCard : Claim7 := { stood := { row := instMaskUptoRow, standIns := [], harness := (true, "a787b70e6e1540200936403ceaa9e1c676e681fb6e0344885e1ab3ccf087b56a"), looks := false }, kinds := [], alts := [], laidByText := true, laidKinds := [.data], laidTests := true, laidLooks := .later }
def InstMaskUptoCardSaid : Prop := Claim7.holds Tryd.pinned (.plain (OpenSpec.upto instMaskSpec)) instMaskUptoCard

/-- THE SECOND FORM's CARD OF 'cleatlaw04.InstNamed'. -/
def instNamedUptoCard : Claim7 := { stood := { row := instNamedUptoRow, standIns := [], harness := (true, "a787b70e6e1540200936403ceaa9e1c676e681fb6e0344885e1ab3ccf087b56a"), looks := false }, kinds := [], alts := [], laidByText := true, laidKinds := [.data], laidTests := true, laidLooks := .later }
def InstNamedUptoCardSaid : Prop := Claim7.holds Tryd.pinned (.plain (OpenSpec.upto instNamedSpec)) instNamedUptoCard

/-- THE SECOND FORM's CARD OF 'cleatlaw04.InstBack'. -/
def instBackUptoCard : Claim7 := { stood := { row := instBackUptoRow, standIns := [], harness := (true, "a787b70e6e1540200936403ceaa9e1c676e681fb6e0344885e1ab3ccf087b56a"), looks := false }, kinds := [], alts := [], laidByText := true, laidKinds := [.data], laidTests := true, laidLooks := .later }
def InstBackUptoCardSaid : Prop := Claim7.holds Tryd.pinned (.plain (OpenSpec.upto instBackSpec)) instBackUptoCard
end Rows
end Go.Proofs.YtbklmlbmbnnjkaaDoor
