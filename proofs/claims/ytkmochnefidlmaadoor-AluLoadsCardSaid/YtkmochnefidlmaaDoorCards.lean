/-
  DERIVED. GIVEN WITH THE SEED: THE CARDS: each row of YtkmochnefidlmaaDoorRows.lean that lists a variable, with what it lists TIED to the program's text (the seventh form; the later family's looks); each row that meets fmt, with fmt's text TOLD by the authors' own Lean function (tested against real Go, not proved from fmt's source: count such statements apart). THE CARD IS WHAT COUNTS. Prove the row's statement (the work); the ties are given (YtkmochnefidlmaaDoorTie.lean); close each card by the builder's one call (the guide's Derived/Test/ToyasCard.lean, 'card_holds'). Laid BY PROGRAM, IN A SANDBOX (cutbox-door.mjs). By AI agents, Wed Nov 11 2026. No macro, syntax, notation, axiom, sorry.
-/
import Derived.Test.YtkmochnefidlmaaDoorRows
import GoSem.ClaimSeven
namespace Go.Proofs.YtkmochnefidlmaaDoor
namespace Rows

/-- THE TIED CARD OF 'cleatlaw06.AluBack'. -/
def aluBackCard : Claim7 := { stood := { row := aluBackRow, standIns := [], harness := (true, "97b6420ac66cd26e59ecb7a611d31dd6949dc026f1e15e048caf287d7ebf20e5"), looks := true }, kinds := [], alts := [], laidByText := true, laidKinds := [.data], laidTests := true, laidLooks := .later }
def AluBackCardSaid : Prop := Claim7.holds Tryd.pinned (.plain (OpenSpec.ofChange aluBackSpec)) aluBackCard

/-- THE TIED CARD OF 'cleatlaw06.AluFlags'. -/
def aluFlagsCard : Claim7 := { stood := { row := aluFlagsRow, standIns := [], harness := (true, "97b6420ac66cd26e59ecb7a611d31dd6949dc026f1e15e048caf287d7ebf20e5"), looks := true }, kinds := [], alts := [], laidByText := true, laidKinds := [.data], laidTests := true, laidLooks := .later }
def AluFlagsCardSaid : Prop := Claim7.holds Tryd.pinned (.plain (OpenSpec.ofChange aluFlagsSpec)) aluFlagsCard

/-- THE TIED CARD OF 'cleatlaw06.AluProduct'. -/
def aluProductCard : Claim7 := { stood := { row := aluProductRow, standIns := [], harness := (true, "97b6420ac66cd26e59ecb7a611d31dd6949dc026f1e15e048caf287d7ebf20e5"), looks := true }, kinds := [], alts := [], laidByText := true, laidKinds := [.data], laidTests := true, laidLooks := .later }
def AluProductCardSaid : Prop := Claim7.holds Tryd.pinned (.plain (OpenSpec.ofChange aluProductSpec)) aluProductCard

/-- THE TIED CARD OF 'cleatlaw06.AluLoads'. -/
def aluLoadsCard : Claim7 := { stood := { row := aluLoadsRow, standIns := [], harness := (true, "97b6420ac66cd26e59ecb7a611d31dd6949dc026f1e15e048caf287d7ebf20e5"), looks := true }, kinds := [], alts := [], laidByText := true, laidKinds := [.data], laidTests := true, laidLooks := .later }
def AluLoadsCardSaid : Prop := Claim7.holds Tryd.pinned (.plain (OpenSpec.ofChange aluLoadsSpec)) aluLoadsCard

/-- THE SECOND FORM's CARD OF 'cleatlaw06.AluBack'. -/
def aluBackUptoCard : Claim7 := { stood := { row := aluBackUptoRow, standIns := [], harness := (true, "97b6420ac66cd26e59ecb7a611d31dd6949dc026f1e15e048caf287d7ebf20e5"), looks := true }, kinds := [], alts := [], laidByText := true, laidKinds := [.data], laidTests := true, laidLooks := .later }
def AluBackUptoCardSaid : Prop := Claim7.holds Tryd.pinned (.plain (OpenSpec.upto aluBackSpec)) aluBackUptoCard

/-- THE SECOND FORM's CARD OF 'cleatlaw06.AluFlags'. -/
def aluFlagsUptoCard : Claim7 := { stood := { row := aluFlagsUptoRow, standIns := [], harness := (true, "97b6420ac66cd26e59ecb7a611d31dd6949dc026f1e15e048caf287d7ebf20e5"), looks := true }, kinds := [], alts := [], laidByText := true, laidKinds := [.data], laidTests := true, laidLooks := .later }
def AluFlagsUptoCardSaid : Prop := Claim7.holds Tryd.pinned (.plain (OpenSpec.upto aluFlagsSpec)) aluFlagsUptoCard

/-- THE SECOND FORM's CARD OF 'cleatlaw06.AluProduct'. -/
def aluProductUptoCard : Claim7 := { stood := { row := aluProductUptoRow, standIns := [], harness := (true, "97b6420ac66cd26e59ecb7a611d31dd6949dc026f1e15e048caf287d7ebf20e5"), looks := true }, kinds := [], alts := [], laidByText := true, laidKinds := [.data], laidTests := true, laidLooks := .later }
def AluProductUptoCardSaid : Prop := Claim7.holds Tryd.pinned (.plain (OpenSpec.upto aluProductSpec)) aluProductUptoCard

/-- THE SECOND FORM's CARD OF 'cleatlaw06.AluLoads'. -/
def aluLoadsUptoCard : Claim7 := { stood := { row := aluLoadsUptoRow, standIns := [], harness := (true, "97b6420ac66cd26e59ecb7a611d31dd6949dc026f1e15e048caf287d7ebf20e5"), looks := true }, kinds := [], alts := [], laidByText := true, laidKinds := [.data], laidTests := true, laidLooks := .later }
def AluLoadsUptoCardSaid : Prop := Claim7.holds Tryd.pinned (.plain (OpenSpec.upto aluLoadsSpec)) aluLoadsUptoCard
end Rows
end Go.Proofs.YtkmochnefidlmaaDoor
