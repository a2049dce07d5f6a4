/-
  DERIVED. GIVEN WITH THE SEED: THE CARDS: each row of YtblnfngigdipcaaDoorRows.lean that lists a variable, with what it lists TIED to the program's text (the seventh form; the later family's looks); each row that meets fmt, with fmt's text TOLD by the authors' own Lean function (tested against real Go, not proved from fmt's source: count such statements apart). THE CARD IS WHAT COUNTS. Prove the row's statement (the work); the ties are given (YtblnfngigdipcaaDoorTie.lean); close each card by the builder's one call (the guide's Derived/Test/ToyasCard.lean, 'card_holds'). Laid BY PROGRAM, IN A SANDBOX (cutbox-door.mjs). By AI agents, Wed Nov 11 2026. No macro, syntax, notation, axiom, sorry.
-/
import Derived.Test.YtblnfngigdipcaaDoorRows
import GoSem.ClaimSeven
namespace Go.Proofs.YtblnfngigdipcaaDoor
namespace Rows

/-- THE TIED CARD OF 'cleatlaw04.InstRenamed'. -/
def instRenamedCard : Claim7 := { stood := { row := instRenamedRow, standIns := [], harness := (true, "c6be5075b8a482347ba40ca7ed886d7d695b4ce71f816dfe46f2e14cf521ac27"), looks := false }, kinds := [], alts := [], laidByText := true, laidKinds := [.data], laidTests := true, laidLooks := .later }
def InstRenamedCardSaid : Prop := Claim7.holds Tryd.pinned (.plain (OpenSpec.ofChange instRenamedSpec)) instRenamedCard

/-- THE SECOND FORM's CARD OF 'cleatlaw04.InstRenamed'. -/
def instRenamedUptoCard : Claim7 := { stood := { row := instRenamedUptoRow, standIns := [], harness := (true, "c6be5075b8a482347ba40ca7ed886d7d695b4ce71f816dfe46f2e14cf521ac27"), looks := false }, kinds := [], alts := [], laidByText := true, laidKinds := [.data], laidTests := true, laidLooks := .later }
def InstRenamedUptoCardSaid : Prop := Claim7.holds Tryd.pinned (.plain (OpenSpec.upto instRenamedSpec)) instRenamedUptoCard
end Rows
end Go.Proofs.YtblnfngigdipcaaDoor
