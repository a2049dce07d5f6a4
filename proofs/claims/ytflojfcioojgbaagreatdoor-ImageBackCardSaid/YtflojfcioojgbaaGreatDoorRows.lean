/-
  NARROWER THAN 'FOR EVERY INPUT', by the rows' own cells (each row's printed sentence says how): ImageBack: laid · ImageOnly: laid · ImageSame: laid · ImageLonger: laid · ImageDoes: laid · ImageRuns: laid.
  DERIVED. THE GIVEN ROWS OF THIS SEAT. 6 by the template 'for every input the law returns true; each argument reads behind the call as it read before'; 0 by the template 'total and deterministic' (their statements: YtflojfcioojgbaaGreatDoorTotals.lean).
  GIVEN WITH THE SEED: the statements are not yours to turn. If you find one false, say at which input.
  Laid BY PROGRAM, IN A SANDBOX (cutbox-rows.mjs): the forced cells as the released guide's own fill.sh prints them over the translation 63c78a163671266b… (all of the seat's roots in one cut). By AI agents, Wed Nov 11 2026. No macro, syntax, notation, axiom, sorry.
-/
import Derived.Test.YtflojfcioojgbaaGreatDoorChecked
import GoSem.Claim
import GoSem.ClaimJoined
import GoSem.ClaimMapViews
import Derived.JoinedTies
import Derived.KernelRfl
namespace Go.Proofs.YtflojfcioojgbaaGreatDoor
/- THE CELL 'sum', in the pinned program and in every row, IS THE sha256 OF THE DUMP (.gsa) THAT YtflojfcioojgbaaGreatDoorProg.lean LOADS. Nothing in Lean hashes anything: it is a label: what it is worth is what the hold of that sum in a sandbox is worth. -/
noncomputable def Tryz.pinned : Pinned := { name := "ytflojfcioojgbaagreatdoor", sum := "63c78a163671266b665c3b3195bbd3073b981878d42581452a79ee9bda3f3505", checked := Tryz.checked }
namespace Rows
def none {H : Type} : Left H := { results := [], args := [] }

/- WHAT THE LISTED PACKAGE-LEVEL VARIABLES READ AS WHEN THE CALL BEGINS. Each datum BY PROGRAM (the guide's laid-datum.mjs) off the statement by which the dump's own 'gosem.cut.vars' lays the variable. In a bare row this is a premise. The card (YtflojfcioojgbaaGreatDoorCards.lean) ties it to the program's text. -/
def laid_math_bits_deBruijn64tab {H : Type} : DataW H := .agg [.lit (.int .u8 0), .lit (.int .u8 1), .lit (.int .u8 56), .lit (.int .u8 2), .lit (.int .u8 57), .lit (.int .u8 49), .lit (.int .u8 28), .lit (.int .u8 3), .lit (.int .u8 61), .lit (.int .u8 58), .lit (.int .u8 42), .lit (.int .u8 50), .lit (.int .u8 38), .lit (.int .u8 29), .lit (.int .u8 17), .lit (.int .u8 4), .lit (.int .u8 62), .lit (.int .u8 47), .lit (.int .u8 59), .lit (.int .u8 36), .lit (.int .u8 45), .lit (.int .u8 43), .lit (.int .u8 51), .lit (.int .u8 22), .lit (.int .u8 53), .lit (.int .u8 39), .lit (.int .u8 33), .lit (.int .u8 30), .lit (.int .u8 24), .lit (.int .u8 18), .lit (.int .u8 12), .lit (.int .u8 5), .lit (.int .u8 63), .lit (.int .u8 55), .lit (.int .u8 48), .lit (.int .u8 27), .lit (.int .u8 60), .lit (.int .u8 41), .lit (.int .u8 37), .lit (.int .u8 16), .lit (.int .u8 46), .lit (.int .u8 35), .lit (.int .u8 44), .lit (.int .u8 21), .lit (.int .u8 52), .lit (.int .u8 32), .lit (.int .u8 23), .lit (.int .u8 11), .lit (.int .u8 54), .lit (.int .u8 26), .lit (.int .u8 40), .lit (.int .u8 15), .lit (.int .u8 34), .lit (.int .u8 20), .lit (.int .u8 31), .lit (.int .u8 10), .lit (.int .u8 25), .lit (.int .u8 14), .lit (.int .u8 19), .lit (.int .u8 9), .lit (.int .u8 13), .lit (.int .u8 8), .lit (.int .u8 7), .lit (.int .u8 6)]

/-- 'cleatlaw27.ImageBack': WHATEVER THE INPUT: true; the input reads as it did. -/
def imageBackSpec : ChangeSpec := { name := "imageBack", fn := fun _ => fun
  | [d1, d2, d3] => { results := [.lit (.bool true)], args := [d1, d2, d3] }
  | _ => none }
def imageBackRow : OpenClaim := { program := "ytflojfcioojgbaagreatdoor", sum := "63c78a163671266b665c3b3195bbd3073b981878d42581452a79ee9bda3f3505", func := "cleat/cleatlaw27.ImageBack", spec := "imageBack", inPlace := ["internal/abi.NoEscape", "internal/bytealg.MakeNoZero", "math/bits.Add64"], unfollowed := true, recurses := true, named := ["math/bits.deBruijn64tab"], apart := false, laid := [("math/bits.deBruijn64tab", laid_math_bits_deBruijn64tab)] }
def ImageBackSaid : Prop := imageBackRow.holds Tryz.pinned (OpenSpec.ofChange imageBackSpec)

/-- ITS FALSE NEIGHBOUR: 'it returns false'. Refute it at one input. -/
def imageBackWrong : ChangeSpec := { name := "imageBack", fn := fun _ => fun
  | [d1, d2, d3] => { results := [.lit (.bool false)], args := [d1, d2, d3] }
  | _ => none }
def ImageBackWrongFalsely : Prop := imageBackRow.holds Tryz.pinned (OpenSpec.ofChange imageBackWrong)

/-- 'cleatlaw27.ImageOnly': WHATEVER THE INPUT: true; the input reads as it did. -/
def imageOnlySpec : ChangeSpec := { name := "imageOnly", fn := fun _ => fun
  | [d] => { results := [.lit (.bool true)], args := [d] }
  | _ => none }
def imageOnlyRow : OpenClaim := { program := "ytflojfcioojgbaagreatdoor", sum := "63c78a163671266b665c3b3195bbd3073b981878d42581452a79ee9bda3f3505", func := "cleat/cleatlaw27.ImageOnly", spec := "imageOnly", inPlace := ["internal/abi.NoEscape", "internal/bytealg.MakeNoZero", "math/bits.Add64"], unfollowed := true, recurses := true, named := ["math/bits.deBruijn64tab"], apart := false, laid := [("math/bits.deBruijn64tab", laid_math_bits_deBruijn64tab)] }
def ImageOnlySaid : Prop := imageOnlyRow.holds Tryz.pinned (OpenSpec.ofChange imageOnlySpec)

/-- ITS FALSE NEIGHBOUR: 'it returns false'. Refute it at one input. -/
def imageOnlyWrong : ChangeSpec := { name := "imageOnly", fn := fun _ => fun
  | [d] => { results := [.lit (.bool false)], args := [d] }
  | _ => none }
def ImageOnlyWrongFalsely : Prop := imageOnlyRow.holds Tryz.pinned (OpenSpec.ofChange imageOnlyWrong)

/-- 'cleatlaw27.ImageSame': WHATEVER THE INPUT: true; the input reads as it did. -/
def imageSameSpec : ChangeSpec := { name := "imageSame", fn := fun _ => fun
  | [d1, d2] => { results := [.lit (.bool true)], args := [d1, d2] }
  | _ => none }
def imageSameRow : OpenClaim := { program := "ytflojfcioojgbaagreatdoor", sum := "63c78a163671266b665c3b3195bbd3073b981878d42581452a79ee9bda3f3505", func := "cleat/cleatlaw27.ImageSame", spec := "imageSame", inPlace := ["internal/abi.NoEscape", "internal/bytealg.MakeNoZero", "math/bits.Add64"], unfollowed := true, recurses := true, named := ["math/bits.deBruijn64tab"], apart := false, laid := [("math/bits.deBruijn64tab", laid_math_bits_deBruijn64tab)] }
def ImageSameSaid : Prop := imageSameRow.holds Tryz.pinned (OpenSpec.ofChange imageSameSpec)

/-- ITS FALSE NEIGHBOUR: 'it returns false'. Refute it at one input. -/
def imageSameWrong : ChangeSpec := { name := "imageSame", fn := fun _ => fun
  | [d1, d2] => { results := [.lit (.bool false)], args := [d1, d2] }
  | _ => none }
def ImageSameWrongFalsely : Prop := imageSameRow.holds Tryz.pinned (OpenSpec.ofChange imageSameWrong)

/-- 'cleatlaw27.ImageLonger': WHATEVER THE INPUT: true; the input reads as it did. -/
def imageLongerSpec : ChangeSpec := { name := "imageLonger", fn := fun _ => fun
  | [d1, d2, d3] => { results := [.lit (.bool true)], args := [d1, d2, d3] }
  | _ => none }
def imageLongerRow : OpenClaim := { program := "ytflojfcioojgbaagreatdoor", sum := "63c78a163671266b665c3b3195bbd3073b981878d42581452a79ee9bda3f3505", func := "cleat/cleatlaw27.ImageLonger", spec := "imageLonger", inPlace := ["internal/abi.NoEscape", "internal/bytealg.MakeNoZero", "math/bits.Add64"], unfollowed := true, recurses := true, named := ["math/bits.deBruijn64tab"], apart := false, laid := [("math/bits.deBruijn64tab", laid_math_bits_deBruijn64tab)] }
def ImageLongerSaid : Prop := imageLongerRow.holds Tryz.pinned (OpenSpec.ofChange imageLongerSpec)

/-- ITS FALSE NEIGHBOUR: 'it returns false'. Refute it at one input. -/
def imageLongerWrong : ChangeSpec := { name := "imageLonger", fn := fun _ => fun
  | [d1, d2, d3] => { results := [.lit (.bool false)], args := [d1, d2, d3] }
  | _ => none }
def ImageLongerWrongFalsely : Prop := imageLongerRow.holds Tryz.pinned (OpenSpec.ofChange imageLongerWrong)

/-- 'cleatlaw27.ImageDoes': WHATEVER THE INPUT: true; the input reads as it did. -/
def imageDoesSpec : ChangeSpec := { name := "imageDoes", fn := fun _ => fun
  | [d1, d2] => { results := [.lit (.bool true)], args := [d1, d2] }
  | _ => none }
def imageDoesRow : OpenClaim := { program := "ytflojfcioojgbaagreatdoor", sum := "63c78a163671266b665c3b3195bbd3073b981878d42581452a79ee9bda3f3505", func := "cleat/cleatlaw27.ImageDoes", spec := "imageDoes", inPlace := ["internal/abi.NoEscape", "internal/bytealg.MakeNoZero", "math/bits.Add64"], unfollowed := true, recurses := true, named := ["math/bits.deBruijn64tab"], apart := false, laid := [("math/bits.deBruijn64tab", laid_math_bits_deBruijn64tab)] }
def ImageDoesSaid : Prop := imageDoesRow.holds Tryz.pinned (OpenSpec.ofChange imageDoesSpec)

/-- ITS FALSE NEIGHBOUR: 'it returns false'. Refute it at one input. -/
def imageDoesWrong : ChangeSpec := { name := "imageDoes", fn := fun _ => fun
  | [d1, d2] => { results := [.lit (.bool false)], args := [d1, d2] }
  | _ => none }
def ImageDoesWrongFalsely : Prop := imageDoesRow.holds Tryz.pinned (OpenSpec.ofChange imageDoesWrong)

/-- 'cleatlaw27.ImageRuns': WHATEVER THE INPUT: true; the input reads as it did. -/
def imageRunsSpec : ChangeSpec := { name := "imageRuns", fn := fun _ => fun
  | [d1, d2] => { results := [.lit (.bool true)], args := [d1, d2] }
  | _ => none }
def imageRunsRow : OpenClaim := { program := "ytflojfcioojgbaagreatdoor", sum := "63c78a163671266b665c3b3195bbd3073b981878d42581452a79ee9bda3f3505", func := "cleat/cleatlaw27.ImageRuns", spec := "imageRuns", inPlace := ["internal/abi.NoEscape", "internal/bytealg.MakeNoZero", "math/bits.Add64"], unfollowed := true, recurses := true, named := ["math/bits.deBruijn64tab"], apart := false, laid := [("math/bits.deBruijn64tab", laid_math_bits_deBruijn64tab)] }
def ImageRunsSaid : Prop := imageRunsRow.holds Tryz.pinned (OpenSpec.ofChange imageRunsSpec)

/-- ITS FALSE NEIGHBOUR: 'it returns false'. Refute it at one input. -/
def imageRunsWrong : ChangeSpec := { name := "imageRuns", fn := fun _ => fun
  | [d1, d2] => { results := [.lit (.bool false)], args := [d1, d2] }
  | _ => none }
def ImageRunsWrongFalsely : Prop := imageRunsRow.holds Tryz.pinned (OpenSpec.ofChange imageRunsWrong)

/- THE SECOND FORM. 'bulk': how many values and letters a reading holds, each counted each time it is reached (what is shared counts as often as it is met; a slice's spare places count too). A statement '..UptoSaid' is the law's where the arguments, and the package variables that the reading takes, are together of bulk at most 1048576: NARROWER than '..Said'. Prove '..Said' where nothing that the law and all that it calls make is longer than what came in: it says more and counts as full. Else prove '..UptoSaid'. A law counts once. -/
mutual
def uptoBulk {H : Type} : DataW H → Nat
  | .lit (.string bytes) => bytes.length + 1
  | .lit _ => 1
  | .nil => 1
  | .ptr d => uptoBulk d + 1
  | .slice elems spare => uptoBulkAll elems + uptoBulkAll spare + 1
  | .agg parts => uptoBulkAll parts + 1
  | .iface _ d => uptoBulk d + 1
  | .map entries => uptoBulkEntries entries + 1
  | .held _ => 1
def uptoBulkAll {H : Type} : List (DataW H) → Nat
  | [] => 0
  | d :: r => uptoBulk d + uptoBulkAll r
def uptoBulkEntries {H : Type} : List (Lit × DataW H) → Nat
  | [] => 0
  | x :: r => uptoBulkEntry x + uptoBulkEntries r
def uptoBulkEntry {H : Type} : Lit × DataW H → Nat
  | (.string bytes, d) => bytes.length + uptoBulk d + 1
  | (_, d) => uptoBulk d + 1
 end
def uptoSmall : (H : Type) → List (DataW H) → Bool := fun _ ds => decide (uptoBulkAll ds ≤ 1048576)
def OpenSpec.upto (s : _root_.Go.ChangeSpec) : _root_.Go.OpenSpec := { _root_.Go.OpenSpec.ofChange s with cond := some uptoSmall }

/-- 'cleatlaw27.ImageBack', WHERE WHAT IT READS IS OF BULK AT MOST 1048576: true; the input reads as it did. -/
def imageBackUptoRow : OpenClaim := { program := "ytflojfcioojgbaagreatdoor", sum := "63c78a163671266b665c3b3195bbd3073b981878d42581452a79ee9bda3f3505", func := "cleat/cleatlaw27.ImageBack", spec := "imageBack", inPlace := ["internal/abi.NoEscape", "internal/bytealg.MakeNoZero", "math/bits.Add64"], unfollowed := true, recurses := true, named := ["math/bits.deBruijn64tab"], apart := false, laid := [("math/bits.deBruijn64tab", laid_math_bits_deBruijn64tab)], narrowed := true }
def ImageBackUptoSaid : Prop := imageBackUptoRow.holds Tryz.pinned (OpenSpec.upto imageBackSpec)

/-- 'cleatlaw27.ImageOnly', WHERE WHAT IT READS IS OF BULK AT MOST 1048576: true; the input reads as it did. -/
def imageOnlyUptoRow : OpenClaim := { program := "ytflojfcioojgbaagreatdoor", sum := "63c78a163671266b665c3b3195bbd3073b981878d42581452a79ee9bda3f3505", func := "cleat/cleatlaw27.ImageOnly", spec := "imageOnly", inPlace := ["internal/abi.NoEscape", "internal/bytealg.MakeNoZero", "math/bits.Add64"], unfollowed := true, recurses := true, named := ["math/bits.deBruijn64tab"], apart := false, laid := [("math/bits.deBruijn64tab", laid_math_bits_deBruijn64tab)], narrowed := true }
def ImageOnlyUptoSaid : Prop := imageOnlyUptoRow.holds Tryz.pinned (OpenSpec.upto imageOnlySpec)

/-- 'cleatlaw27.ImageSame', WHERE WHAT IT READS IS OF BULK AT MOST 1048576: true; the input reads as it did. -/
def imageSameUptoRow : OpenClaim := { program := "ytflojfcioojgbaagreatdoor", sum := "63c78a163671266b665c3b3195bbd3073b981878d42581452a79ee9bda3f3505", func := "cleat/cleatlaw27.ImageSame", spec := "imageSame", inPlace := ["internal/abi.NoEscape", "internal/bytealg.MakeNoZero", "math/bits.Add64"], unfollowed := true, recurses := true, named := ["math/bits.deBruijn64tab"], apart := false, laid := [("math/bits.deBruijn64tab", laid_math_bits_deBruijn64tab)], narrowed := true }
def ImageSameUptoSaid : Prop := imageSameUptoRow.holds Tryz.pinned (OpenSpec.upto imageSameSpec)

/-- 'cleatlaw27.ImageLonger', WHERE WHAT IT READS IS OF BULK AT MOST 1048576: true; the input reads as it did. -/
def imageLongerUptoRow : OpenClaim := { program := "ytflojfcioojgbaagreatdoor", sum := "63c78a163671266b665c3b3195bbd3073b981878d42581452a79ee9bda3f3505", func := "cleat/cleatlaw27.ImageLonger", spec := "imageLonger", inPlace := ["internal/abi.NoEscape", "internal/bytealg.MakeNoZero", "math/bits.Add64"], unfollowed := true, recurses := true, named := ["math/bits.deBruijn64tab"], apart := false, laid := [("math/bits.deBruijn64tab", laid_math_bits_deBruijn64tab)], narrowed := true }
def ImageLongerUptoSaid : Prop := imageLongerUptoRow.holds Tryz.pinned (OpenSpec.upto imageLongerSpec)

/-- 'cleatlaw27.ImageDoes', WHERE WHAT IT READS IS OF BULK AT MOST 1048576: true; the input reads as it did. -/
def imageDoesUptoRow : OpenClaim := { program := "ytflojfcioojgbaagreatdoor", sum := "63c78a163671266b665c3b3195bbd3073b981878d42581452a79ee9bda3f3505", func := "cleat/cleatlaw27.ImageDoes", spec := "imageDoes", inPlace := ["internal/abi.NoEscape", "internal/bytealg.MakeNoZero", "math/bits.Add64"], unfollowed := true, recurses := true, named := ["math/bits.deBruijn64tab"], apart := false, laid := [("math/bits.deBruijn64tab", laid_math_bits_deBruijn64tab)], narrowed := true }
def ImageDoesUptoSaid : Prop := imageDoesUptoRow.holds Tryz.pinned (OpenSpec.upto imageDoesSpec)

/-- 'cleatlaw27.ImageRuns', WHERE WHAT IT READS IS OF BULK AT MOST 1048576: true; the input reads as it did. -/
def imageRunsUptoRow : OpenClaim := { program := "ytflojfcioojgbaagreatdoor", sum := "63c78a163671266b665c3b3195bbd3073b981878d42581452a79ee9bda3f3505", func := "cleat/cleatlaw27.ImageRuns", spec := "imageRuns", inPlace := ["internal/abi.NoEscape", "internal/bytealg.MakeNoZero", "math/bits.Add64"], unfollowed := true, recurses := true, named := ["math/bits.deBruijn64tab"], apart := false, laid := [("math/bits.deBruijn64tab", laid_math_bits_deBruijn64tab)], narrowed := true }
def ImageRunsUptoSaid : Prop := imageRunsUptoRow.holds Tryz.pinned (OpenSpec.upto imageRunsSpec)

end Rows
end Go.Proofs.YtflojfcioojgbaaGreatDoor
