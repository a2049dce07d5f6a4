/-
  NARROWER THAN 'FOR EVERY INPUT', by the rows' own cells (each row's printed sentence says how): MaskDoes: laid · MaskBack: laid · MaskOther: laid · MaskRow: laid · MaskSize: laid · InstDoes: laid · InstOwn: laid · InstRenamed: laid · InstMask: laid · InstNamed: laid · InstBack: laid.
  DERIVED. THE GIVEN ROWS OF THIS SEAT. 11 by the template 'for every input the law returns true; each argument reads behind the call as it read before'; 0 by the template 'total and deterministic' (their statements: YtbklmlbmbnnjkaaDoorTotals.lean).
  GIVEN WITH THE SEED: the statements are not yours to turn. If you find one false, say at which input.
  Laid BY PROGRAM, IN A SANDBOX (cutbox-rows.mjs): the forced cells as the released guide's own fill.sh prints them over the translation 98df9e1f00ebe499… (all of the seat's roots in one cut). By AI agents, Wed Nov 11 2026. No macro, syntax, notation, axiom, sorry.
-/
import Derived.Test.YtbklmlbmbnnjkaaDoorChecked
import GoSem.Claim
import GoSem.ClaimJoined
import GoSem.ClaimMapViews
import Derived.JoinedTies
import Derived.KernelRfl
namespace Go.Proofs.YtbklmlbmbnnjkaaDoor
/- THE CELL 'sum', in the pinned program and in every row, IS THE sha256 OF THE DUMP (.gsa) THAT YtbklmlbmbnnjkaaDoorProg.lean LOADS. Nothing in Lean hashes anything: it is a label: what it is worth is what the hold of that sum in a sandbox is worth. -/
noncomputable def Tryd.pinned : Pinned := { name := "ytbklmlbmbnnjkaadoor", sum := "98df9e1f00ebe4994b9889be01e86c978256ed1f9b9ec49d6b101a3988f4fca1", checked := Tryd.checked }
namespace Rows
def none {H : Type} : Left H := { results := [], args := [] }

/- WHAT THE LISTED PACKAGE-LEVEL VARIABLES READ AS WHEN THE CALL BEGINS. Each datum BY PROGRAM (the guide's laid-datum.mjs) off the statement by which the dump's own 'gosem.cut.vars' lays the variable. In a bare row this is a premise. The card (YtbklmlbmbnnjkaaDoorCards.lean) ties it to the program's text. -/
def laid_math_bits_deBruijn64tab {H : Type} : DataW H := .agg [.lit (.int .u8 0), .lit (.int .u8 1), .lit (.int .u8 56), .lit (.int .u8 2), .lit (.int .u8 57), .lit (.int .u8 49), .lit (.int .u8 28), .lit (.int .u8 3), .lit (.int .u8 61), .lit (.int .u8 58), .lit (.int .u8 42), .lit (.int .u8 50), .lit (.int .u8 38), .lit (.int .u8 29), .lit (.int .u8 17), .lit (.int .u8 4), .lit (.int .u8 62), .lit (.int .u8 47), .lit (.int .u8 59), .lit (.int .u8 36), .lit (.int .u8 45), .lit (.int .u8 43), .lit (.int .u8 51), .lit (.int .u8 22), .lit (.int .u8 53), .lit (.int .u8 39), .lit (.int .u8 33), .lit (.int .u8 30), .lit (.int .u8 24), .lit (.int .u8 18), .lit (.int .u8 12), .lit (.int .u8 5), .lit (.int .u8 63), .lit (.int .u8 55), .lit (.int .u8 48), .lit (.int .u8 27), .lit (.int .u8 60), .lit (.int .u8 41), .lit (.int .u8 37), .lit (.int .u8 16), .lit (.int .u8 46), .lit (.int .u8 35), .lit (.int .u8 44), .lit (.int .u8 21), .lit (.int .u8 52), .lit (.int .u8 32), .lit (.int .u8 23), .lit (.int .u8 11), .lit (.int .u8 54), .lit (.int .u8 26), .lit (.int .u8 40), .lit (.int .u8 15), .lit (.int .u8 34), .lit (.int .u8 20), .lit (.int .u8 31), .lit (.int .u8 10), .lit (.int .u8 25), .lit (.int .u8 14), .lit (.int .u8 19), .lit (.int .u8 9), .lit (.int .u8 13), .lit (.int .u8 8), .lit (.int .u8 7), .lit (.int .u8 6)]

/-- 'cleatlaw02.MaskDoes': WHATEVER THE INPUT: true; the input reads as it did. -/
def maskDoesSpec : ChangeSpec := { name := "maskDoes", fn := fun _ => fun
  | [d1, d2, d3, d4] => { results := [.lit (.bool true)], args := [d1, d2, d3, d4] }
  | _ => none }
def maskDoesRow : OpenClaim := { program := "ytbklmlbmbnnjkaadoor", sum := "98df9e1f00ebe4994b9889be01e86c978256ed1f9b9ec49d6b101a3988f4fca1", func := "cleat/cleatlaw02.MaskDoes", spec := "maskDoes", unfollowed := true, recurses := true, named := ["math/bits.deBruijn64tab"], apart := false, laid := [("math/bits.deBruijn64tab", laid_math_bits_deBruijn64tab)] }
def MaskDoesSaid : Prop := maskDoesRow.holds Tryd.pinned (OpenSpec.ofChange maskDoesSpec)

/-- ITS FALSE NEIGHBOUR: 'it returns false'. Refute it at one input. -/
def maskDoesWrong : ChangeSpec := { name := "maskDoes", fn := fun _ => fun
  | [d1, d2, d3, d4] => { results := [.lit (.bool false)], args := [d1, d2, d3, d4] }
  | _ => none }
def MaskDoesWrongFalsely : Prop := maskDoesRow.holds Tryd.pinned (OpenSpec.ofChange maskDoesWrong)

/-- 'cleatlaw02.MaskBack': WHATEVER THE INPUT: true; the input reads as it did. -/
def maskBackSpec : ChangeSpec := { name := "maskBack", fn := fun _ => fun
  | [d1, d2, d3, d4] => { results := [.lit (.bool true)], args := [d1, d2, d3, d4] }
  | _ => none }
def maskBackRow : OpenClaim := { program := "ytbklmlbmbnnjkaadoor", sum := "98df9e1f00ebe4994b9889be01e86c978256ed1f9b9ec49d6b101a3988f4fca1", func := "cleat/cleatlaw02.MaskBack", spec := "maskBack", unfollowed := true, recurses := true, named := ["math/bits.deBruijn64tab"], apart := false, laid := [("math/bits.deBruijn64tab", laid_math_bits_deBruijn64tab)] }
def MaskBackSaid : Prop := maskBackRow.holds Tryd.pinned (OpenSpec.ofChange maskBackSpec)

/-- ITS FALSE NEIGHBOUR: 'it returns false'. Refute it at one input. -/
def maskBackWrong : ChangeSpec := { name := "maskBack", fn := fun _ => fun
  | [d1, d2, d3, d4] => { results := [.lit (.bool false)], args := [d1, d2, d3, d4] }
  | _ => none }
def MaskBackWrongFalsely : Prop := maskBackRow.holds Tryd.pinned (OpenSpec.ofChange maskBackWrong)

/-- 'cleatlaw02.MaskOther': WHATEVER THE INPUT: true; the input reads as it did. -/
def maskOtherSpec : ChangeSpec := { name := "maskOther", fn := fun _ => fun
  | [d1, d2] => { results := [.lit (.bool true)], args := [d1, d2] }
  | _ => none }
def maskOtherRow : OpenClaim := { program := "ytbklmlbmbnnjkaadoor", sum := "98df9e1f00ebe4994b9889be01e86c978256ed1f9b9ec49d6b101a3988f4fca1", func := "cleat/cleatlaw02.MaskOther", spec := "maskOther", unfollowed := true, recurses := true, named := ["math/bits.deBruijn64tab"], apart := false, laid := [("math/bits.deBruijn64tab", laid_math_bits_deBruijn64tab)] }
def MaskOtherSaid : Prop := maskOtherRow.holds Tryd.pinned (OpenSpec.ofChange maskOtherSpec)

/-- ITS FALSE NEIGHBOUR: 'it returns false'. Refute it at one input. -/
def maskOtherWrong : ChangeSpec := { name := "maskOther", fn := fun _ => fun
  | [d1, d2] => { results := [.lit (.bool false)], args := [d1, d2] }
  | _ => none }
def MaskOtherWrongFalsely : Prop := maskOtherRow.holds Tryd.pinned (OpenSpec.ofChange maskOtherWrong)

/-- 'cleatlaw02.MaskRow': WHATEVER THE INPUT: true; the input reads as it did. -/
def maskRowSpec : ChangeSpec := { name := "maskRow", fn := fun _ => fun
  | [d1, d2, d3] => { results := [.lit (.bool true)], args := [d1, d2, d3] }
  | _ => none }
def maskRowRow : OpenClaim := { program := "ytbklmlbmbnnjkaadoor", sum := "98df9e1f00ebe4994b9889be01e86c978256ed1f9b9ec49d6b101a3988f4fca1", func := "cleat/cleatlaw02.MaskRow", spec := "maskRow", unfollowed := true, recurses := true, named := ["math/bits.deBruijn64tab"], apart := false, laid := [("math/bits.deBruijn64tab", laid_math_bits_deBruijn64tab)] }
def MaskRowSaid : Prop := maskRowRow.holds Tryd.pinned (OpenSpec.ofChange maskRowSpec)

/-- ITS FALSE NEIGHBOUR: 'it returns false'. Refute it at one input. -/
def maskRowWrong : ChangeSpec := { name := "maskRow", fn := fun _ => fun
  | [d1, d2, d3] => { results := [.lit (.bool false)], args := [d1, d2, d3] }
  | _ => none }
def MaskRowWrongFalsely : Prop := maskRowRow.holds Tryd.pinned (OpenSpec.ofChange maskRowWrong)

/-- 'cleatlaw02.MaskSize': WHATEVER THE INPUT: true; the input reads as it did. -/
def maskSizeSpec : ChangeSpec := { name := "maskSize", fn := fun _ => fun
  | [d] => { results := [.lit (.bool true)], args := [d] }
  | _ => none }
def maskSizeRow : OpenClaim := { program := "ytbklmlbmbnnjkaadoor", sum := "98df9e1f00ebe4994b9889be01e86c978256ed1f9b9ec49d6b101a3988f4fca1", func := "cleat/cleatlaw02.MaskSize", spec := "maskSize", unfollowed := true, recurses := true, named := ["math/bits.deBruijn64tab"], apart := false, laid := [("math/bits.deBruijn64tab", laid_math_bits_deBruijn64tab)] }
def MaskSizeSaid : Prop := maskSizeRow.holds Tryd.pinned (OpenSpec.ofChange maskSizeSpec)

/-- ITS FALSE NEIGHBOUR: 'it returns false'. Refute it at one input. -/
def maskSizeWrong : ChangeSpec := { name := "maskSize", fn := fun _ => fun
  | [d] => { results := [.lit (.bool false)], args := [d] }
  | _ => none }
def MaskSizeWrongFalsely : Prop := maskSizeRow.holds Tryd.pinned (OpenSpec.ofChange maskSizeWrong)

/-- 'cleatlaw04.InstDoes': WHATEVER THE INPUT: true; the input reads as it did. -/
def instDoesSpec : ChangeSpec := { name := "instDoes", fn := fun _ => fun
  | [d] => { results := [.lit (.bool true)], args := [d] }
  | _ => none }
def instDoesRow : OpenClaim := { program := "ytbklmlbmbnnjkaadoor", sum := "98df9e1f00ebe4994b9889be01e86c978256ed1f9b9ec49d6b101a3988f4fca1", func := "cleat/cleatlaw04.InstDoes", spec := "instDoes", unfollowed := true, recurses := true, named := ["math/bits.deBruijn64tab"], apart := false, laid := [("math/bits.deBruijn64tab", laid_math_bits_deBruijn64tab)] }
def InstDoesSaid : Prop := instDoesRow.holds Tryd.pinned (OpenSpec.ofChange instDoesSpec)

/-- ITS FALSE NEIGHBOUR: 'it returns false'. Refute it at one input. -/
def instDoesWrong : ChangeSpec := { name := "instDoes", fn := fun _ => fun
  | [d] => { results := [.lit (.bool false)], args := [d] }
  | _ => none }
def InstDoesWrongFalsely : Prop := instDoesRow.holds Tryd.pinned (OpenSpec.ofChange instDoesWrong)

/-- 'cleatlaw04.InstOwn': WHATEVER THE INPUT: true; the input reads as it did. -/
def instOwnSpec : ChangeSpec := { name := "instOwn", fn := fun _ => fun
  | [d] => { results := [.lit (.bool true)], args := [d] }
  | _ => none }
def instOwnRow : OpenClaim := { program := "ytbklmlbmbnnjkaadoor", sum := "98df9e1f00ebe4994b9889be01e86c978256ed1f9b9ec49d6b101a3988f4fca1", func := "cleat/cleatlaw04.InstOwn", spec := "instOwn", unfollowed := true, recurses := true, named := ["math/bits.deBruijn64tab"], apart := false, laid := [("math/bits.deBruijn64tab", laid_math_bits_deBruijn64tab)] }
def InstOwnSaid : Prop := instOwnRow.holds Tryd.pinned (OpenSpec.ofChange instOwnSpec)

/-- ITS FALSE NEIGHBOUR: 'it returns false'. Refute it at one input. -/
def instOwnWrong : ChangeSpec := { name := "instOwn", fn := fun _ => fun
  | [d] => { results := [.lit (.bool false)], args := [d] }
  | _ => none }
def InstOwnWrongFalsely : Prop := instOwnRow.holds Tryd.pinned (OpenSpec.ofChange instOwnWrong)

/-- 'cleatlaw04.InstRenamed': WHATEVER THE INPUT: true; the input reads as it did. -/
def instRenamedSpec : ChangeSpec := { name := "instRenamed", fn := fun _ => fun
  | [d1, d2, d3] => { results := [.lit (.bool true)], args := [d1, d2, d3] }
  | _ => none }
def instRenamedRow : OpenClaim := { program := "ytbklmlbmbnnjkaadoor", sum := "98df9e1f00ebe4994b9889be01e86c978256ed1f9b9ec49d6b101a3988f4fca1", func := "cleat/cleatlaw04.InstRenamed", spec := "instRenamed", unfollowed := true, recurses := true, named := ["math/bits.deBruijn64tab"], apart := false, laid := [("math/bits.deBruijn64tab", laid_math_bits_deBruijn64tab)] }
def InstRenamedSaid : Prop := instRenamedRow.holds Tryd.pinned (OpenSpec.ofChange instRenamedSpec)

/-- ITS FALSE NEIGHBOUR: 'it returns false'. Refute it at one input. -/
def instRenamedWrong : ChangeSpec := { name := "instRenamed", fn := fun _ => fun
  | [d1, d2, d3] => { results := [.lit (.bool false)], args := [d1, d2, d3] }
  | _ => none }
def InstRenamedWrongFalsely : Prop := instRenamedRow.holds Tryd.pinned (OpenSpec.ofChange instRenamedWrong)

/-- 'cleatlaw04.InstMask': WHATEVER THE INPUT: true; the input reads as it did. -/
def instMaskSpec : ChangeSpec := { name := "instMask", fn := fun _ => fun
  | [d1, d2, d3, d4] => { results := [.lit (.bool true)], args := [d1, d2, d3, d4] }
  | _ => none }
def instMaskRow : OpenClaim := { program := "ytbklmlbmbnnjkaadoor", sum := "98df9e1f00ebe4994b9889be01e86c978256ed1f9b9ec49d6b101a3988f4fca1", func := "cleat/cleatlaw04.InstMask", spec := "instMask", unfollowed := true, recurses := true, named := ["math/bits.deBruijn64tab"], apart := false, laid := [("math/bits.deBruijn64tab", laid_math_bits_deBruijn64tab)] }
def InstMaskSaid : Prop := instMaskRow.holds Tryd.pinned (OpenSpec.ofChange instMaskSpec)

/-- ITS FALSE NEIGHBOUR: 'it returns false'. Refute it at one input. -/
def instMaskWrong : ChangeSpec := { name := "instMask", fn := fun _ => fun
  | [d1, d2, d3, d4] => { results := [.lit (.bool false)], args := [d1, d2, d3, d4] }
  | _ => none }
def InstMaskWrongFalsely : Prop := instMaskRow.holds Tryd.pinned (OpenSpec.ofChange instMaskWrong)

/-- 'cleatlaw04.InstNamed': WHATEVER THE INPUT: true; the input reads as it did. -/
def instNamedSpec : ChangeSpec := { name := "instNamed", fn := fun _ => fun
  | [d1, d2] => { results := [.lit (.bool true)], args := [d1, d2] }
  | _ => none }
def instNamedRow : OpenClaim := { program := "ytbklmlbmbnnjkaadoor", sum := "98df9e1f00ebe4994b9889be01e86c978256ed1f9b9ec49d6b101a3988f4fca1", func := "cleat/cleatlaw04.InstNamed", spec := "instNamed", unfollowed := true, recurses := true, named := ["math/bits.deBruijn64tab"], apart := false, laid := [("math/bits.deBruijn64tab", laid_math_bits_deBruijn64tab)] }
def InstNamedSaid : Prop := instNamedRow.holds Tryd.pinned (OpenSpec.ofChange instNamedSpec)

/-- ITS FALSE NEIGHBOUR: 'it returns false'. Refute it at one input. -/
def instNamedWrong : ChangeSpec := { name := "instNamed", fn := fun _ => fun
  | [d1, d2] => { results := [.lit (.bool false)], args := [d1, d2] }
  | _ => none }
def InstNamedWrongFalsely : Prop := instNamedRow.holds Tryd.pinned (OpenSpec.ofChange instNamedWrong)

/-- 'cleatlaw04.InstBack': WHATEVER THE INPUT: true; the input reads as it did. -/
def instBackSpec : ChangeSpec := { name := "instBack", fn := fun _ => fun
  | [d1, d2] => { results := [.lit (.bool true)], args := [d1, d2] }
  | _ => none }
def instBackRow : OpenClaim := { program := "ytbklmlbmbnnjkaadoor", sum := "98df9e1f00ebe4994b9889be01e86c978256ed1f9b9ec49d6b101a3988f4fca1", func := "cleat/cleatlaw04.InstBack", spec := "instBack", unfollowed := true, recurses := true, named := ["math/bits.deBruijn64tab"], apart := false, laid := [("math/bits.deBruijn64tab", laid_math_bits_deBruijn64tab)] }
def InstBackSaid : Prop := instBackRow.holds Tryd.pinned (OpenSpec.ofChange instBackSpec)

/-- ITS FALSE NEIGHBOUR: 'it returns false'. Refute it at one input. -/
def instBackWrong : ChangeSpec := { name := "instBack", fn := fun _ => fun
  | [d1, d2] => { results := [.lit (.bool false)], args := [d1, d2] }
  | _ => none }
def InstBackWrongFalsely : Prop := instBackRow.holds Tryd.pinned (OpenSpec.ofChange instBackWrong)

/- THE SECOND FORM. 'bulk': how many values and letters a reading holds, each counted each time it is reached (what is shared counts as often as it is met; a slice's spare places count too). A statement '..UptoSaid' is the law's where the arguments, and the package variables that the reading takes, are together of bulk at most 1048576: NARROWER than '..Said'. Prove '..Said' where nothing that the law and all that it calls make is longer than what came in: it says more and counts as full. Else prove '..UptoSaid'. A law counts once. -/
mutual
def uptoBulk {H : Type} : DataW H → Nat
  | .lit (.string bytes) => bytes.length + 1
  | .lit _ => 1
  | .nil => 1
  | .ptr d => uptoBulk d + 1
  | .slice elems spare => uptoBulkAll elems + uptoBulkAll spare + 1
  | .agg parts => uptoBulkAll parts + 1
  | .iface _ d => uptoBulk d + 1
  | .map entries => uptoBulkEntries entries + 1
  | .held _ => 1
def uptoBulkAll {H : Type} : List (DataW H) → Nat
  | [] => 0
  | d :: r => uptoBulk d + uptoBulkAll r
def uptoBulkEntries {H : Type} : List (Lit × DataW H) → Nat
  | [] => 0
  | x :: r => uptoBulkEntry x + uptoBulkEntries r
def uptoBulkEntry {H : Type} : Lit × DataW H → Nat
  | (.string bytes, d) => bytes.length + uptoBulk d + 1
  | (_, d) => uptoBulk d + 1
 end
def uptoSmall : (H : Type) → List (DataW H) → Bool := fun _ ds => decide (uptoBulkAll ds ≤ 1048576)
def OpenSpec.upto (s : _root_.Go.ChangeSpec) : _root_.Go.OpenSpec := { _root_.Go.OpenSpec.ofChange s with cond := some uptoSmall }

/-- 'cleatlaw02.MaskDoes', WHERE WHAT IT READS IS OF BULK AT MOST 1048576: true; the input reads as it did. -/
def maskDoesUptoRow : OpenClaim := { program := "ytbklmlbmbnnjkaadoor", sum := "98df9e1f00ebe4994b9889be01e86c978256ed1f9b9ec49d6b101a3988f4fca1", func := "cleat/cleatlaw02.MaskDoes", spec := "maskDoes", unfollowed := true, recurses := true, named := ["math/bits.deBruijn64tab"], apart := false, laid := [("math/bits.deBruijn64tab", laid_math_bits_deBruijn64tab)], narrowed := true }
def MaskDoesUptoSaid : Prop := maskDoesUptoRow.holds Tryd.pinned (OpenSpec.upto maskDoesSpec)

/-- 'cleatlaw02.MaskBack', WHERE WHAT IT READS IS OF BULK AT MOST 1048576: true; the input reads as it did. -/
def maskBackUptoRow : OpenClaim := { program := "ytbklmlbmbnnjkaadoor", sum := "98df9e1f00ebe4994b9889be01e86c978256ed1f9b9ec49d6b101a3988f4fca1", func := "cleat/cleatlaw02.MaskBack", spec := "maskBack", unfollowed := true, recurses := true, named := ["math/bits.deBruijn64tab"], apart := false, laid := [("math/bits.deBruijn64tab", laid_math_bits_deBruijn64tab)], narrowed := true }
def MaskBackUptoSaid : Prop := maskBackUptoRow.holds Tryd.pinned (OpenSpec.upto maskBackSpec)

/-- 'cleatlaw02.MaskOther', WHERE WHAT IT READS IS OF BULK AT MOST 1048576: true; the input reads as it did. -/
def maskOtherUptoRow : OpenClaim := { program := "ytbklmlbmbnnjkaadoor", sum := "98df9e1f00ebe4994b9889be01e86c978256ed1f9b9ec49d6b101a3988f4fca1", func := "cleat/cleatlaw02.MaskOther", spec := "maskOther", unfollowed := true, recurses := true, named := ["math/bits.deBruijn64tab"], apart := false, laid := [("math/bits.deBruijn64tab", laid_math_bits_deBruijn64tab)], narrowed := true }
def MaskOtherUptoSaid : Prop := maskOtherUptoRow.holds Tryd.pinned (OpenSpec.upto maskOtherSpec)

/-- 'cleatlaw02.MaskRow', WHERE WHAT IT READS IS OF BULK AT MOST 1048576: true; the input reads as it did. -/
def maskRowUptoRow : OpenClaim := { program := "ytbklmlbmbnnjkaadoor", sum := "98df9e1f00ebe4994b9889be01e86c978256ed1f9b9ec49d6b101a3988f4fca1", func := "cleat/cleatlaw02.MaskRow", spec := "maskRow", unfollowed := true, recurses := true, named := ["math/bits.deBruijn64tab"], apart := false, laid := [("math/bits.deBruijn64tab", laid_math_bits_deBruijn64tab)], narrowed := true }
def MaskRowUptoSaid : Prop := maskRowUptoRow.holds Tryd.pinned (OpenSpec.upto maskRowSpec)

/-- 'cleatlaw02.MaskSize', WHERE WHAT IT READS IS OF BULK AT MOST 1048576: true; the input reads as it did. -/
def maskSizeUptoRow : OpenClaim := { program := "ytbklmlbmbnnjkaadoor", sum := "98df9e1f00ebe4994b9889be01e86c978256ed1f9b9ec49d6b101a3988f4fca1", func := "cleat/cleatlaw02.MaskSize", spec := "maskSize", unfollowed := true, recurses := true, named := ["math/bits.deBruijn64tab"], apart := false, laid := [("math/bits.deBruijn64tab", laid_math_bits_deBruijn64tab)], narrowed := true }
def MaskSizeUptoSaid : Prop := maskSizeUptoRow.holds Tryd.pinned (OpenSpec.upto maskSizeSpec)

/-- 'cleatlaw04.InstDoes', WHERE WHAT IT READS IS OF BULK AT MOST 1048576: true; the input reads as it did. -/
def instDoesUptoRow : OpenClaim := { program := "ytbklmlbmbnnjkaadoor", sum := "98df9e1f00ebe4994b9889be01e86c978256ed1f9b9ec49d6b101a3988f4fca1", func := "cleat/cleatlaw04.InstDoes", spec := "instDoes", unfollowed := true, recurses := true, named := ["math/bits.deBruijn64tab"], apart := false, laid := [("math/bits.deBruijn64tab", laid_math_bits_deBruijn64tab)], narrowed := true }
def InstDoesUptoSaid : Prop := instDoesUptoRow.holds Tryd.pinned (OpenSpec.upto instDoesSpec)

/-- 'cleatlaw04.InstOwn', WHERE WHAT IT READS IS OF BULK AT MOST 1048576: true; the input reads as it did. -/
def instOwnUptoRow : OpenClaim := { program := "ytbklmlbmbnnjkaadoor", sum := "98df9e1f00ebe4994b9889be01e86c978256ed1f9b9ec49d6b101a3988f4fca1", func := "cleat/cleatlaw04.InstOwn", spec := "instOwn", unfollowed := true, recurses := true, named := ["math/bits.deBruijn64tab"], apart := false, laid := [("math/bits.deBruijn64tab", laid_math_bits_deBruijn64tab)], narrowed := true }
def InstOwnUptoSaid : Prop := instOwnUptoRow.holds Tryd.pinned (OpenSpec.upto instOwnSpec)

/-- 'cleatlaw04.InstRenamed', WHERE WHAT IT READS IS OF BULK AT MOST 1048576: true; the input reads as it did. -/
def instRenamedUptoRow : OpenClaim := { program := "ytbklmlbmbnnjkaadoor", sum := "98df9e1f00ebe4994b9889be01e86c978256ed1f9b9ec49d6b101a3988f4fca1", func := "cleat/cleatlaw04.InstRenamed", spec := "instRenamed", unfollowed := true, recurses := true, named := ["math/bits.deBruijn64tab"], apart := false, laid := [("math/bits.deBruijn64tab", laid_math_bits_deBruijn64tab)], narrowed := true }
def InstRenamedUptoSaid : Prop := instRenamedUptoRow.holds Tryd.pinned (OpenSpec.upto instRenamedSpec)

/-- 'cleatlaw04.InstMask', WHERE WHAT IT READS IS OF BULK AT MOST 1048576: true; the input reads as it did. -/
def instMaskUptoRow : OpenClaim := { program := "ytbklmlbmbnnjkaadoor", sum := "98df9e1f00ebe4994b9889be01e86c978256ed1f9b9ec49d6b101a3988f4fca1", func := "cleat/cleatlaw04.InstMask", spec := "instMask", unfollowed := true, recurses := true, named := ["math/bits.deBruijn64tab"], apart := false, laid := [("math/bits.deBruijn64tab", laid_math_bits_deBruijn64tab)], narrowed := true }
def InstMaskUptoSaid : Prop := instMaskUptoRow.holds Tryd.pinned (OpenSpec.upto instMaskSpec)

/-- 'cleatlaw04.InstNamed', WHERE WHAT IT READS IS OF BULK AT MOST 1048576: true; the input reads as it did. -/
def instNamedUptoRow : OpenClaim := { program := "ytbklmlbmbnnjkaadoor", sum := "98df9e1f00ebe4994b9889be01e86c978256ed1f9b9ec49d6b101a3988f4fca1", func := "cleat/cleatlaw04.InstNamed", spec := "instNamed", unfollowed := true, recurses := true, named := ["math/bits.deBruijn64tab"], apart := false, laid := [("math/bits.deBruijn64tab", laid_math_bits_deBruijn64tab)], narrowed := true }
def InstNamedUptoSaid : Prop := instNamedUptoRow.holds Tryd.pinned (OpenSpec.upto instNamedSpec)

/-- 'cleatlaw04.InstBack', WHERE WHAT IT READS IS OF BULK AT MOST 1048576: true; the input reads as it did. -/
def instBackUptoRow : OpenClaim := { program := "ytbklmlbmbnnjkaadoor", sum := "98df9e1f00ebe4994b9889be01e86c978256ed1f9b9ec49d6b101a3988f4fca1", func := "cleat/cleatlaw04.InstBack", spec := "instBack", unfollowed := true, recurses := true, named := ["math/bits.deBruijn64tab"], apart := false, laid := [("math/bits.deBruijn64tab", laid_math_bits_deBruijn64tab)], narrowed := true }
def InstBackUptoSaid : Prop := instBackUptoRow.holds Tryd.pinned (OpenSpec.upto instBackSpec)

end Rows
end Go.Proofs.YtbklmlbmbnnjkaaDoor
