/-
  No cell of these rows narrows 'for every input' (looked for: loops, veiled, ifaces, maps, wideKeys, modest, calm, conditions, laid).
  DERIVED. THE GIVEN ROWS OF THIS SEAT. 5 by the template 'for every input the law returns true; each argument reads behind the call as it read before'; 0 by the template 'total and deterministic' (their statements: YtfajpcinmpbhgaaTotals.lean).
  GIVEN WITH THE SEED: the statements are not yours to turn. If you find one false, say at which input.
  Laid BY PROGRAM, IN A SANDBOX (cutbox-rows.mjs): the forced cells as the released guide's own fill.sh prints them over the translation 6215602dff3b1c86… (all of the seat's roots in one cut). By AI agents, Wed Nov 11 2026. No macro, syntax, notation, axiom, sorry.
-/
import Derived.Test.YtfajpcinmpbhgaaChecked
import GoSem.Claim
import GoSem.ClaimJoined
import GoSem.ClaimMapViews
import Derived.JoinedTies
import Derived.KernelRfl
namespace Go.Proofs.Ytfajpcinmpbhgaa
/- THE CELL 'sum', in the pinned program and in every row, IS THE sha256 OF THE DUMP (.gsa) THAT YtfajpcinmpbhgaaProg.lean LOADS. Nothing in Lean hashes anything: it is a label: what it is worth is what the hold of that sum in a sandbox is worth. -/
noncomputable def Try.pinned : Pinned := { name := "ytfajpcinmpbhgaa", sum := "6215602dff3b1c8633cfffd304626e06890f34650f808c4edace0e0650112b8c", checked := Try.checked }
namespace Rows
def none {H : Type} : Left H := { results := [], args := [] }

/-- 'cleatlaw18.WireMore': WHATEVER THE INPUT: true; the input reads as it did. -/
def wireMoreSpec : ChangeSpec := { name := "wireMore", fn := fun _ => fun
  | [d1, d2, d3] => { results := [.lit (.bool true)], args := [d1, d2, d3] }
  | _ => none }
def wireMoreRow : OpenClaim := { program := "ytfajpcinmpbhgaa", sum := "6215602dff3b1c8633cfffd304626e06890f34650f808c4edace0e0650112b8c", func := "cleat/cleatlaw18.WireMore", spec := "wireMore", inPlace := ["internal/abi.NoEscape"], unfollowed := true, recurses := true, apart := false }
def WireMoreSaid : Prop := wireMoreRow.holds Try.pinned (OpenSpec.ofChange wireMoreSpec)

/-- ITS FALSE NEIGHBOUR: 'it returns false'. Refute it at one input. -/
def wireMoreWrong : ChangeSpec := { name := "wireMore", fn := fun _ => fun
  | [d1, d2, d3] => { results := [.lit (.bool false)], args := [d1, d2, d3] }
  | _ => none }
def WireMoreWrongFalsely : Prop := wireMoreRow.holds Try.pinned (OpenSpec.ofChange wireMoreWrong)

/-- 'cleatlaw18.WireOrder': WHATEVER THE INPUT: true; the input reads as it did. -/
def wireOrderSpec : ChangeSpec := { name := "wireOrder", fn := fun _ => fun
  | [d1, d2] => { results := [.lit (.bool true)], args := [d1, d2] }
  | _ => none }
def wireOrderRow : OpenClaim := { program := "ytfajpcinmpbhgaa", sum := "6215602dff3b1c8633cfffd304626e06890f34650f808c4edace0e0650112b8c", func := "cleat/cleatlaw18.WireOrder", spec := "wireOrder", inPlace := ["internal/abi.NoEscape"], unfollowed := true, recurses := true, apart := false }
def WireOrderSaid : Prop := wireOrderRow.holds Try.pinned (OpenSpec.ofChange wireOrderSpec)

/-- ITS FALSE NEIGHBOUR: 'it returns false'. Refute it at one input. -/
def wireOrderWrong : ChangeSpec := { name := "wireOrder", fn := fun _ => fun
  | [d1, d2] => { results := [.lit (.bool false)], args := [d1, d2] }
  | _ => none }
def WireOrderWrongFalsely : Prop := wireOrderRow.holds Try.pinned (OpenSpec.ofChange wireOrderWrong)

/-- 'cleatlaw18.WireDoes': WHATEVER THE INPUT: true; the input reads as it did. -/
def wireDoesSpec : ChangeSpec := { name := "wireDoes", fn := fun _ => fun
  | [d1, d2, d3, d4] => { results := [.lit (.bool true)], args := [d1, d2, d3, d4] }
  | _ => none }
def wireDoesRow : OpenClaim := { program := "ytfajpcinmpbhgaa", sum := "6215602dff3b1c8633cfffd304626e06890f34650f808c4edace0e0650112b8c", func := "cleat/cleatlaw18.WireDoes", spec := "wireDoes", inPlace := ["internal/abi.NoEscape"], unfollowed := true, recurses := true, apart := false }
def WireDoesSaid : Prop := wireDoesRow.holds Try.pinned (OpenSpec.ofChange wireDoesSpec)

/-- ITS FALSE NEIGHBOUR: 'it returns false'. Refute it at one input. -/
def wireDoesWrong : ChangeSpec := { name := "wireDoes", fn := fun _ => fun
  | [d1, d2, d3, d4] => { results := [.lit (.bool false)], args := [d1, d2, d3, d4] }
  | _ => none }
def WireDoesWrongFalsely : Prop := wireDoesRow.holds Try.pinned (OpenSpec.ofChange wireDoesWrong)

/-- 'cleatlaw18.WireBack': WHATEVER THE INPUT: true; the input reads as it did. -/
def wireBackSpec : ChangeSpec := { name := "wireBack", fn := fun _ => fun
  | [d1, d2, d3, d4] => { results := [.lit (.bool true)], args := [d1, d2, d3, d4] }
  | _ => none }
def wireBackRow : OpenClaim := { program := "ytfajpcinmpbhgaa", sum := "6215602dff3b1c8633cfffd304626e06890f34650f808c4edace0e0650112b8c", func := "cleat/cleatlaw18.WireBack", spec := "wireBack", inPlace := ["internal/abi.NoEscape"], unfollowed := true, recurses := true, apart := false }
def WireBackSaid : Prop := wireBackRow.holds Try.pinned (OpenSpec.ofChange wireBackSpec)

/-- ITS FALSE NEIGHBOUR: 'it returns false'. Refute it at one input. -/
def wireBackWrong : ChangeSpec := { name := "wireBack", fn := fun _ => fun
  | [d1, d2, d3, d4] => { results := [.lit (.bool false)], args := [d1, d2, d3, d4] }
  | _ => none }
def WireBackWrongFalsely : Prop := wireBackRow.holds Try.pinned (OpenSpec.ofChange wireBackWrong)

/-- 'cleatlaw18.WireOnly': WHATEVER THE INPUT: true; the input reads as it did. -/
def wireOnlySpec : ChangeSpec := { name := "wireOnly", fn := fun _ => fun
  | [d1, d2] => { results := [.lit (.bool true)], args := [d1, d2] }
  | _ => none }
def wireOnlyRow : OpenClaim := { program := "ytfajpcinmpbhgaa", sum := "6215602dff3b1c8633cfffd304626e06890f34650f808c4edace0e0650112b8c", func := "cleat/cleatlaw18.WireOnly", spec := "wireOnly", inPlace := ["internal/abi.NoEscape"], unfollowed := true, recurses := true, apart := false }
def WireOnlySaid : Prop := wireOnlyRow.holds Try.pinned (OpenSpec.ofChange wireOnlySpec)

/-- ITS FALSE NEIGHBOUR: 'it returns false'. Refute it at one input. -/
def wireOnlyWrong : ChangeSpec := { name := "wireOnly", fn := fun _ => fun
  | [d1, d2] => { results := [.lit (.bool false)], args := [d1, d2] }
  | _ => none }
def WireOnlyWrongFalsely : Prop := wireOnlyRow.holds Try.pinned (OpenSpec.ofChange wireOnlyWrong)

/- THE SECOND FORM. 'bulk': how many values and letters a reading holds, each counted each time it is reached (what is shared counts as often as it is met; a slice's spare places count too). A statement '..UptoSaid' is the law's where the arguments, and the package variables that the reading takes, are together of bulk at most 1048576: NARROWER than '..Said'. Prove '..Said' where nothing that the law and all that it calls make is longer than what came in: it says more and counts as full. Else prove '..UptoSaid'. A law counts once. -/
mutual
def uptoBulk {H : Type} : DataW H → Nat
  | .lit (.string bytes) => bytes.length + 1
  | .lit _ => 1
  | .nil => 1
  | .ptr d => uptoBulk d + 1
  | .slice elems spare => uptoBulkAll elems + uptoBulkAll spare + 1
  | .agg parts => uptoBulkAll parts + 1
  | .iface _ d => uptoBulk d + 1
  | .map entries => uptoBulkEntries entries + 1
  | .held _ => 1
def uptoBulkAll {H : Type} : List (DataW H) → Nat
  | [] => 0
  | d :: r => uptoBulk d + uptoBulkAll r
def uptoBulkEntries {H : Type} : List (Lit × DataW H) → Nat
  | [] => 0
  | x :: r => uptoBulkEntry x + uptoBulkEntries r
def uptoBulkEntry {H : Type} : Lit × DataW H → Nat
  | (.string bytes, d) => bytes.length + uptoBulk d + 1
  | (_, d) => uptoBulk d + 1
 end
def uptoSmall : (H : Type) → List (DataW H) → Bool := fun _ ds => decide (uptoBulkAll ds ≤ 1048576)
def OpenSpec.upto (s : _root_.Go.ChangeSpec) : _root_.Go.OpenSpec := { _root_.Go.OpenSpec.ofChange s with cond := some uptoSmall }

/-- 'cleatlaw18.WireMore', WHERE WHAT IT READS IS OF BULK AT MOST 1048576: true; the input reads as it did. -/
def wireMoreUptoRow : OpenClaim := { program := "ytfajpcinmpbhgaa", sum := "6215602dff3b1c8633cfffd304626e06890f34650f808c4edace0e0650112b8c", func := "cleat/cleatlaw18.WireMore", spec := "wireMore", inPlace := ["internal/abi.NoEscape"], unfollowed := true, recurses := true, apart := false, narrowed := true }
def WireMoreUptoSaid : Prop := wireMoreUptoRow.holds Try.pinned (OpenSpec.upto wireMoreSpec)

/-- 'cleatlaw18.WireOrder', WHERE WHAT IT READS IS OF BULK AT MOST 1048576: true; the input reads as it did. -/
def wireOrderUptoRow : OpenClaim := { program := "ytfajpcinmpbhgaa", sum := "6215602dff3b1c8633cfffd304626e06890f34650f808c4edace0e0650112b8c", func := "cleat/cleatlaw18.WireOrder", spec := "wireOrder", inPlace := ["internal/abi.NoEscape"], unfollowed := true, recurses := true, apart := false, narrowed := true }
def WireOrderUptoSaid : Prop := wireOrderUptoRow.holds Try.pinned (OpenSpec.upto wireOrderSpec)

/-- 'cleatlaw18.WireDoes', WHERE WHAT IT READS IS OF BULK AT MOST 1048576: true; the input reads as it did. -/
def wireDoesUptoRow : OpenClaim := { program := "ytfajpcinmpbhgaa", sum := "6215602dff3b1c8633cfffd304626e06890f34650f808c4edace0e0650112b8c", func := "cleat/cleatlaw18.WireDoes", spec := "wireDoes", inPlace := ["internal/abi.NoEscape"], unfollowed := true, recurses := true, apart := false, narrowed := true }
def WireDoesUptoSaid : Prop := wireDoesUptoRow.holds Try.pinned (OpenSpec.upto wireDoesSpec)

/-- 'cleatlaw18.WireBack', WHERE WHAT IT READS IS OF BULK AT MOST 1048576: true; the input reads as it did. -/
def wireBackUptoRow : OpenClaim := { program := "ytfajpcinmpbhgaa", sum := "6215602dff3b1c8633cfffd304626e06890f34650f808c4edace0e0650112b8c", func := "cleat/cleatlaw18.WireBack", spec := "wireBack", inPlace := ["internal/abi.NoEscape"], unfollowed := true, recurses := true, apart := false, narrowed := true }
def WireBackUptoSaid : Prop := wireBackUptoRow.holds Try.pinned (OpenSpec.upto wireBackSpec)

/-- 'cleatlaw18.WireOnly', WHERE WHAT IT READS IS OF BULK AT MOST 1048576: true; the input reads as it did. -/
def wireOnlyUptoRow : OpenClaim := { program := "ytfajpcinmpbhgaa", sum := "6215602dff3b1c8633cfffd304626e06890f34650f808c4edace0e0650112b8c", func := "cleat/cleatlaw18.WireOnly", spec := "wireOnly", inPlace := ["internal/abi.NoEscape"], unfollowed := true, recurses := true, apart := false, narrowed := true }
def WireOnlyUptoSaid : Prop := wireOnlyUptoRow.holds Try.pinned (OpenSpec.upto wireOnlySpec)

end Rows
end Go.Proofs.Ytfajpcinmpbhgaa
