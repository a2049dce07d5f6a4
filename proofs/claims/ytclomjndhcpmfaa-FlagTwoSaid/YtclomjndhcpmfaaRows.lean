/-
  No cell of these rows narrows 'for every input' (looked for: loops, veiled, ifaces, maps, wideKeys, modest, calm, conditions, laid).
  DERIVED. THE GIVEN ROWS OF THIS SEAT. 11 by the template 'for every input the law returns true; each argument reads behind the call as it read before'; 0 by the template 'total and deterministic' (their statements: YtclomjndhcpmfaaTotals.lean).
  GIVEN WITH THE SEED: the statements are not yours to turn. If you find one false, say at which input.
  Laid BY PROGRAM, IN A SANDBOX (cutbox-rows.mjs): the forced cells as the released guide's own fill.sh prints them over the translation 831741c69172ff83… (all of the seat's roots in one cut). By AI agents, Wed Nov 11 2026. No macro, syntax, notation, axiom, sorry.
-/
import Derived.Test.YtclomjndhcpmfaaChecked
import GoSem.Claim
import GoSem.ClaimJoined
import GoSem.ClaimMapViews
import Derived.JoinedTies
import Derived.KernelRfl
namespace Go.Proofs.Ytclomjndhcpmfaa
/- THE CELL 'sum', in the pinned program and in every row, IS THE sha256 OF THE DUMP (.gsa) THAT YtclomjndhcpmfaaProg.lean LOADS. Nothing in Lean hashes anything: it is a label: what it is worth is what the hold of that sum in a sandbox is worth. -/
noncomputable def Try.pinned : Pinned := { name := "ytclomjndhcpmfaa", sum := "831741c69172ff837c87fc592eede08198a46389aa50115fc98b083fd47e4957", checked := Try.checked }
namespace Rows
def none {H : Type} : Left H := { results := [], args := [] }

/-- 'cleatlaw03.FlagDoes': WHATEVER THE INPUT: true; the input reads as it did. -/
def flagDoesSpec : ChangeSpec := { name := "flagDoes", fn := fun _ => fun
  | [d1, d2, d3, d4, d5, d6, d7] => { results := [.lit (.bool true)], args := [d1, d2, d3, d4, d5, d6, d7] }
  | _ => none }
def flagDoesRow : OpenClaim := { program := "ytclomjndhcpmfaa", sum := "831741c69172ff837c87fc592eede08198a46389aa50115fc98b083fd47e4957", func := "cleat/cleatlaw03.FlagDoes", spec := "flagDoes", inPlace := ["math/bits.Add64"], unfollowed := true, recurses := true, apart := false }
def FlagDoesSaid : Prop := flagDoesRow.holds Try.pinned (OpenSpec.ofChange flagDoesSpec)

/-- ITS FALSE NEIGHBOUR: 'it returns false'. Refute it at one input. -/
def flagDoesWrong : ChangeSpec := { name := "flagDoes", fn := fun _ => fun
  | [d1, d2, d3, d4, d5, d6, d7] => { results := [.lit (.bool false)], args := [d1, d2, d3, d4, d5, d6, d7] }
  | _ => none }
def FlagDoesWrongFalsely : Prop := flagDoesRow.holds Try.pinned (OpenSpec.ofChange flagDoesWrong)

/-- 'cleatlaw03.FlagOrder': WHATEVER THE INPUT: true; the input reads as it did. -/
def flagOrderSpec : ChangeSpec := { name := "flagOrder", fn := fun _ => fun
  | [d1, d2] => { results := [.lit (.bool true)], args := [d1, d2] }
  | _ => none }
def flagOrderRow : OpenClaim := { program := "ytclomjndhcpmfaa", sum := "831741c69172ff837c87fc592eede08198a46389aa50115fc98b083fd47e4957", func := "cleat/cleatlaw03.FlagOrder", spec := "flagOrder", inPlace := ["math/bits.Add64"], unfollowed := true, recurses := true, apart := false }
def FlagOrderSaid : Prop := flagOrderRow.holds Try.pinned (OpenSpec.ofChange flagOrderSpec)

/-- ITS FALSE NEIGHBOUR: 'it returns false'. Refute it at one input. -/
def flagOrderWrong : ChangeSpec := { name := "flagOrder", fn := fun _ => fun
  | [d1, d2] => { results := [.lit (.bool false)], args := [d1, d2] }
  | _ => none }
def FlagOrderWrongFalsely : Prop := flagOrderRow.holds Try.pinned (OpenSpec.ofChange flagOrderWrong)

/-- 'cleatlaw03.FlagTwo': WHATEVER THE INPUT: true; the input reads as it did. -/
def flagTwoSpec : ChangeSpec := { name := "flagTwo", fn := fun _ => fun
  | [d1, d2] => { results := [.lit (.bool true)], args := [d1, d2] }
  | _ => none }
def flagTwoRow : OpenClaim := { program := "ytclomjndhcpmfaa", sum := "831741c69172ff837c87fc592eede08198a46389aa50115fc98b083fd47e4957", func := "cleat/cleatlaw03.FlagTwo", spec := "flagTwo", inPlace := ["math/bits.Add64"], unfollowed := true, recurses := true, apart := false }
def FlagTwoSaid : Prop := flagTwoRow.holds Try.pinned (OpenSpec.ofChange flagTwoSpec)

/-- ITS FALSE NEIGHBOUR: 'it returns false'. Refute it at one input. -/
def flagTwoWrong : ChangeSpec := { name := "flagTwo", fn := fun _ => fun
  | [d1, d2] => { results := [.lit (.bool false)], args := [d1, d2] }
  | _ => none }
def FlagTwoWrongFalsely : Prop := flagTwoRow.holds Try.pinned (OpenSpec.ofChange flagTwoWrong)

/-- 'cleatlaw03.FlagSums': WHATEVER THE INPUT: true; the input reads as it did. -/
def flagSumsSpec : ChangeSpec := { name := "flagSums", fn := fun _ => fun
  | [d1, d2, d3, d4] => { results := [.lit (.bool true)], args := [d1, d2, d3, d4] }
  | _ => none }
def flagSumsRow : OpenClaim := { program := "ytclomjndhcpmfaa", sum := "831741c69172ff837c87fc592eede08198a46389aa50115fc98b083fd47e4957", func := "cleat/cleatlaw03.FlagSums", spec := "flagSums", inPlace := ["math/bits.Add64"], unfollowed := true, recurses := true, apart := false }
def FlagSumsSaid : Prop := flagSumsRow.holds Try.pinned (OpenSpec.ofChange flagSumsSpec)

/-- ITS FALSE NEIGHBOUR: 'it returns false'. Refute it at one input. -/
def flagSumsWrong : ChangeSpec := { name := "flagSums", fn := fun _ => fun
  | [d1, d2, d3, d4] => { results := [.lit (.bool false)], args := [d1, d2, d3, d4] }
  | _ => none }
def FlagSumsWrongFalsely : Prop := flagSumsRow.holds Try.pinned (OpenSpec.ofChange flagSumsWrong)

/-- 'cleatlaw01.BitsSigned': WHATEVER THE INPUT: true; the input reads as it did. -/
def bitsSignedSpec : ChangeSpec := { name := "bitsSigned", fn := fun _ => fun
  | [d1, d2, d3] => { results := [.lit (.bool true)], args := [d1, d2, d3] }
  | _ => none }
def bitsSignedRow : OpenClaim := { program := "ytclomjndhcpmfaa", sum := "831741c69172ff837c87fc592eede08198a46389aa50115fc98b083fd47e4957", func := "cleat/cleatlaw01.BitsSigned", spec := "bitsSigned", unfollowed := true, recurses := true, apart := false }
def BitsSignedSaid : Prop := bitsSignedRow.holds Try.pinned (OpenSpec.ofChange bitsSignedSpec)

/-- ITS FALSE NEIGHBOUR: 'it returns false'. Refute it at one input. -/
def bitsSignedWrong : ChangeSpec := { name := "bitsSigned", fn := fun _ => fun
  | [d1, d2, d3] => { results := [.lit (.bool false)], args := [d1, d2, d3] }
  | _ => none }
def BitsSignedWrongFalsely : Prop := bitsSignedRow.holds Try.pinned (OpenSpec.ofChange bitsSignedWrong)

/-- 'cleatlaw01.BitsTurned': WHATEVER THE INPUT: true; the input reads as it did. -/
def bitsTurnedSpec : ChangeSpec := { name := "bitsTurned", fn := fun _ => fun
  | [d1, d2, d3, d4] => { results := [.lit (.bool true)], args := [d1, d2, d3, d4] }
  | _ => none }
def bitsTurnedRow : OpenClaim := { program := "ytclomjndhcpmfaa", sum := "831741c69172ff837c87fc592eede08198a46389aa50115fc98b083fd47e4957", func := "cleat/cleatlaw01.BitsTurned", spec := "bitsTurned", unfollowed := true, recurses := true, apart := false }
def BitsTurnedSaid : Prop := bitsTurnedRow.holds Try.pinned (OpenSpec.ofChange bitsTurnedSpec)

/-- ITS FALSE NEIGHBOUR: 'it returns false'. Refute it at one input. -/
def bitsTurnedWrong : ChangeSpec := { name := "bitsTurned", fn := fun _ => fun
  | [d1, d2, d3, d4] => { results := [.lit (.bool false)], args := [d1, d2, d3, d4] }
  | _ => none }
def BitsTurnedWrongFalsely : Prop := bitsTurnedRow.holds Try.pinned (OpenSpec.ofChange bitsTurnedWrong)

/-- 'cleatlaw01.BitsSign': WHATEVER THE INPUT: true; the input reads as it did. -/
def bitsSignSpec : ChangeSpec := { name := "bitsSign", fn := fun _ => fun
  | [d1, d2, d3, d4] => { results := [.lit (.bool true)], args := [d1, d2, d3, d4] }
  | _ => none }
def bitsSignRow : OpenClaim := { program := "ytclomjndhcpmfaa", sum := "831741c69172ff837c87fc592eede08198a46389aa50115fc98b083fd47e4957", func := "cleat/cleatlaw01.BitsSign", spec := "bitsSign", unfollowed := true, recurses := true, apart := false }
def BitsSignSaid : Prop := bitsSignRow.holds Try.pinned (OpenSpec.ofChange bitsSignSpec)

/-- ITS FALSE NEIGHBOUR: 'it returns false'. Refute it at one input. -/
def bitsSignWrong : ChangeSpec := { name := "bitsSign", fn := fun _ => fun
  | [d1, d2, d3, d4] => { results := [.lit (.bool false)], args := [d1, d2, d3, d4] }
  | _ => none }
def BitsSignWrongFalsely : Prop := bitsSignRow.holds Try.pinned (OpenSpec.ofChange bitsSignWrong)

/-- 'cleatlaw01.BitsRound': WHATEVER THE INPUT: true; the input reads as it did. -/
def bitsRoundSpec : ChangeSpec := { name := "bitsRound", fn := fun _ => fun
  | [d1, d2, d3, d4] => { results := [.lit (.bool true)], args := [d1, d2, d3, d4] }
  | _ => none }
def bitsRoundRow : OpenClaim := { program := "ytclomjndhcpmfaa", sum := "831741c69172ff837c87fc592eede08198a46389aa50115fc98b083fd47e4957", func := "cleat/cleatlaw01.BitsRound", spec := "bitsRound", unfollowed := true, recurses := true, apart := false }
def BitsRoundSaid : Prop := bitsRoundRow.holds Try.pinned (OpenSpec.ofChange bitsRoundSpec)

/-- ITS FALSE NEIGHBOUR: 'it returns false'. Refute it at one input. -/
def bitsRoundWrong : ChangeSpec := { name := "bitsRound", fn := fun _ => fun
  | [d1, d2, d3, d4] => { results := [.lit (.bool false)], args := [d1, d2, d3, d4] }
  | _ => none }
def BitsRoundWrongFalsely : Prop := bitsRoundRow.holds Try.pinned (OpenSpec.ofChange bitsRoundWrong)

/-- 'cleatlaw01.BitsFields': WHATEVER THE INPUT: true; the input reads as it did. -/
def bitsFieldsSpec : ChangeSpec := { name := "bitsFields", fn := fun _ => fun
  | [d1, d2, d3, d4] => { results := [.lit (.bool true)], args := [d1, d2, d3, d4] }
  | _ => none }
def bitsFieldsRow : OpenClaim := { program := "ytclomjndhcpmfaa", sum := "831741c69172ff837c87fc592eede08198a46389aa50115fc98b083fd47e4957", func := "cleat/cleatlaw01.BitsFields", spec := "bitsFields", unfollowed := true, recurses := true, apart := false }
def BitsFieldsSaid : Prop := bitsFieldsRow.holds Try.pinned (OpenSpec.ofChange bitsFieldsSpec)

/-- ITS FALSE NEIGHBOUR: 'it returns false'. Refute it at one input. -/
def bitsFieldsWrong : ChangeSpec := { name := "bitsFields", fn := fun _ => fun
  | [d1, d2, d3, d4] => { results := [.lit (.bool false)], args := [d1, d2, d3, d4] }
  | _ => none }
def BitsFieldsWrongFalsely : Prop := bitsFieldsRow.holds Try.pinned (OpenSpec.ofChange bitsFieldsWrong)

/-- 'cleatlaw01.BitsBack': WHATEVER THE INPUT: true; the input reads as it did. -/
def bitsBackSpec : ChangeSpec := { name := "bitsBack", fn := fun _ => fun
  | [d1, d2, d3, d4] => { results := [.lit (.bool true)], args := [d1, d2, d3, d4] }
  | _ => none }
def bitsBackRow : OpenClaim := { program := "ytclomjndhcpmfaa", sum := "831741c69172ff837c87fc592eede08198a46389aa50115fc98b083fd47e4957", func := "cleat/cleatlaw01.BitsBack", spec := "bitsBack", unfollowed := true, recurses := true, apart := false }
def BitsBackSaid : Prop := bitsBackRow.holds Try.pinned (OpenSpec.ofChange bitsBackSpec)

/-- ITS FALSE NEIGHBOUR: 'it returns false'. Refute it at one input. -/
def bitsBackWrong : ChangeSpec := { name := "bitsBack", fn := fun _ => fun
  | [d1, d2, d3, d4] => { results := [.lit (.bool false)], args := [d1, d2, d3, d4] }
  | _ => none }
def BitsBackWrongFalsely : Prop := bitsBackRow.holds Try.pinned (OpenSpec.ofChange bitsBackWrong)

/-- 'cleatlaw03.FlagShift': WHATEVER THE INPUT: true; the input reads as it did. -/
def flagShiftSpec : ChangeSpec := { name := "flagShift", fn := fun _ => fun
  | [d1, d2] => { results := [.lit (.bool true)], args := [d1, d2] }
  | _ => none }
def flagShiftRow : OpenClaim := { program := "ytclomjndhcpmfaa", sum := "831741c69172ff837c87fc592eede08198a46389aa50115fc98b083fd47e4957", func := "cleat/cleatlaw03.FlagShift", spec := "flagShift", inPlace := ["math/bits.Add64"], unfollowed := true, recurses := true, apart := false }
def FlagShiftSaid : Prop := flagShiftRow.holds Try.pinned (OpenSpec.ofChange flagShiftSpec)

/-- ITS FALSE NEIGHBOUR: 'it returns false'. Refute it at one input. -/
def flagShiftWrong : ChangeSpec := { name := "flagShift", fn := fun _ => fun
  | [d1, d2] => { results := [.lit (.bool false)], args := [d1, d2] }
  | _ => none }
def FlagShiftWrongFalsely : Prop := flagShiftRow.holds Try.pinned (OpenSpec.ofChange flagShiftWrong)

/- THE SECOND FORM. 'bulk': how many values and letters a reading holds, each counted each time it is reached (what is shared counts as often as it is met; a slice's spare places count too). A statement '..UptoSaid' is the law's where the arguments, and the package variables that the reading takes, are together of bulk at most 1048576: NARROWER than '..Said'. Prove '..Said' where nothing that the law and all that it calls make is longer than what came in: it says more and counts as full. Else prove '..UptoSaid'. A law counts once. -/
mutual
def uptoBulk {H : Type} : DataW H → Nat
  | .lit (.string bytes) => bytes.length + 1
  | .lit _ => 1
  | .nil => 1
  | .ptr d => uptoBulk d + 1
  | .slice elems spare => uptoBulkAll elems + uptoBulkAll spare + 1
  | .agg parts => uptoBulkAll parts + 1
  | .iface _ d => uptoBulk d + 1
  | .map entries => uptoBulkEntries entries + 1
  | .held _ => 1
def uptoBulkAll {H : Type} : List (DataW H) → Nat
  | [] => 0
  | d :: r => uptoBulk d + uptoBulkAll r
def uptoBulkEntries {H : Type} : List (Lit × DataW H) → Nat
  | [] => 0
  | x :: r => uptoBulkEntry x + uptoBulkEntries r
def uptoBulkEntry {H : Type} : Lit × DataW H → Nat
  | (.string bytes, d) => bytes.length + uptoBulk d + 1
  | (_, d) => uptoBulk d + 1
 end
def uptoSmall : (H : Type) → List (DataW H) → Bool := fun _ ds => decide (uptoBulkAll ds ≤ 1048576)
def OpenSpec.upto (s : _root_.Go.ChangeSpec) : _root_.Go.OpenSpec := { _root_.Go.OpenSpec.ofChange s with cond := some uptoSmall }

/-- 'cleatlaw03.FlagDoes', WHERE WHAT IT READS IS OF BULK AT MOST 1048576: true; the input reads as it did. -/
def flagDoesUptoRow : OpenClaim := { program := "ytclomjndhcpmfaa", sum := "831741c69172ff837c87fc592eede08198a46389aa50115fc98b083fd47e4957", func := "cleat/cleatlaw03.FlagDoes", spec := "flagDoes", inPlace := ["math/bits.Add64"], unfollowed := true, recurses := true, apart := false, narrowed := true }
def FlagDoesUptoSaid : Prop := flagDoesUptoRow.holds Try.pinned (OpenSpec.upto flagDoesSpec)

/-- 'cleatlaw03.FlagOrder', WHERE WHAT IT READS IS OF BULK AT MOST 1048576: true; the input reads as it did. -/
def flagOrderUptoRow : OpenClaim := { program := "ytclomjndhcpmfaa", sum := "831741c69172ff837c87fc592eede08198a46389aa50115fc98b083fd47e4957", func := "cleat/cleatlaw03.FlagOrder", spec := "flagOrder", inPlace := ["math/bits.Add64"], unfollowed := true, recurses := true, apart := false, narrowed := true }
def FlagOrderUptoSaid : Prop := flagOrderUptoRow.holds Try.pinned (OpenSpec.upto flagOrderSpec)

/-- 'cleatlaw03.FlagTwo', WHERE WHAT IT READS IS OF BULK AT MOST 1048576: true; the input reads as it did. -/
def flagTwoUptoRow : OpenClaim := { program := "ytclomjndhcpmfaa", sum := "831741c69172ff837c87fc592eede08198a46389aa50115fc98b083fd47e4957", func := "cleat/cleatlaw03.FlagTwo", spec := "flagTwo", inPlace := ["math/bits.Add64"], unfollowed := true, recurses := true, apart := false, narrowed := true }
def FlagTwoUptoSaid : Prop := flagTwoUptoRow.holds Try.pinned (OpenSpec.upto flagTwoSpec)

/-- 'cleatlaw03.FlagSums', WHERE WHAT IT READS IS OF BULK AT MOST 1048576: true; the input reads as it did. -/
def flagSumsUptoRow : OpenClaim := { program := "ytclomjndhcpmfaa", sum := "831741c69172ff837c87fc592eede08198a46389aa50115fc98b083fd47e4957", func := "cleat/cleatlaw03.FlagSums", spec := "flagSums", inPlace := ["math/bits.Add64"], unfollowed := true, recurses := true, apart := false, narrowed := true }
def FlagSumsUptoSaid : Prop := flagSumsUptoRow.holds Try.pinned (OpenSpec.upto flagSumsSpec)

/-- 'cleatlaw01.BitsSigned', WHERE WHAT IT READS IS OF BULK AT MOST 1048576: true; the input reads as it did. -/
def bitsSignedUptoRow : OpenClaim := { program := "ytclomjndhcpmfaa", sum := "831741c69172ff837c87fc592eede08198a46389aa50115fc98b083fd47e4957", func := "cleat/cleatlaw01.BitsSigned", spec := "bitsSigned", unfollowed := true, recurses := true, apart := false, narrowed := true }
def BitsSignedUptoSaid : Prop := bitsSignedUptoRow.holds Try.pinned (OpenSpec.upto bitsSignedSpec)

/-- 'cleatlaw01.BitsTurned', WHERE WHAT IT READS IS OF BULK AT MOST 1048576: true; the input reads as it did. -/
def bitsTurnedUptoRow : OpenClaim := { program := "ytclomjndhcpmfaa", sum := "831741c69172ff837c87fc592eede08198a46389aa50115fc98b083fd47e4957", func := "cleat/cleatlaw01.BitsTurned", spec := "bitsTurned", unfollowed := true, recurses := true, apart := false, narrowed := true }
def BitsTurnedUptoSaid : Prop := bitsTurnedUptoRow.holds Try.pinned (OpenSpec.upto bitsTurnedSpec)

/-- 'cleatlaw01.BitsSign', WHERE WHAT IT READS IS OF BULK AT MOST 1048576: true; the input reads as it did. -/
def bitsSignUptoRow : OpenClaim := { program := "ytclomjndhcpmfaa", sum := "831741c69172ff837c87fc592eede08198a46389aa50115fc98b083fd47e4957", func := "cleat/cleatlaw01.BitsSign", spec := "bitsSign", unfollowed := true, recurses := true, apart := false, narrowed := true }
def BitsSignUptoSaid : Prop := bitsSignUptoRow.holds Try.pinned (OpenSpec.upto bitsSignSpec)

/-- 'cleatlaw01.BitsRound', WHERE WHAT IT READS IS OF BULK AT MOST 1048576: true; the input reads as it did. -/
def bitsRoundUptoRow : OpenClaim := { program := "ytclomjndhcpmfaa", sum := "831741c69172ff837c87fc592eede08198a46389aa50115fc98b083fd47e4957", func := "cleat/cleatlaw01.BitsRound", spec := "bitsRound", unfollowed := true, recurses := true, apart := false, narrowed := true }
def BitsRoundUptoSaid : Prop := bitsRoundUptoRow.holds Try.pinned (OpenSpec.upto bitsRoundSpec)

/-- 'cleatlaw01.BitsFields', WHERE WHAT IT READS IS OF BULK AT MOST 1048576: true; the input reads as it did. -/
def bitsFieldsUptoRow : OpenClaim := { program := "ytclomjndhcpmfaa", sum := "831741c69172ff837c87fc592eede08198a46389aa50115fc98b083fd47e4957", func := "cleat/cleatlaw01.BitsFields", spec := "bitsFields", unfollowed := true, recurses := true, apart := false, narrowed := true }
def BitsFieldsUptoSaid : Prop := bitsFieldsUptoRow.holds Try.pinned (OpenSpec.upto bitsFieldsSpec)

/-- 'cleatlaw01.BitsBack', WHERE WHAT IT READS IS OF BULK AT MOST 1048576: true; the input reads as it did. -/
def bitsBackUptoRow : OpenClaim := { program := "ytclomjndhcpmfaa", sum := "831741c69172ff837c87fc592eede08198a46389aa50115fc98b083fd47e4957", func := "cleat/cleatlaw01.BitsBack", spec := "bitsBack", unfollowed := true, recurses := true, apart := false, narrowed := true }
def BitsBackUptoSaid : Prop := bitsBackUptoRow.holds Try.pinned (OpenSpec.upto bitsBackSpec)

/-- 'cleatlaw03.FlagShift', WHERE WHAT IT READS IS OF BULK AT MOST 1048576: true; the input reads as it did. -/
def flagShiftUptoRow : OpenClaim := { program := "ytclomjndhcpmfaa", sum := "831741c69172ff837c87fc592eede08198a46389aa50115fc98b083fd47e4957", func := "cleat/cleatlaw03.FlagShift", spec := "flagShift", inPlace := ["math/bits.Add64"], unfollowed := true, recurses := true, apart := false, narrowed := true }
def FlagShiftUptoSaid : Prop := flagShiftUptoRow.holds Try.pinned (OpenSpec.upto flagShiftSpec)

end Rows
end Go.Proofs.Ytclomjndhcpmfaa
