/- The law MemGiven answers true for every input, and its arguments read as they did: the given row, under no condition. Written by a program of this session (rowgen.py) out of the walk that is proved beside it. -/
import Derived.Test.YtkpkkjbigndnoaaRows
import Derived.Test.YtkpkkjbigndnoaaPureMemGiven
import Derived.Test.YtkpkkjbigndnoaaMRows
import Derived.WalkKit
import Derived.ProofKit
import Derived.OpenShut
import Derived.ShutString
import Derived.ChangeOld
import Derived.Below
import Derived.SizedLaws
import Derived.Carry
import Derived.Deep.Fields
import Derived.Lib.SmallJoins
namespace Go.Proofs.Ytkpkkjbigndnoaa.memGiven
set_option maxRecDepth 100000
open Go.ChangeShapes Go.WideShapes Go.ChangeAt Go.RowKit Go.Deep
open Go.ChangeMaps (open_string shut_string)
open Go.Proofs.Ytkpkkjbigndnoaa
open Go.Proofs.YtkpkkjbigndnoaaW.PrintWords
set_option linter.unusedVariables false
theorem own : ownKnob Try.prog.godebug = none := by kernel_rfl
theorem laidOut : laidOutB Try.prog = true := by kernel_rfl
theorem open_R22 {H : Type} {enc : TypeId × Value → H} {w : World} {base : Nat} {spare : Nat → Bool} {held : Bool} {A : Option Addr} {len cap : Nat} {d : DataW H} {p : List MemPlace}
    (h : DataW.Trod enc Try.prog w base spare held 22 (.slice A len cap) d p) : ∃ l : List P.S37, l.length = len ∧ Kd.C P.k37 w A l.length l ∧ l.length ≤ cap ∧ ∀ q, q ∈ l → (Lit.int .u64 q.f0).wf = true ∧ (Lit.int .i64 q.f1).wf = true ∧ q.f2.size ≤ maxLen := by
  obtain ⟨fuel, hf⟩ := h
  obtain ⟨hl, hm, hc⟩ := M.slice_cells Try.underlying22 Try.underlying37 (by kernel_rfl) (by kernel_rfl) hf
  obtain ⟨l, h1, h2, h3⟩ := M.rows_of P.k37 (fun q => (Lit.int .u64 q.f0).wf = true ∧ (Lit.int .i64 q.f1).wf = true ∧ q.f2.size ≤ maxLen) hm (fun h0 => by
    obtain ⟨ad, e, hi⟩ := hc h0
    refine ⟨ad, e, fun i hlt => ?_⟩
    obtain ⟨cs, hcl, hcell, hfs⟩ := hi i hlt
    obtain ⟨v0, n0, y0, hv0, hy0⟩ := hfs 0 _ rfl
    obtain ⟨a0, e0, _, w0⟩ := DataW.trod_int Try.underlying23 hy0
    obtain rfl : v0 = .int .u64 a0 := by simpa using e0
    obtain ⟨v1, n1, y1, hv1, hy1⟩ := hfs 1 _ rfl
    obtain ⟨a1, e1, _, w1⟩ := DataW.trod_int Try.underlying3 hy1
    obtain rfl : v1 = .int .i64 a1 := by simpa using e1
    obtain ⟨v2, n2, y2, hv2, hy2⟩ := hfs 2 _ rfl
    obtain ⟨a2, e2, _, w2⟩ := DataW.trod_string Try.underlying9 hy2
    obtain rfl : v2 = .string a2 := by simpa using e2
    obtain rfl : cs = [.int .u64 a0, .int .i64 a1, .string a2] := by
      match cs, hcl with
      | [c0, c1, c2], _ => simp_all
    exact ⟨(⟨a0, a1, a2⟩ : P.S37), _, rfl, P.k37_mk w _, ⟨w0, w1, w2⟩, hcell⟩)
  exact ⟨l, h1, h2, by omega, h3⟩
set_option maxRecDepth 100000 in
theorem lifted (os : Os) (started : os.Started) (H : Type) (enc : TypeId × Value → H) :
    ReturnsInHanded {} Try.checked os 4 .any (Rows.memGivenSpec.pre6 enc Try.prog Try.f4 Rows.memGivenRow.domain false) (Rows.memGivenSpec.post enc Try.prog Try.f4 false true false false) := by
  refine returnsInHanded_of_change_sized (C := Try.checked) own started (by kernel_rfl) Try.func4
    (ChangeSpec.witness6 (enc := enc) (C := Try.checked) false ⟨#[], #[.slice none 0 0, .int .i64 0], []⟩ 8 (by kernel_rfl) (by kernel_rfl) (by kernel_rfl) (by kernel_rfl)) ?_
  intro W base args ds gs before hval0 hW hcnd hsz0 _
  have hsz : (DataW.weightsEach Try.prog (Try.f4.params.toList ++ Rows.memGivenSpec.plain.varTypes Try.prog) (ds ++ gs)).all (· ≤ reachBytes) = true := hsz0
  have hval : ∀ (j : Nat) t v, Try.f4.params[j]? = some t → args[j]? = some v → Value.okWide Try.prog W .any base t v := hval0
  have hW' := hW
  obtain ⟨p, q, hA0, hV, rfl, hfz, hnd⟩ := hW
  have hA : DataW.TrodAll enc Try.prog W 0 (fun _ => true) true Try.f4.params.toList args.toList ds p := hA0
  rw [Try.params4] at hA hval hsz
  obtain ⟨v0, vs0, d0, ds0, p0, q0, hargs, rfl, rfl, h0, r0⟩ := trodAll_cons hA
  obtain ⟨v1, vs1, d1, ds1, p1, q1, rfl, rfl, rfl, h1, r1⟩ := trodAll_cons r0
  obtain ⟨rfl, rfl, rfl⟩ := trodAll_nil r1
  obtain rfl : args = #[v0, v1] := by cases args; simp_all
  obtain ⟨rfl, rfl⟩ := trodVars_none hV
  have k0 := h0
  have lt0 : ∀ x ∈ p0, x.block < W.heap.size := by obtain ⟨m, hm⟩ := k0; exact DataW.trod_lt m _ _ _ hm
  obtain ⟨A0, len0, c0, rfl⟩ := okWide_slice Try.underlying22 (hval 0 22 v0 rfl rfl)
  obtain ⟨l0, hn0, hr0, hc0, hg0⟩ := open_R22 h0
  subst hn0
  have k1 := h1
  have lt1 : ∀ x ∈ p1, x.block < W.heap.size := by obtain ⟨m, hm⟩ := k1; exact DataW.trod_lt m _ _ _ hm
  obtain ⟨a1, rfl, rfl, rfl, w1⟩ := open_int Try.underlying3 (hval 1 3 v1 rfl rfl) h1
  clear hA0 hval0 hsz0 hsz
  refine (Pure.MemGiven_walk A0 c0 l0 a1 W hr0 hc0 hg0 w1).mono fun e W' ⟨he, bel⟩ => ?_
  subst he
  exact ⟨_, rfl, _, _, _, [], _, [], hW', trodAll_mk1 (shut_bool Try.underlying4 _), (trodAll_cons_mk (Below.trod laidOut (by kernel_rfl) (of_decide_eq_true (by kernel_rfl)) k0 bel lt0) (trodAll_cons_mk (Below.trod laidOut (by kernel_rfl) (of_decide_eq_true (by kernel_rfl)) k1 bel lt1) trodAll_mk0)), rfl, bel.frame _, fun h => by cases h⟩
theorem over : Rows.memGivenRow.holds Try.pinned (OpenSpec.ofChange Rows.memGivenSpec) :=
  OpenClaim.holds_of_wide 4 Try.f4 rfl rfl rfl rfl rfl rfl rfl ⟨rfl, rfl, rfl, rfl, rfl⟩ rfl rfl rfl rfl rfl (by kernel_rfl) Try.func4 (by kernel_rfl)
    (of_decide_eq_true (by kernel_rfl)) (by unfold Func.isWrapper; first | (rw [if_pos (by decide +kernel)]; kernel_rfl) | (rw [if_neg (by decide +kernel)]; exact ⟨rfl, rfl⟩))
    (fun os started H enc _ => lifted os started H enc)
theorem proved : Rows.MemGivenSaid := over
#print axioms proved
end Go.Proofs.Ytkpkkjbigndnoaa.memGiven
namespace Go.Proofs.Ytkpkkjbigndnoaa
/-- The row, under a short name, for the claim. -/
theorem memGiven_holds : Rows.MemGivenSaid := memGiven.proved
end Go.Proofs.Ytkpkkjbigndnoaa
