/- Written for this claim by a program of this session (drive.py, over the print of the kit): Lean functions with the answers of Go functions, and the proofs that the Go code comes to these answers, under no condition but the readings of the arguments that each theorem names. -/
import Derived.Test.YtkpkkjbigndnoaaDoorPx0
import Derived.Test.YtkpkkjbigndnoaaDoorPx8
namespace Go.Proofs.YtkpkkjbigndnoaaDoor.P
open Go.RowKit Go.Proofs.YtkpkkjbigndnoaaDoorW.PrintWords Go.Proofs.YtkpkkjbigndnoaaDoorW.PrintLast Go.Proofs.YtkpkkjbigndnoaaDoorW.PrintMore
attribute [local go_sem] max2_int min2_int max_two min_two max_three min_three max_four min_four   -- for this text's walks alone
set_option linter.unusedVariables false
set_option linter.unusedSimpArgs false

/-! ### code_over: function 27 -/
/-- A base, and fields over it. -/
def code_over.f (k : Nat) (base : Int) (l : List S60) : Option Int := (bits_Word.f k l).bind fun p => if p.2 = 0 then some (Go.bits .or .u32 base p.1) else none
theorem code_over.mono (base : Int) (l : List S60) (k : Nat) : LeO (code_over.f k base l) (code_over.f (k + 1) base l) := LeO.bind (bits_Word.mono _ _) (fun _ => LeO.refl _)
theorem code_over.calls (k : Nat) (base : Int) (A : Option Addr) (c : Nat) (l : List S60) (r : Int) (w : World) (hr : Kd.C k60 w A l.length l) (hc : l.length ≤ c) (h : code_over.f k base l = some r) :
    Calls Tryd.prog 27 #[.int .u32 base, .slice A l.length c] w fun e w' => e = .returned (.int .u32 r) ∧ Below w.heap.size w w' := by
  unfold code_over.f at h
  obtain ⟨⟨p1, p2⟩, hp, h⟩ := Option.bind_eq_some_iff.mp h
  simp only at h
  split at h
  next h0 =>
    subst h0
    obtain rfl := Option.some.inj h
    have HP := Aside0.mk hp
    have HR := Aside0.mk hr
    clear h hp hr
    go_enter Tryd.func27, Tryd.ntmps27
    go_wp2_with (first | (go_at_call 55; refine (bits_Word.calls _ _ _ _ _ _ _ HR.out hc HP.out).mono ?_; rintro e w1 ⟨rfl, hb1⟩; have HB := Aside0.mk hb1; clear hb1) | (go_at_call 34; refine (code_must.ok _).mono ?_; rintro e w3 ⟨rfl, rfl⟩))
    go_ret
    exact ⟨rfl, HB.out⟩
  next => cases h

-- NOT PRINTED: function 28 (code_bases)

end Go.Proofs.YtkpkkjbigndnoaaDoor.P
