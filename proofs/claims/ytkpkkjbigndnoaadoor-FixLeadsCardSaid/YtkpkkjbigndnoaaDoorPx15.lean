/- Written for this claim by a program of this session (drive.py, over the print of the kit): Lean functions with the answers of Go functions, and the proofs that the Go code comes to these answers, under no condition but the readings of the arguments that each theorem names. -/
import Derived.Test.YtkpkkjbigndnoaaDoorPx0
import Derived.Test.YtkpkkjbigndnoaaDoorPx1
namespace Go.Proofs.YtkpkkjbigndnoaaDoor.P
open Go.RowKit Go.Proofs.YtkpkkjbigndnoaaDoorW.PrintWords Go.Proofs.YtkpkkjbigndnoaaDoorW.PrintLast Go.Proofs.YtkpkkjbigndnoaaDoorW.PrintMore
attribute [local go_sem] max2_int min2_int max_two min_two max_three min_three max_four min_four   -- for this text's walks alone
set_option linter.unusedVariables false
set_option linter.unusedSimpArgs false

attribute [local go_sem high] eqA24
/-! ### place_Far: function 57 -/
def place_Far.f (a0 : Int) (a1 : Int) : Option (Int) := some (wrap64 (IntKind.u64.wrap (a1 - a0)))
set_option maxHeartbeats 8000000 in
set_option maxRecDepth 100000 in
theorem place_Far.calls (a0 : Int) (a1 : Int) (r : Int) (w : World) (h : place_Far.f a0 a1 = some r) :
    Calls Tryd.prog 57 #[.int .u64 a0, .int .u64 a1] w fun e w' => e = .returned (.int .i64 r) ∧ Drawn0 w w' := by
 have H : (some (wrap64 (IntKind.u64.wrap (a1 - a0)))) = some r := h
 clear h
 obtain rfl := Option.some.inj H
 go_enter Tryd.func57, Tryd.ntmps57
 go_wp2
 go_ret
 exact ⟨by first | rfl | (simp; done) | (simp [*]; done), by repeat (first | exact Drawn0.refl _ | apply Drawn0.step)⟩

/-! ### fix_pages: function 58 -/
def fix_pages.f (a0 : Int) (a1 : Int) : Option (Int) := (place_Far.f (Go.bits .andNot .u64 a0 4095) (Go.bits .andNot .u64 a1 4095)).bind fun t251 => (some (wrap64 (Int.tdiv t251 4096)))
set_option maxHeartbeats 8000000 in
set_option maxRecDepth 100000 in
theorem fix_pages.calls (a0 : Int) (a1 : Int) (r : Int) (w : World) (h : fix_pages.f a0 a1 = some r) :
    Calls Tryd.prog 58 #[.int .u64 a0, .int .u64 a1] w fun e w' => e = .returned (.int .i64 r) ∧ Drawn0 w w' := by
 have H : ((place_Far.f (Go.bits .andNot .u64 a0 4095) (Go.bits .andNot .u64 a1 4095)).bind fun t251 => (some (wrap64 (Int.tdiv t251 4096)))) = some r := h
 clear h
 replace H := Option.bind_eq_some_iff.mp H
 obtain ⟨t251, A30, H⟩ := H
 replace H : (some (wrap64 (Int.tdiv t251 4096))) = some r := H
 have A3 := Aside0.mk A30
 clear A30
 obtain rfl := Option.some.inj H
 go_enter Tryd.func58, Tryd.ntmps58
 go_wp2_with (first | ((with_reducible refine gate_callee (f := 57) rfl ?_); refine goesL_ (some 9) rfl rfl Tryd.func57 (by kernel_rfl) rfl #[.int .u64 (Go.bits .andNot .u64 a0 4095), .int .u64 (Go.bits .andNot .u64 a1 4095)] rfl (by (try simp only [List.map_toArray, List.map_cons, List.map_nil]); first | done | rfl | (simp only [List.length_drop, List.length_take]; rfl)) ?_; (with_reducible refine (place_Far.calls (Go.bits .andNot .u64 a0 4095) (Go.bits .andNot .u64 a1 4095) t251 _ A3.out).mono ?_); rintro e w' ⟨rfl, ⟨nd, rfl⟩⟩; refine ⟨_, rfl, ?_⟩))
 go_ret
 exact ⟨by first | rfl | (simp; done) | (simp [*]; done), by repeat (first | exact Drawn0.refl _ | apply Drawn0.step)⟩

/-! ### fix_low: function 59 -/
def fix_low.f (a0 : Int) (a1 : Int) : Option (Int) := some (wrap64 (Int.tmod a1 4096))
set_option maxHeartbeats 8000000 in
set_option maxRecDepth 100000 in
theorem fix_low.calls (a0 : Int) (a1 : Int) (r : Int) (w : World) (h : fix_low.f a0 a1 = some r) :
    Calls Tryd.prog 59 #[.int .u64 a0, .int .u64 a1] w fun e w' => e = .returned (.int .i64 r) ∧ Drawn0 w w' := by
 have H : (some (wrap64 (Int.tmod a1 4096))) = some r := h
 clear h
 obtain rfl := Option.some.inj H
 go_enter Tryd.func59, Tryd.ntmps59
 go_wp2
 go_ret
 exact ⟨by first | rfl | (simp; done) | (simp [*]; done), by repeat (first | exact Drawn0.refl _ | apply Drawn0.step)⟩

-- NOT PRINTED: function 42 (fix_ruleOf)
end Go.Proofs.YtkpkkjbigndnoaaDoor.P
