/- Written for this claim by a program of this session (drive.py, over the print of the kit): Lean functions with the answers of Go functions, and the proofs that the Go code comes to these answers, under no condition but the readings of the arguments that each theorem names. -/
import Derived.Test.YtkpkkjbigndnoaaDoorPx0
import Derived.Test.YtkpkkjbigndnoaaDoorPx6
import Derived.Test.YtkpkkjbigndnoaaDoorPx10
import Derived.Test.YtkpkkjbigndnoaaDoorPx12
import Derived.Test.YtkpkkjbigndnoaaDoorPx15
namespace Go.Proofs.YtkpkkjbigndnoaaDoor.P
open Go.RowKit Go.Proofs.YtkpkkjbigndnoaaDoorW.PrintWords Go.Proofs.YtkpkkjbigndnoaaDoorW.PrintLast Go.Proofs.YtkpkkjbigndnoaaDoorW.PrintMore
attribute [local go_sem] max2_int min2_int max_two min_two max_three min_three max_four min_four   -- for this text's walks alone
set_option linter.unusedVariables false
set_option linter.unusedSimpArgs false

/-! ### fix_Value: function 23 -/
/-- What a kind's value has to be: its least, its most, of what it is a multiple. -/
def fix_rule (j : Int) : Int × Int × Int := if j = 2 then (-134217728, 134217724, 4) else if j = 3 then (-1048576, 1048572, 4) else if j = 4 then (-1048576, 1048572, 4) else if j = 5 then (-1048576, 1048575, 1) else if j = 6 then (-1048576, 1048575, 1) else if j = 8 then (0, 4096, 8) else (0, 4096, 1)
/-- A kind's value. -/
def fix_val (j a b : Int) : Option Int := if j < 6 then place_Far.f a b else if j = 6 then fix_pages.f a b else fix_low.f a b
def fix_ruleA : Array Value := #[.nilFunc, .int .i64 0, .int .i64 0, .int .i64 0, .nilFunc, .int .i64 0, .int .i64 0, .int .i64 0, .func (.func 57) #[] #[], .int .i64 (-134217728), .int .i64 134217724, .int .i64 4, .func (.func 57) #[] #[], .int .i64 (-1048576), .int .i64 1048572, .int .i64 4, .func (.func 57) #[] #[], .int .i64 (-1048576), .int .i64 1048572, .int .i64 4, .func (.func 57) #[] #[], .int .i64 (-1048576), .int .i64 1048575, .int .i64 1, .func (.func 58) #[] #[], .int .i64 (-1048576), .int .i64 1048575, .int .i64 1, .func (.func 59) #[] #[], .int .i64 0, .int .i64 4096, .int .i64 1, .func (.func 59) #[] #[], .int .i64 0, .int .i64 4096, .int .i64 8, .func (.func 59) #[] #[], .int .i64 0, .int .i64 4096, .int .i64 1]
def fix_ruleZ : Array Value := #[.nilFunc, .int .i64 0, .int .i64 0, .int .i64 0]
def fix_rule2 : Array Value := #[.func (.func 57) #[] #[], .int .i64 (-134217728), .int .i64 134217724, .int .i64 4]
def fix_rule3 : Array Value := #[.func (.func 57) #[] #[], .int .i64 (-1048576), .int .i64 1048572, .int .i64 4]
def fix_rule5 : Array Value := #[.func (.func 57) #[] #[], .int .i64 (-1048576), .int .i64 1048575, .int .i64 1]
def fix_rule6 : Array Value := #[.func (.func 58) #[] #[], .int .i64 (-1048576), .int .i64 1048575, .int .i64 1]
def fix_rule7 : Array Value := #[.func (.func 59) #[] #[], .int .i64 0, .int .i64 4096, .int .i64 1]
def fix_rule8 : Array Value := #[.func (.func 59) #[] #[], .int .i64 0, .int .i64 4096, .int .i64 8]
theorem fix_rule_info : (Tryd.prog.info? 88).map (fun i => (i.zero, i.size)) = some (some (.agg fix_ruleZ), 4) := by kernel_rfl
theorem fix_rb2 (W : World) : (Instr.build 88 #[(0, .func (.func 57) #[] #[]), (1, .int .i64 (-134217728)), (2, .int .i64 134217724), (3, .int .i64 4)]).run Tryd.prog W = .ok (.agg fix_rule2) W := run_build W _ _ _ (by kernel_rfl)
theorem fix_rb3 (W : World) : (Instr.build 88 #[(0, .func (.func 57) #[] #[]), (1, .int .i64 (-1048576)), (2, .int .i64 1048572), (3, .int .i64 4)]).run Tryd.prog W = .ok (.agg fix_rule3) W := run_build W _ _ _ (by kernel_rfl)
theorem fix_rb5 (W : World) : (Instr.build 88 #[(0, .func (.func 57) #[] #[]), (1, .int .i64 (-1048576)), (2, .int .i64 1048575), (3, .int .i64 1)]).run Tryd.prog W = .ok (.agg fix_rule5) W := run_build W _ _ _ (by kernel_rfl)
theorem fix_rb6 (W : World) : (Instr.build 88 #[(0, .func (.func 58) #[] #[]), (1, .int .i64 (-1048576)), (2, .int .i64 1048575), (3, .int .i64 1)]).run Tryd.prog W = .ok (.agg fix_rule6) W := run_build W _ _ _ (by kernel_rfl)
theorem fix_rb7 (W : World) : (Instr.build 88 #[(0, .func (.func 59) #[] #[]), (1, .int .i64 0), (2, .int .i64 4096), (3, .int .i64 1)]).run Tryd.prog W = .ok (.agg fix_rule7) W := run_build W _ _ _ (by kernel_rfl)
theorem fix_rb8 (W : World) : (Instr.build 88 #[(0, .func (.func 59) #[] #[]), (1, .int .i64 0), (2, .int .i64 4096), (3, .int .i64 8)]).run Tryd.prog W = .ok (.agg fix_rule8) W := run_build W _ _ _ (by kernel_rfl)
theorem fix_rbA (W : World) : (Instr.build 102 #[(2, .agg fix_rule2), (3, .agg fix_rule3), (4, .agg fix_rule3), (5, .agg fix_rule5), (6, .agg fix_rule6), (7, .agg fix_rule7), (8, .agg fix_rule8), (9, .agg fix_rule7)]).run Tryd.prog W = .ok (.agg fix_ruleA) W := run_build W _ _ _ (by kernel_rfl)
theorem fix_ri2 (W : World) : (Instr.index 102 (.agg fix_ruleA) (.int .i64 2)).run Tryd.prog W = .ok (.agg fix_rule2) W := by kernel_rfl
theorem fix_ri3 (W : World) : (Instr.index 102 (.agg fix_ruleA) (.int .i64 3)).run Tryd.prog W = .ok (.agg fix_rule3) W := by kernel_rfl
theorem fix_ri4 (W : World) : (Instr.index 102 (.agg fix_ruleA) (.int .i64 4)).run Tryd.prog W = .ok (.agg fix_rule3) W := by kernel_rfl
theorem fix_ri5 (W : World) : (Instr.index 102 (.agg fix_ruleA) (.int .i64 5)).run Tryd.prog W = .ok (.agg fix_rule5) W := by kernel_rfl
theorem fix_ri6 (W : World) : (Instr.index 102 (.agg fix_ruleA) (.int .i64 6)).run Tryd.prog W = .ok (.agg fix_rule6) W := by kernel_rfl
theorem fix_ri7 (W : World) : (Instr.index 102 (.agg fix_ruleA) (.int .i64 7)).run Tryd.prog W = .ok (.agg fix_rule7) W := by kernel_rfl
theorem fix_ri8 (W : World) : (Instr.index 102 (.agg fix_ruleA) (.int .i64 8)).run Tryd.prog W = .ok (.agg fix_rule8) W := by kernel_rfl
theorem fix_ri9 (W : World) : (Instr.index 102 (.agg fix_ruleA) (.int .i64 9)).run Tryd.prog W = .ok (.agg fix_rule7) W := by kernel_rfl
attribute [-go_sem] Instr.build Instr.fill in
set_option maxHeartbeats 4000000 in
set_option maxRecDepth 100000 in
theorem fix_ruleOf_2 (w : World) : Calls Tryd.prog 42 #[.int .i64 2] w fun e w' => e = .returned (.agg fix_rule2) ∧ Below w.heap.size w w' := by
  obtain ⟨hz, hs⟩ := zero_of_info fix_rule_info
  have hst := run_storeCells_new (P := Tryd.prog) w 88 fix_ruleZ fix_rule2 hs rfl (by decide +kernel)
  have hld := run_loadCellsFrom_new (P := Tryd.prog) w 88 fix_rule2 4 rfl
  have hsz : fix_rule2.size = 4 := rfl
  have hb2 := fix_rb2
  have hb3 := fix_rb3
  have hb5 := fix_rb5
  have hb6 := fix_rb6
  have hb7 := fix_rb7
  have hb8 := fix_rb8
  have hba := fix_rbA
  have hi := fix_ri2
  go_enter Tryd.func42, Tryd.ntmps42
  go_wp2
  clear hba hi hb2 hb3 hb5 hb6 hb7 hb8
  refine bodyPost_ret (v := .agg fix_rule2) (results_cell_ rfl _ _ rfl (heap_last_ w _) Tryd.underlying88 rfl hs) rfl ⟨rfl, (Below.refl _ _).alloc (Nat.le_refl _) _⟩
attribute [-go_sem] Instr.build Instr.fill in
set_option maxHeartbeats 4000000 in
set_option maxRecDepth 100000 in
theorem fix_ruleOf_3 (w : World) : Calls Tryd.prog 42 #[.int .i64 3] w fun e w' => e = .returned (.agg fix_rule3) ∧ Below w.heap.size w w' := by
  obtain ⟨hz, hs⟩ := zero_of_info fix_rule_info
  have hst := run_storeCells_new (P := Tryd.prog) w 88 fix_ruleZ fix_rule3 hs rfl (by decide +kernel)
  have hld := run_loadCellsFrom_new (P := Tryd.prog) w 88 fix_rule3 4 rfl
  have hsz : fix_rule3.size = 4 := rfl
  have hb2 := fix_rb2
  have hb3 := fix_rb3
  have hb5 := fix_rb5
  have hb6 := fix_rb6
  have hb7 := fix_rb7
  have hb8 := fix_rb8
  have hba := fix_rbA
  have hi := fix_ri3
  go_enter Tryd.func42, Tryd.ntmps42
  go_wp2
  clear hba hi hb2 hb3 hb5 hb6 hb7 hb8
  refine bodyPost_ret (v := .agg fix_rule3) (results_cell_ rfl _ _ rfl (heap_last_ w _) Tryd.underlying88 rfl hs) rfl ⟨rfl, (Below.refl _ _).alloc (Nat.le_refl _) _⟩
attribute [-go_sem] Instr.build Instr.fill in
set_option maxHeartbeats 4000000 in
set_option maxRecDepth 100000 in
theorem fix_ruleOf_4 (w : World) : Calls Tryd.prog 42 #[.int .i64 4] w fun e w' => e = .returned (.agg fix_rule3) ∧ Below w.heap.size w w' := by
  obtain ⟨hz, hs⟩ := zero_of_info fix_rule_info
  have hst := run_storeCells_new (P := Tryd.prog) w 88 fix_ruleZ fix_rule3 hs rfl (by decide +kernel)
  have hld := run_loadCellsFrom_new (P := Tryd.prog) w 88 fix_rule3 4 rfl
  have hsz : fix_rule3.size = 4 := rfl
  have hb2 := fix_rb2
  have hb3 := fix_rb3
  have hb5 := fix_rb5
  have hb6 := fix_rb6
  have hb7 := fix_rb7
  have hb8 := fix_rb8
  have hba := fix_rbA
  have hi := fix_ri4
  go_enter Tryd.func42, Tryd.ntmps42
  go_wp2
  clear hba hi hb2 hb3 hb5 hb6 hb7 hb8
  refine bodyPost_ret (v := .agg fix_rule3) (results_cell_ rfl _ _ rfl (heap_last_ w _) Tryd.underlying88 rfl hs) rfl ⟨rfl, (Below.refl _ _).alloc (Nat.le_refl _) _⟩
attribute [-go_sem] Instr.build Instr.fill in
set_option maxHeartbeats 4000000 in
set_option maxRecDepth 100000 in
theorem fix_ruleOf_5 (w : World) : Calls Tryd.prog 42 #[.int .i64 5] w fun e w' => e = .returned (.agg fix_rule5) ∧ Below w.heap.size w w' := by
  obtain ⟨hz, hs⟩ := zero_of_info fix_rule_info
  have hst := run_storeCells_new (P := Tryd.prog) w 88 fix_ruleZ fix_rule5 hs rfl (by decide +kernel)
  have hld := run_loadCellsFrom_new (P := Tryd.prog) w 88 fix_rule5 4 rfl
  have hsz : fix_rule5.size = 4 := rfl
  have hb2 := fix_rb2
  have hb3 := fix_rb3
  have hb5 := fix_rb5
  have hb6 := fix_rb6
  have hb7 := fix_rb7
  have hb8 := fix_rb8
  have hba := fix_rbA
  have hi := fix_ri5
  go_enter Tryd.func42, Tryd.ntmps42
  go_wp2
  clear hba hi hb2 hb3 hb5 hb6 hb7 hb8
  refine bodyPost_ret (v := .agg fix_rule5) (results_cell_ rfl _ _ rfl (heap_last_ w _) Tryd.underlying88 rfl hs) rfl ⟨rfl, (Below.refl _ _).alloc (Nat.le_refl _) _⟩
attribute [-go_sem] Instr.build Instr.fill in
set_option maxHeartbeats 4000000 in
set_option maxRecDepth 100000 in
theorem fix_ruleOf_6 (w : World) : Calls Tryd.prog 42 #[.int .i64 6] w fun e w' => e = .returned (.agg fix_rule6) ∧ Below w.heap.size w w' := by
  obtain ⟨hz, hs⟩ := zero_of_info fix_rule_info
  have hst := run_storeCells_new (P := Tryd.prog) w 88 fix_ruleZ fix_rule6 hs rfl (by decide +kernel)
  have hld := run_loadCellsFrom_new (P := Tryd.prog) w 88 fix_rule6 4 rfl
  have hsz : fix_rule6.size = 4 := rfl
  have hb2 := fix_rb2
  have hb3 := fix_rb3
  have hb5 := fix_rb5
  have hb6 := fix_rb6
  have hb7 := fix_rb7
  have hb8 := fix_rb8
  have hba := fix_rbA
  have hi := fix_ri6
  go_enter Tryd.func42, Tryd.ntmps42
  go_wp2
  clear hba hi hb2 hb3 hb5 hb6 hb7 hb8
  refine bodyPost_ret (v := .agg fix_rule6) (results_cell_ rfl _ _ rfl (heap_last_ w _) Tryd.underlying88 rfl hs) rfl ⟨rfl, (Below.refl _ _).alloc (Nat.le_refl _) _⟩
attribute [-go_sem] Instr.build Instr.fill in
set_option maxHeartbeats 4000000 in
set_option maxRecDepth 100000 in
theorem fix_ruleOf_7 (w : World) : Calls Tryd.prog 42 #[.int .i64 7] w fun e w' => e = .returned (.agg fix_rule7) ∧ Below w.heap.size w w' := by
  obtain ⟨hz, hs⟩ := zero_of_info fix_rule_info
  have hst := run_storeCells_new (P := Tryd.prog) w 88 fix_ruleZ fix_rule7 hs rfl (by decide +kernel)
  have hld := run_loadCellsFrom_new (P := Tryd.prog) w 88 fix_rule7 4 rfl
  have hsz : fix_rule7.size = 4 := rfl
  have hb2 := fix_rb2
  have hb3 := fix_rb3
  have hb5 := fix_rb5
  have hb6 := fix_rb6
  have hb7 := fix_rb7
  have hb8 := fix_rb8
  have hba := fix_rbA
  have hi := fix_ri7
  go_enter Tryd.func42, Tryd.ntmps42
  go_wp2
  clear hba hi hb2 hb3 hb5 hb6 hb7 hb8
  refine bodyPost_ret (v := .agg fix_rule7) (results_cell_ rfl _ _ rfl (heap_last_ w _) Tryd.underlying88 rfl hs) rfl ⟨rfl, (Below.refl _ _).alloc (Nat.le_refl _) _⟩
attribute [-go_sem] Instr.build Instr.fill in
set_option maxHeartbeats 4000000 in
set_option maxRecDepth 100000 in
theorem fix_ruleOf_8 (w : World) : Calls Tryd.prog 42 #[.int .i64 8] w fun e w' => e = .returned (.agg fix_rule8) ∧ Below w.heap.size w w' := by
  obtain ⟨hz, hs⟩ := zero_of_info fix_rule_info
  have hst := run_storeCells_new (P := Tryd.prog) w 88 fix_ruleZ fix_rule8 hs rfl (by decide +kernel)
  have hld := run_loadCellsFrom_new (P := Tryd.prog) w 88 fix_rule8 4 rfl
  have hsz : fix_rule8.size = 4 := rfl
  have hb2 := fix_rb2
  have hb3 := fix_rb3
  have hb5 := fix_rb5
  have hb6 := fix_rb6
  have hb7 := fix_rb7
  have hb8 := fix_rb8
  have hba := fix_rbA
  have hi := fix_ri8
  go_enter Tryd.func42, Tryd.ntmps42
  go_wp2
  clear hba hi hb2 hb3 hb5 hb6 hb7 hb8
  refine bodyPost_ret (v := .agg fix_rule8) (results_cell_ rfl _ _ rfl (heap_last_ w _) Tryd.underlying88 rfl hs) rfl ⟨rfl, (Below.refl _ _).alloc (Nat.le_refl _) _⟩
attribute [-go_sem] Instr.build Instr.fill in
set_option maxHeartbeats 4000000 in
set_option maxRecDepth 100000 in
theorem fix_ruleOf_9 (w : World) : Calls Tryd.prog 42 #[.int .i64 9] w fun e w' => e = .returned (.agg fix_rule7) ∧ Below w.heap.size w w' := by
  obtain ⟨hz, hs⟩ := zero_of_info fix_rule_info
  have hst := run_storeCells_new (P := Tryd.prog) w 88 fix_ruleZ fix_rule7 hs rfl (by decide +kernel)
  have hld := run_loadCellsFrom_new (P := Tryd.prog) w 88 fix_rule7 4 rfl
  have hsz : fix_rule7.size = 4 := rfl
  have hb2 := fix_rb2
  have hb3 := fix_rb3
  have hb5 := fix_rb5
  have hb6 := fix_rb6
  have hb7 := fix_rb7
  have hb8 := fix_rb8
  have hba := fix_rbA
  have hi := fix_ri9
  go_enter Tryd.func42, Tryd.ntmps42
  go_wp2
  clear hba hi hb2 hb3 hb5 hb6 hb7 hb8
  refine bodyPost_ret (v := .agg fix_rule7) (results_cell_ rfl _ _ rfl (heap_last_ w _) Tryd.underlying88 rfl hs) rfl ⟨rfl, (Below.refl _ _).alloc (Nat.le_refl _) _⟩
theorem fix_ruleL_2 (w : World) : Calls Tryd.prog 42 #[.int .i64 2] w fun e w' => e = .returned (.agg #[.func (.func 57) #[] #[], .int .i64 (-134217728), .int .i64 134217724, .int .i64 4]) ∧ Below w.heap.size w w' := fix_ruleOf_2 w
theorem fix_ruleL_3 (w : World) : Calls Tryd.prog 42 #[.int .i64 3] w fun e w' => e = .returned (.agg #[.func (.func 57) #[] #[], .int .i64 (-1048576), .int .i64 1048572, .int .i64 4]) ∧ Below w.heap.size w w' := fix_ruleOf_3 w
theorem fix_ruleL_4 (w : World) : Calls Tryd.prog 42 #[.int .i64 4] w fun e w' => e = .returned (.agg #[.func (.func 57) #[] #[], .int .i64 (-1048576), .int .i64 1048572, .int .i64 4]) ∧ Below w.heap.size w w' := fix_ruleOf_4 w
theorem fix_ruleL_5 (w : World) : Calls Tryd.prog 42 #[.int .i64 5] w fun e w' => e = .returned (.agg #[.func (.func 57) #[] #[], .int .i64 (-1048576), .int .i64 1048575, .int .i64 1]) ∧ Below w.heap.size w w' := fix_ruleOf_5 w
theorem fix_ruleL_6 (w : World) : Calls Tryd.prog 42 #[.int .i64 6] w fun e w' => e = .returned (.agg #[.func (.func 58) #[] #[], .int .i64 (-1048576), .int .i64 1048575, .int .i64 1]) ∧ Below w.heap.size w w' := fix_ruleOf_6 w
theorem fix_ruleL_7 (w : World) : Calls Tryd.prog 42 #[.int .i64 7] w fun e w' => e = .returned (.agg #[.func (.func 59) #[] #[], .int .i64 0, .int .i64 4096, .int .i64 1]) ∧ Below w.heap.size w w' := fix_ruleOf_7 w
theorem fix_ruleL_8 (w : World) : Calls Tryd.prog 42 #[.int .i64 8] w fun e w' => e = .returned (.agg #[.func (.func 59) #[] #[], .int .i64 0, .int .i64 4096, .int .i64 8]) ∧ Below w.heap.size w w' := fix_ruleOf_8 w
theorem fix_ruleL_9 (w : World) : Calls Tryd.prog 42 #[.int .i64 9] w fun e w' => e = .returned (.agg #[.func (.func 59) #[] #[], .int .i64 0, .int .i64 4096, .int .i64 1]) ∧ Below w.heap.size w w' := fix_ruleOf_9 w
set_option maxHeartbeats 4000000 in
theorem fix_value_2 (a b v : Int) (w : World) (hv : place_Far.f a b = some v) (r : Int × Int) (hr : (if v.tmod 4 = 0 then if (-134217728) ≤ v ∧ v ≤ 134217724 then some (IntKind.u64.wrap v, 0) else some (0, 4) else some (0, 5)) = some r) :
    Calls Tryd.prog 23 #[.int .i64 2, .int .u64 a, .int .u64 b] w fun e w' => e = .returned (.tuple #[.int .u64 r.1, .int .i64 r.2]) ∧ Below w.heap.size w w' := by
  have HV := Aside0.mk hv
  clear hv
  by_cases h1 : v.tmod 4 = 0
  · rw [if_pos h1] at hr
    have b1 : (v.tmod 4 == 0) = true := by simpa using h1
    by_cases h2 : (-134217728) ≤ v ∧ v ≤ 134217724
    · rw [if_pos h2] at hr
      obtain rfl := Option.some.inj hr
      obtain ⟨h3, h4⟩ := h2
      have b3 : decide (v < (-134217728)) = false := by simp; omega
      have b4 : decide (v > 134217724) = false := by simp; omega
      clear hr
      go_enter Tryd.func23, Tryd.ntmps23
      go_wp2_with (first | (go_at_call 42; refine (fix_ruleL_2 _).mono ?_; rintro e w1 ⟨rfl, hb1⟩; have HB1 := Aside0.mk hb1; clear hb1) | (go_at_call 57; refine (place_Far.calls _ _ _ _ HV.out).mono ?_; rintro e w2 ⟨rfl, ⟨n, rfl⟩⟩))
      go_ret2
      exact ⟨rfl, pw_below_drewN (below_alloc HB1.out _) _⟩
    · rw [if_neg h2] at hr
      obtain rfl := Option.some.inj hr
      clear hr
      by_cases h3 : v < (-134217728)
      · have b3 : decide (v < (-134217728)) = true := by simp; omega
        clear h2
        go_enter Tryd.func23, Tryd.ntmps23
        go_wp2_with (first | (go_at_call 42; refine (fix_ruleL_2 _).mono ?_; rintro e w1 ⟨rfl, hb1⟩; have HB1 := Aside0.mk hb1; clear hb1) | (go_at_call 57; refine (place_Far.calls _ _ _ _ HV.out).mono ?_; rintro e w2 ⟨rfl, ⟨n, rfl⟩⟩))
        go_ret2
        exact ⟨rfl, pw_below_drewN (below_alloc HB1.out _) _⟩
      · have b3 : decide (v < (-134217728)) = false := by simp; omega
        have b4 : decide (v > 134217724) = true := by simp; omega
        clear h2
        go_enter Tryd.func23, Tryd.ntmps23
        go_wp2_with (first | (go_at_call 42; refine (fix_ruleL_2 _).mono ?_; rintro e w1 ⟨rfl, hb1⟩; have HB1 := Aside0.mk hb1; clear hb1) | (go_at_call 57; refine (place_Far.calls _ _ _ _ HV.out).mono ?_; rintro e w2 ⟨rfl, ⟨n, rfl⟩⟩))
        go_ret2
        exact ⟨rfl, pw_below_drewN (below_alloc HB1.out _) _⟩
  · rw [if_neg h1] at hr
    have b1 : (v.tmod 4 == 0) = false := by simpa using h1
    obtain rfl := Option.some.inj hr
    clear hr
    go_enter Tryd.func23, Tryd.ntmps23
    go_wp2_with (first | (go_at_call 42; refine (fix_ruleL_2 _).mono ?_; rintro e w1 ⟨rfl, hb1⟩; have HB1 := Aside0.mk hb1; clear hb1) | (go_at_call 57; refine (place_Far.calls _ _ _ _ HV.out).mono ?_; rintro e w2 ⟨rfl, ⟨n, rfl⟩⟩))
    go_ret2
    exact ⟨rfl, pw_below_drewN (below_alloc HB1.out _) _⟩
set_option maxHeartbeats 4000000 in
theorem fix_value_3 (a b v : Int) (w : World) (hv : place_Far.f a b = some v) (r : Int × Int) (hr : (if v.tmod 4 = 0 then if (-1048576) ≤ v ∧ v ≤ 1048572 then some (IntKind.u64.wrap v, 0) else some (0, 4) else some (0, 5)) = some r) :
    Calls Tryd.prog 23 #[.int .i64 3, .int .u64 a, .int .u64 b] w fun e w' => e = .returned (.tuple #[.int .u64 r.1, .int .i64 r.2]) ∧ Below w.heap.size w w' := by
  have HV := Aside0.mk hv
  clear hv
  by_cases h1 : v.tmod 4 = 0
  · rw [if_pos h1] at hr
    have b1 : (v.tmod 4 == 0) = true := by simpa using h1
    by_cases h2 : (-1048576) ≤ v ∧ v ≤ 1048572
    · rw [if_pos h2] at hr
      obtain rfl := Option.some.inj hr
      obtain ⟨h3, h4⟩ := h2
      have b3 : decide (v < (-1048576)) = false := by simp; omega
      have b4 : decide (v > 1048572) = false := by simp; omega
      clear hr
      go_enter Tryd.func23, Tryd.ntmps23
      go_wp2_with (first | (go_at_call 42; refine (fix_ruleL_3 _).mono ?_; rintro e w1 ⟨rfl, hb1⟩; have HB1 := Aside0.mk hb1; clear hb1) | (go_at_call 57; refine (place_Far.calls _ _ _ _ HV.out).mono ?_; rintro e w2 ⟨rfl, ⟨n, rfl⟩⟩))
      go_ret2
      exact ⟨rfl, pw_below_drewN (below_alloc HB1.out _) _⟩
    · rw [if_neg h2] at hr
      obtain rfl := Option.some.inj hr
      clear hr
      by_cases h3 : v < (-1048576)
      · have b3 : decide (v < (-1048576)) = true := by simp; omega
        clear h2
        go_enter Tryd.func23, Tryd.ntmps23
        go_wp2_with (first | (go_at_call 42; refine (fix_ruleL_3 _).mono ?_; rintro e w1 ⟨rfl, hb1⟩; have HB1 := Aside0.mk hb1; clear hb1) | (go_at_call 57; refine (place_Far.calls _ _ _ _ HV.out).mono ?_; rintro e w2 ⟨rfl, ⟨n, rfl⟩⟩))
        go_ret2
        exact ⟨rfl, pw_below_drewN (below_alloc HB1.out _) _⟩
      · have b3 : decide (v < (-1048576)) = false := by simp; omega
        have b4 : decide (v > 1048572) = true := by simp; omega
        clear h2
        go_enter Tryd.func23, Tryd.ntmps23
        go_wp2_with (first | (go_at_call 42; refine (fix_ruleL_3 _).mono ?_; rintro e w1 ⟨rfl, hb1⟩; have HB1 := Aside0.mk hb1; clear hb1) | (go_at_call 57; refine (place_Far.calls _ _ _ _ HV.out).mono ?_; rintro e w2 ⟨rfl, ⟨n, rfl⟩⟩))
        go_ret2
        exact ⟨rfl, pw_below_drewN (below_alloc HB1.out _) _⟩
  · rw [if_neg h1] at hr
    have b1 : (v.tmod 4 == 0) = false := by simpa using h1
    obtain rfl := Option.some.inj hr
    clear hr
    go_enter Tryd.func23, Tryd.ntmps23
    go_wp2_with (first | (go_at_call 42; refine (fix_ruleL_3 _).mono ?_; rintro e w1 ⟨rfl, hb1⟩; have HB1 := Aside0.mk hb1; clear hb1) | (go_at_call 57; refine (place_Far.calls _ _ _ _ HV.out).mono ?_; rintro e w2 ⟨rfl, ⟨n, rfl⟩⟩))
    go_ret2
    exact ⟨rfl, pw_below_drewN (below_alloc HB1.out _) _⟩
set_option maxHeartbeats 4000000 in
theorem fix_value_4 (a b v : Int) (w : World) (hv : place_Far.f a b = some v) (r : Int × Int) (hr : (if v.tmod 4 = 0 then if (-1048576) ≤ v ∧ v ≤ 1048572 then some (IntKind.u64.wrap v, 0) else some (0, 4) else some (0, 5)) = some r) :
    Calls Tryd.prog 23 #[.int .i64 4, .int .u64 a, .int .u64 b] w fun e w' => e = .returned (.tuple #[.int .u64 r.1, .int .i64 r.2]) ∧ Below w.heap.size w w' := by
  have HV := Aside0.mk hv
  clear hv
  by_cases h1 : v.tmod 4 = 0
  · rw [if_pos h1] at hr
    have b1 : (v.tmod 4 == 0) = true := by simpa using h1
    by_cases h2 : (-1048576) ≤ v ∧ v ≤ 1048572
    · rw [if_pos h2] at hr
      obtain rfl := Option.some.inj hr
      obtain ⟨h3, h4⟩ := h2
      have b3 : decide (v < (-1048576)) = false := by simp; omega
      have b4 : decide (v > 1048572) = false := by simp; omega
      clear hr
      go_enter Tryd.func23, Tryd.ntmps23
      go_wp2_with (first | (go_at_call 42; refine (fix_ruleL_4 _).mono ?_; rintro e w1 ⟨rfl, hb1⟩; have HB1 := Aside0.mk hb1; clear hb1) | (go_at_call 57; refine (place_Far.calls _ _ _ _ HV.out).mono ?_; rintro e w2 ⟨rfl, ⟨n, rfl⟩⟩))
      go_ret2
      exact ⟨rfl, pw_below_drewN (below_alloc HB1.out _) _⟩
    · rw [if_neg h2] at hr
      obtain rfl := Option.some.inj hr
      clear hr
      by_cases h3 : v < (-1048576)
      · have b3 : decide (v < (-1048576)) = true := by simp; omega
        clear h2
        go_enter Tryd.func23, Tryd.ntmps23
        go_wp2_with (first | (go_at_call 42; refine (fix_ruleL_4 _).mono ?_; rintro e w1 ⟨rfl, hb1⟩; have HB1 := Aside0.mk hb1; clear hb1) | (go_at_call 57; refine (place_Far.calls _ _ _ _ HV.out).mono ?_; rintro e w2 ⟨rfl, ⟨n, rfl⟩⟩))
        go_ret2
        exact ⟨rfl, pw_below_drewN (below_alloc HB1.out _) _⟩
      · have b3 : decide (v < (-1048576)) = false := by simp; omega
        have b4 : decide (v > 1048572) = true := by simp; omega
        clear h2
        go_enter Tryd.func23, Tryd.ntmps23
        go_wp2_with (first | (go_at_call 42; refine (fix_ruleL_4 _).mono ?_; rintro e w1 ⟨rfl, hb1⟩; have HB1 := Aside0.mk hb1; clear hb1) | (go_at_call 57; refine (place_Far.calls _ _ _ _ HV.out).mono ?_; rintro e w2 ⟨rfl, ⟨n, rfl⟩⟩))
        go_ret2
        exact ⟨rfl, pw_below_drewN (below_alloc HB1.out _) _⟩
  · rw [if_neg h1] at hr
    have b1 : (v.tmod 4 == 0) = false := by simpa using h1
    obtain rfl := Option.some.inj hr
    clear hr
    go_enter Tryd.func23, Tryd.ntmps23
    go_wp2_with (first | (go_at_call 42; refine (fix_ruleL_4 _).mono ?_; rintro e w1 ⟨rfl, hb1⟩; have HB1 := Aside0.mk hb1; clear hb1) | (go_at_call 57; refine (place_Far.calls _ _ _ _ HV.out).mono ?_; rintro e w2 ⟨rfl, ⟨n, rfl⟩⟩))
    go_ret2
    exact ⟨rfl, pw_below_drewN (below_alloc HB1.out _) _⟩
set_option maxHeartbeats 4000000 in
theorem fix_value_5 (a b v : Int) (w : World) (hv : place_Far.f a b = some v) (r : Int × Int) (hr : (if v.tmod 1 = 0 then if (-1048576) ≤ v ∧ v ≤ 1048575 then some (IntKind.u64.wrap v, 0) else some (0, 4) else some (0, 5)) = some r) :
    Calls Tryd.prog 23 #[.int .i64 5, .int .u64 a, .int .u64 b] w fun e w' => e = .returned (.tuple #[.int .u64 r.1, .int .i64 r.2]) ∧ Below w.heap.size w w' := by
  have HV := Aside0.mk hv
  clear hv
  by_cases h1 : v.tmod 1 = 0
  · rw [if_pos h1] at hr
    have b1 : (v.tmod 1 == 0) = true := by simp
    by_cases h2 : (-1048576) ≤ v ∧ v ≤ 1048575
    · rw [if_pos h2] at hr
      obtain rfl := Option.some.inj hr
      obtain ⟨h3, h4⟩ := h2
      have b3 : decide (v < (-1048576)) = false := by simp; omega
      have b4 : decide (v > 1048575) = false := by simp; omega
      clear hr
      go_enter Tryd.func23, Tryd.ntmps23
      go_wp2_with (first | (go_at_call 42; refine (fix_ruleL_5 _).mono ?_; rintro e w1 ⟨rfl, hb1⟩; have HB1 := Aside0.mk hb1; clear hb1) | (go_at_call 57; refine (place_Far.calls _ _ _ _ HV.out).mono ?_; rintro e w2 ⟨rfl, ⟨n, rfl⟩⟩))
      go_ret2
      exact ⟨rfl, pw_below_drewN (below_alloc HB1.out _) _⟩
    · rw [if_neg h2] at hr
      obtain rfl := Option.some.inj hr
      clear hr
      by_cases h3 : v < (-1048576)
      · have b3 : decide (v < (-1048576)) = true := by simp; omega
        clear h2
        go_enter Tryd.func23, Tryd.ntmps23
        go_wp2_with (first | (go_at_call 42; refine (fix_ruleL_5 _).mono ?_; rintro e w1 ⟨rfl, hb1⟩; have HB1 := Aside0.mk hb1; clear hb1) | (go_at_call 57; refine (place_Far.calls _ _ _ _ HV.out).mono ?_; rintro e w2 ⟨rfl, ⟨n, rfl⟩⟩))
        go_ret2
        exact ⟨rfl, pw_below_drewN (below_alloc HB1.out _) _⟩
      · have b3 : decide (v < (-1048576)) = false := by simp; omega
        have b4 : decide (v > 1048575) = true := by simp; omega
        clear h2
        go_enter Tryd.func23, Tryd.ntmps23
        go_wp2_with (first | (go_at_call 42; refine (fix_ruleL_5 _).mono ?_; rintro e w1 ⟨rfl, hb1⟩; have HB1 := Aside0.mk hb1; clear hb1) | (go_at_call 57; refine (place_Far.calls _ _ _ _ HV.out).mono ?_; rintro e w2 ⟨rfl, ⟨n, rfl⟩⟩))
        go_ret2
        exact ⟨rfl, pw_below_drewN (below_alloc HB1.out _) _⟩
  · exact absurd (Int.tmod_one v) h1
set_option maxHeartbeats 4000000 in
theorem fix_value_6 (a b v : Int) (w : World) (hv : fix_pages.f a b = some v) (r : Int × Int) (hr : (if v.tmod 1 = 0 then if (-1048576) ≤ v ∧ v ≤ 1048575 then some (IntKind.u64.wrap v, 0) else some (0, 4) else some (0, 5)) = some r) :
    Calls Tryd.prog 23 #[.int .i64 6, .int .u64 a, .int .u64 b] w fun e w' => e = .returned (.tuple #[.int .u64 r.1, .int .i64 r.2]) ∧ Below w.heap.size w w' := by
  have HV := Aside0.mk hv
  clear hv
  by_cases h1 : v.tmod 1 = 0
  · rw [if_pos h1] at hr
    have b1 : (v.tmod 1 == 0) = true := by simp
    by_cases h2 : (-1048576) ≤ v ∧ v ≤ 1048575
    · rw [if_pos h2] at hr
      obtain rfl := Option.some.inj hr
      obtain ⟨h3, h4⟩ := h2
      have b3 : decide (v < (-1048576)) = false := by simp; omega
      have b4 : decide (v > 1048575) = false := by simp; omega
      clear hr
      go_enter Tryd.func23, Tryd.ntmps23
      go_wp2_with (first | (go_at_call 42; refine (fix_ruleL_6 _).mono ?_; rintro e w1 ⟨rfl, hb1⟩; have HB1 := Aside0.mk hb1; clear hb1) | (go_at_call 58; refine (fix_pages.calls _ _ _ _ HV.out).mono ?_; rintro e w2 ⟨rfl, ⟨n, rfl⟩⟩))
      go_ret2
      exact ⟨rfl, pw_below_drewN (below_alloc HB1.out _) _⟩
    · rw [if_neg h2] at hr
      obtain rfl := Option.some.inj hr
      clear hr
      by_cases h3 : v < (-1048576)
      · have b3 : decide (v < (-1048576)) = true := by simp; omega
        clear h2
        go_enter Tryd.func23, Tryd.ntmps23
        go_wp2_with (first | (go_at_call 42; refine (fix_ruleL_6 _).mono ?_; rintro e w1 ⟨rfl, hb1⟩; have HB1 := Aside0.mk hb1; clear hb1) | (go_at_call 58; refine (fix_pages.calls _ _ _ _ HV.out).mono ?_; rintro e w2 ⟨rfl, ⟨n, rfl⟩⟩))
        go_ret2
        exact ⟨rfl, pw_below_drewN (below_alloc HB1.out _) _⟩
      · have b3 : decide (v < (-1048576)) = false := by simp; omega
        have b4 : decide (v > 1048575) = true := by simp; omega
        clear h2
        go_enter Tryd.func23, Tryd.ntmps23
        go_wp2_with (first | (go_at_call 42; refine (fix_ruleL_6 _).mono ?_; rintro e w1 ⟨rfl, hb1⟩; have HB1 := Aside0.mk hb1; clear hb1) | (go_at_call 58; refine (fix_pages.calls _ _ _ _ HV.out).mono ?_; rintro e w2 ⟨rfl, ⟨n, rfl⟩⟩))
        go_ret2
        exact ⟨rfl, pw_below_drewN (below_alloc HB1.out _) _⟩
  · exact absurd (Int.tmod_one v) h1
set_option maxHeartbeats 4000000 in
theorem fix_value_7 (a b v : Int) (w : World) (hv : fix_low.f a b = some v) (r : Int × Int) (hr : (if v.tmod 1 = 0 then if 0 ≤ v ∧ v ≤ 4096 then some (IntKind.u64.wrap v, 0) else some (0, 4) else some (0, 5)) = some r) :
    Calls Tryd.prog 23 #[.int .i64 7, .int .u64 a, .int .u64 b] w fun e w' => e = .returned (.tuple #[.int .u64 r.1, .int .i64 r.2]) ∧ Below w.heap.size w w' := by
  have HV := Aside0.mk hv
  clear hv
  by_cases h1 : v.tmod 1 = 0
  · rw [if_pos h1] at hr
    have b1 : (v.tmod 1 == 0) = true := by simp
    by_cases h2 : 0 ≤ v ∧ v ≤ 4096
    · rw [if_pos h2, show IntKind.u64.wrap v = v by rw [IntKind.wrap_u64]; omega] at hr
      obtain rfl := Option.some.inj hr
      obtain ⟨h3, h4⟩ := h2
      have b3 : decide (v < 0) = false := by simp; omega
      have b4 : decide (v > 4096) = false := by simp; omega
      clear hr
      go_enter Tryd.func23, Tryd.ntmps23
      go_wp2_with (first | (go_at_call 42; refine (fix_ruleL_7 _).mono ?_; rintro e w1 ⟨rfl, hb1⟩; have HB1 := Aside0.mk hb1; clear hb1) | (go_at_call 59; refine (fix_low.calls _ _ _ _ HV.out).mono ?_; rintro e w2 ⟨rfl, ⟨n, rfl⟩⟩))
      go_ret2
      exact ⟨rfl, pw_below_drewN (below_alloc HB1.out _) _⟩
    · rw [if_neg h2] at hr
      obtain rfl := Option.some.inj hr
      clear hr
      by_cases h3 : v < 0
      · have b3 : decide (v < 0) = true := by simp; omega
        clear h2
        go_enter Tryd.func23, Tryd.ntmps23
        go_wp2_with (first | (go_at_call 42; refine (fix_ruleL_7 _).mono ?_; rintro e w1 ⟨rfl, hb1⟩; have HB1 := Aside0.mk hb1; clear hb1) | (go_at_call 59; refine (fix_low.calls _ _ _ _ HV.out).mono ?_; rintro e w2 ⟨rfl, ⟨n, rfl⟩⟩))
        go_ret2
        exact ⟨rfl, pw_below_drewN (below_alloc HB1.out _) _⟩
      · have b3 : decide (v < 0) = false := by simp; omega
        have b4 : decide (v > 4096) = true := by simp; omega
        clear h2
        go_enter Tryd.func23, Tryd.ntmps23
        go_wp2_with (first | (go_at_call 42; refine (fix_ruleL_7 _).mono ?_; rintro e w1 ⟨rfl, hb1⟩; have HB1 := Aside0.mk hb1; clear hb1) | (go_at_call 59; refine (fix_low.calls _ _ _ _ HV.out).mono ?_; rintro e w2 ⟨rfl, ⟨n, rfl⟩⟩))
        go_ret2
        exact ⟨rfl, pw_below_drewN (below_alloc HB1.out _) _⟩
  · exact absurd (Int.tmod_one v) h1
set_option maxHeartbeats 4000000 in
theorem fix_value_8 (a b v : Int) (w : World) (hv : fix_low.f a b = some v) (r : Int × Int) (hr : (if v.tmod 8 = 0 then if 0 ≤ v ∧ v ≤ 4096 then some (IntKind.u64.wrap v, 0) else some (0, 4) else some (0, 5)) = some r) :
    Calls Tryd.prog 23 #[.int .i64 8, .int .u64 a, .int .u64 b] w fun e w' => e = .returned (.tuple #[.int .u64 r.1, .int .i64 r.2]) ∧ Below w.heap.size w w' := by
  have HV := Aside0.mk hv
  clear hv
  by_cases h1 : v.tmod 8 = 0
  · rw [if_pos h1] at hr
    have b1 : (v.tmod 8 == 0) = true := by simpa using h1
    by_cases h2 : 0 ≤ v ∧ v ≤ 4096
    · rw [if_pos h2, show IntKind.u64.wrap v = v by rw [IntKind.wrap_u64]; omega] at hr
      obtain rfl := Option.some.inj hr
      obtain ⟨h3, h4⟩ := h2
      have b3 : decide (v < 0) = false := by simp; omega
      have b4 : decide (v > 4096) = false := by simp; omega
      clear hr
      go_enter Tryd.func23, Tryd.ntmps23
      go_wp2_with (first | (go_at_call 42; refine (fix_ruleL_8 _).mono ?_; rintro e w1 ⟨rfl, hb1⟩; have HB1 := Aside0.mk hb1; clear hb1) | (go_at_call 59; refine (fix_low.calls _ _ _ _ HV.out).mono ?_; rintro e w2 ⟨rfl, ⟨n, rfl⟩⟩))
      go_ret2
      exact ⟨rfl, pw_below_drewN (below_alloc HB1.out _) _⟩
    · rw [if_neg h2] at hr
      obtain rfl := Option.some.inj hr
      clear hr
      by_cases h3 : v < 0
      · have b3 : decide (v < 0) = true := by simp; omega
        clear h2
        go_enter Tryd.func23, Tryd.ntmps23
        go_wp2_with (first | (go_at_call 42; refine (fix_ruleL_8 _).mono ?_; rintro e w1 ⟨rfl, hb1⟩; have HB1 := Aside0.mk hb1; clear hb1) | (go_at_call 59; refine (fix_low.calls _ _ _ _ HV.out).mono ?_; rintro e w2 ⟨rfl, ⟨n, rfl⟩⟩))
        go_ret2
        exact ⟨rfl, pw_below_drewN (below_alloc HB1.out _) _⟩
      · have b3 : decide (v < 0) = false := by simp; omega
        have b4 : decide (v > 4096) = true := by simp; omega
        clear h2
        go_enter Tryd.func23, Tryd.ntmps23
        go_wp2_with (first | (go_at_call 42; refine (fix_ruleL_8 _).mono ?_; rintro e w1 ⟨rfl, hb1⟩; have HB1 := Aside0.mk hb1; clear hb1) | (go_at_call 59; refine (fix_low.calls _ _ _ _ HV.out).mono ?_; rintro e w2 ⟨rfl, ⟨n, rfl⟩⟩))
        go_ret2
        exact ⟨rfl, pw_below_drewN (below_alloc HB1.out _) _⟩
  · rw [if_neg h1] at hr
    have b1 : (v.tmod 8 == 0) = false := by simpa using h1
    obtain rfl := Option.some.inj hr
    clear hr
    go_enter Tryd.func23, Tryd.ntmps23
    go_wp2_with (first | (go_at_call 42; refine (fix_ruleL_8 _).mono ?_; rintro e w1 ⟨rfl, hb1⟩; have HB1 := Aside0.mk hb1; clear hb1) | (go_at_call 59; refine (fix_low.calls _ _ _ _ HV.out).mono ?_; rintro e w2 ⟨rfl, ⟨n, rfl⟩⟩))
    go_ret2
    exact ⟨rfl, pw_below_drewN (below_alloc HB1.out _) _⟩
set_option maxHeartbeats 4000000 in
theorem fix_value_9 (a b v : Int) (w : World) (hv : fix_low.f a b = some v) (r : Int × Int) (hr : (if v.tmod 1 = 0 then if 0 ≤ v ∧ v ≤ 4096 then some (IntKind.u64.wrap v, 0) else some (0, 4) else some (0, 5)) = some r) :
    Calls Tryd.prog 23 #[.int .i64 9, .int .u64 a, .int .u64 b] w fun e w' => e = .returned (.tuple #[.int .u64 r.1, .int .i64 r.2]) ∧ Below w.heap.size w w' := by
  have HV := Aside0.mk hv
  clear hv
  by_cases h1 : v.tmod 1 = 0
  · rw [if_pos h1] at hr
    have b1 : (v.tmod 1 == 0) = true := by simp
    by_cases h2 : 0 ≤ v ∧ v ≤ 4096
    · rw [if_pos h2, show IntKind.u64.wrap v = v by rw [IntKind.wrap_u64]; omega] at hr
      obtain rfl := Option.some.inj hr
      obtain ⟨h3, h4⟩ := h2
      have b3 : decide (v < 0) = false := by simp; omega
      have b4 : decide (v > 4096) = false := by simp; omega
      clear hr
      go_enter Tryd.func23, Tryd.ntmps23
      go_wp2_with (first | (go_at_call 42; refine (fix_ruleL_9 _).mono ?_; rintro e w1 ⟨rfl, hb1⟩; have HB1 := Aside0.mk hb1; clear hb1) | (go_at_call 59; refine (fix_low.calls _ _ _ _ HV.out).mono ?_; rintro e w2 ⟨rfl, ⟨n, rfl⟩⟩))
      go_ret2
      exact ⟨rfl, pw_below_drewN (below_alloc HB1.out _) _⟩
    · rw [if_neg h2] at hr
      obtain rfl := Option.some.inj hr
      clear hr
      by_cases h3 : v < 0
      · have b3 : decide (v < 0) = true := by simp; omega
        clear h2
        go_enter Tryd.func23, Tryd.ntmps23
        go_wp2_with (first | (go_at_call 42; refine (fix_ruleL_9 _).mono ?_; rintro e w1 ⟨rfl, hb1⟩; have HB1 := Aside0.mk hb1; clear hb1) | (go_at_call 59; refine (fix_low.calls _ _ _ _ HV.out).mono ?_; rintro e w2 ⟨rfl, ⟨n, rfl⟩⟩))
        go_ret2
        exact ⟨rfl, pw_below_drewN (below_alloc HB1.out _) _⟩
      · have b3 : decide (v < 0) = false := by simp; omega
        have b4 : decide (v > 4096) = true := by simp; omega
        clear h2
        go_enter Tryd.func23, Tryd.ntmps23
        go_wp2_with (first | (go_at_call 42; refine (fix_ruleL_9 _).mono ?_; rintro e w1 ⟨rfl, hb1⟩; have HB1 := Aside0.mk hb1; clear hb1) | (go_at_call 59; refine (fix_low.calls _ _ _ _ HV.out).mono ?_; rintro e w2 ⟨rfl, ⟨n, rfl⟩⟩))
        go_ret2
        exact ⟨rfl, pw_below_drewN (below_alloc HB1.out _) _⟩
  · exact absurd (Int.tmod_one v) h1
def fix_Value.f (j a b : Int) : Option (Int × Int) :=
  if 1 ≤ j ∧ j ≤ 9 then if j = 1 then some (b, 0) else (fix_val j a b).bind fun v => if v.tmod (fix_rule j).2.2 = 0 then if (fix_rule j).1 ≤ v ∧ v ≤ (fix_rule j).2.1 then some (IntKind.u64.wrap v, 0) else some (0, 4) else some (0, 5) else some (0, 1)
theorem fix_Value.calls (j a b r1 r2 : Int) (w : World) (h : fix_Value.f j a b = some (r1, r2)) :
    Calls Tryd.prog 23 #[.int .i64 j, .int .u64 a, .int .u64 b] w fun e w' => e = .returned (.tuple #[.int .u64 r1, .int .i64 r2]) ∧ Below w.heap.size w w' := by
  unfold fix_Value.f at h
  by_cases h19 : 1 ≤ j ∧ j ≤ 9
  · rw [if_pos h19] at h
    by_cases hj1 : j = 1
    · rw [if_pos hj1] at h
      injection h with h
      injection h with h1 h2
      subst hj1 h1 h2
      clear h19
      go_enter Tryd.func23, Tryd.ntmps23
      go_wp2
      go_ret2
      exact ⟨rfl, Below.refl _ _⟩
    · rw [if_neg hj1] at h
      obtain ⟨v, hv, h⟩ := Option.bind_eq_some_iff.mp h
      obtain rfl | rfl | rfl | rfl | rfl | rfl | rfl | rfl : j = 2 ∨ j = 3 ∨ j = 4 ∨ j = 5 ∨ j = 6 ∨ j = 7 ∨ j = 8 ∨ j = 9 := by omega
      · exact fix_value_2 a b v w hv (r1, r2) h
      · exact fix_value_3 a b v w hv (r1, r2) h
      · exact fix_value_4 a b v w hv (r1, r2) h
      · exact fix_value_5 a b v w hv (r1, r2) h
      · exact fix_value_6 a b v w hv (r1, r2) h
      · exact fix_value_7 a b v w hv (r1, r2) h
      · exact fix_value_8 a b v w hv (r1, r2) h
      · exact fix_value_9 a b v w hv (r1, r2) h
  · rw [if_neg h19] at h
    injection h with h
    injection h with h1 h2
    subst h1 h2
    by_cases hj : j < 1
    · have b1 : decide (j < 1) = true := by simp; omega
      go_enter Tryd.func23, Tryd.ntmps23
      go_wp2
      go_ret2
      exact ⟨rfl, Below.refl _ _⟩
    · have b1 : decide (j < 1) = false := by simp; omega
      have b2 : decide (j > 9) = true := by simp; omega
      go_enter Tryd.func23, Tryd.ntmps23
      go_wp2
      go_ret2
      exact ⟨rfl, Below.refl _ _⟩

/-! ### part_kindOf: function 43 -/
/-- The relocation's kind that an operation's word may have. -/
def part_kinds : List Int := [0, 0, 0, 0, 7, 0, 0, 0, 0, 0, 0, 0, 0, 0, 0, 0, 0, 0, 0, 0, 0, 0, 8, 8, 9, 9, 4, 5, 6, 2, 2, 3, 3, 3, 0, 0, 0, 0, 0, 0]
def part_kindA : Array Value := #[.int .i64 0, .int .i64 0, .int .i64 0, .int .i64 0, .int .i64 7, .int .i64 0, .int .i64 0, .int .i64 0, .int .i64 0, .int .i64 0, .int .i64 0, .int .i64 0, .int .i64 0, .int .i64 0, .int .i64 0, .int .i64 0, .int .i64 0, .int .i64 0, .int .i64 0, .int .i64 0, .int .i64 0, .int .i64 0, .int .i64 8, .int .i64 8, .int .i64 9, .int .i64 9, .int .i64 4, .int .i64 5, .int .i64 6, .int .i64 2, .int .i64 2, .int .i64 3, .int .i64 3, .int .i64 3, .int .i64 0, .int .i64 0, .int .i64 0, .int .i64 0, .int .i64 0, .int .i64 0]
theorem part_kind_build (W : World) : (Instr.build 103 #[(29, .int .i64 2), (30, .int .i64 2), (31, .int .i64 3), (32, .int .i64 3), (33, .int .i64 3), (26, .int .i64 4), (27, .int .i64 5), (28, .int .i64 6), (4, .int .i64 7), (22, .int .i64 8), (23, .int .i64 8), (24, .int .i64 9), (25, .int .i64 9)]).run Tryd.prog W = .ok (.agg part_kindA) W := run_build W _ _ _ (by kernel_rfl)
theorem part_kind_index : ∀ (i : Nat) (_ : i < 40) (W : World), (Instr.index 103 (.agg part_kindA) (.int .i64 (i : Int))).run Tryd.prog W = .ok (.int .i64 (part_kinds.getD i 0)) W
  | 0, _, _ => by kernel_rfl
  | 1, _, _ => by kernel_rfl
  | 2, _, _ => by kernel_rfl
  | 3, _, _ => by kernel_rfl
  | 4, _, _ => by kernel_rfl
  | 5, _, _ => by kernel_rfl
  | 6, _, _ => by kernel_rfl
  | 7, _, _ => by kernel_rfl
  | 8, _, _ => by kernel_rfl
  | 9, _, _ => by kernel_rfl
  | 10, _, _ => by kernel_rfl
  | 11, _, _ => by kernel_rfl
  | 12, _, _ => by kernel_rfl
  | 13, _, _ => by kernel_rfl
  | 14, _, _ => by kernel_rfl
  | 15, _, _ => by kernel_rfl
  | 16, _, _ => by kernel_rfl
  | 17, _, _ => by kernel_rfl
  | 18, _, _ => by kernel_rfl
  | 19, _, _ => by kernel_rfl
  | 20, _, _ => by kernel_rfl
  | 21, _, _ => by kernel_rfl
  | 22, _, _ => by kernel_rfl
  | 23, _, _ => by kernel_rfl
  | 24, _, _ => by kernel_rfl
  | 25, _, _ => by kernel_rfl
  | 26, _, _ => by kernel_rfl
  | 27, _, _ => by kernel_rfl
  | 28, _, _ => by kernel_rfl
  | 29, _, _ => by kernel_rfl
  | 30, _, _ => by kernel_rfl
  | 31, _, _ => by kernel_rfl
  | 32, _, _ => by kernel_rfl
  | 33, _, _ => by kernel_rfl
  | 34, _, _ => by kernel_rfl
  | 35, _, _ => by kernel_rfl
  | 36, _, _ => by kernel_rfl
  | 37, _, _ => by kernel_rfl
  | 38, _, _ => by kernel_rfl
  | 39, _, _ => by kernel_rfl
  | i + 40, h, _ => absurd h (by omega)
def part_kindOf.f (a0 : Int) : Option Int := if 0 ≤ a0 ∧ a0 < 40 then some (part_kinds.getD a0.toNat 0) else none
attribute [-go_sem] Instr.build Instr.fill in
set_option maxHeartbeats 4000000 in
theorem part_kindOf.calls (a0 r : Int) (w : World) (h : part_kindOf.f a0 = some r) :
    Calls Tryd.prog 43 #[.int .i64 a0] w fun e w' => e = .returned (.int .i64 r) ∧ Below w.heap.size w w' := by
  unfold part_kindOf.f at h
  split at h
  · rename_i hh
    obtain ⟨i, rfl⟩ := Int.eq_ofNat_of_zero_le hh.1
    have e := Option.some.inj h
    rw [Int.toNat_natCast] at e
    have hi := part_kind_index i (by omega)
    rw [e] at hi
    have hba := part_kind_build
    clear h hh e
    go_enter Tryd.func43, Tryd.ntmps43
    go_wp2
    go_ret
    exact ⟨rfl, Below.refl _ _⟩
  · simp at h

/-! ### part_Fits: function 24 -/
def part_Fits.f (k : Nat) (j x : Int) : Option Bool := (code_Decode.f k x).bind fun d =>
  if d.2.2.2.2.2.2.2.2.2.2 = 0 then if d.2.2.2.2.2.1 = 0 then if d.2.2.2.2.2.2.2.2.1 = 0 then if j = 0 then some false else (part_kindOf.f d.1).bind fun t => some (t == j) else some false else some false else some false
theorem part_Fits.mono : ∀ j x k, LeO (part_Fits.f k j x) (part_Fits.f (k + 1) j x) := fun j x k => LeO.bind (code_Decode.mono x k) (fun _ => LeO.refl _)
set_option maxHeartbeats 4000000 in
set_option maxRecDepth 100000 in
theorem part_Fits.calls (k : Nat) (j x : Int) (r : Bool) (w : World) (h : part_Fits.f k j x = some r) (hTab : TabW w := by first | exact hTab | exact TabW.drew hTab | exact TabW.drewN hTab _ | exact TabW.below hTab (by repeat (first | (with_reducible first | exact HB.out | apply below_alloc | apply pw_below_drewN | apply below_drew1) | refine Below.setCell ?_ (Aside0.out (by assumption)) _ | exact HB.out | exact Below.refl _ _))) :
    Calls Tryd.prog 24 #[.int .i64 j, .int .u32 x] w fun e w' => e = .returned (.bool r) ∧ Below w.heap.size w w' := by
  unfold part_Fits.f at h
  obtain ⟨⟨d0, d1, d2, d3, d4, d5, d6, d7, d8, d9, d10⟩, hd, h⟩ := Option.bind_eq_some_iff.mp h
  have HD := Aside0.mk hd
  clear hd
  simp only at h
  by_cases c0 : d10 = 0
  · rw [if_pos c0] at h
    subst c0
    by_cases c1 : d5 = 0
    · rw [if_pos c1] at h
      subst c1
      by_cases c2 : d8 = 0
      · rw [if_pos c2] at h
        subst c2
        by_cases c3 : j = 0
        · rw [if_pos c3] at h
          obtain rfl := Option.some.inj h
          subst c3
          clear h
          go_enter Tryd.func24, Tryd.ntmps24
          go_wp2_with (first | (go_at_call 13; refine (code_Decode.calls k x _ _ _ _ _ _ _ _ _ _ _ _ HD.out hTab).mono ?_; rintro e w3 ⟨rfl, hb⟩; have HB3 := Aside0.mk (below_step (Below.refl _ _) hb); clear hb))
          go_ret
          exact ⟨rfl, below_alloc HB3.out _⟩
        · rw [if_neg c3] at h
          obtain ⟨t, ht, h⟩ := Option.bind_eq_some_iff.mp h
          obtain rfl := Option.some.inj h
          have HT := Aside0.mk ht
          have b3 : (j != 0) = true := by simpa using c3
          clear ht h c3
          go_enter Tryd.func24, Tryd.ntmps24
          go_wp2_with (first | (go_at_call 13; refine (code_Decode.calls k x _ _ _ _ _ _ _ _ _ _ _ _ HD.out hTab).mono ?_; rintro e w3 ⟨rfl, hb⟩; have HB3 := Aside0.mk (below_step (Below.refl _ _) hb); clear hb) | (go_at_call 43; refine (part_kindOf.calls d0 t _ HT.out).mono ?_; rintro e w5 ⟨rfl, hb⟩; have HB5 := Aside0.mk (below_step (below_alloc HB3.out _) hb); clear hb))
          go_ret
          exact ⟨rfl, HB5.out⟩
      · rw [if_neg c2] at h
        obtain rfl := Option.some.inj h
        have b2 : (d8 == 0) = false := by simpa using c2
        clear c2 h
        go_enter Tryd.func24, Tryd.ntmps24
        go_wp2_with (first | (go_at_call 13; refine (code_Decode.calls k x _ _ _ _ _ _ _ _ _ _ _ _ HD.out hTab).mono ?_; rintro e w3 ⟨rfl, hb⟩; have HB3 := Aside0.mk (below_step (Below.refl _ _) hb); clear hb))
        go_ret
        exact ⟨rfl, below_alloc HB3.out _⟩
    · rw [if_neg c1] at h
      obtain rfl := Option.some.inj h
      have b1 : (d5 == 0) = false := by simpa using c1
      clear c1 h
      go_enter Tryd.func24, Tryd.ntmps24
      go_wp2_with (first | (go_at_call 13; refine (code_Decode.calls k x _ _ _ _ _ _ _ _ _ _ _ _ HD.out hTab).mono ?_; rintro e w3 ⟨rfl, hb⟩; have HB3 := Aside0.mk (below_step (Below.refl _ _) hb); clear hb))
      go_ret
      exact ⟨rfl, below_alloc HB3.out _⟩
  · rw [if_neg c0] at h
    obtain rfl := Option.some.inj h
    have b0 : (d10 == 0) = false := by simpa using c0
    clear c0 h
    go_enter Tryd.func24, Tryd.ntmps24
    go_wp2_with (first | (go_at_call 13; refine (code_Decode.calls k x _ _ _ _ _ _ _ _ _ _ _ _ HD.out hTab).mono ?_; rintro e w3 ⟨rfl, hb⟩; have HB3 := Aside0.mk (below_step (Below.refl _ _) hb); clear hb))
    go_ret
    exact ⟨rfl, below_alloc HB3.out _⟩

/-! ### fix_Word: function 22 -/
def fix_Word.f (k : Nat) (j x a b : Int) : Option (Int × Int) :=
  if 2 ≤ j ∧ j ≤ 9 then (part_Fits.f k j x).bind fun ft => if ft = true then (fix_Value.f j a b).bind fun v => if v.2 = 0 then (code_Decode.f k x).bind fun d =>
    if d.2.2.2.2.2.2.2.2.2.2 = 0 then code_Encode.f k d.1 d.2.1 d.2.2.1 d.2.2.2.1 d.2.2.2.2.1 (wrap64 v.1) d.2.2.2.2.2.2.1 d.2.2.2.2.2.2.2.1 d.2.2.2.2.2.2.2.2.1 d.2.2.2.2.2.2.2.2.2.1 else some (0, d.2.2.2.2.2.2.2.2.2.2) else some (0, v.2) else some (0, 11) else some (0, 1)
theorem fix_Word.mono : ∀ j x a b k, LeO (fix_Word.f k j x a b) (fix_Word.f (k + 1) j x a b) := by
  intro j x a b k
  unfold fix_Word.f
  exact LeO.ite (LeO.bind (part_Fits.mono j x k) (fun _ => LeO.ite (LeO.bind (LeO.refl _) (fun _ => LeO.ite (LeO.bind (code_Decode.mono x k) (fun _ => LeO.ite (code_Encode.mono _ _ _ _ _ _ _ _ _ _ k) (LeO.refl _))) (LeO.refl _))) (LeO.refl _))) (LeO.refl _)
set_option maxHeartbeats 4000000 in
set_option maxRecDepth 100000 in
theorem fix_Word.calls (k : Nat) (j x a b r1 r2 : Int) (w : World) (h : fix_Word.f k j x a b = some (r1, r2)) (hTab : TabW w := by first | exact hTab | exact TabW.drew hTab | exact TabW.drewN hTab _ | exact TabW.below hTab (by repeat (first | (with_reducible first | exact HB.out | apply below_alloc | apply pw_below_drewN | apply below_drew1) | refine Below.setCell ?_ (Aside0.out (by assumption)) _ | exact HB.out | exact Below.refl _ _))) :
    Calls Tryd.prog 22 #[.int .i64 j, .int .u32 x, .int .u64 a, .int .u64 b] w fun e w' => e = .returned (.tuple #[.int .u32 r1, .int .i64 r2]) ∧ Below w.heap.size w w' := by
  unfold fix_Word.f at h
  by_cases hj : 2 ≤ j ∧ j ≤ 9
  · rw [if_pos hj] at h
    have b1 : decide (j ≤ 1) = false := by simp; omega
    have b2 : decide (j > 9) = false := by simp; omega
    clear hj
    obtain ⟨ft, hf, h⟩ := Option.bind_eq_some_iff.mp h
    have HF := Aside0.mk hf
    clear hf
    by_cases hft : ft = true
    · rw [if_pos hft] at h
      subst hft
      obtain ⟨⟨v1, v2⟩, hv, h⟩ := Option.bind_eq_some_iff.mp h
      have HV := Aside0.mk hv
      clear hv
      simp only at h
      by_cases hv2 : v2 = 0
      · rw [if_pos hv2] at h
        subst hv2
        obtain ⟨⟨d0, d1, d2, d3, d4, d5, d6, d7, d8, d9, d10⟩, hd, h⟩ := Option.bind_eq_some_iff.mp h
        have HD := Aside0.mk hd
        clear hd
        simp only at h
        by_cases hd0 : d10 = 0
        · rw [if_pos hd0] at h
          subst hd0
          have HE := Aside0.mk h
          clear h
          go_enter Tryd.func22, Tryd.ntmps22
          go_wp2_with (first | (go_at_call 24; refine (part_Fits.calls k j x true _ HF.out hTab).mono ?_; rintro e w1 ⟨rfl, hb⟩; have HB1 := Aside0.mk hb; clear hb) | (go_at_call 23; refine (fix_Value.calls j a b v1 0 _ HV.out).mono ?_; rintro e w2 ⟨rfl, hb⟩; have HB2 := Aside0.mk (below_step HB1.out hb); clear hb) | (go_at_call 13; refine (code_Decode.calls k x d0 d1 d2 d3 d4 d5 d6 d7 d8 d9 0 _ HD.out (TabW.below hTab HB2.out)).mono ?_; rintro e w3 ⟨rfl, hb⟩; have HB3 := Aside0.mk (below_step HB2.out hb); clear hb) | (go_at_call 10; refine (code_Encode.calls k d0 d1 d2 d3 d4 (wrap64 v1) d6 d7 d8 d9 r1 r2 _ HE.out (TabW.below hTab (below_alloc HB3.out _))).mono ?_; rintro e w4 ⟨rfl, hb⟩; have HB4 := Aside0.mk (below_step (below_alloc HB3.out _) hb); clear hb))
          go_ret2
          exact ⟨rfl, HB4.out⟩
        · rw [if_neg hd0] at h
          injection h with h
          injection h with h1 h2
          subst h1 h2
          have b3 : (d10 != 0) = true := by simpa using hd0
          clear hd0
          go_enter Tryd.func22, Tryd.ntmps22
          go_wp2_with (first | (go_at_call 24; refine (part_Fits.calls k j x true _ HF.out hTab).mono ?_; rintro e w1 ⟨rfl, hb⟩; have HB1 := Aside0.mk hb; clear hb) | (go_at_call 23; refine (fix_Value.calls j a b v1 0 _ HV.out).mono ?_; rintro e w2 ⟨rfl, hb⟩; have HB2 := Aside0.mk (below_step HB1.out hb); clear hb) | (go_at_call 13; refine (code_Decode.calls k x d0 d1 d2 d3 d4 d5 d6 d7 d8 d9 d10 _ HD.out (TabW.below hTab HB2.out)).mono ?_; rintro e w3 ⟨rfl, hb⟩; have HB3 := Aside0.mk (below_step HB2.out hb); clear hb))
          go_ret2
          exact ⟨rfl, below_alloc HB3.out _⟩
      · rw [if_neg hv2] at h
        injection h with h
        injection h with h1 h2
        subst h1 h2
        have b3 : (v2 != 0) = true := by simpa using hv2
        clear hv2
        go_enter Tryd.func22, Tryd.ntmps22
        go_wp2_with (first | (go_at_call 24; refine (part_Fits.calls k j x true _ HF.out hTab).mono ?_; rintro e w1 ⟨rfl, hb⟩; have HB1 := Aside0.mk hb; clear hb) | (go_at_call 23; refine (fix_Value.calls j a b v1 v2 _ HV.out).mono ?_; rintro e w2 ⟨rfl, hb⟩; have HB2 := Aside0.mk (below_step HB1.out hb); clear hb))
        go_ret2
        exact ⟨rfl, HB2.out⟩
    · rw [if_neg hft] at h
      injection h with h
      injection h with h1 h2
      subst h1 h2
      obtain rfl : ft = false := by simpa using hft
      clear hft
      go_enter Tryd.func22, Tryd.ntmps22
      go_wp2_with (first | (go_at_call 24; refine (part_Fits.calls k j x false _ HF.out hTab).mono ?_; rintro e w1 ⟨rfl, hb⟩; have HB1 := Aside0.mk hb; clear hb))
      go_ret2
      exact ⟨rfl, HB1.out⟩
  · rw [if_neg hj] at h
    injection h with h
    injection h with h1 h2
    subst h1 h2
    by_cases hj1 : j ≤ 1
    · have b1 : decide (j ≤ 1) = true := decide_eq_true hj1
      go_enter Tryd.func22, Tryd.ntmps22
      go_wp2
      go_ret2
      exact ⟨rfl, Below.refl _ _⟩
    · have b1 : decide (j ≤ 1) = false := decide_eq_false hj1
      have b2 : decide (j > 9) = true := decide_eq_true (by omega)
      go_enter Tryd.func22, Tryd.ntmps22
      go_wp2
      go_ret2
      exact ⟨rfl, Below.refl _ _⟩

/-! ### fix_right: function 39 -/
def fix_right.f (a0 : Int) (a1 : Int) (a2 : ByteArray) : Option (Bool) := if a0 = 1 then (some ((a2.size : Int) == 8)) else (if a0 > 1 then (if a0 ≤ a1 then (some ((a2.size : Int) == 4)) else (some false)) else (some false))
set_option maxHeartbeats 8000000 in
set_option maxRecDepth 100000 in
theorem fix_right.calls (a0 : Int) (a1 : Int) (a2 : ByteArray) (r : Bool) (w : World) (h : fix_right.f a0 a1 a2 = some r) :
    Calls Tryd.prog 39 #[.int .i64 a0, .int .i64 a1, .string a2] w fun e w' => e = .returned (.bool r) ∧ Drawn0 w w' := by
 have H : (if a0 = 1 then (some ((a2.size : Int) == 8)) else (if a0 > 1 then (if a0 ≤ a1 then (some ((a2.size : Int) == 4)) else (some false)) else (some false))) = some r := h
 clear h
 by_cases c4 : a0 = 1
 ·
  rw [if_pos c4] at H
  have c4b0 : (a0 == 1) = true := beq_iff_eq.mpr c4
  have c4b1 : (a0 != 1) = false := bne_eq_false_iff_eq.mpr c4
  clear c4
  obtain rfl := Option.some.inj H
  go_enter Tryd.func39, Tryd.ntmps39
  go_wp2
  go_ret
  exact ⟨by first | rfl | (simp; done) | (simp [*]; done), by repeat (first | exact Drawn0.refl _ | apply Drawn0.step)⟩
 ·
  rw [if_neg c4] at H
  have c4b0 : (a0 == 1) = false := beq_eq_false_iff_ne.mpr c4
  have c4b1 : (a0 != 1) = true := bne_iff_ne.mpr c4
  by_cases c5 : a0 > 1
  ·
   rw [if_pos c5] at H
   have c5b0 : decide (1 < a0) = true := decide_eq_true c5
   clear c5
   by_cases c6 : a0 ≤ a1
   ·
    rw [if_pos c6] at H
    have c6b0 : decide (a0 ≤ a1) = true := decide_eq_true c6
    clear c6
    obtain rfl := Option.some.inj H
    go_enter Tryd.func39, Tryd.ntmps39
    go_wp2
    go_ret
    exact ⟨by first | rfl | (simp; done) | (simp [*]; done), by repeat (first | exact Drawn0.refl _ | apply Drawn0.step)⟩
   ·
    rw [if_neg c6] at H
    have c6b0 : decide (a0 ≤ a1) = false := decide_eq_false c6
    clear c6
    obtain rfl := Option.some.inj H
    go_enter Tryd.func39, Tryd.ntmps39
    go_wp2
    go_ret
    exact ⟨by first | rfl | (simp; done) | (simp [*]; done), by repeat (first | exact Drawn0.refl _ | apply Drawn0.step)⟩
  ·
   rw [if_neg c5] at H
   have c5b0 : decide (1 < a0) = false := decide_eq_false c5
   clear c5
   obtain rfl := Option.some.inj H
   go_enter Tryd.func39, Tryd.ntmps39
   go_wp2
   go_ret
   exact ⟨by first | rfl | (simp; done) | (simp [*]; done), by repeat (first | exact Drawn0.refl _ | apply Drawn0.step)⟩
end Go.Proofs.YtkpkkjbigndnoaaDoor.P
