/- Written for this claim by a program of this session (drive.py, over the print of the kit): Lean functions with the answers of Go functions, and the proofs that the Go code comes to these answers, under no condition but the readings of the arguments that each theorem names. -/
import Derived.Test.YtkmochnefidlmaaDoorPx0
namespace Go.Proofs.YtkmochnefidlmaaDoor.P
open Go.RowKit Go.Proofs.YtkmochnefidlmaaDoorW.PrintWords Go.Proofs.YtkmochnefidlmaaDoorW.PrintLast Go.Proofs.YtkmochnefidlmaaDoorW.PrintMore
attribute [local go_sem] max2_int min2_int max_two min_two max_three min_three max_four min_four   -- for this text's walks alone
set_option linter.unusedVariables false
set_option linter.unusedSimpArgs false

-- NOT PRINTED: function 42 (inst_ops)

/-! ### inst_Shape: function 33 -/
/-- The operations' names and shapes. -/
def inst_nameL : List ByteArray := [⟨#[]⟩, ⟨#[109, 111, 118, 122]⟩, ⟨#[109, 111, 118, 110]⟩, ⟨#[109, 111, 118, 107]⟩, ⟨#[97, 100, 100]⟩, ⟨#[115, 117, 98]⟩, ⟨#[97, 100, 100, 115]⟩, ⟨#[115, 117, 98, 115]⟩, ⟨#[97, 110, 100]⟩, ⟨#[111, 114, 114]⟩, ⟨#[101, 111, 114]⟩, ⟨#[97, 110, 100, 115]⟩, ⟨#[97, 100, 100]⟩, ⟨#[115, 117, 98]⟩, ⟨#[97, 100, 100, 115]⟩, ⟨#[115, 117, 98, 115]⟩, ⟨#[97, 110, 100]⟩, ⟨#[111, 114, 114]⟩, ⟨#[101, 111, 114]⟩, ⟨#[97, 110, 100, 115]⟩, ⟨#[109, 97, 100, 100]⟩, ⟨#[109, 115, 117, 98]⟩, ⟨#[108, 100, 114]⟩, ⟨#[115, 116, 114]⟩, ⟨#[108, 100, 114, 98]⟩, ⟨#[115, 116, 114, 98]⟩, ⟨#[108, 100, 114]⟩, ⟨#[97, 100, 114]⟩, ⟨#[97, 100, 114, 112]⟩, ⟨#[98]⟩, ⟨#[98, 108]⟩, ⟨#[98]⟩, ⟨#[99, 98, 122]⟩, ⟨#[99, 98, 110, 122]⟩, ⟨#[98, 114]⟩, ⟨#[98, 108, 114]⟩, ⟨#[114, 101, 116]⟩, ⟨#[115, 118, 99]⟩, ⟨#[110, 111, 112]⟩, ⟨#[99, 115, 101, 108]⟩]
def inst_shapeL : List Int := [0, 1, 1, 1, 2, 2, 2, 2, 3, 3, 3, 3, 4, 4, 4, 4, 5, 5, 5, 5, 6, 6, 7, 7, 8, 8, 9, 10, 10, 11, 11, 12, 9, 9, 13, 13, 13, 14, 15, 16]
def inst_name (i : Nat) : ByteArray := inst_nameL.getD i ⟨#[]⟩
def inst_shape (i : Nat) : Int := inst_shapeL.getD i 0
def inst_op (i : Nat) : Value := .agg #[.string (inst_name i), .int .i64 (inst_shape i)]
def inst_cells : Array Value := #[.string ⟨#[]⟩, .int .i64 0, .string ⟨#[109, 111, 118, 122]⟩, .int .i64 1, .string ⟨#[109, 111, 118, 110]⟩, .int .i64 1, .string ⟨#[109, 111, 118, 107]⟩, .int .i64 1, .string ⟨#[97, 100, 100]⟩, .int .i64 2, .string ⟨#[115, 117, 98]⟩, .int .i64 2, .string ⟨#[97, 100, 100, 115]⟩, .int .i64 2, .string ⟨#[115, 117, 98, 115]⟩, .int .i64 2, .string ⟨#[97, 110, 100]⟩, .int .i64 3, .string ⟨#[111, 114, 114]⟩, .int .i64 3, .string ⟨#[101, 111, 114]⟩, .int .i64 3, .string ⟨#[97, 110, 100, 115]⟩, .int .i64 3, .string ⟨#[97, 100, 100]⟩, .int .i64 4, .string ⟨#[115, 117, 98]⟩, .int .i64 4, .string ⟨#[97, 100, 100, 115]⟩, .int .i64 4, .string ⟨#[115, 117, 98, 115]⟩, .int .i64 4, .string ⟨#[97, 110, 100]⟩, .int .i64 5, .string ⟨#[111, 114, 114]⟩, .int .i64 5, .string ⟨#[101, 111, 114]⟩, .int .i64 5, .string ⟨#[97, 110, 100, 115]⟩, .int .i64 5, .string ⟨#[109, 97, 100, 100]⟩, .int .i64 6, .string ⟨#[109, 115, 117, 98]⟩, .int .i64 6, .string ⟨#[108, 100, 114]⟩, .int .i64 7, .string ⟨#[115, 116, 114]⟩, .int .i64 7, .string ⟨#[108, 100, 114, 98]⟩, .int .i64 8, .string ⟨#[115, 116, 114, 98]⟩, .int .i64 8, .string ⟨#[108, 100, 114]⟩, .int .i64 9, .string ⟨#[97, 100, 114]⟩, .int .i64 10, .string ⟨#[97, 100, 114, 112]⟩, .int .i64 10, .string ⟨#[98]⟩, .int .i64 11, .string ⟨#[98, 108]⟩, .int .i64 11, .string ⟨#[98]⟩, .int .i64 12, .string ⟨#[99, 98, 122]⟩, .int .i64 9, .string ⟨#[99, 98, 110, 122]⟩, .int .i64 9, .string ⟨#[98, 114]⟩, .int .i64 13, .string ⟨#[98, 108, 114]⟩, .int .i64 13, .string ⟨#[114, 101, 116]⟩, .int .i64 13, .string ⟨#[115, 118, 99]⟩, .int .i64 14, .string ⟨#[110, 111, 112]⟩, .int .i64 15, .string ⟨#[99, 115, 101, 108]⟩, .int .i64 16]
def inst_zeros : Array Value := #[.string ⟨#[]⟩, .int .i64 0, .string ⟨#[]⟩, .int .i64 0, .string ⟨#[]⟩, .int .i64 0, .string ⟨#[]⟩, .int .i64 0, .string ⟨#[]⟩, .int .i64 0, .string ⟨#[]⟩, .int .i64 0, .string ⟨#[]⟩, .int .i64 0, .string ⟨#[]⟩, .int .i64 0, .string ⟨#[]⟩, .int .i64 0, .string ⟨#[]⟩, .int .i64 0, .string ⟨#[]⟩, .int .i64 0, .string ⟨#[]⟩, .int .i64 0, .string ⟨#[]⟩, .int .i64 0, .string ⟨#[]⟩, .int .i64 0, .string ⟨#[]⟩, .int .i64 0, .string ⟨#[]⟩, .int .i64 0, .string ⟨#[]⟩, .int .i64 0, .string ⟨#[]⟩, .int .i64 0, .string ⟨#[]⟩, .int .i64 0, .string ⟨#[]⟩, .int .i64 0, .string ⟨#[]⟩, .int .i64 0, .string ⟨#[]⟩, .int .i64 0, .string ⟨#[]⟩, .int .i64 0, .string ⟨#[]⟩, .int .i64 0, .string ⟨#[]⟩, .int .i64 0, .string ⟨#[]⟩, .int .i64 0, .string ⟨#[]⟩, .int .i64 0, .string ⟨#[]⟩, .int .i64 0, .string ⟨#[]⟩, .int .i64 0, .string ⟨#[]⟩, .int .i64 0, .string ⟨#[]⟩, .int .i64 0, .string ⟨#[]⟩, .int .i64 0, .string ⟨#[]⟩, .int .i64 0, .string ⟨#[]⟩, .int .i64 0, .string ⟨#[]⟩, .int .i64 0, .string ⟨#[]⟩, .int .i64 0, .string ⟨#[]⟩, .int .i64 0, .string ⟨#[]⟩, .int .i64 0, .string ⟨#[]⟩, .int .i64 0, .string ⟨#[]⟩, .int .i64 0]
theorem inst_zero : (Tryd.prog.info? 67).map (fun i => (i.zero, i.size)) = some (some (.agg inst_zeros), 80) := by kernel_rfl
theorem inst_cells_one : inst_cells.all (·.oneCell') = true := by decide +kernel
theorem inst_build0 (W : World) : (Instr.build 66 #[]).run Tryd.prog W = .ok (inst_op 0) W := run_build W _ _ _ (by kernel_rfl)
theorem inst_build1 (W : World) : (Instr.build 66 #[(0, .string ⟨#[109, 111, 118, 122]⟩), (1, .int .i64 1)]).run Tryd.prog W = .ok (inst_op 1) W := run_build W _ _ _ (by kernel_rfl)
theorem inst_build2 (W : World) : (Instr.build 66 #[(0, .string ⟨#[109, 111, 118, 110]⟩), (1, .int .i64 1)]).run Tryd.prog W = .ok (inst_op 2) W := run_build W _ _ _ (by kernel_rfl)
theorem inst_build3 (W : World) : (Instr.build 66 #[(0, .string ⟨#[109, 111, 118, 107]⟩), (1, .int .i64 1)]).run Tryd.prog W = .ok (inst_op 3) W := run_build W _ _ _ (by kernel_rfl)
theorem inst_build4 (W : World) : (Instr.build 66 #[(0, .string ⟨#[97, 100, 100]⟩), (1, .int .i64 2)]).run Tryd.prog W = .ok (inst_op 4) W := run_build W _ _ _ (by kernel_rfl)
theorem inst_build5 (W : World) : (Instr.build 66 #[(0, .string ⟨#[115, 117, 98]⟩), (1, .int .i64 2)]).run Tryd.prog W = .ok (inst_op 5) W := run_build W _ _ _ (by kernel_rfl)
theorem inst_build6 (W : World) : (Instr.build 66 #[(0, .string ⟨#[97, 100, 100, 115]⟩), (1, .int .i64 2)]).run Tryd.prog W = .ok (inst_op 6) W := run_build W _ _ _ (by kernel_rfl)
theorem inst_build7 (W : World) : (Instr.build 66 #[(0, .string ⟨#[115, 117, 98, 115]⟩), (1, .int .i64 2)]).run Tryd.prog W = .ok (inst_op 7) W := run_build W _ _ _ (by kernel_rfl)
theorem inst_build8 (W : World) : (Instr.build 66 #[(0, .string ⟨#[97, 110, 100]⟩), (1, .int .i64 3)]).run Tryd.prog W = .ok (inst_op 8) W := run_build W _ _ _ (by kernel_rfl)
theorem inst_build9 (W : World) : (Instr.build 66 #[(0, .string ⟨#[111, 114, 114]⟩), (1, .int .i64 3)]).run Tryd.prog W = .ok (inst_op 9) W := run_build W _ _ _ (by kernel_rfl)
theorem inst_build10 (W : World) : (Instr.build 66 #[(0, .string ⟨#[101, 111, 114]⟩), (1, .int .i64 3)]).run Tryd.prog W = .ok (inst_op 10) W := run_build W _ _ _ (by kernel_rfl)
theorem inst_build11 (W : World) : (Instr.build 66 #[(0, .string ⟨#[97, 110, 100, 115]⟩), (1, .int .i64 3)]).run Tryd.prog W = .ok (inst_op 11) W := run_build W _ _ _ (by kernel_rfl)
theorem inst_build12 (W : World) : (Instr.build 66 #[(0, .string ⟨#[97, 100, 100]⟩), (1, .int .i64 4)]).run Tryd.prog W = .ok (inst_op 12) W := run_build W _ _ _ (by kernel_rfl)
theorem inst_build13 (W : World) : (Instr.build 66 #[(0, .string ⟨#[115, 117, 98]⟩), (1, .int .i64 4)]).run Tryd.prog W = .ok (inst_op 13) W := run_build W _ _ _ (by kernel_rfl)
theorem inst_build14 (W : World) : (Instr.build 66 #[(0, .string ⟨#[97, 100, 100, 115]⟩), (1, .int .i64 4)]).run Tryd.prog W = .ok (inst_op 14) W := run_build W _ _ _ (by kernel_rfl)
theorem inst_build15 (W : World) : (Instr.build 66 #[(0, .string ⟨#[115, 117, 98, 115]⟩), (1, .int .i64 4)]).run Tryd.prog W = .ok (inst_op 15) W := run_build W _ _ _ (by kernel_rfl)
theorem inst_build16 (W : World) : (Instr.build 66 #[(0, .string ⟨#[97, 110, 100]⟩), (1, .int .i64 5)]).run Tryd.prog W = .ok (inst_op 16) W := run_build W _ _ _ (by kernel_rfl)
theorem inst_build17 (W : World) : (Instr.build 66 #[(0, .string ⟨#[111, 114, 114]⟩), (1, .int .i64 5)]).run Tryd.prog W = .ok (inst_op 17) W := run_build W _ _ _ (by kernel_rfl)
theorem inst_build18 (W : World) : (Instr.build 66 #[(0, .string ⟨#[101, 111, 114]⟩), (1, .int .i64 5)]).run Tryd.prog W = .ok (inst_op 18) W := run_build W _ _ _ (by kernel_rfl)
theorem inst_build19 (W : World) : (Instr.build 66 #[(0, .string ⟨#[97, 110, 100, 115]⟩), (1, .int .i64 5)]).run Tryd.prog W = .ok (inst_op 19) W := run_build W _ _ _ (by kernel_rfl)
theorem inst_build20 (W : World) : (Instr.build 66 #[(0, .string ⟨#[109, 97, 100, 100]⟩), (1, .int .i64 6)]).run Tryd.prog W = .ok (inst_op 20) W := run_build W _ _ _ (by kernel_rfl)
theorem inst_build21 (W : World) : (Instr.build 66 #[(0, .string ⟨#[109, 115, 117, 98]⟩), (1, .int .i64 6)]).run Tryd.prog W = .ok (inst_op 21) W := run_build W _ _ _ (by kernel_rfl)
theorem inst_build22 (W : World) : (Instr.build 66 #[(0, .string ⟨#[108, 100, 114]⟩), (1, .int .i64 7)]).run Tryd.prog W = .ok (inst_op 22) W := run_build W _ _ _ (by kernel_rfl)
theorem inst_build23 (W : World) : (Instr.build 66 #[(0, .string ⟨#[115, 116, 114]⟩), (1, .int .i64 7)]).run Tryd.prog W = .ok (inst_op 23) W := run_build W _ _ _ (by kernel_rfl)
theorem inst_build24 (W : World) : (Instr.build 66 #[(0, .string ⟨#[108, 100, 114, 98]⟩), (1, .int .i64 8)]).run Tryd.prog W = .ok (inst_op 24) W := run_build W _ _ _ (by kernel_rfl)
theorem inst_build25 (W : World) : (Instr.build 66 #[(0, .string ⟨#[115, 116, 114, 98]⟩), (1, .int .i64 8)]).run Tryd.prog W = .ok (inst_op 25) W := run_build W _ _ _ (by kernel_rfl)
theorem inst_build26 (W : World) : (Instr.build 66 #[(0, .string ⟨#[108, 100, 114]⟩), (1, .int .i64 9)]).run Tryd.prog W = .ok (inst_op 26) W := run_build W _ _ _ (by kernel_rfl)
theorem inst_build27 (W : World) : (Instr.build 66 #[(0, .string ⟨#[97, 100, 114]⟩), (1, .int .i64 10)]).run Tryd.prog W = .ok (inst_op 27) W := run_build W _ _ _ (by kernel_rfl)
theorem inst_build28 (W : World) : (Instr.build 66 #[(0, .string ⟨#[97, 100, 114, 112]⟩), (1, .int .i64 10)]).run Tryd.prog W = .ok (inst_op 28) W := run_build W _ _ _ (by kernel_rfl)
theorem inst_build29 (W : World) : (Instr.build 66 #[(0, .string ⟨#[98]⟩), (1, .int .i64 11)]).run Tryd.prog W = .ok (inst_op 29) W := run_build W _ _ _ (by kernel_rfl)
theorem inst_build30 (W : World) : (Instr.build 66 #[(0, .string ⟨#[98, 108]⟩), (1, .int .i64 11)]).run Tryd.prog W = .ok (inst_op 30) W := run_build W _ _ _ (by kernel_rfl)
theorem inst_build31 (W : World) : (Instr.build 66 #[(0, .string ⟨#[98]⟩), (1, .int .i64 12)]).run Tryd.prog W = .ok (inst_op 31) W := run_build W _ _ _ (by kernel_rfl)
theorem inst_build32 (W : World) : (Instr.build 66 #[(0, .string ⟨#[99, 98, 122]⟩), (1, .int .i64 9)]).run Tryd.prog W = .ok (inst_op 32) W := run_build W _ _ _ (by kernel_rfl)
theorem inst_build33 (W : World) : (Instr.build 66 #[(0, .string ⟨#[99, 98, 110, 122]⟩), (1, .int .i64 9)]).run Tryd.prog W = .ok (inst_op 33) W := run_build W _ _ _ (by kernel_rfl)
theorem inst_build34 (W : World) : (Instr.build 66 #[(0, .string ⟨#[98, 114]⟩), (1, .int .i64 13)]).run Tryd.prog W = .ok (inst_op 34) W := run_build W _ _ _ (by kernel_rfl)
theorem inst_build35 (W : World) : (Instr.build 66 #[(0, .string ⟨#[98, 108, 114]⟩), (1, .int .i64 13)]).run Tryd.prog W = .ok (inst_op 35) W := run_build W _ _ _ (by kernel_rfl)
theorem inst_build36 (W : World) : (Instr.build 66 #[(0, .string ⟨#[114, 101, 116]⟩), (1, .int .i64 13)]).run Tryd.prog W = .ok (inst_op 36) W := run_build W _ _ _ (by kernel_rfl)
theorem inst_build37 (W : World) : (Instr.build 66 #[(0, .string ⟨#[115, 118, 99]⟩), (1, .int .i64 14)]).run Tryd.prog W = .ok (inst_op 37) W := run_build W _ _ _ (by kernel_rfl)
theorem inst_build38 (W : World) : (Instr.build 66 #[(0, .string ⟨#[110, 111, 112]⟩), (1, .int .i64 15)]).run Tryd.prog W = .ok (inst_op 38) W := run_build W _ _ _ (by kernel_rfl)
theorem inst_build39 (W : World) : (Instr.build 66 #[(0, .string ⟨#[99, 115, 101, 108]⟩), (1, .int .i64 16)]).run Tryd.prog W = .ok (inst_op 39) W := run_build W _ _ _ (by kernel_rfl)
theorem inst_buildAll (W : World) : (Instr.build 67 #[(0, inst_op 0), (1, inst_op 1), (2, inst_op 2), (3, inst_op 3), (4, inst_op 4), (5, inst_op 5), (6, inst_op 6), (7, inst_op 7), (8, inst_op 8), (9, inst_op 9), (10, inst_op 10), (11, inst_op 11), (12, inst_op 12), (13, inst_op 13), (14, inst_op 14), (15, inst_op 15), (16, inst_op 16), (17, inst_op 17), (18, inst_op 18), (19, inst_op 19), (20, inst_op 20), (21, inst_op 21), (22, inst_op 22), (23, inst_op 23), (24, inst_op 24), (25, inst_op 25), (26, inst_op 26), (27, inst_op 27), (28, inst_op 28), (29, inst_op 29), (30, inst_op 30), (31, inst_op 31), (32, inst_op 32), (33, inst_op 33), (34, inst_op 34), (35, inst_op 35), (36, inst_op 36), (37, inst_op 37), (38, inst_op 38), (39, inst_op 39)]).run Tryd.prog W = .ok (.agg inst_cells) W := run_build W _ _ _ (by kernel_rfl)
theorem inst_cells_size : inst_cells.size = 80 := rfl
theorem inst_zeros_size : inst_zeros.size = 80 := rfl
theorem results_cell_ {P : Program} {fn : Func} {p : Tmp} {ty : TypeId} {b : Nat} {c : Array Value} {d : TypeDesc} (h : fn.results = #[.cell p ty]) (tmps : Array Value) (w : World) (ha : tmps.getD p undef = .pointer (some ⟨b, 0, none⟩))
    (hb : w.heap[b]? = some (.cells c ty (0, 0))) (hu : P.underlying ty = some d) (hd : (match d with | .array _ _ => true | .struct _ => true | _ => false) = true) (hi : (P.info? ty).map (·.size) = some c.size) : (results fn tmps).run P w = .ok (.agg c) w := by
  have hl := run_loadVar_row w b ty ty c (0, 0) d hb hu (by cases d <;> simp_all) hi
  have ha' : tmps[p]?.getD undef = .pointer (some ⟨b, 0, none⟩) := by simpa using ha
  simp [results, h, ha', asAddr, hl]
theorem heap_last_ (w : World) (o : Obj) : (w.alloc o).heap[w.heap.size]? = some o := by
  show (w.heap.push o)[w.heap.size]? = some o
  simp
attribute [-go_sem] Instr.build Instr.fill in
set_option maxHeartbeats 12800000 in
set_option maxRecDepth 100000 in
theorem inst_ops.calls (w : World) : Calls Tryd.prog 42 #[] w fun e w' => e = .returned (.agg inst_cells) ∧ Below w.heap.size w w' := by
  obtain ⟨hz, hs⟩ := zero_of_info inst_zero
  have hst := run_storeCells_new (P := Tryd.prog) w 67 inst_zeros inst_cells hs rfl inst_cells_one
  have hld := run_loadCellsFrom_new (P := Tryd.prog) w 67 inst_cells 80 rfl
  have hsz := inst_cells_size
  have hb0 := inst_build0
  have hb1 := inst_build1
  have hb2 := inst_build2
  have hb3 := inst_build3
  have hb4 := inst_build4
  have hb5 := inst_build5
  have hb6 := inst_build6
  have hb7 := inst_build7
  have hb8 := inst_build8
  have hb9 := inst_build9
  have hb10 := inst_build10
  have hb11 := inst_build11
  have hb12 := inst_build12
  have hb13 := inst_build13
  have hb14 := inst_build14
  have hb15 := inst_build15
  have hb16 := inst_build16
  have hb17 := inst_build17
  have hb18 := inst_build18
  have hb19 := inst_build19
  have hb20 := inst_build20
  have hb21 := inst_build21
  have hb22 := inst_build22
  have hb23 := inst_build23
  have hb24 := inst_build24
  have hb25 := inst_build25
  have hb26 := inst_build26
  have hb27 := inst_build27
  have hb28 := inst_build28
  have hb29 := inst_build29
  have hb30 := inst_build30
  have hb31 := inst_build31
  have hb32 := inst_build32
  have hb33 := inst_build33
  have hb34 := inst_build34
  have hb35 := inst_build35
  have hb36 := inst_build36
  have hb37 := inst_build37
  have hb38 := inst_build38
  have hb39 := inst_build39
  have hba := inst_buildAll
  go_enter Tryd.func42, Tryd.ntmps42
  go_wp2
  clear hba hb0 hb1 hb2 hb3 hb4 hb5 hb6 hb7 hb8 hb9 hb10 hb11 hb12 hb13 hb14 hb15 hb16 hb17 hb18 hb19 hb20 hb21 hb22 hb23 hb24 hb25 hb26 hb27 hb28 hb29 hb30 hb31 hb32 hb33 hb34 hb35 hb36 hb37 hb38 hb39
  refine bodyPost_ret (v := .agg inst_cells) (results_cell_ rfl _ _ rfl (heap_last_ w _) Tryd.underlying67 rfl hs) rfl ⟨rfl, (Below.refl _ _).alloc (Nat.le_refl _) _⟩
theorem inst_field0 (i : Nat) (W : World) : (Instr.field 66 (inst_op i) 0).run Tryd.prog W = .ok (.string (inst_name i)) W := by kernel_rfl
theorem inst_field1 (i : Nat) (W : World) : (Instr.field 66 (inst_op i) 1).run Tryd.prog W = .ok (.int .i64 (inst_shape i)) W := by kernel_rfl
theorem inst_index : ∀ (i : Nat) (_ : i < 40) (W : World), (Instr.index 67 (.agg inst_cells) (.int .i64 (i : Int))).run Tryd.prog W = .ok (inst_op i) W
  | 0, _, _ => by kernel_rfl
  | 1, _, _ => by kernel_rfl
  | 2, _, _ => by kernel_rfl
  | 3, _, _ => by kernel_rfl
  | 4, _, _ => by kernel_rfl
  | 5, _, _ => by kernel_rfl
  | 6, _, _ => by kernel_rfl
  | 7, _, _ => by kernel_rfl
  | 8, _, _ => by kernel_rfl
  | 9, _, _ => by kernel_rfl
  | 10, _, _ => by kernel_rfl
  | 11, _, _ => by kernel_rfl
  | 12, _, _ => by kernel_rfl
  | 13, _, _ => by kernel_rfl
  | 14, _, _ => by kernel_rfl
  | 15, _, _ => by kernel_rfl
  | 16, _, _ => by kernel_rfl
  | 17, _, _ => by kernel_rfl
  | 18, _, _ => by kernel_rfl
  | 19, _, _ => by kernel_rfl
  | 20, _, _ => by kernel_rfl
  | 21, _, _ => by kernel_rfl
  | 22, _, _ => by kernel_rfl
  | 23, _, _ => by kernel_rfl
  | 24, _, _ => by kernel_rfl
  | 25, _, _ => by kernel_rfl
  | 26, _, _ => by kernel_rfl
  | 27, _, _ => by kernel_rfl
  | 28, _, _ => by kernel_rfl
  | 29, _, _ => by kernel_rfl
  | 30, _, _ => by kernel_rfl
  | 31, _, _ => by kernel_rfl
  | 32, _, _ => by kernel_rfl
  | 33, _, _ => by kernel_rfl
  | 34, _, _ => by kernel_rfl
  | 35, _, _ => by kernel_rfl
  | 36, _, _ => by kernel_rfl
  | 37, _, _ => by kernel_rfl
  | 38, _, _ => by kernel_rfl
  | 39, _, _ => by kernel_rfl
  | i + 40, h, _ => absurd h (by omega)
theorem inst_index_int (a : Int) (h0 : 0 ≤ a) (h1 : a < 40) (W : World) : (Instr.index 67 (.agg inst_cells) (.int .i64 a)).run Tryd.prog W = .ok (inst_op a.toNat) W := by
  obtain ⟨i, rfl⟩ := Int.eq_ofNat_of_zero_le h0
  exact inst_index i (by omega) W

def inst_Shape.f (a0 : Int) : Option Int := some (if a0 < 1 then 0 else if a0 > 39 then 0 else inst_shape a0.toNat)
theorem inst_Shape.calls (a0 : Int) (r : Int) (w : World) (h : inst_Shape.f a0 = some r) :
    Calls Tryd.prog 33 #[.int .i64 a0] w fun e w' => e = .returned (.int .i64 r) ∧ Below w.heap.size w w' := by
  unfold inst_Shape.f at h
  obtain rfl := Option.some.inj h
  clear h
  by_cases h1 : a0 < 1
  · rw [if_pos h1]
    go_enter Tryd.func33, Tryd.ntmps33
    go_wp2
    go_ret
    exact ⟨rfl, Below.refl _ _⟩
  · by_cases h2 : a0 > 39
    · rw [if_neg h1, if_pos h2]
      go_enter Tryd.func33, Tryd.ntmps33
      go_wp2
      go_ret
      exact ⟨rfl, Below.refl _ _⟩
    · rw [if_neg h1, if_neg h2]
      have hi := inst_index_int a0 (by omega) (by omega)
      have hf := inst_field1
      go_enter Tryd.func33, Tryd.ntmps33
      go_wp2_with (first | (go_at_call 42; refine (inst_ops.calls _).mono ?_; rintro e w1 ⟨rfl, hb1⟩; have HB1 := Aside0.mk hb1; clear hb1))
      go_ret
      exact ⟨rfl, HB1.out⟩

-- NOT PRINTED: function 45 (alu_of)

/-! ### flag_Shift: function 10 -/
def flag_Shift.j0 : Nat → Int → Int → Int → Bool → Option (Int × Int)
 | 0, _, _, _, _ => none
 | k + 1, x0, x1, x2, x14 => if x14 = true then (some (0, 1)) else (if x1 = 0 then (if 0 ≤ x2 then (some (shl .u64 x0 x2, 0)) else (none)) else (if x1 = 3 then (if 0 ≤ (wrap64 (64 - x2)) then (if 0 ≤ x2 then (some (Go.bits .or .u64 (shr .u64 x0 x2) (shl .u64 x0 (wrap64 (64 - x2))), 0)) else (none)) else (none)) else (if x1 = 1 then (if 0 ≤ x2 then (some (Go.bits .or .u64 (shr .u64 x0 x2) 0, 0)) else (none)) else (if x1 = 2 then (if 0 ≤ x2 then (some (IntKind.u64.wrap (shr .i64 (wrap64 (x0)) x2), 0)) else (none)) else (some (0, 1))))))
def flag_Shift.f (k : Nat) (a0 : Int) (a1 : Int) (a2 : Int) : Option (Int × Int) := if a2 < 0 then (flag_Shift.j0 k a0 a1 a2 true) else (flag_Shift.j0 k a0 a1 a2 (decide (a2 ≥ 64)))
theorem flag_Shift.mono_l : ∀ k, (∀ y0 y1 y2 y3, LeO (flag_Shift.j0 k y0 y1 y2 y3) (flag_Shift.j0 (k + 1) y0 y1 y2 y3))
 | 0 => fun _ _ _ _ r h => by simp [flag_Shift.j0] at h
 | k + 1 => by
  have ih0 := flag_Shift.mono_l k
  ·
   intro y0 y1 y2 y3
   unfold flag_Shift.j0
   repeat' first
   | (with_reducible exact ih0 _ _ _ _)
   | (with_reducible exact LeO.refl _)
   | (with_reducible exact LeO.none _)
   | (with_reducible refine LeO.ite ?_ ?_)
   | (with_reducible refine LeO.bind ?_ (fun _ => ?_))
   | exact ih0 _ _ _ _
   | exact LeO.none _
   | refine LeO.ite ?_ ?_
   | refine LeO.bind ?_ (fun _ => ?_)
theorem flag_Shift.mono : ∀ a0 a1 a2 k, LeO (flag_Shift.f k a0 a1 a2) (flag_Shift.f (k + 1) a0 a1 a2) := by
 intro a0 a1 a2 k
 have ih0 := flag_Shift.mono_l k
 unfold flag_Shift.f
 repeat' first
   | (with_reducible exact ih0 _ _ _ _)
   | (with_reducible exact LeO.refl _)
   | (with_reducible exact LeO.none _)
   | (with_reducible refine LeO.ite ?_ ?_)
   | (with_reducible refine LeO.bind ?_ (fun _ => ?_))
   | exact ih0 _ _ _ _
   | exact LeO.none _
   | refine LeO.ite ?_ ?_
   | refine LeO.bind ?_ (fun _ => ?_)
set_option maxHeartbeats 8000000 in
set_option maxRecDepth 100000 in
theorem flag_Shift.calls (k : Nat) (a0 : Int) (a1 : Int) (a2 : Int) (r1 : Int) (r2 : Int) (w : World) (h : flag_Shift.f k a0 a1 a2 = some (r1, r2)) :
    Calls Tryd.prog 10 #[.int .u64 a0, .int .i64 a1, .int .i64 a2] w fun e w' => e = .returned (.tuple #[.int .u64 r1, .int .i64 r2]) ∧ Drawn0 w w' := by
 have H : (if a2 < 0 then (flag_Shift.j0 k a0 a1 a2 true) else (flag_Shift.j0 k a0 a1 a2 (decide (a2 ≥ 64)))) = some (r1, r2) := h
 clear h
 have HC4 := Aside0.mk H
 clear H
 go_enter Tryd.func10, Tryd.ntmps10
 go_upto_region 1 with (fail)
 go_cut [14] (fun v14 wc => ∃ (kq : Nat) (x14_3 : Bool), v14 = .bool x14_3 ∧ Aside0 (flag_Shift.j0 kq a0 a1 a2 x14_3 = some (r1, r2)) ∧ Aside0 (kq ≤ k) ∧ Drawn0 w wc)
 case first =>
  have H := HC4.out
  clear HC4
  (try (rw [drewN_self w]; have n0_ := fun n_ => pw_below_drewN HB.out n_; clear HB; generalize hq_ : World.drewN w _ = w; have HB := Aside0.mk (hq_ ▸ n0_ _); clear hq_ n0_))
  by_cases c5 : a2 < 0
  ·
   rw [if_pos c5] at H
   have c5b0 : decide (a2 < 0) = true := decide_eq_true c5
   clear c5
   (first | rw [c5b0] | (simp only [i64_w, i32_w]; rw [c5b0]) | skip)
   have H' := Aside0.mk H
   clear H
   go_wp2
   go_meet
   case rel => exact ⟨_, (true), (by first | rfl | (simp; done) | (simp [*]; done)), H', ⟨by first | omega | exact Nat.le_refl _⟩, by repeat (first | exact Drawn0.refl _ | apply Drawn0.step)⟩
  ·
   rw [if_neg c5] at H
   have c5b0 : decide (a2 < 0) = false := decide_eq_false c5
   clear c5
   (first | rw [c5b0] | (simp only [i64_w, i32_w]; rw [c5b0]) | skip)
   have H' := Aside0.mk H
   clear H
   go_wp2
   go_meet
   case rel => exact ⟨_, (decide (a2 ≥ 64)), (by first | rfl | (simp; done) | (simp [*]; done)), H', ⟨by first | omega | exact Nat.le_refl _⟩, by repeat (first | exact Drawn0.refl _ | apply Drawn0.step)⟩
 case rest =>
  clear HC4
  try clear c1
  try clear p2
  try clear c5
  try clear c5b0
  obtain ⟨kq, x14_3, rfl, HA, HJ3, ⟨mc3, rfl⟩⟩ := hcut
  cases kq with
  | zero => exact absurd HA.out (by simp [flag_Shift.j0])
  | succ kj3 =>
   have H := HA.out
   clear HA
   simp only [flag_Shift.j0] at H
   by_cases c6 : x14_3 = true
   ·
    subst c6
    have H1 : (some (0, 1)) = some (r1, r2) := by rw [if_pos rfl] at H; exact H
    clear H
    have H := H1
    clear H1
    simp only [Option.some.injEq, Prod.mk.injEq] at H
    obtain ⟨rfl, rfl⟩ := H
    go_wp2
    go_ret2
    exact ⟨by first | rfl | (simp; done) | (simp [*]; done), by repeat (first | exact Drawn0.refl _ | apply Drawn0.step)⟩
   ·
    replace c6 := Bool.eq_false_iff.mpr c6
    subst c6
    have H1 : (if a1 = 0 then (if 0 ≤ a2 then (some (shl .u64 a0 a2, 0)) else (none)) else (if a1 = 3 then (if 0 ≤ (wrap64 (64 - a2)) then (if 0 ≤ a2 then (some (Go.bits .or .u64 (shr .u64 a0 a2) (shl .u64 a0 (wrap64 (64 - a2))), 0)) else (none)) else (none)) else (if a1 = 1 then (if 0 ≤ a2 then (some (Go.bits .or .u64 (shr .u64 a0 a2) 0, 0)) else (none)) else (if a1 = 2 then (if 0 ≤ a2 then (some (IntKind.u64.wrap (shr .i64 (wrap64 (a0)) a2), 0)) else (none)) else (some (0, 1)))))) = some (r1, r2) := by rw [if_neg (show ¬ (false = true) by decide)] at H; exact H
    clear H
    have H := H1
    clear H1
    by_cases c7 : a1 = 0
    ·
     rw [if_pos c7] at H
     have c7b0 : (a1 == 0) = true := beq_iff_eq.mpr c7
     have c7b1 : (a1 != 0) = false := bne_eq_false_iff_eq.mpr c7
     clear c7
     by_cases c8 : 0 ≤ a2
     ·
      rw [if_pos c8] at H
      have c8b0 := eq_true c8
      have c8b1 : decide (0 ≤ a2) = true := decide_eq_true c8
      clear c8
      obtain ⟨ji9, hji9⟩ : ∃ j_ : Int, (shl .u64 a0 a2) = j_ := ⟨_, rfl⟩
      replace H : (some (ji9, 0)) = some (r1, r2) := by first | (rw [hji9] at H; exact H) | (simp only [hji9] at H ⊢; exact H)
      have hji9_ : (IntKind.u64.wrap (a0 * 2 ^ min a2.toNat 64)) = ji9 := hji9
      have hji9z : a2 ≤ 64 → (IntKind.u64.wrap (a0 * 2 ^ a2.toNat)) = ji9 := shl_small hji9
      simp only [Option.some.injEq, Prod.mk.injEq] at H
      obtain ⟨rfl, rfl⟩ := H
      go_wp2
      go_ret2
      exact ⟨by first | rfl | (simp; done) | (simp only [← hji9] <;> (first | rfl | simp)) | (simp [*]; done), by repeat (first | exact Drawn0.refl _ | apply Drawn0.step)⟩
     ·
      rw [if_neg c8] at H
      exact absurd H (by simp)
    ·
     rw [if_neg c7] at H
     have c7b0 : (a1 == 0) = false := beq_eq_false_iff_ne.mpr c7
     have c7b1 : (a1 != 0) = true := bne_iff_ne.mpr c7
     by_cases c10 : a1 = 3
     ·
      rw [if_pos c10] at H
      have c10b0 : (a1 == 3) = true := beq_iff_eq.mpr c10
      have c10b1 : (a1 != 3) = false := bne_eq_false_iff_eq.mpr c10
      clear c10
      obtain ⟨ji11, hji11⟩ : ∃ j_ : Int, (wrap64 (64 - a2)) = j_ := ⟨_, rfl⟩
      replace H : (if 0 ≤ (ji11) then (if 0 ≤ a2 then (some (Go.bits .or .u64 (shr .u64 a0 a2) (shl .u64 a0 (ji11)), 0)) else (none)) else (none)) = some (r1, r2) := by first | (rw [hji11] at H; exact H) | (simp only [hji11] at H ⊢; exact H)
      have hji11w : (IntKind.i64.wrap (64 - a2)) = ji11 := (i64_w _).trans hji11
      by_cases c12 : 0 ≤ (ji11)
      ·
       rw [if_pos c12] at H
       have c12b0 := eq_true c12
       have c12b1 : decide (0 ≤ (ji11)) = true := decide_eq_true c12
       clear c12
       obtain ⟨ji13, hji13⟩ : ∃ j_ : Int, (shl .u64 a0 (ji11)) = j_ := ⟨_, rfl⟩
       replace H : (if 0 ≤ a2 then (some (Go.bits .or .u64 (shr .u64 a0 a2) (ji13), 0)) else (none)) = some (r1, r2) := by first | (rw [hji13] at H; exact H) | (simp only [hji13] at H ⊢; exact H)
       have hji13_ : (IntKind.u64.wrap (a0 * 2 ^ min (ji11).toNat 64)) = ji13 := hji13
       have hji13z : (ji11) ≤ 64 → (IntKind.u64.wrap (a0 * 2 ^ (ji11).toNat)) = ji13 := shl_small hji13
       by_cases c14 : 0 ≤ a2
       ·
        rw [if_pos c14] at H
        have c14b0 := eq_true c14
        have c14b1 : decide (0 ≤ a2) = true := decide_eq_true c14
        clear c14
        obtain ⟨ji15, hji15⟩ : ∃ j_ : Int, (shr .u64 a0 a2) = j_ := ⟨_, rfl⟩
        replace H : (some (Go.bits .or .u64 (ji15) (ji13), 0)) = some (r1, r2) := by first | (rw [hji15] at H; exact H) | (simp only [hji15] at H ⊢; exact H)
        have hji15_ : (a0 / 2 ^ min a2.toNat 64) = ji15 := hji15
        have hji15z : a2 ≤ 64 → (a0 / 2 ^ a2.toNat) = ji15 := shr_small hji15
        simp only [Option.some.injEq, Prod.mk.injEq] at H
        obtain ⟨rfl, rfl⟩ := H
        go_wp2
        go_ret2
        exact ⟨by first | rfl | (simp; done) | (simp only [← hji11, ← hji13, ← hji15] <;> (first | rfl | simp)) | (simp [*]; done), by repeat (first | exact Drawn0.refl _ | apply Drawn0.step)⟩
       ·
        rw [if_neg c14] at H
        exact absurd H (by simp)
      ·
       rw [if_neg c12] at H
       exact absurd H (by simp)
     ·
      rw [if_neg c10] at H
      have c10b0 : (a1 == 3) = false := beq_eq_false_iff_ne.mpr c10
      have c10b1 : (a1 != 3) = true := bne_iff_ne.mpr c10
      by_cases c16 : a1 = 1
      ·
       rw [if_pos c16] at H
       have c16b0 : (a1 == 1) = true := beq_iff_eq.mpr c16
       have c16b1 : (a1 != 1) = false := bne_eq_false_iff_eq.mpr c16
       clear c16
       by_cases c17 : 0 ≤ a2
       ·
        rw [if_pos c17] at H
        have c17b0 := eq_true c17
        have c17b1 : decide (0 ≤ a2) = true := decide_eq_true c17
        clear c17
        obtain ⟨ji18, hji18⟩ : ∃ j_ : Int, (shr .u64 a0 a2) = j_ := ⟨_, rfl⟩
        replace H : (some (Go.bits .or .u64 (ji18) 0, 0)) = some (r1, r2) := by first | (rw [hji18] at H; exact H) | (simp only [hji18] at H ⊢; exact H)
        have hji18_ : (a0 / 2 ^ min a2.toNat 64) = ji18 := hji18
        have hji18z : a2 ≤ 64 → (a0 / 2 ^ a2.toNat) = ji18 := shr_small hji18
        simp only [Option.some.injEq, Prod.mk.injEq] at H
        obtain ⟨rfl, rfl⟩ := H
        go_wp2
        go_ret2
        exact ⟨by first | rfl | (simp; done) | (simp only [← hji18] <;> (first | rfl | simp)) | (simp [*]; done), by repeat (first | exact Drawn0.refl _ | apply Drawn0.step)⟩
       ·
        rw [if_neg c17] at H
        exact absurd H (by simp)
      ·
       rw [if_neg c16] at H
       have c16b0 : (a1 == 1) = false := beq_eq_false_iff_ne.mpr c16
       have c16b1 : (a1 != 1) = true := bne_iff_ne.mpr c16
       by_cases c19 : a1 = 2
       ·
        rw [if_pos c19] at H
        have c19b0 : (a1 == 2) = true := beq_iff_eq.mpr c19
        have c19b1 : (a1 != 2) = false := bne_eq_false_iff_eq.mpr c19
        clear c19
        by_cases c20 : 0 ≤ a2
        ·
         rw [if_pos c20] at H
         have c20b0 := eq_true c20
         have c20b1 : decide (0 ≤ a2) = true := decide_eq_true c20
         clear c20
         obtain ⟨ji21, hji21⟩ : ∃ j_ : Int, (shr .i64 (wrap64 (a0)) a2) = j_ := ⟨_, rfl⟩
         replace H : (some (IntKind.u64.wrap (ji21), 0)) = some (r1, r2) := by first | (rw [hji21] at H; exact H) | (simp only [hji21] at H ⊢; exact H)
         have hji21_ : ((wrap64 (a0)) / 2 ^ min a2.toNat 64) = ji21 := hji21
         have hji21z : a2 ≤ 64 → ((wrap64 (a0)) / 2 ^ a2.toNat) = ji21 := shr_small hji21
         simp only [Option.some.injEq, Prod.mk.injEq] at H
         obtain ⟨rfl, rfl⟩ := H
         go_wp2
         go_ret2
         exact ⟨by first | rfl | (simp; done) | (simp only [← hji21] <;> (first | rfl | simp)) | (simp [*]; done), by repeat (first | exact Drawn0.refl _ | apply Drawn0.step)⟩
        ·
         rw [if_neg c20] at H
         exact absurd H (by simp)
       ·
        rw [if_neg c19] at H
        have c19b0 : (a1 == 2) = false := beq_eq_false_iff_ne.mpr c19
        have c19b1 : (a1 != 2) = true := bne_iff_ne.mpr c19
        simp only [Option.some.injEq, Prod.mk.injEq] at H
        obtain ⟨rfl, rfl⟩ := H
        go_wp2
        go_ret2
        exact ⟨by first | rfl | (simp; done) | (simp [*]; done), by repeat (first | exact Drawn0.refl _ | apply Drawn0.step)⟩

/-! ### alu_worker_v: function 39 -/
theorem al2_last (w : World) (o1 o2 : Obj) : ((w.alloc o1).alloc o2).heap[w.heap.size + 1]? = some o2 := by
  have e : w.heap.size + 1 = (w.alloc o1).heap.size := by show _ = (w.heap.push o1).size; rw [Array.size_push]
  rw [e]
  exact heap_last_ (w.alloc o1) o2
theorem al_lt (w : World) (o : Obj) : w.heap.size < (w.alloc o).heap.size := by
  show w.heap.size < (w.heap.push o).size
  rw [Array.size_push]; exact Nat.lt_succ_self _
theorem al2_lt (w : World) (o1 o2 : Obj) : w.heap.size + 1 < ((w.alloc o1).alloc o2).heap.size := by
  show _ < ((w.heap.push o1).push o2).size
  rw [Array.size_push, Array.size_push]; exact Nat.lt_succ_self _
/-- What a second number is told by. -/
def ofV (s imm mask m shift amount : Int) : Value := if s = 1 ∨ s = 2 then .iface 80 (.agg #[.int .u64 (IntKind.u64.wrap imm), .int .i64 0, .int .i64 amount]) else if s = 3 then .iface 78 (.int .u64 mask) else .iface 80 (.agg #[.int .u64 m, .int .i64 shift, .int .i64 amount])
set_option maxHeartbeats 4000000 in
theorem alu_of.calls (i0 i1 i2 i3 i4 i5 i6 i7 i8 i9 x0 x1 x2 x3 s : Int) (w : World) (h : inst_Shape.f i0 = some s) :
    Calls Tryd.prog 45 #[.agg #[.int .i64 i0, .int .i64 i1, .int .i64 i2, .int .i64 i3, .int .i64 i4, .int .i64 i5, .int .u64 i6, .int .i64 i7, .int .i64 i8, .int .i64 i9], .agg #[.int .u64 x0, .int .u64 x1, .int .u64 x2, .int .u64 x3]] w fun e w' => e = .returned (ofV s i5 i6 x2 i7 i8) ∧ Below w.heap.size w w' := by
  have H := Aside0.mk h
  clear h
  by_cases c1 : s = 1
  · subst c1
    go_enter Tryd.func45, Tryd.ntmps45
    go_wp2_with (first | (go_at_call 33; refine (inst_Shape.calls _ _ _ H.out).mono ?_; rintro e w1 ⟨rfl, hb1⟩; have bkA := (hb1.block w.heap.size (Nat.lt_trans (al_lt w _) (al_lt _ _))).trans (blk_alloc (heap_last_ w _) _); have bkB := (hb1.block (w.heap.size + 1) (al2_lt w _ _)).trans (al2_last w _ _); have HB := Aside0.mk (below_step (below_alloc (below_alloc (Below.refl _ _) _) _) hb1); obtain ⟨a0, a1, a2, a3, a4, a5, a6, a7, a8, a9⟩ := cells10_ bkA; obtain ⟨b0, b1, b2, b3⟩ := cells4_ bkB; clear hb1 bkA bkB))
    go_ret
    exact ⟨rfl, HB.out⟩
  · by_cases c2 : s = 2
    · subst c2
      go_enter Tryd.func45, Tryd.ntmps45
      go_wp2_with (first | (go_at_call 33; refine (inst_Shape.calls _ _ _ H.out).mono ?_; rintro e w1 ⟨rfl, hb1⟩; have bkA := (hb1.block w.heap.size (Nat.lt_trans (al_lt w _) (al_lt _ _))).trans (blk_alloc (heap_last_ w _) _); have bkB := (hb1.block (w.heap.size + 1) (al2_lt w _ _)).trans (al2_last w _ _); have HB := Aside0.mk (below_step (below_alloc (below_alloc (Below.refl _ _) _) _) hb1); obtain ⟨a0, a1, a2, a3, a4, a5, a6, a7, a8, a9⟩ := cells10_ bkA; obtain ⟨b0, b1, b2, b3⟩ := cells4_ bkB; clear hb1 bkA bkB))
      go_ret
      exact ⟨rfl, HB.out⟩
    · by_cases c3 : s = 3
      · subst c3
        go_enter Tryd.func45, Tryd.ntmps45
        go_wp2_with (first | (go_at_call 33; refine (inst_Shape.calls _ _ _ H.out).mono ?_; rintro e w1 ⟨rfl, hb1⟩; have bkA := (hb1.block w.heap.size (Nat.lt_trans (al_lt w _) (al_lt _ _))).trans (blk_alloc (heap_last_ w _) _); have bkB := (hb1.block (w.heap.size + 1) (al2_lt w _ _)).trans (al2_last w _ _); have HB := Aside0.mk (below_step (below_alloc (below_alloc (Below.refl _ _) _) _) hb1); obtain ⟨a0, a1, a2, a3, a4, a5, a6, a7, a8, a9⟩ := cells10_ bkA; obtain ⟨b0, b1, b2, b3⟩ := cells4_ bkB; clear hb1 bkA bkB))
        go_ret
        exact ⟨rfl, HB.out⟩
      · have e : ofV s i5 i6 x2 i7 i8 = .iface 80 (.agg #[.int .u64 x2, .int .i64 i7, .int .i64 i8]) := by unfold ofV; rw [if_neg (by omega), if_neg c3]
        rw [e]
        have d1 : (s == 1) = false := by simpa using c1
        have d2 : (s == 2) = false := by simpa using c2
        have d3 : (s == 3) = false := by simpa using c3
        go_enter Tryd.func45, Tryd.ntmps45
        go_wp2_with (first | (go_at_call 33; refine (inst_Shape.calls _ _ _ H.out).mono ?_; rintro e w1 ⟨rfl, hb1⟩; have bkA := (hb1.block w.heap.size (Nat.lt_trans (al_lt w _) (al_lt _ _))).trans (blk_alloc (heap_last_ w _) _); have bkB := (hb1.block (w.heap.size + 1) (al2_lt w _ _)).trans (al2_last w _ _); have HB := Aside0.mk (below_step (below_alloc (below_alloc (Below.refl _ _) _) _) hb1); obtain ⟨a0, a1, a2, a3, a4, a5, a6, a7, a8, a9⟩ := cells10_ bkA; obtain ⟨b0, b1, b2, b3⟩ := cells4_ bkB; clear hb1 bkA bkB))
        go_ret
        exact ⟨rfl, HB.out⟩
theorem run_ta1 (W : World) (v : Value) : Sem.run Tryd.prog (Instr.typeAssert (.iface 80 v) 76 78 true) W = .ok (.tuple #[.int .u64 0, .bool false]) W := by kernel_rfl
theorem run_ta2 (W : World) (v : Value) : Sem.run Tryd.prog (Instr.typeAssert (.iface 80 v) 76 80 true) W = .ok (.tuple #[v, .bool true]) W := by kernel_rfl
theorem run_ta3 (W : World) (v : Value) : Sem.run Tryd.prog (Instr.typeAssert (.iface 78 v) 76 78 true) W = .ok (.tuple #[v, .bool true]) W := by kernel_rfl
def alu_worker_v.f (k : Nat) (i0 i1 i2 i3 i4 i5 i6 i7 i8 i9 x0 x1 x2 x3 : Int) (f0 f1 f2 f3 : Bool) : Option Int :=
  (inst_Shape.f i0).bind fun s => if s = 1 ∨ s = 2 then (flag_Shift.f k (IntKind.u64.wrap i5) 0 i8).bind fun p => some p.1 else if s = 3 then some i6 else (flag_Shift.f k x2 i7 i8).bind fun p => some p.1
theorem alu_worker_v.mono : ∀ i0 i1 i2 i3 i4 i5 i6 i7 i8 i9 x0 x1 x2 x3 f0 f1 f2 f3 k, LeO (alu_worker_v.f k i0 i1 i2 i3 i4 i5 i6 i7 i8 i9 x0 x1 x2 x3 f0 f1 f2 f3) (alu_worker_v.f (k + 1) i0 i1 i2 i3 i4 i5 i6 i7 i8 i9 x0 x1 x2 x3 f0 f1 f2 f3) := by
  intro i0 i1 i2 i3 i4 i5 i6 i7 i8 i9 x0 x1 x2 x3 f0 f1 f2 f3 k
  unfold alu_worker_v.f
  exact LeO.bind (LeO.refl _) (fun s => LeO.ite (LeO.bind (flag_Shift.mono _ _ _ _) (fun _ => LeO.refl _)) (LeO.ite (LeO.refl _) (LeO.bind (flag_Shift.mono _ _ _ _) (fun _ => LeO.refl _))))
set_option maxHeartbeats 8000000 in
theorem alu_worker_v.calls (k : Nat) (i0 i1 i2 i3 i4 i5 i6 i7 i8 i9 x0 x1 x2 x3 : Int) (f0 f1 f2 f3 : Bool) (r : Int) (w : World) (h : alu_worker_v.f k i0 i1 i2 i3 i4 i5 i6 i7 i8 i9 x0 x1 x2 x3 f0 f1 f2 f3 = some r) :
    Calls Tryd.prog 39 #[.agg #[.int .i64 i0, .int .i64 i1, .int .i64 i2, .int .i64 i3, .int .i64 i4, .int .i64 i5, .int .u64 i6, .int .i64 i7, .int .i64 i8, .int .i64 i9, .int .u64 x0, .int .u64 x1, .int .u64 x2, .int .u64 x3, .bool f0, .bool f1, .bool f2, .bool f3]] w fun e w' => e = .returned (.int .u64 r) ∧ Below w.heap.size w w' := by
  unfold alu_worker_v.f at h
  obtain ⟨s, hs, h⟩ := Option.bind_eq_some_iff.mp h
  have HS := Aside0.mk hs
  clear hs
  by_cases c1 : s = 1 ∨ s = 2
  · rw [if_pos c1] at h
    obtain ⟨⟨p1, p2⟩, hp, h⟩ := Option.bind_eq_some_iff.mp h
    obtain rfl := Option.some.inj h
    have HP := Aside0.mk hp
    have e : ofV s i5 i6 x2 i7 i8 = .iface 80 (.agg #[.int .u64 (IntKind.u64.wrap i5), .int .i64 0, .int .i64 i8]) := if_pos c1
    have E := Aside0.mk e
    clear hp h e
    have ta1 := run_ta1
    have ta2 := run_ta2
    go_enter Tryd.func39, Tryd.ntmps39
    go_wp2_with (first | (go_at_call 45; refine (alu_of.calls _ _ _ _ _ _ _ _ _ _ _ _ _ _ _ _ HS.out).mono ?_; rw [E.out]; rintro e w1 ⟨rfl, hb1⟩; have HB := Aside0.mk (below_step (below_alloc (Below.refl _ _) _) hb1); clear hb1) | (go_at_call 10; refine (flag_Shift.calls _ _ _ _ _ _ _ HP.out).mono ?_; rintro e w2 ⟨rfl, ⟨n2, rfl⟩⟩))
    go_ret
    exact ⟨rfl, below_step HB.out (pw_below_drewN (below_alloc (Below.refl _ _) _) _)⟩
  · rw [if_neg c1] at h
    by_cases c3 : s = 3
    · subst c3
      rw [if_pos rfl] at h
      obtain rfl := Option.some.inj h
      have e : ofV 3 i5 i6 x2 i7 i8 = .iface 78 (.int .u64 i6) := rfl
      have E := Aside0.mk e
      clear h e
      have ta3 := run_ta3
      go_enter Tryd.func39, Tryd.ntmps39
      go_wp2_with (first | (go_at_call 45; refine (alu_of.calls _ _ _ _ _ _ _ _ _ _ _ _ _ _ _ _ HS.out).mono ?_; rw [E.out]; rintro e w1 ⟨rfl, hb1⟩; have HB := Aside0.mk (below_step (below_alloc (Below.refl _ _) _) hb1); clear hb1) | (go_at_call 10; refine (flag_Shift.calls _ _ _ _ _ _ _ HP.out).mono ?_; rintro e w2 ⟨rfl, ⟨n2, rfl⟩⟩))
      go_ret
      exact ⟨rfl, HB.out⟩
    · rw [if_neg c3] at h
      obtain ⟨⟨p1, p2⟩, hp, h⟩ := Option.bind_eq_some_iff.mp h
      obtain rfl := Option.some.inj h
      have HP := Aside0.mk hp
      have e : ofV s i5 i6 x2 i7 i8 = .iface 80 (.agg #[.int .u64 x2, .int .i64 i7, .int .i64 i8]) := by unfold ofV; rw [if_neg c1, if_neg c3]
      have E := Aside0.mk e
      clear hp h e
      have ta1 := run_ta1
      have ta2 := run_ta2
      go_enter Tryd.func39, Tryd.ntmps39
      go_wp2_with (first | (go_at_call 45; refine (alu_of.calls _ _ _ _ _ _ _ _ _ _ _ _ _ _ _ _ HS.out).mono ?_; rw [E.out]; rintro e w1 ⟨rfl, hb1⟩; have HB := Aside0.mk (below_step (below_alloc (Below.refl _ _) _) hb1); clear hb1) | (go_at_call 10; refine (flag_Shift.calls _ _ _ _ _ _ _ HP.out).mono ?_; rintro e w2 ⟨rfl, ⟨n2, rfl⟩⟩))
      go_ret
      exact ⟨rfl, below_step HB.out (pw_below_drewN (below_alloc (Below.refl _ _) _) _)⟩

/-! ### alu_worker_put: function 19 -/
def alu_worker_put.f (k : Nat) (a0_0 : Int) (a0_1 : Int) (a0_2 : Int) (a0_3 : Int) (a0_4 : Int) (a0_5 : Int) (a0_6 : Int) (a0_7 : Int) (a0_8 : Int) (a0_9 : Int) (a0_10 : Int) (a0_11 : Int) (a0_12 : Int) (a0_13 : Int) (a0_14 : Bool) (a0_15 : Bool) (a0_16 : Bool) (a0_17 : Bool) : Option (Int × Bool × Bool × Bool × Bool) := (alu_worker_v.f k a0_0 a0_1 a0_2 a0_3 a0_4 a0_5 a0_6 a0_7 a0_8 a0_9 a0_10 a0_11 a0_12 a0_13 a0_14 a0_15 a0_16 a0_17).bind fun t103 => (some (t103, a0_14, a0_15, a0_16, a0_17))
theorem alu_worker_put.mono : ∀ a0 a1 a2 a3 a4 a5 a6 a7 a8 a9 a10 a11 a12 a13 a14 a15 a16 a17 k, LeO (alu_worker_put.f k a0 a1 a2 a3 a4 a5 a6 a7 a8 a9 a10 a11 a12 a13 a14 a15 a16 a17) (alu_worker_put.f (k + 1) a0 a1 a2 a3 a4 a5 a6 a7 a8 a9 a10 a11 a12 a13 a14 a15 a16 a17) := by
 intro a0 a1 a2 a3 a4 a5 a6 a7 a8 a9 a10 a11 a12 a13 a14 a15 a16 a17 k
 unfold alu_worker_put.f
 repeat' first
   | (with_reducible exact alu_worker_v.mono _ _ _ _ _ _ _ _ _ _ _ _ _ _ _ _ _ _ _)
   | (with_reducible exact LeO.refl _)
   | (with_reducible exact LeO.none _)
   | (with_reducible refine LeO.ite ?_ ?_)
   | (with_reducible refine LeO.bind ?_ (fun _ => ?_))
   | exact alu_worker_v.mono _ _ _ _ _ _ _ _ _ _ _ _ _ _ _ _ _ _ _
   | exact LeO.none _
   | refine LeO.ite ?_ ?_
   | refine LeO.bind ?_ (fun _ => ?_)
set_option maxHeartbeats 8000000 in
set_option maxRecDepth 100000 in
theorem alu_worker_put.calls (k : Nat) (a0_0 : Int) (a0_1 : Int) (a0_2 : Int) (a0_3 : Int) (a0_4 : Int) (a0_5 : Int) (a0_6 : Int) (a0_7 : Int) (a0_8 : Int) (a0_9 : Int) (a0_10 : Int) (a0_11 : Int) (a0_12 : Int) (a0_13 : Int) (a0_14 : Bool) (a0_15 : Bool) (a0_16 : Bool) (a0_17 : Bool) (r1 : Int) (r2 : Bool) (r3 : Bool) (r4 : Bool) (r5 : Bool) (w : World) (h : alu_worker_put.f k a0_0 a0_1 a0_2 a0_3 a0_4 a0_5 a0_6 a0_7 a0_8 a0_9 a0_10 a0_11 a0_12 a0_13 a0_14 a0_15 a0_16 a0_17 = some (r1, r2, r3, r4, r5)) :
    Calls Tryd.prog 19 #[.agg #[.int .i64 a0_0, .int .i64 a0_1, .int .i64 a0_2, .int .i64 a0_3, .int .i64 a0_4, .int .i64 a0_5, .int .u64 a0_6, .int .i64 a0_7, .int .i64 a0_8, .int .i64 a0_9, .int .u64 a0_10, .int .u64 a0_11, .int .u64 a0_12, .int .u64 a0_13, .bool a0_14, .bool a0_15, .bool a0_16, .bool a0_17]] w fun e w' => e = .returned (.tuple #[.int .u64 r1, .agg #[.bool r2, .bool r3, .bool r4, .bool r5]]) ∧ Below w.heap.size w w' := by
 have hu49 := Tryd.underlying49
 have hu35 := Tryd.underlying35
 have HB := Aside0.mk (Below.refl w.heap.size w)
 have H : ((alu_worker_v.f k a0_0 a0_1 a0_2 a0_3 a0_4 a0_5 a0_6 a0_7 a0_8 a0_9 a0_10 a0_11 a0_12 a0_13 a0_14 a0_15 a0_16 a0_17).bind fun t103 => (some (t103, a0_14, a0_15, a0_16, a0_17))) = some (r1, r2, r3, r4, r5) := h
 clear h
 replace H := Option.bind_eq_some_iff.mp H
 obtain ⟨t103, A20, H⟩ := H
 replace H : (some (t103, a0_14, a0_15, a0_16, a0_17)) = some (r1, r2, r3, r4, r5) := H
 have A2 := Aside0.mk A20
 clear A20
 simp only [Option.some.injEq, Prod.mk.injEq] at H
 obtain ⟨rfl, rfl, rfl, rfl, rfl⟩ := H
 go_enter Tryd.func19, Tryd.ntmps19
 try go_wp2_with (first | ((with_reducible refine gate_dst (N := 1) rfl ?_); refine box_event ?hg (N := 1) ?hd (cs := #[.int .i64 a0_0, .int .i64 a0_1, .int .i64 a0_2, .int .i64 a0_3, .int .i64 a0_4, .int .i64 a0_5, .int .u64 a0_6, .int .i64 a0_7, .int .i64 a0_8, .int .i64 a0_9, .int .u64 a0_10, .int .u64 a0_11, .int .u64 a0_12, .int .u64 a0_13, .bool a0_14, .bool a0_15, .bool a0_16, .bool a0_17]) (t := 49) ?hr ?_; (case hd => rfl); (case hg => rfl); (case hr => first | (go_simp; done) | (go_simp; rfl)); intro gb101 hg w3 hbox hb; have n0_ := Aside0.mk (below_step (by repeat (first | (with_reducible first | exact HB.out | apply below_alloc | apply pw_below_drewN | apply below_drew1) | exact HB.out)) hb); have n1_ := Aside0.mk (hbox); have n2_ := Aside0.mk ((by rw [hg]; exact (below_size (by repeat (first | (with_reducible first | exact HB.out | apply below_alloc | apply pw_below_drewN | apply below_drew1) | exact HB.out))) : w.heap.size ≤ gb101)); have n3_ := Aside0.mk ((by rw [hg]; exact (below_size (by repeat (first | (with_reducible first | exact HB.out | apply below_alloc | apply pw_below_drewN | apply below_drew1) | exact HB.out))) : w.heap.size ≤ gb101)); clear HB; have HB := n0_; have BK101 := n1_; have GW101 := n2_; have GE101 := n3_; clear n0_ n1_ n2_ n3_; clear hb hbox hg) | ((with_reducible refine gate_dst (N := 3) rfl ?_); refine box_event ?hg (N := 3) ?hd (cs := #[.bool false, .bool false, .bool false, .bool false]) (t := 35) ?hr ?_; (case hd => rfl); (case hg => rfl); (case hr => first | (go_simp; done) | (go_simp; rfl)); intro gb102 hg w4 hbox hb; have n0_ := Aside0.mk (blk_below (g := gb101) (o := .cells #[.int .i64 a0_0, .int .i64 a0_1, .int .i64 a0_2, .int .i64 a0_3, .int .i64 a0_4, .int .i64 a0_5, .int .u64 a0_6, .int .i64 a0_7, .int .i64 a0_8, .int .i64 a0_9, .int .u64 a0_10, .int .u64 a0_11, .int .u64 a0_12, .int .u64 a0_13, .bool a0_14, .bool a0_15, .bool a0_16, .bool a0_17] 49 (0, 0)) (by (with_reducible repeat (first | refine blk_drewN ?_ _ | refine blk_drew ?_ | refine blk_alloc ?_ _)); exact BK101.out) hb); have n1_ := Aside0.mk (below_step (by repeat (first | (with_reducible first | exact HB.out | apply below_alloc | apply pw_below_drewN | apply below_drew1 | refine below_set ?_ GE101.out) | exact HB.out)) hb); have n2_ := Aside0.mk (hbox); have n3_ := Aside0.mk ((by rw [hg]; exact (below_size (by repeat (first | (with_reducible first | exact HB.out | apply below_alloc | apply pw_below_drewN | apply below_drew1 | refine below_set ?_ GE101.out) | exact HB.out))) : w.heap.size ≤ gb102)); have n4_ := Aside0.mk ((by rw [hg]; exact (below_size (by repeat (first | (with_reducible first | exact HB.out | apply below_alloc | apply pw_below_drewN | apply below_drew1 | refine below_set ?_ GE101.out) | exact HB.out))) : w.heap.size ≤ gb102)); have n5_ := Aside0.mk ((by rw [hg]; exact Nat.ne_of_lt (blk_lt (g := gb101) (o := .cells #[.int .i64 a0_0, .int .i64 a0_1, .int .i64 a0_2, .int .i64 a0_3, .int .i64 a0_4, .int .i64 a0_5, .int .u64 a0_6, .int .i64 a0_7, .int .i64 a0_8, .int .i64 a0_9, .int .u64 a0_10, .int .u64 a0_11, .int .u64 a0_12, .int .u64 a0_13, .bool a0_14, .bool a0_15, .bool a0_16, .bool a0_17] 49 (0, 0)) (by (with_reducible repeat (first | refine blk_drewN ?_ _ | refine blk_drew ?_ | refine blk_alloc ?_ _)); exact BK101.out)) : gb101 ≠ gb102)); have n6_ := Aside0.mk ((by rw [hg]; exact Nat.ne_of_gt (blk_lt (g := gb101) (o := .cells #[.int .i64 a0_0, .int .i64 a0_1, .int .i64 a0_2, .int .i64 a0_3, .int .i64 a0_4, .int .i64 a0_5, .int .u64 a0_6, .int .i64 a0_7, .int .i64 a0_8, .int .i64 a0_9, .int .u64 a0_10, .int .u64 a0_11, .int .u64 a0_12, .int .u64 a0_13, .bool a0_14, .bool a0_15, .bool a0_16, .bool a0_17] 49 (0, 0)) (by (with_reducible repeat (first | refine blk_drewN ?_ _ | refine blk_drew ?_ | refine blk_alloc ?_ _)); exact BK101.out)) : gb102 ≠ gb101)); clear BK101; clear HB; have BK101 := n0_; have HB := n1_; have BK102 := n2_; have GW102 := n3_; have GE102 := n4_; have NB101_102 := n5_; have NB102_101 := n6_; clear n0_ n1_ n2_ n3_ n4_ n5_ n6_; clear hb hbox hg))
 have n0_ := Aside0.mk (blk_drew BK101.out)
 have n1_ := Aside0.mk (blk_drew BK102.out)
 have n2_ := Aside0.mk (below_drew1 HB.out)
 clear BK101
 clear BK102
 clear HB
 have BK101 := n0_
 have BK102 := n1_
 have HB := n2_
 clear n0_ n1_ n2_
 refine start_ (n := 6) (S := fun w' => w'.cell? ⟨gb101, 0, none⟩ = some (.int .i64 a0_0) ∧ w'.cell? ⟨gb101, 1, none⟩ = some (.int .i64 a0_1) ∧ w'.cell? ⟨gb101, 2, none⟩ = some (.int .i64 a0_2) ∧ w'.cell? ⟨gb101, 3, none⟩ = some (.int .i64 a0_3) ∧ w'.cell? ⟨gb101, 4, none⟩ = some (.int .i64 a0_4) ∧ w'.cell? ⟨gb101, 5, none⟩ = some (.int .i64 a0_5) ∧ w'.cell? ⟨gb101, 6, none⟩ = some (.int .u64 a0_6) ∧ w'.cell? ⟨gb101, 7, none⟩ = some (.int .i64 a0_7) ∧ w'.cell? ⟨gb101, 8, none⟩ = some (.int .i64 a0_8) ∧ w'.cell? ⟨gb101, 9, none⟩ = some (.int .i64 a0_9) ∧ w'.cell? ⟨gb101, 10, none⟩ = some (.int .u64 a0_10) ∧ w'.cell? ⟨gb101, 11, none⟩ = some (.int .u64 a0_11) ∧ w'.cell? ⟨gb101, 12, none⟩ = some (.int .u64 a0_12) ∧ w'.cell? ⟨gb101, 13, none⟩ = some (.int .u64 a0_13) ∧ w'.cell? ⟨gb101, 14, none⟩ = some (.bool a0_14) ∧ w'.cell? ⟨gb101, 15, none⟩ = some (.bool a0_15) ∧ w'.cell? ⟨gb101, 16, none⟩ = some (.bool a0_16) ∧ w'.cell? ⟨gb101, 17, none⟩ = some (.bool a0_17)) (ds := []) #[false, false, false, false, false, false] (by kernel_rfl) rfl rfl ⟨(blk_cell BK101.out 0).trans rfl, (blk_cell BK101.out 1).trans rfl, (blk_cell BK101.out 2).trans rfl, (blk_cell BK101.out 3).trans rfl, (blk_cell BK101.out 4).trans rfl, (blk_cell BK101.out 5).trans rfl, (blk_cell BK101.out 6).trans rfl, (blk_cell BK101.out 7).trans rfl, (blk_cell BK101.out 8).trans rfl, (blk_cell BK101.out 9).trans rfl, (blk_cell BK101.out 10).trans rfl, (blk_cell BK101.out 11).trans rfl, (blk_cell BK101.out 12).trans rfl, (blk_cell BK101.out 13).trans rfl, (blk_cell BK101.out 14).trans rfl, (blk_cell BK101.out 15).trans rfl, (blk_cell BK101.out 16).trans rfl, (blk_cell BK101.out 17).trans rfl⟩ (fun hHeld => ?_)
 generalize w4.drew = w5 at BK101 BK102 HB hHeld ⊢
 refine pure_ (i := 2) (N := some 6) (v := ?_) (a' := ?_) #[false, false, true, false, false, false] rfl rfl (by kernel_rfl) (fun _ _ _ h => h) (Or.inl ⟨by rfl, ?_⟩) ?_ ?_
 rotate_left
 · intro w'; go_simp; with_reducible rfl
 rotate_left
 · simp only [qa_, qb_, qc_, qd_, i64_w, i32_w]; rfl
 refine take_ (i := 0) (N := some 4) (v := ?_) (a' := ?_) #[true, false, true, false, false, false] rfl rfl (by kernel_rfl) (fun _ _ _ h => h) (Or.inl ⟨by rfl, ?_⟩) hHeld ?_ ?_
 rotate_left
 · rintro w' ⟨s0, s1, s2, s3, s4, s5, s6, s7, s8, s9, s10, s11, s12, s13, s14, s15, s16, s17⟩; go_simp; with_reducible rfl
 rotate_left
 · simp only [qa_, qb_, qc_, qd_, i64_w, i32_w]; rfl
 refine take_ (i := 3) (N := some 7) (v := ?_) (a' := ?_) #[true, false, true, true, false, false] rfl rfl (by kernel_rfl) (fun _ _ _ h => h) (Or.inl ⟨by rfl, ?_⟩) hHeld ?_ ?_
 rotate_left
 · rintro w' ⟨s0, s1, s2, s3, s4, s5, s6, s7, s8, s9, s10, s11, s12, s13, s14, s15, s16, s17⟩; go_simp; with_reducible rfl
 rotate_left
 · simp only [qa_, qb_, qc_, qd_, i64_w, i32_w]; rfl
 refine one_ (i := 1) (N := some 5) #[true, true, true, true, false, false] rfl rfl (by kernel_rfl) (by decide) (fun K hK => ?_)
 refine goes_ Tryd.func39 (by kernel_rfl) rfl #[.agg #[.int .i64 a0_0, .int .i64 a0_1, .int .i64 a0_2, .int .i64 a0_3, .int .i64 a0_4, .int .i64 a0_5, .int .u64 a0_6, .int .i64 a0_7, .int .i64 a0_8, .int .i64 a0_9, .int .u64 a0_10, .int .u64 a0_11, .int .u64 a0_12, .int .u64 a0_13, .bool a0_14, .bool a0_15, .bool a0_16, .bool a0_17]] (by rfl) rfl rfl (by (try simp only [List.map_toArray, List.map_cons, List.map_nil]); first | done | rfl | (simp only [List.length_drop, List.length_take]; rfl)) ?_
 with_reducible refine (alu_worker_v.calls k a0_0 a0_1 a0_2 a0_3 a0_4 a0_5 a0_6 a0_7 a0_8 a0_9 a0_10 a0_11 a0_12 a0_13 a0_14 a0_15 a0_16 a0_17 t103 _ A2.out).mono ?_
 rintro e w6 ⟨rfl, hb⟩
 refine ⟨_, rfl, ?_⟩
 have n0_ := Aside0.mk (blk_below (g := gb101) (o := .cells #[.int .i64 a0_0, .int .i64 a0_1, .int .i64 a0_2, .int .i64 a0_3, .int .i64 a0_4, .int .i64 a0_5, .int .u64 a0_6, .int .i64 a0_7, .int .i64 a0_8, .int .i64 a0_9, .int .u64 a0_10, .int .u64 a0_11, .int .u64 a0_12, .int .u64 a0_13, .bool a0_14, .bool a0_15, .bool a0_16, .bool a0_17] 49 (0, 0)) (by (with_reducible repeat (first | refine blk_drewN ?_ _ | refine blk_drew ?_ | refine blk_alloc ?_ _)); exact BK101.out) hb)
 have n1_ := Aside0.mk (blk_below (g := gb102) (o := .cells #[.bool false, .bool false, .bool false, .bool false] 35 (0, 0)) (by (with_reducible repeat (first | refine blk_drewN ?_ _ | refine blk_drew ?_ | refine blk_alloc ?_ _)); exact BK102.out) hb)
 have n2_ := Aside0.mk (below_step (by repeat (first | (with_reducible first | exact HB.out | apply below_alloc | apply pw_below_drewN | apply below_drew1 | refine below_set ?_ GE101.out | refine below_set ?_ GE102.out) | exact HB.out)) hb)
 clear BK101
 clear BK102
 clear HB
 have BK101 := n0_
 have BK102 := n1_
 have HB := n2_
 clear n0_ n1_ n2_
 (try clear hb)
 (try clear hb2)
 (try clear hk)
 (try clear hi)
 refine hK.out _ _ ⟨(blk_cell BK101.out 0).trans rfl, (blk_cell BK101.out 1).trans rfl, (blk_cell BK101.out 2).trans rfl, (blk_cell BK101.out 3).trans rfl, (blk_cell BK101.out 4).trans rfl, (blk_cell BK101.out 5).trans rfl, (blk_cell BK101.out 6).trans rfl, (blk_cell BK101.out 7).trans rfl, (blk_cell BK101.out 8).trans rfl, (blk_cell BK101.out 9).trans rfl, (blk_cell BK101.out 10).trans rfl, (blk_cell BK101.out 11).trans rfl, (blk_cell BK101.out 12).trans rfl, (blk_cell BK101.out 13).trans rfl, (blk_cell BK101.out 14).trans rfl, (blk_cell BK101.out 15).trans rfl, (blk_cell BK101.out 16).trans rfl, (blk_cell BK101.out 17).trans rfl⟩ (fun hHeld => ?_)
 clear hK K
 refine norm_ (a' := ?_) ?_ ?_
 rotate_left
 ·
  show Act.put _ (some 5) _ = _
  simp only [qa_, qb_, qc_, qd_, i64_w, i32_w]
  rfl
 refine pure_ (i := 4) (N := some 2) (v := ?_) (a' := ?_) #[true, true, true, true, true, false] rfl rfl (by kernel_rfl) (fun _ _ _ h => h) (Or.inl ⟨by rfl, ?_⟩) ?_ ?_
 rotate_left
 · intro w'; go_simp; with_reducible rfl
 rotate_left
 · simp only [qa_, qb_, qc_, qd_, i64_w, i32_w]; rfl
 refine one_ (i := 5) (N := none) #[true, true, true, true, true, true] rfl rfl (by kernel_rfl) (by decide) (fun K hK => ?_)
 have hs7 : w6.cell? ⟨gb102, 0, none⟩ = some (.bool false) := (blk_cell BK102.out 0).trans rfl
 have hfs7 := blk_frozen BK102.out 0
 have hns7_0 := NB101_102.out
 have hms7_0 := NB102_101.out
 have hs8 : w6.cell? ⟨gb102, 1, none⟩ = some (.bool false) := (blk_cell BK102.out 1).trans rfl
 have hfs8 := blk_frozen BK102.out 1
 have hns8_0 := NB101_102.out
 have hms8_0 := NB102_101.out
 have hs9 : w6.cell? ⟨gb102, 2, none⟩ = some (.bool false) := (blk_cell BK102.out 2).trans rfl
 have hfs9 := blk_frozen BK102.out 2
 have hns9_0 := NB101_102.out
 have hms9_0 := NB102_101.out
 have hs10 : w6.cell? ⟨gb102, 3, none⟩ = some (.bool false) := (blk_cell BK102.out 3).trans rfl
 have hfs10 := blk_frozen BK102.out 3
 have hns10_0 := NB101_102.out
 have hms10_0 := NB102_101.out
 refine skip_ (w1 := ?_) (by rfl) rfl ?_ ?_
 rotate_left
 ·
  go_simp
  rfl
 refine hK.out _ _ ⟨((cell_far (p := ⟨gb102, _, none⟩) NB101_102.out _).trans (((cell_far (p := ⟨gb102, _, none⟩) NB101_102.out _).trans (((cell_far (p := ⟨gb102, _, none⟩) NB101_102.out _).trans (((cell_far (p := ⟨gb102, _, none⟩) NB101_102.out _).trans (hHeld.1)))))))), ((cell_far (p := ⟨gb102, _, none⟩) NB101_102.out _).trans (((cell_far (p := ⟨gb102, _, none⟩) NB101_102.out _).trans (((cell_far (p := ⟨gb102, _, none⟩) NB101_102.out _).trans (((cell_far (p := ⟨gb102, _, none⟩) NB101_102.out _).trans (hHeld.2.1)))))))), ((cell_far (p := ⟨gb102, _, none⟩) NB101_102.out _).trans (((cell_far (p := ⟨gb102, _, none⟩) NB101_102.out _).trans (((cell_far (p := ⟨gb102, _, none⟩) NB101_102.out _).trans (((cell_far (p := ⟨gb102, _, none⟩) NB101_102.out _).trans (hHeld.2.2.1)))))))), ((cell_far (p := ⟨gb102, _, none⟩) NB101_102.out _).trans (((cell_far (p := ⟨gb102, _, none⟩) NB101_102.out _).trans (((cell_far (p := ⟨gb102, _, none⟩) NB101_102.out _).trans (((cell_far (p := ⟨gb102, _, none⟩) NB101_102.out _).trans (hHeld.2.2.2.1)))))))), ((cell_far (p := ⟨gb102, _, none⟩) NB101_102.out _).trans (((cell_far (p := ⟨gb102, _, none⟩) NB101_102.out _).trans (((cell_far (p := ⟨gb102, _, none⟩) NB101_102.out _).trans (((cell_far (p := ⟨gb102, _, none⟩) NB101_102.out _).trans (hHeld.2.2.2.2.1)))))))), ((cell_far (p := ⟨gb102, _, none⟩) NB101_102.out _).trans (((cell_far (p := ⟨gb102, _, none⟩) NB101_102.out _).trans (((cell_far (p := ⟨gb102, _, none⟩) NB101_102.out _).trans (((cell_far (p := ⟨gb102, _, none⟩) NB101_102.out _).trans (hHeld.2.2.2.2.2.1)))))))), ((cell_far (p := ⟨gb102, _, none⟩) NB101_102.out _).trans (((cell_far (p := ⟨gb102, _, none⟩) NB101_102.out _).trans (((cell_far (p := ⟨gb102, _, none⟩) NB101_102.out _).trans (((cell_far (p := ⟨gb102, _, none⟩) NB101_102.out _).trans (hHeld.2.2.2.2.2.2.1)))))))), ((cell_far (p := ⟨gb102, _, none⟩) NB101_102.out _).trans (((cell_far (p := ⟨gb102, _, none⟩) NB101_102.out _).trans (((cell_far (p := ⟨gb102, _, none⟩) NB101_102.out _).trans (((cell_far (p := ⟨gb102, _, none⟩) NB101_102.out _).trans (hHeld.2.2.2.2.2.2.2.1)))))))), ((cell_far (p := ⟨gb102, _, none⟩) NB101_102.out _).trans (((cell_far (p := ⟨gb102, _, none⟩) NB101_102.out _).trans (((cell_far (p := ⟨gb102, _, none⟩) NB101_102.out _).trans (((cell_far (p := ⟨gb102, _, none⟩) NB101_102.out _).trans (hHeld.2.2.2.2.2.2.2.2.1)))))))), ((cell_far (p := ⟨gb102, _, none⟩) NB101_102.out _).trans (((cell_far (p := ⟨gb102, _, none⟩) NB101_102.out _).trans (((cell_far (p := ⟨gb102, _, none⟩) NB101_102.out _).trans (((cell_far (p := ⟨gb102, _, none⟩) NB101_102.out _).trans (hHeld.2.2.2.2.2.2.2.2.2.1)))))))), ((cell_far (p := ⟨gb102, _, none⟩) NB101_102.out _).trans (((cell_far (p := ⟨gb102, _, none⟩) NB101_102.out _).trans (((cell_far (p := ⟨gb102, _, none⟩) NB101_102.out _).trans (((cell_far (p := ⟨gb102, _, none⟩) NB101_102.out _).trans (hHeld.2.2.2.2.2.2.2.2.2.2.1)))))))), ((cell_far (p := ⟨gb102, _, none⟩) NB101_102.out _).trans (((cell_far (p := ⟨gb102, _, none⟩) NB101_102.out _).trans (((cell_far (p := ⟨gb102, _, none⟩) NB101_102.out _).trans (((cell_far (p := ⟨gb102, _, none⟩) NB101_102.out _).trans (hHeld.2.2.2.2.2.2.2.2.2.2.2.1)))))))), ((cell_far (p := ⟨gb102, _, none⟩) NB101_102.out _).trans (((cell_far (p := ⟨gb102, _, none⟩) NB101_102.out _).trans (((cell_far (p := ⟨gb102, _, none⟩) NB101_102.out _).trans (((cell_far (p := ⟨gb102, _, none⟩) NB101_102.out _).trans (hHeld.2.2.2.2.2.2.2.2.2.2.2.2.1)))))))), ((cell_far (p := ⟨gb102, _, none⟩) NB101_102.out _).trans (((cell_far (p := ⟨gb102, _, none⟩) NB101_102.out _).trans (((cell_far (p := ⟨gb102, _, none⟩) NB101_102.out _).trans (((cell_far (p := ⟨gb102, _, none⟩) NB101_102.out _).trans (hHeld.2.2.2.2.2.2.2.2.2.2.2.2.2.1)))))))), ((cell_far (p := ⟨gb102, _, none⟩) NB101_102.out _).trans (((cell_far (p := ⟨gb102, _, none⟩) NB101_102.out _).trans (((cell_far (p := ⟨gb102, _, none⟩) NB101_102.out _).trans (((cell_far (p := ⟨gb102, _, none⟩) NB101_102.out _).trans (hHeld.2.2.2.2.2.2.2.2.2.2.2.2.2.2.1)))))))), ((cell_far (p := ⟨gb102, _, none⟩) NB101_102.out _).trans (((cell_far (p := ⟨gb102, _, none⟩) NB101_102.out _).trans (((cell_far (p := ⟨gb102, _, none⟩) NB101_102.out _).trans (((cell_far (p := ⟨gb102, _, none⟩) NB101_102.out _).trans (hHeld.2.2.2.2.2.2.2.2.2.2.2.2.2.2.2.1)))))))), ((cell_far (p := ⟨gb102, _, none⟩) NB101_102.out _).trans (((cell_far (p := ⟨gb102, _, none⟩) NB101_102.out _).trans (((cell_far (p := ⟨gb102, _, none⟩) NB101_102.out _).trans (((cell_far (p := ⟨gb102, _, none⟩) NB101_102.out _).trans (hHeld.2.2.2.2.2.2.2.2.2.2.2.2.2.2.2.2.1)))))))), ((cell_far (p := ⟨gb102, _, none⟩) NB101_102.out _).trans (((cell_far (p := ⟨gb102, _, none⟩) NB101_102.out _).trans (((cell_far (p := ⟨gb102, _, none⟩) NB101_102.out _).trans (((cell_far (p := ⟨gb102, _, none⟩) NB101_102.out _).trans (hHeld.2.2.2.2.2.2.2.2.2.2.2.2.2.2.2.2.2))))))))⟩ (fun hHeld => ?_)
 clear hK K
 refine done_ (by kernel_rfl) ?_
 try go_wp2
 refine bodyPost_ret (results_tc rfl _ _ gb102 35 #[.bool a0_14, .bool a0_15, .bool a0_16, .bool a0_17] (0, 0) _ rfl (by (with_reducible repeat (first | refine blk_drewN ?_ _ | refine blk_drew ?_ | refine blk_alloc ?_ _)); refine blk_put (cs := #[.bool a0_14, .bool a0_15, .bool a0_16, .bool false]) ?_ 3 _ rfl; (with_reducible repeat (first | refine blk_drewN ?_ _ | refine blk_drew ?_ | refine blk_alloc ?_ _)); refine blk_put (cs := #[.bool a0_14, .bool a0_15, .bool false, .bool false]) ?_ 2 _ rfl; (with_reducible repeat (first | refine blk_drewN ?_ _ | refine blk_drew ?_ | refine blk_alloc ?_ _)); refine blk_put (cs := #[.bool a0_14, .bool false, .bool false, .bool false]) ?_ 1 _ rfl; (with_reducible repeat (first | refine blk_drewN ?_ _ | refine blk_drew ?_ | refine blk_alloc ?_ _)); refine blk_put (cs := #[.bool false, .bool false, .bool false, .bool false]) ?_ 0 _ rfl; (with_reducible repeat (first | refine blk_drewN ?_ _ | refine blk_drew ?_ | refine blk_alloc ?_ _)); exact BK102.out) Tryd.underlying35 rfl (by kernel_rfl)) rfl ?_
 exact ⟨by first | rfl | (simp [errW_none, errW_some] <;> rfl) | (simp [*, errW_none, errW_some] <;> rfl), by repeat (first | (with_reducible first | exact HB.out | apply below_alloc | apply pw_below_drewN | apply below_drew1 | refine below_set ?_ GE101.out | refine below_set ?_ GE102.out) | exact HB.out)⟩

/-! ### alu_worker_not: function 20 -/
def alu_worker_not.f (k : Nat) (a0_0 : Int) (a0_1 : Int) (a0_2 : Int) (a0_3 : Int) (a0_4 : Int) (a0_5 : Int) (a0_6 : Int) (a0_7 : Int) (a0_8 : Int) (a0_9 : Int) (a0_10 : Int) (a0_11 : Int) (a0_12 : Int) (a0_13 : Int) (a0_14 : Bool) (a0_15 : Bool) (a0_16 : Bool) (a0_17 : Bool) : Option (Int × Bool × Bool × Bool × Bool) := (alu_worker_v.f k a0_0 a0_1 a0_2 a0_3 a0_4 a0_5 a0_6 a0_7 a0_8 a0_9 a0_10 a0_11 a0_12 a0_13 a0_14 a0_15 a0_16 a0_17).bind fun t106 => (some (Go.bits .xor .u64 18446744073709551615 t106, a0_14, a0_15, a0_16, a0_17))
theorem alu_worker_not.mono : ∀ a0 a1 a2 a3 a4 a5 a6 a7 a8 a9 a10 a11 a12 a13 a14 a15 a16 a17 k, LeO (alu_worker_not.f k a0 a1 a2 a3 a4 a5 a6 a7 a8 a9 a10 a11 a12 a13 a14 a15 a16 a17) (alu_worker_not.f (k + 1) a0 a1 a2 a3 a4 a5 a6 a7 a8 a9 a10 a11 a12 a13 a14 a15 a16 a17) := by
 intro a0 a1 a2 a3 a4 a5 a6 a7 a8 a9 a10 a11 a12 a13 a14 a15 a16 a17 k
 unfold alu_worker_not.f
 repeat' first
   | (with_reducible exact alu_worker_v.mono _ _ _ _ _ _ _ _ _ _ _ _ _ _ _ _ _ _ _)
   | (with_reducible exact LeO.refl _)
   | (with_reducible exact LeO.none _)
   | (with_reducible refine LeO.ite ?_ ?_)
   | (with_reducible refine LeO.bind ?_ (fun _ => ?_))
   | exact alu_worker_v.mono _ _ _ _ _ _ _ _ _ _ _ _ _ _ _ _ _ _ _
   | exact LeO.none _
   | refine LeO.ite ?_ ?_
   | refine LeO.bind ?_ (fun _ => ?_)
set_option maxHeartbeats 8000000 in
set_option maxRecDepth 100000 in
theorem alu_worker_not.calls (k : Nat) (a0_0 : Int) (a0_1 : Int) (a0_2 : Int) (a0_3 : Int) (a0_4 : Int) (a0_5 : Int) (a0_6 : Int) (a0_7 : Int) (a0_8 : Int) (a0_9 : Int) (a0_10 : Int) (a0_11 : Int) (a0_12 : Int) (a0_13 : Int) (a0_14 : Bool) (a0_15 : Bool) (a0_16 : Bool) (a0_17 : Bool) (r1 : Int) (r2 : Bool) (r3 : Bool) (r4 : Bool) (r5 : Bool) (w : World) (h : alu_worker_not.f k a0_0 a0_1 a0_2 a0_3 a0_4 a0_5 a0_6 a0_7 a0_8 a0_9 a0_10 a0_11 a0_12 a0_13 a0_14 a0_15 a0_16 a0_17 = some (r1, r2, r3, r4, r5)) :
    Calls Tryd.prog 20 #[.agg #[.int .i64 a0_0, .int .i64 a0_1, .int .i64 a0_2, .int .i64 a0_3, .int .i64 a0_4, .int .i64 a0_5, .int .u64 a0_6, .int .i64 a0_7, .int .i64 a0_8, .int .i64 a0_9, .int .u64 a0_10, .int .u64 a0_11, .int .u64 a0_12, .int .u64 a0_13, .bool a0_14, .bool a0_15, .bool a0_16, .bool a0_17]] w fun e w' => e = .returned (.tuple #[.int .u64 r1, .agg #[.bool r2, .bool r3, .bool r4, .bool r5]]) ∧ Below w.heap.size w w' := by
 have hu49 := Tryd.underlying49
 have hu35 := Tryd.underlying35
 have HB := Aside0.mk (Below.refl w.heap.size w)
 have H : ((alu_worker_v.f k a0_0 a0_1 a0_2 a0_3 a0_4 a0_5 a0_6 a0_7 a0_8 a0_9 a0_10 a0_11 a0_12 a0_13 a0_14 a0_15 a0_16 a0_17).bind fun t106 => (some (Go.bits .xor .u64 18446744073709551615 t106, a0_14, a0_15, a0_16, a0_17))) = some (r1, r2, r3, r4, r5) := h
 clear h
 replace H := Option.bind_eq_some_iff.mp H
 obtain ⟨t106, A20, H⟩ := H
 replace H : (some (Go.bits .xor .u64 18446744073709551615 t106, a0_14, a0_15, a0_16, a0_17)) = some (r1, r2, r3, r4, r5) := H
 have A2 := Aside0.mk A20
 clear A20
 simp only [Option.some.injEq, Prod.mk.injEq] at H
 obtain ⟨rfl, rfl, rfl, rfl, rfl⟩ := H
 go_enter Tryd.func20, Tryd.ntmps20
 try go_wp2_with (first | ((with_reducible refine gate_dst (N := 1) rfl ?_); refine box_event ?hg (N := 1) ?hd (cs := #[.int .i64 a0_0, .int .i64 a0_1, .int .i64 a0_2, .int .i64 a0_3, .int .i64 a0_4, .int .i64 a0_5, .int .u64 a0_6, .int .i64 a0_7, .int .i64 a0_8, .int .i64 a0_9, .int .u64 a0_10, .int .u64 a0_11, .int .u64 a0_12, .int .u64 a0_13, .bool a0_14, .bool a0_15, .bool a0_16, .bool a0_17]) (t := 49) ?hr ?_; (case hd => rfl); (case hg => rfl); (case hr => first | (go_simp; done) | (go_simp; rfl)); intro gb104 hg w3 hbox hb; have n0_ := Aside0.mk (below_step (by repeat (first | (with_reducible first | exact HB.out | apply below_alloc | apply pw_below_drewN | apply below_drew1) | exact HB.out)) hb); have n1_ := Aside0.mk (hbox); have n2_ := Aside0.mk ((by rw [hg]; exact (below_size (by repeat (first | (with_reducible first | exact HB.out | apply below_alloc | apply pw_below_drewN | apply below_drew1) | exact HB.out))) : w.heap.size ≤ gb104)); have n3_ := Aside0.mk ((by rw [hg]; exact (below_size (by repeat (first | (with_reducible first | exact HB.out | apply below_alloc | apply pw_below_drewN | apply below_drew1) | exact HB.out))) : w.heap.size ≤ gb104)); clear HB; have HB := n0_; have BK104 := n1_; have GW104 := n2_; have GE104 := n3_; clear n0_ n1_ n2_ n3_; clear hb hbox hg) | ((with_reducible refine gate_dst (N := 3) rfl ?_); refine box_event ?hg (N := 3) ?hd (cs := #[.bool false, .bool false, .bool false, .bool false]) (t := 35) ?hr ?_; (case hd => rfl); (case hg => rfl); (case hr => first | (go_simp; done) | (go_simp; rfl)); intro gb105 hg w4 hbox hb; have n0_ := Aside0.mk (blk_below (g := gb104) (o := .cells #[.int .i64 a0_0, .int .i64 a0_1, .int .i64 a0_2, .int .i64 a0_3, .int .i64 a0_4, .int .i64 a0_5, .int .u64 a0_6, .int .i64 a0_7, .int .i64 a0_8, .int .i64 a0_9, .int .u64 a0_10, .int .u64 a0_11, .int .u64 a0_12, .int .u64 a0_13, .bool a0_14, .bool a0_15, .bool a0_16, .bool a0_17] 49 (0, 0)) (by (with_reducible repeat (first | refine blk_drewN ?_ _ | refine blk_drew ?_ | refine blk_alloc ?_ _)); exact BK104.out) hb); have n1_ := Aside0.mk (below_step (by repeat (first | (with_reducible first | exact HB.out | apply below_alloc | apply pw_below_drewN | apply below_drew1 | refine below_set ?_ GE104.out) | exact HB.out)) hb); have n2_ := Aside0.mk (hbox); have n3_ := Aside0.mk ((by rw [hg]; exact (below_size (by repeat (first | (with_reducible first | exact HB.out | apply below_alloc | apply pw_below_drewN | apply below_drew1 | refine below_set ?_ GE104.out) | exact HB.out))) : w.heap.size ≤ gb105)); have n4_ := Aside0.mk ((by rw [hg]; exact (below_size (by repeat (first | (with_reducible first | exact HB.out | apply below_alloc | apply pw_below_drewN | apply below_drew1 | refine below_set ?_ GE104.out) | exact HB.out))) : w.heap.size ≤ gb105)); have n5_ := Aside0.mk ((by rw [hg]; exact Nat.ne_of_lt (blk_lt (g := gb104) (o := .cells #[.int .i64 a0_0, .int .i64 a0_1, .int .i64 a0_2, .int .i64 a0_3, .int .i64 a0_4, .int .i64 a0_5, .int .u64 a0_6, .int .i64 a0_7, .int .i64 a0_8, .int .i64 a0_9, .int .u64 a0_10, .int .u64 a0_11, .int .u64 a0_12, .int .u64 a0_13, .bool a0_14, .bool a0_15, .bool a0_16, .bool a0_17] 49 (0, 0)) (by (with_reducible repeat (first | refine blk_drewN ?_ _ | refine blk_drew ?_ | refine blk_alloc ?_ _)); exact BK104.out)) : gb104 ≠ gb105)); have n6_ := Aside0.mk ((by rw [hg]; exact Nat.ne_of_gt (blk_lt (g := gb104) (o := .cells #[.int .i64 a0_0, .int .i64 a0_1, .int .i64 a0_2, .int .i64 a0_3, .int .i64 a0_4, .int .i64 a0_5, .int .u64 a0_6, .int .i64 a0_7, .int .i64 a0_8, .int .i64 a0_9, .int .u64 a0_10, .int .u64 a0_11, .int .u64 a0_12, .int .u64 a0_13, .bool a0_14, .bool a0_15, .bool a0_16, .bool a0_17] 49 (0, 0)) (by (with_reducible repeat (first | refine blk_drewN ?_ _ | refine blk_drew ?_ | refine blk_alloc ?_ _)); exact BK104.out)) : gb105 ≠ gb104)); clear BK104; clear HB; have BK104 := n0_; have HB := n1_; have BK105 := n2_; have GW105 := n3_; have GE105 := n4_; have NB104_105 := n5_; have NB105_104 := n6_; clear n0_ n1_ n2_ n3_ n4_ n5_ n6_; clear hb hbox hg))
 have n0_ := Aside0.mk (blk_drew BK104.out)
 have n1_ := Aside0.mk (blk_drew BK105.out)
 have n2_ := Aside0.mk (below_drew1 HB.out)
 clear BK104
 clear BK105
 clear HB
 have BK104 := n0_
 have BK105 := n1_
 have HB := n2_
 clear n0_ n1_ n2_
 refine start_ (n := 7) (S := fun w' => w'.cell? ⟨gb104, 0, none⟩ = some (.int .i64 a0_0) ∧ w'.cell? ⟨gb104, 1, none⟩ = some (.int .i64 a0_1) ∧ w'.cell? ⟨gb104, 2, none⟩ = some (.int .i64 a0_2) ∧ w'.cell? ⟨gb104, 3, none⟩ = some (.int .i64 a0_3) ∧ w'.cell? ⟨gb104, 4, none⟩ = some (.int .i64 a0_4) ∧ w'.cell? ⟨gb104, 5, none⟩ = some (.int .i64 a0_5) ∧ w'.cell? ⟨gb104, 6, none⟩ = some (.int .u64 a0_6) ∧ w'.cell? ⟨gb104, 7, none⟩ = some (.int .i64 a0_7) ∧ w'.cell? ⟨gb104, 8, none⟩ = some (.int .i64 a0_8) ∧ w'.cell? ⟨gb104, 9, none⟩ = some (.int .i64 a0_9) ∧ w'.cell? ⟨gb104, 10, none⟩ = some (.int .u64 a0_10) ∧ w'.cell? ⟨gb104, 11, none⟩ = some (.int .u64 a0_11) ∧ w'.cell? ⟨gb104, 12, none⟩ = some (.int .u64 a0_12) ∧ w'.cell? ⟨gb104, 13, none⟩ = some (.int .u64 a0_13) ∧ w'.cell? ⟨gb104, 14, none⟩ = some (.bool a0_14) ∧ w'.cell? ⟨gb104, 15, none⟩ = some (.bool a0_15) ∧ w'.cell? ⟨gb104, 16, none⟩ = some (.bool a0_16) ∧ w'.cell? ⟨gb104, 17, none⟩ = some (.bool a0_17)) (ds := []) #[false, false, false, false, false, false, false] (by kernel_rfl) rfl rfl ⟨(blk_cell BK104.out 0).trans rfl, (blk_cell BK104.out 1).trans rfl, (blk_cell BK104.out 2).trans rfl, (blk_cell BK104.out 3).trans rfl, (blk_cell BK104.out 4).trans rfl, (blk_cell BK104.out 5).trans rfl, (blk_cell BK104.out 6).trans rfl, (blk_cell BK104.out 7).trans rfl, (blk_cell BK104.out 8).trans rfl, (blk_cell BK104.out 9).trans rfl, (blk_cell BK104.out 10).trans rfl, (blk_cell BK104.out 11).trans rfl, (blk_cell BK104.out 12).trans rfl, (blk_cell BK104.out 13).trans rfl, (blk_cell BK104.out 14).trans rfl, (blk_cell BK104.out 15).trans rfl, (blk_cell BK104.out 16).trans rfl, (blk_cell BK104.out 17).trans rfl⟩ (fun hHeld => ?_)
 generalize w4.drew = w5 at BK104 BK105 HB hHeld ⊢
 refine pure_ (i := 3) (N := some 7) (v := ?_) (a' := ?_) #[false, false, false, true, false, false, false] rfl rfl (by kernel_rfl) (fun _ _ _ h => h) (Or.inl ⟨by rfl, ?_⟩) ?_ ?_
 rotate_left
 · intro w'; go_simp; with_reducible rfl
 rotate_left
 · simp only [qa_, qb_, qc_, qd_, i64_w, i32_w]; rfl
 refine take_ (i := 0) (N := some 4) (v := ?_) (a' := ?_) #[true, false, false, true, false, false, false] rfl rfl (by kernel_rfl) (fun _ _ _ h => h) (Or.inl ⟨by rfl, ?_⟩) hHeld ?_ ?_
 rotate_left
 · rintro w' ⟨s0, s1, s2, s3, s4, s5, s6, s7, s8, s9, s10, s11, s12, s13, s14, s15, s16, s17⟩; go_simp; with_reducible rfl
 rotate_left
 · simp only [qa_, qb_, qc_, qd_, i64_w, i32_w]; rfl
 refine take_ (i := 4) (N := some 8) (v := ?_) (a' := ?_) #[true, false, false, true, true, false, false] rfl rfl (by kernel_rfl) (fun _ _ _ h => h) (Or.inl ⟨by rfl, ?_⟩) hHeld ?_ ?_
 rotate_left
 · rintro w' ⟨s0, s1, s2, s3, s4, s5, s6, s7, s8, s9, s10, s11, s12, s13, s14, s15, s16, s17⟩; go_simp; with_reducible rfl
 rotate_left
 · simp only [qa_, qb_, qc_, qd_, i64_w, i32_w]; rfl
 refine one_ (i := 1) (N := some 5) #[true, true, false, true, true, false, false] rfl rfl (by kernel_rfl) (by decide) (fun K hK => ?_)
 refine goes_ Tryd.func39 (by kernel_rfl) rfl #[.agg #[.int .i64 a0_0, .int .i64 a0_1, .int .i64 a0_2, .int .i64 a0_3, .int .i64 a0_4, .int .i64 a0_5, .int .u64 a0_6, .int .i64 a0_7, .int .i64 a0_8, .int .i64 a0_9, .int .u64 a0_10, .int .u64 a0_11, .int .u64 a0_12, .int .u64 a0_13, .bool a0_14, .bool a0_15, .bool a0_16, .bool a0_17]] (by rfl) rfl rfl (by (try simp only [List.map_toArray, List.map_cons, List.map_nil]); first | done | rfl | (simp only [List.length_drop, List.length_take]; rfl)) ?_
 with_reducible refine (alu_worker_v.calls k a0_0 a0_1 a0_2 a0_3 a0_4 a0_5 a0_6 a0_7 a0_8 a0_9 a0_10 a0_11 a0_12 a0_13 a0_14 a0_15 a0_16 a0_17 t106 _ A2.out).mono ?_
 rintro e w6 ⟨rfl, hb⟩
 refine ⟨_, rfl, ?_⟩
 have n0_ := Aside0.mk (blk_below (g := gb104) (o := .cells #[.int .i64 a0_0, .int .i64 a0_1, .int .i64 a0_2, .int .i64 a0_3, .int .i64 a0_4, .int .i64 a0_5, .int .u64 a0_6, .int .i64 a0_7, .int .i64 a0_8, .int .i64 a0_9, .int .u64 a0_10, .int .u64 a0_11, .int .u64 a0_12, .int .u64 a0_13, .bool a0_14, .bool a0_15, .bool a0_16, .bool a0_17] 49 (0, 0)) (by (with_reducible repeat (first | refine blk_drewN ?_ _ | refine blk_drew ?_ | refine blk_alloc ?_ _)); exact BK104.out) hb)
 have n1_ := Aside0.mk (blk_below (g := gb105) (o := .cells #[.bool false, .bool false, .bool false, .bool false] 35 (0, 0)) (by (with_reducible repeat (first | refine blk_drewN ?_ _ | refine blk_drew ?_ | refine blk_alloc ?_ _)); exact BK105.out) hb)
 have n2_ := Aside0.mk (below_step (by repeat (first | (with_reducible first | exact HB.out | apply below_alloc | apply pw_below_drewN | apply below_drew1 | refine below_set ?_ GE104.out | refine below_set ?_ GE105.out) | exact HB.out)) hb)
 clear BK104
 clear BK105
 clear HB
 have BK104 := n0_
 have BK105 := n1_
 have HB := n2_
 clear n0_ n1_ n2_
 (try clear hb)
 (try clear hb2)
 (try clear hk)
 (try clear hi)
 refine hK.out _ _ ⟨(blk_cell BK104.out 0).trans rfl, (blk_cell BK104.out 1).trans rfl, (blk_cell BK104.out 2).trans rfl, (blk_cell BK104.out 3).trans rfl, (blk_cell BK104.out 4).trans rfl, (blk_cell BK104.out 5).trans rfl, (blk_cell BK104.out 6).trans rfl, (blk_cell BK104.out 7).trans rfl, (blk_cell BK104.out 8).trans rfl, (blk_cell BK104.out 9).trans rfl, (blk_cell BK104.out 10).trans rfl, (blk_cell BK104.out 11).trans rfl, (blk_cell BK104.out 12).trans rfl, (blk_cell BK104.out 13).trans rfl, (blk_cell BK104.out 14).trans rfl, (blk_cell BK104.out 15).trans rfl, (blk_cell BK104.out 16).trans rfl, (blk_cell BK104.out 17).trans rfl⟩ (fun hHeld => ?_)
 clear hK K
 refine norm_ (a' := ?_) ?_ ?_
 rotate_left
 ·
  show Act.put _ (some 5) _ = _
  simp only [qa_, qb_, qc_, qd_, i64_w, i32_w]
  rfl
 refine pure_ (i := 2) (N := some 6) (v := ?_) (a' := ?_) #[true, true, true, true, true, false, false] rfl rfl (by kernel_rfl) (fun _ _ _ h => h) (Or.inl ⟨by rfl, ?_⟩) ?_ ?_
 rotate_left
 · intro w'; go_simp; with_reducible rfl
 rotate_left
 · simp only [qa_, qb_, qc_, qd_, i64_w, i32_w]; rfl
 refine pure_ (i := 5) (N := some 2) (v := ?_) (a' := ?_) #[true, true, true, true, true, true, false] rfl rfl (by kernel_rfl) (fun _ _ _ h => h) (Or.inl ⟨by rfl, ?_⟩) ?_ ?_
 rotate_left
 · intro w'; go_simp; with_reducible rfl
 rotate_left
 · simp only [qa_, qb_, qc_, qd_, i64_w, i32_w]; rfl
 refine one_ (i := 6) (N := none) #[true, true, true, true, true, true, true] rfl rfl (by kernel_rfl) (by decide) (fun K hK => ?_)
 have hs7 : w6.cell? ⟨gb105, 0, none⟩ = some (.bool false) := (blk_cell BK105.out 0).trans rfl
 have hfs7 := blk_frozen BK105.out 0
 have hns7_0 := NB104_105.out
 have hms7_0 := NB105_104.out
 have hs8 : w6.cell? ⟨gb105, 1, none⟩ = some (.bool false) := (blk_cell BK105.out 1).trans rfl
 have hfs8 := blk_frozen BK105.out 1
 have hns8_0 := NB104_105.out
 have hms8_0 := NB105_104.out
 have hs9 : w6.cell? ⟨gb105, 2, none⟩ = some (.bool false) := (blk_cell BK105.out 2).trans rfl
 have hfs9 := blk_frozen BK105.out 2
 have hns9_0 := NB104_105.out
 have hms9_0 := NB105_104.out
 have hs10 : w6.cell? ⟨gb105, 3, none⟩ = some (.bool false) := (blk_cell BK105.out 3).trans rfl
 have hfs10 := blk_frozen BK105.out 3
 have hns10_0 := NB104_105.out
 have hms10_0 := NB105_104.out
 refine skip_ (w1 := ?_) (by rfl) rfl ?_ ?_
 rotate_left
 ·
  go_simp
  rfl
 refine hK.out _ _ ⟨((cell_far (p := ⟨gb105, _, none⟩) NB104_105.out _).trans (((cell_far (p := ⟨gb105, _, none⟩) NB104_105.out _).trans (((cell_far (p := ⟨gb105, _, none⟩) NB104_105.out _).trans (((cell_far (p := ⟨gb105, _, none⟩) NB104_105.out _).trans (hHeld.1)))))))), ((cell_far (p := ⟨gb105, _, none⟩) NB104_105.out _).trans (((cell_far (p := ⟨gb105, _, none⟩) NB104_105.out _).trans (((cell_far (p := ⟨gb105, _, none⟩) NB104_105.out _).trans (((cell_far (p := ⟨gb105, _, none⟩) NB104_105.out _).trans (hHeld.2.1)))))))), ((cell_far (p := ⟨gb105, _, none⟩) NB104_105.out _).trans (((cell_far (p := ⟨gb105, _, none⟩) NB104_105.out _).trans (((cell_far (p := ⟨gb105, _, none⟩) NB104_105.out _).trans (((cell_far (p := ⟨gb105, _, none⟩) NB104_105.out _).trans (hHeld.2.2.1)))))))), ((cell_far (p := ⟨gb105, _, none⟩) NB104_105.out _).trans (((cell_far (p := ⟨gb105, _, none⟩) NB104_105.out _).trans (((cell_far (p := ⟨gb105, _, none⟩) NB104_105.out _).trans (((cell_far (p := ⟨gb105, _, none⟩) NB104_105.out _).trans (hHeld.2.2.2.1)))))))), ((cell_far (p := ⟨gb105, _, none⟩) NB104_105.out _).trans (((cell_far (p := ⟨gb105, _, none⟩) NB104_105.out _).trans (((cell_far (p := ⟨gb105, _, none⟩) NB104_105.out _).trans (((cell_far (p := ⟨gb105, _, none⟩) NB104_105.out _).trans (hHeld.2.2.2.2.1)))))))), ((cell_far (p := ⟨gb105, _, none⟩) NB104_105.out _).trans (((cell_far (p := ⟨gb105, _, none⟩) NB104_105.out _).trans (((cell_far (p := ⟨gb105, _, none⟩) NB104_105.out _).trans (((cell_far (p := ⟨gb105, _, none⟩) NB104_105.out _).trans (hHeld.2.2.2.2.2.1)))))))), ((cell_far (p := ⟨gb105, _, none⟩) NB104_105.out _).trans (((cell_far (p := ⟨gb105, _, none⟩) NB104_105.out _).trans (((cell_far (p := ⟨gb105, _, none⟩) NB104_105.out _).trans (((cell_far (p := ⟨gb105, _, none⟩) NB104_105.out _).trans (hHeld.2.2.2.2.2.2.1)))))))), ((cell_far (p := ⟨gb105, _, none⟩) NB104_105.out _).trans (((cell_far (p := ⟨gb105, _, none⟩) NB104_105.out _).trans (((cell_far (p := ⟨gb105, _, none⟩) NB104_105.out _).trans (((cell_far (p := ⟨gb105, _, none⟩) NB104_105.out _).trans (hHeld.2.2.2.2.2.2.2.1)))))))), ((cell_far (p := ⟨gb105, _, none⟩) NB104_105.out _).trans (((cell_far (p := ⟨gb105, _, none⟩) NB104_105.out _).trans (((cell_far (p := ⟨gb105, _, none⟩) NB104_105.out _).trans (((cell_far (p := ⟨gb105, _, none⟩) NB104_105.out _).trans (hHeld.2.2.2.2.2.2.2.2.1)))))))), ((cell_far (p := ⟨gb105, _, none⟩) NB104_105.out _).trans (((cell_far (p := ⟨gb105, _, none⟩) NB104_105.out _).trans (((cell_far (p := ⟨gb105, _, none⟩) NB104_105.out _).trans (((cell_far (p := ⟨gb105, _, none⟩) NB104_105.out _).trans (hHeld.2.2.2.2.2.2.2.2.2.1)))))))), ((cell_far (p := ⟨gb105, _, none⟩) NB104_105.out _).trans (((cell_far (p := ⟨gb105, _, none⟩) NB104_105.out _).trans (((cell_far (p := ⟨gb105, _, none⟩) NB104_105.out _).trans (((cell_far (p := ⟨gb105, _, none⟩) NB104_105.out _).trans (hHeld.2.2.2.2.2.2.2.2.2.2.1)))))))), ((cell_far (p := ⟨gb105, _, none⟩) NB104_105.out _).trans (((cell_far (p := ⟨gb105, _, none⟩) NB104_105.out _).trans (((cell_far (p := ⟨gb105, _, none⟩) NB104_105.out _).trans (((cell_far (p := ⟨gb105, _, none⟩) NB104_105.out _).trans (hHeld.2.2.2.2.2.2.2.2.2.2.2.1)))))))), ((cell_far (p := ⟨gb105, _, none⟩) NB104_105.out _).trans (((cell_far (p := ⟨gb105, _, none⟩) NB104_105.out _).trans (((cell_far (p := ⟨gb105, _, none⟩) NB104_105.out _).trans (((cell_far (p := ⟨gb105, _, none⟩) NB104_105.out _).trans (hHeld.2.2.2.2.2.2.2.2.2.2.2.2.1)))))))), ((cell_far (p := ⟨gb105, _, none⟩) NB104_105.out _).trans (((cell_far (p := ⟨gb105, _, none⟩) NB104_105.out _).trans (((cell_far (p := ⟨gb105, _, none⟩) NB104_105.out _).trans (((cell_far (p := ⟨gb105, _, none⟩) NB104_105.out _).trans (hHeld.2.2.2.2.2.2.2.2.2.2.2.2.2.1)))))))), ((cell_far (p := ⟨gb105, _, none⟩) NB104_105.out _).trans (((cell_far (p := ⟨gb105, _, none⟩) NB104_105.out _).trans (((cell_far (p := ⟨gb105, _, none⟩) NB104_105.out _).trans (((cell_far (p := ⟨gb105, _, none⟩) NB104_105.out _).trans (hHeld.2.2.2.2.2.2.2.2.2.2.2.2.2.2.1)))))))), ((cell_far (p := ⟨gb105, _, none⟩) NB104_105.out _).trans (((cell_far (p := ⟨gb105, _, none⟩) NB104_105.out _).trans (((cell_far (p := ⟨gb105, _, none⟩) NB104_105.out _).trans (((cell_far (p := ⟨gb105, _, none⟩) NB104_105.out _).trans (hHeld.2.2.2.2.2.2.2.2.2.2.2.2.2.2.2.1)))))))), ((cell_far (p := ⟨gb105, _, none⟩) NB104_105.out _).trans (((cell_far (p := ⟨gb105, _, none⟩) NB104_105.out _).trans (((cell_far (p := ⟨gb105, _, none⟩) NB104_105.out _).trans (((cell_far (p := ⟨gb105, _, none⟩) NB104_105.out _).trans (hHeld.2.2.2.2.2.2.2.2.2.2.2.2.2.2.2.2.1)))))))), ((cell_far (p := ⟨gb105, _, none⟩) NB104_105.out _).trans (((cell_far (p := ⟨gb105, _, none⟩) NB104_105.out _).trans (((cell_far (p := ⟨gb105, _, none⟩) NB104_105.out _).trans (((cell_far (p := ⟨gb105, _, none⟩) NB104_105.out _).trans (hHeld.2.2.2.2.2.2.2.2.2.2.2.2.2.2.2.2.2))))))))⟩ (fun hHeld => ?_)
 clear hK K
 refine done_ (by kernel_rfl) ?_
 try go_wp2
 refine bodyPost_ret (results_tc rfl _ _ gb105 35 #[.bool a0_14, .bool a0_15, .bool a0_16, .bool a0_17] (0, 0) _ rfl (by (with_reducible repeat (first | refine blk_drewN ?_ _ | refine blk_drew ?_ | refine blk_alloc ?_ _)); refine blk_put (cs := #[.bool a0_14, .bool a0_15, .bool a0_16, .bool false]) ?_ 3 _ rfl; (with_reducible repeat (first | refine blk_drewN ?_ _ | refine blk_drew ?_ | refine blk_alloc ?_ _)); refine blk_put (cs := #[.bool a0_14, .bool a0_15, .bool false, .bool false]) ?_ 2 _ rfl; (with_reducible repeat (first | refine blk_drewN ?_ _ | refine blk_drew ?_ | refine blk_alloc ?_ _)); refine blk_put (cs := #[.bool a0_14, .bool false, .bool false, .bool false]) ?_ 1 _ rfl; (with_reducible repeat (first | refine blk_drewN ?_ _ | refine blk_drew ?_ | refine blk_alloc ?_ _)); refine blk_put (cs := #[.bool false, .bool false, .bool false, .bool false]) ?_ 0 _ rfl; (with_reducible repeat (first | refine blk_drewN ?_ _ | refine blk_drew ?_ | refine blk_alloc ?_ _)); exact BK105.out) Tryd.underlying35 rfl (by kernel_rfl)) rfl ?_
 exact ⟨by first | rfl | (simp [errW_none, errW_some] <;> rfl) | (simp [*, errW_none, errW_some] <;> rfl), by repeat (first | (with_reducible first | exact HB.out | apply below_alloc | apply pw_below_drewN | apply below_drew1 | refine below_set ?_ GE104.out | refine below_set ?_ GE105.out) | exact HB.out)⟩

end Go.Proofs.YtkmochnefidlmaaDoor.P
