/- Written for this claim by a program of this session: what the claim uses of lemmas and proved contracts of Go functions. -/
import Derived.Test.YtbklmlbmbnnjkaaDoorZDoesRx0
namespace Go.Proofs.YtbklmlbmbnnjkaaDoor.R
open Go.RowKit Go.Proofs.YtbklmlbmbnnjkaaDoorW.PrintWords Go.Proofs.YtbklmlbmbnnjkaaDoorW.PrintLast Go.Proofs.YtbklmlbmbnnjkaaDoorW.PrintMore
attribute [local go_sem] max2_int min2_int max_two min_two max_three min_three max_four min_four   -- for this text's walks alone
set_option linter.unusedVariables false
set_option linter.unusedSimpArgs false
/-- The operations' names and shapes. -/
def inst_nameL : List ByteArray := [⟨#[]⟩, ⟨#[109, 111, 118, 122]⟩, ⟨#[109, 111, 118, 110]⟩, ⟨#[109, 111, 118, 107]⟩, ⟨#[97, 100, 100]⟩, ⟨#[115, 117, 98]⟩, ⟨#[97, 100, 100, 115]⟩, ⟨#[115, 117, 98, 115]⟩, ⟨#[97, 110, 100]⟩, ⟨#[111, 114, 114]⟩, ⟨#[101, 111, 114]⟩, ⟨#[97, 110, 100, 115]⟩, ⟨#[97, 100, 100]⟩, ⟨#[115, 117, 98]⟩, ⟨#[97, 100, 100, 115]⟩, ⟨#[115, 117, 98, 115]⟩, ⟨#[97, 110, 100]⟩, ⟨#[111, 114, 114]⟩, ⟨#[101, 111, 114]⟩, ⟨#[97, 110, 100, 115]⟩, ⟨#[109, 97, 100, 100]⟩, ⟨#[109, 115, 117, 98]⟩, ⟨#[108, 100, 114]⟩, ⟨#[115, 116, 114]⟩, ⟨#[108, 100, 114, 98]⟩, ⟨#[115, 116, 114, 98]⟩, ⟨#[108, 100, 114]⟩, ⟨#[97, 100, 114]⟩, ⟨#[97, 100, 114, 112]⟩, ⟨#[98]⟩, ⟨#[98, 108]⟩, ⟨#[98]⟩, ⟨#[99, 98, 122]⟩, ⟨#[99, 98, 110, 122]⟩, ⟨#[98, 114]⟩, ⟨#[98, 108, 114]⟩, ⟨#[114, 101, 116]⟩, ⟨#[115, 118, 99]⟩, ⟨#[110, 111, 112]⟩, ⟨#[99, 115, 101, 108]⟩]
def inst_shapeL : List Int := [0, 1, 1, 1, 2, 2, 2, 2, 3, 3, 3, 3, 4, 4, 4, 4, 5, 5, 5, 5, 6, 6, 7, 7, 8, 8, 9, 10, 10, 11, 11, 12, 9, 9, 13, 13, 13, 14, 15, 16]
def inst_name (i : Nat) : ByteArray := inst_nameL.getD i ⟨#[]⟩
def inst_shape (i : Nat) : Int := inst_shapeL.getD i 0
def inst_op (i : Nat) : Value := .agg #[.string (inst_name i), .int .i64 (inst_shape i)]
def inst_cells : Array Value := #[.string ⟨#[]⟩, .int .i64 0, .string ⟨#[109, 111, 118, 122]⟩, .int .i64 1, .string ⟨#[109, 111, 118, 110]⟩, .int .i64 1, .string ⟨#[109, 111, 118, 107]⟩, .int .i64 1, .string ⟨#[97, 100, 100]⟩, .int .i64 2, .string ⟨#[115, 117, 98]⟩, .int .i64 2, .string ⟨#[97, 100, 100, 115]⟩, .int .i64 2, .string ⟨#[115, 117, 98, 115]⟩, .int .i64 2, .string ⟨#[97, 110, 100]⟩, .int .i64 3, .string ⟨#[111, 114, 114]⟩, .int .i64 3, .string ⟨#[101, 111, 114]⟩, .int .i64 3, .string ⟨#[97, 110, 100, 115]⟩, .int .i64 3, .string ⟨#[97, 100, 100]⟩, .int .i64 4, .string ⟨#[115, 117, 98]⟩, .int .i64 4, .string ⟨#[97, 100, 100, 115]⟩, .int .i64 4, .string ⟨#[115, 117, 98, 115]⟩, .int .i64 4, .string ⟨#[97, 110, 100]⟩, .int .i64 5, .string ⟨#[111, 114, 114]⟩, .int .i64 5, .string ⟨#[101, 111, 114]⟩, .int .i64 5, .string ⟨#[97, 110, 100, 115]⟩, .int .i64 5, .string ⟨#[109, 97, 100, 100]⟩, .int .i64 6, .string ⟨#[109, 115, 117, 98]⟩, .int .i64 6, .string ⟨#[108, 100, 114]⟩, .int .i64 7, .string ⟨#[115, 116, 114]⟩, .int .i64 7, .string ⟨#[108, 100, 114, 98]⟩, .int .i64 8, .string ⟨#[115, 116, 114, 98]⟩, .int .i64 8, .string ⟨#[108, 100, 114]⟩, .int .i64 9, .string ⟨#[97, 100, 114]⟩, .int .i64 10, .string ⟨#[97, 100, 114, 112]⟩, .int .i64 10, .string ⟨#[98]⟩, .int .i64 11, .string ⟨#[98, 108]⟩, .int .i64 11, .string ⟨#[98]⟩, .int .i64 12, .string ⟨#[99, 98, 122]⟩, .int .i64 9, .string ⟨#[99, 98, 110, 122]⟩, .int .i64 9, .string ⟨#[98, 114]⟩, .int .i64 13, .string ⟨#[98, 108, 114]⟩, .int .i64 13, .string ⟨#[114, 101, 116]⟩, .int .i64 13, .string ⟨#[115, 118, 99]⟩, .int .i64 14, .string ⟨#[110, 111, 112]⟩, .int .i64 15, .string ⟨#[99, 115, 101, 108]⟩, .int .i64 16]
def inst_zeros : Array Value := #[.string ⟨#[]⟩, .int .i64 0, .string ⟨#[]⟩, .int .i64 0, .string ⟨#[]⟩, .int .i64 0, .string ⟨#[]⟩, .int .i64 0, .string ⟨#[]⟩, .int .i64 0, .string ⟨#[]⟩, .int .i64 0, .string ⟨#[]⟩, .int .i64 0, .string ⟨#[]⟩, .int .i64 0, .string ⟨#[]⟩, .int .i64 0, .string ⟨#[]⟩, .int .i64 0, .string ⟨#[]⟩, .int .i64 0, .string ⟨#[]⟩, .int .i64 0, .string ⟨#[]⟩, .int .i64 0, .string ⟨#[]⟩, .int .i64 0, .string ⟨#[]⟩, .int .i64 0, .string ⟨#[]⟩, .int .i64 0, .string ⟨#[]⟩, .int .i64 0, .string ⟨#[]⟩, .int .i64 0, .string ⟨#[]⟩, .int .i64 0, .string ⟨#[]⟩, .int .i64 0, .string ⟨#[]⟩, .int .i64 0, .string ⟨#[]⟩, .int .i64 0, .string ⟨#[]⟩, .int .i64 0, .string ⟨#[]⟩, .int .i64 0, .string ⟨#[]⟩, .int .i64 0, .string ⟨#[]⟩, .int .i64 0, .string ⟨#[]⟩, .int .i64 0, .string ⟨#[]⟩, .int .i64 0, .string ⟨#[]⟩, .int .i64 0, .string ⟨#[]⟩, .int .i64 0, .string ⟨#[]⟩, .int .i64 0, .string ⟨#[]⟩, .int .i64 0, .string ⟨#[]⟩, .int .i64 0, .string ⟨#[]⟩, .int .i64 0, .string ⟨#[]⟩, .int .i64 0, .string ⟨#[]⟩, .int .i64 0, .string ⟨#[]⟩, .int .i64 0, .string ⟨#[]⟩, .int .i64 0, .string ⟨#[]⟩, .int .i64 0, .string ⟨#[]⟩, .int .i64 0]
theorem inst_zero : (Tryd.prog.info? 71).map (fun i => (i.zero, i.size)) = some (some (.agg inst_zeros), 80) := by kernel_rfl
theorem inst_cells_one : inst_cells.all (·.oneCell') = true := by decide +kernel
theorem inst_build0 (W : World) : (Instr.build 70 #[]).run Tryd.prog W = .ok (inst_op 0) W := run_build W _ _ _ (by kernel_rfl)
theorem inst_build1 (W : World) : (Instr.build 70 #[(0, .string ⟨#[109, 111, 118, 122]⟩), (1, .int .i64 1)]).run Tryd.prog W = .ok (inst_op 1) W := run_build W _ _ _ (by kernel_rfl)
theorem inst_build2 (W : World) : (Instr.build 70 #[(0, .string ⟨#[109, 111, 118, 110]⟩), (1, .int .i64 1)]).run Tryd.prog W = .ok (inst_op 2) W := run_build W _ _ _ (by kernel_rfl)
theorem inst_build3 (W : World) : (Instr.build 70 #[(0, .string ⟨#[109, 111, 118, 107]⟩), (1, .int .i64 1)]).run Tryd.prog W = .ok (inst_op 3) W := run_build W _ _ _ (by kernel_rfl)
theorem inst_build4 (W : World) : (Instr.build 70 #[(0, .string ⟨#[97, 100, 100]⟩), (1, .int .i64 2)]).run Tryd.prog W = .ok (inst_op 4) W := run_build W _ _ _ (by kernel_rfl)
theorem inst_build5 (W : World) : (Instr.build 70 #[(0, .string ⟨#[115, 117, 98]⟩), (1, .int .i64 2)]).run Tryd.prog W = .ok (inst_op 5) W := run_build W _ _ _ (by kernel_rfl)
theorem inst_build6 (W : World) : (Instr.build 70 #[(0, .string ⟨#[97, 100, 100, 115]⟩), (1, .int .i64 2)]).run Tryd.prog W = .ok (inst_op 6) W := run_build W _ _ _ (by kernel_rfl)
theorem inst_build7 (W : World) : (Instr.build 70 #[(0, .string ⟨#[115, 117, 98, 115]⟩), (1, .int .i64 2)]).run Tryd.prog W = .ok (inst_op 7) W := run_build W _ _ _ (by kernel_rfl)
theorem inst_build8 (W : World) : (Instr.build 70 #[(0, .string ⟨#[97, 110, 100]⟩), (1, .int .i64 3)]).run Tryd.prog W = .ok (inst_op 8) W := run_build W _ _ _ (by kernel_rfl)
theorem inst_build9 (W : World) : (Instr.build 70 #[(0, .string ⟨#[111, 114, 114]⟩), (1, .int .i64 3)]).run Tryd.prog W = .ok (inst_op 9) W := run_build W _ _ _ (by kernel_rfl)
theorem inst_build10 (W : World) : (Instr.build 70 #[(0, .string ⟨#[101, 111, 114]⟩), (1, .int .i64 3)]).run Tryd.prog W = .ok (inst_op 10) W := run_build W _ _ _ (by kernel_rfl)
theorem inst_build11 (W : World) : (Instr.build 70 #[(0, .string ⟨#[97, 110, 100, 115]⟩), (1, .int .i64 3)]).run Tryd.prog W = .ok (inst_op 11) W := run_build W _ _ _ (by kernel_rfl)
theorem inst_build12 (W : World) : (Instr.build 70 #[(0, .string ⟨#[97, 100, 100]⟩), (1, .int .i64 4)]).run Tryd.prog W = .ok (inst_op 12) W := run_build W _ _ _ (by kernel_rfl)
theorem inst_build13 (W : World) : (Instr.build 70 #[(0, .string ⟨#[115, 117, 98]⟩), (1, .int .i64 4)]).run Tryd.prog W = .ok (inst_op 13) W := run_build W _ _ _ (by kernel_rfl)
theorem inst_build14 (W : World) : (Instr.build 70 #[(0, .string ⟨#[97, 100, 100, 115]⟩), (1, .int .i64 4)]).run Tryd.prog W = .ok (inst_op 14) W := run_build W _ _ _ (by kernel_rfl)
theorem inst_build15 (W : World) : (Instr.build 70 #[(0, .string ⟨#[115, 117, 98, 115]⟩), (1, .int .i64 4)]).run Tryd.prog W = .ok (inst_op 15) W := run_build W _ _ _ (by kernel_rfl)
theorem inst_build16 (W : World) : (Instr.build 70 #[(0, .string ⟨#[97, 110, 100]⟩), (1, .int .i64 5)]).run Tryd.prog W = .ok (inst_op 16) W := run_build W _ _ _ (by kernel_rfl)
theorem inst_build17 (W : World) : (Instr.build 70 #[(0, .string ⟨#[111, 114, 114]⟩), (1, .int .i64 5)]).run Tryd.prog W = .ok (inst_op 17) W := run_build W _ _ _ (by kernel_rfl)
theorem inst_build18 (W : World) : (Instr.build 70 #[(0, .string ⟨#[101, 111, 114]⟩), (1, .int .i64 5)]).run Tryd.prog W = .ok (inst_op 18) W := run_build W _ _ _ (by kernel_rfl)
theorem inst_build19 (W : World) : (Instr.build 70 #[(0, .string ⟨#[97, 110, 100, 115]⟩), (1, .int .i64 5)]).run Tryd.prog W = .ok (inst_op 19) W := run_build W _ _ _ (by kernel_rfl)
theorem inst_build20 (W : World) : (Instr.build 70 #[(0, .string ⟨#[109, 97, 100, 100]⟩), (1, .int .i64 6)]).run Tryd.prog W = .ok (inst_op 20) W := run_build W _ _ _ (by kernel_rfl)
theorem inst_build21 (W : World) : (Instr.build 70 #[(0, .string ⟨#[109, 115, 117, 98]⟩), (1, .int .i64 6)]).run Tryd.prog W = .ok (inst_op 21) W := run_build W _ _ _ (by kernel_rfl)
theorem inst_build22 (W : World) : (Instr.build 70 #[(0, .string ⟨#[108, 100, 114]⟩), (1, .int .i64 7)]).run Tryd.prog W = .ok (inst_op 22) W := run_build W _ _ _ (by kernel_rfl)
theorem inst_build23 (W : World) : (Instr.build 70 #[(0, .string ⟨#[115, 116, 114]⟩), (1, .int .i64 7)]).run Tryd.prog W = .ok (inst_op 23) W := run_build W _ _ _ (by kernel_rfl)
theorem inst_build24 (W : World) : (Instr.build 70 #[(0, .string ⟨#[108, 100, 114, 98]⟩), (1, .int .i64 8)]).run Tryd.prog W = .ok (inst_op 24) W := run_build W _ _ _ (by kernel_rfl)
theorem inst_build25 (W : World) : (Instr.build 70 #[(0, .string ⟨#[115, 116, 114, 98]⟩), (1, .int .i64 8)]).run Tryd.prog W = .ok (inst_op 25) W := run_build W _ _ _ (by kernel_rfl)
theorem inst_build26 (W : World) : (Instr.build 70 #[(0, .string ⟨#[108, 100, 114]⟩), (1, .int .i64 9)]).run Tryd.prog W = .ok (inst_op 26) W := run_build W _ _ _ (by kernel_rfl)
theorem inst_build27 (W : World) : (Instr.build 70 #[(0, .string ⟨#[97, 100, 114]⟩), (1, .int .i64 10)]).run Tryd.prog W = .ok (inst_op 27) W := run_build W _ _ _ (by kernel_rfl)
theorem inst_build28 (W : World) : (Instr.build 70 #[(0, .string ⟨#[97, 100, 114, 112]⟩), (1, .int .i64 10)]).run Tryd.prog W = .ok (inst_op 28) W := run_build W _ _ _ (by kernel_rfl)
theorem inst_build29 (W : World) : (Instr.build 70 #[(0, .string ⟨#[98]⟩), (1, .int .i64 11)]).run Tryd.prog W = .ok (inst_op 29) W := run_build W _ _ _ (by kernel_rfl)
theorem inst_build30 (W : World) : (Instr.build 70 #[(0, .string ⟨#[98, 108]⟩), (1, .int .i64 11)]).run Tryd.prog W = .ok (inst_op 30) W := run_build W _ _ _ (by kernel_rfl)
theorem inst_build31 (W : World) : (Instr.build 70 #[(0, .string ⟨#[98]⟩), (1, .int .i64 12)]).run Tryd.prog W = .ok (inst_op 31) W := run_build W _ _ _ (by kernel_rfl)
theorem inst_build32 (W : World) : (Instr.build 70 #[(0, .string ⟨#[99, 98, 122]⟩), (1, .int .i64 9)]).run Tryd.prog W = .ok (inst_op 32) W := run_build W _ _ _ (by kernel_rfl)
theorem inst_build33 (W : World) : (Instr.build 70 #[(0, .string ⟨#[99, 98, 110, 122]⟩), (1, .int .i64 9)]).run Tryd.prog W = .ok (inst_op 33) W := run_build W _ _ _ (by kernel_rfl)
theorem inst_build34 (W : World) : (Instr.build 70 #[(0, .string ⟨#[98, 114]⟩), (1, .int .i64 13)]).run Tryd.prog W = .ok (inst_op 34) W := run_build W _ _ _ (by kernel_rfl)
theorem inst_build35 (W : World) : (Instr.build 70 #[(0, .string ⟨#[98, 108, 114]⟩), (1, .int .i64 13)]).run Tryd.prog W = .ok (inst_op 35) W := run_build W _ _ _ (by kernel_rfl)
theorem inst_build36 (W : World) : (Instr.build 70 #[(0, .string ⟨#[114, 101, 116]⟩), (1, .int .i64 13)]).run Tryd.prog W = .ok (inst_op 36) W := run_build W _ _ _ (by kernel_rfl)
theorem inst_build37 (W : World) : (Instr.build 70 #[(0, .string ⟨#[115, 118, 99]⟩), (1, .int .i64 14)]).run Tryd.prog W = .ok (inst_op 37) W := run_build W _ _ _ (by kernel_rfl)
theorem inst_build38 (W : World) : (Instr.build 70 #[(0, .string ⟨#[110, 111, 112]⟩), (1, .int .i64 15)]).run Tryd.prog W = .ok (inst_op 38) W := run_build W _ _ _ (by kernel_rfl)
theorem inst_build39 (W : World) : (Instr.build 70 #[(0, .string ⟨#[99, 115, 101, 108]⟩), (1, .int .i64 16)]).run Tryd.prog W = .ok (inst_op 39) W := run_build W _ _ _ (by kernel_rfl)
theorem inst_buildAll (W : World) : (Instr.build 71 #[(0, inst_op 0), (1, inst_op 1), (2, inst_op 2), (3, inst_op 3), (4, inst_op 4), (5, inst_op 5), (6, inst_op 6), (7, inst_op 7), (8, inst_op 8), (9, inst_op 9), (10, inst_op 10), (11, inst_op 11), (12, inst_op 12), (13, inst_op 13), (14, inst_op 14), (15, inst_op 15), (16, inst_op 16), (17, inst_op 17), (18, inst_op 18), (19, inst_op 19), (20, inst_op 20), (21, inst_op 21), (22, inst_op 22), (23, inst_op 23), (24, inst_op 24), (25, inst_op 25), (26, inst_op 26), (27, inst_op 27), (28, inst_op 28), (29, inst_op 29), (30, inst_op 30), (31, inst_op 31), (32, inst_op 32), (33, inst_op 33), (34, inst_op 34), (35, inst_op 35), (36, inst_op 36), (37, inst_op 37), (38, inst_op 38), (39, inst_op 39)]).run Tryd.prog W = .ok (.agg inst_cells) W := run_build W _ _ _ (by kernel_rfl)
theorem inst_cells_size : inst_cells.size = 80 := rfl
theorem results_cell_ {P : Program} {fn : Func} {p : Tmp} {ty : TypeId} {b : Nat} {c : Array Value} {d : TypeDesc} (h : fn.results = #[.cell p ty]) (tmps : Array Value) (w : World) (ha : tmps.getD p undef = .pointer (some ⟨b, 0, none⟩))
    (hb : w.heap[b]? = some (.cells c ty (0, 0))) (hu : P.underlying ty = some d) (hd : (match d with | .array _ _ => true | .struct _ => true | _ => false) = true) (hi : (P.info? ty).map (·.size) = some c.size) : (results fn tmps).run P w = .ok (.agg c) w := by
  have hl := run_loadVar_row w b ty ty c (0, 0) d hb hu (by cases d <;> simp_all) hi
  have ha' : tmps[p]?.getD undef = .pointer (some ⟨b, 0, none⟩) := by simpa using ha
  simp [results, h, ha', asAddr, hl]
theorem heap_last_ (w : World) (o : Obj) : (w.alloc o).heap[w.heap.size]? = some o := by
  show (w.heap.push o)[w.heap.size]? = some o
  simp
attribute [-go_sem] Instr.build Instr.fill in
set_option maxHeartbeats 12800000 in
set_option maxRecDepth 100000 in
theorem inst_ops.calls (w : World) : Calls Tryd.prog 68 #[] w fun e w' => e = .returned (.agg inst_cells) ∧ Below w.heap.size w w' := by
  obtain ⟨hz, hs⟩ := zero_of_info inst_zero
  have hst := run_storeCells_new (P := Tryd.prog) w 71 inst_zeros inst_cells hs rfl inst_cells_one
  have hld := run_loadCellsFrom_new (P := Tryd.prog) w 71 inst_cells 80 rfl
  have hsz := inst_cells_size
  have hb0 := inst_build0
  have hb1 := inst_build1
  have hb2 := inst_build2
  have hb3 := inst_build3
  have hb4 := inst_build4
  have hb5 := inst_build5
  have hb6 := inst_build6
  have hb7 := inst_build7
  have hb8 := inst_build8
  have hb9 := inst_build9
  have hb10 := inst_build10
  have hb11 := inst_build11
  have hb12 := inst_build12
  have hb13 := inst_build13
  have hb14 := inst_build14
  have hb15 := inst_build15
  have hb16 := inst_build16
  have hb17 := inst_build17
  have hb18 := inst_build18
  have hb19 := inst_build19
  have hb20 := inst_build20
  have hb21 := inst_build21
  have hb22 := inst_build22
  have hb23 := inst_build23
  have hb24 := inst_build24
  have hb25 := inst_build25
  have hb26 := inst_build26
  have hb27 := inst_build27
  have hb28 := inst_build28
  have hb29 := inst_build29
  have hb30 := inst_build30
  have hb31 := inst_build31
  have hb32 := inst_build32
  have hb33 := inst_build33
  have hb34 := inst_build34
  have hb35 := inst_build35
  have hb36 := inst_build36
  have hb37 := inst_build37
  have hb38 := inst_build38
  have hb39 := inst_build39
  have hba := inst_buildAll
  go_enter Tryd.func68, Tryd.ntmps68
  go_wp2
  clear hba hb0 hb1 hb2 hb3 hb4 hb5 hb6 hb7 hb8 hb9 hb10 hb11 hb12 hb13 hb14 hb15 hb16 hb17 hb18 hb19 hb20 hb21 hb22 hb23 hb24 hb25 hb26 hb27 hb28 hb29 hb30 hb31 hb32 hb33 hb34 hb35 hb36 hb37 hb38 hb39
  refine bodyPost_ret (v := .agg inst_cells) (results_cell_ rfl _ _ rfl (heap_last_ w _) Tryd.underlying71 rfl hs) rfl ⟨rfl, (Below.refl _ _).alloc (Nat.le_refl _) _⟩
theorem inst_field0 (i : Nat) (W : World) : (Instr.field 70 (inst_op i) 0).run Tryd.prog W = .ok (.string (inst_name i)) W := by kernel_rfl
theorem inst_field1 (i : Nat) (W : World) : (Instr.field 70 (inst_op i) 1).run Tryd.prog W = .ok (.int .i64 (inst_shape i)) W := by kernel_rfl
theorem inst_index : ∀ (i : Nat) (_ : i < 40) (W : World), (Instr.index 71 (.agg inst_cells) (.int .i64 (i : Int))).run Tryd.prog W = .ok (inst_op i) W
  | 0, _, _ => by kernel_rfl
  | 1, _, _ => by kernel_rfl
  | 2, _, _ => by kernel_rfl
  | 3, _, _ => by kernel_rfl
  | 4, _, _ => by kernel_rfl
  | 5, _, _ => by kernel_rfl
  | 6, _, _ => by kernel_rfl
  | 7, _, _ => by kernel_rfl
  | 8, _, _ => by kernel_rfl
  | 9, _, _ => by kernel_rfl
  | 10, _, _ => by kernel_rfl
  | 11, _, _ => by kernel_rfl
  | 12, _, _ => by kernel_rfl
  | 13, _, _ => by kernel_rfl
  | 14, _, _ => by kernel_rfl
  | 15, _, _ => by kernel_rfl
  | 16, _, _ => by kernel_rfl
  | 17, _, _ => by kernel_rfl
  | 18, _, _ => by kernel_rfl
  | 19, _, _ => by kernel_rfl
  | 20, _, _ => by kernel_rfl
  | 21, _, _ => by kernel_rfl
  | 22, _, _ => by kernel_rfl
  | 23, _, _ => by kernel_rfl
  | 24, _, _ => by kernel_rfl
  | 25, _, _ => by kernel_rfl
  | 26, _, _ => by kernel_rfl
  | 27, _, _ => by kernel_rfl
  | 28, _, _ => by kernel_rfl
  | 29, _, _ => by kernel_rfl
  | 30, _, _ => by kernel_rfl
  | 31, _, _ => by kernel_rfl
  | 32, _, _ => by kernel_rfl
  | 33, _, _ => by kernel_rfl
  | 34, _, _ => by kernel_rfl
  | 35, _, _ => by kernel_rfl
  | 36, _, _ => by kernel_rfl
  | 37, _, _ => by kernel_rfl
  | 38, _, _ => by kernel_rfl
  | 39, _, _ => by kernel_rfl
  | i + 40, h, _ => absurd h (by omega)
theorem inst_index_int (a : Int) (h0 : 0 ≤ a) (h1 : a < 40) (W : World) : (Instr.index 71 (.agg inst_cells) (.int .i64 a)).run Tryd.prog W = .ok (inst_op a.toNat) W := by
  obtain ⟨i, rfl⟩ := Int.eq_ofNat_of_zero_le h0
  exact inst_index i (by omega) W
def inst_Shape.f (a0 : Int) : Option Int := some (if a0 < 1 then 0 else if a0 > 39 then 0 else inst_shape a0.toNat)
theorem inst_Shape.calls (a0 : Int) (r : Int) (w : World) (h : inst_Shape.f a0 = some r) :
    Calls Tryd.prog 36 #[.int .i64 a0] w fun e w' => e = .returned (.int .i64 r) ∧ Below w.heap.size w w' := by
  unfold inst_Shape.f at h
  obtain rfl := Option.some.inj h
  clear h
  by_cases h1 : a0 < 1
  · rw [if_pos h1]
    go_enter Tryd.func36, Tryd.ntmps36
    go_wp2
    go_ret
    exact ⟨rfl, Below.refl _ _⟩
  · by_cases h2 : a0 > 39
    · rw [if_neg h1, if_pos h2]
      go_enter Tryd.func36, Tryd.ntmps36
      go_wp2
      go_ret
      exact ⟨rfl, Below.refl _ _⟩
    · rw [if_neg h1, if_neg h2]
      have hi := inst_index_int a0 (by omega) (by omega)
      have hf := inst_field1
      go_enter Tryd.func36, Tryd.ntmps36
      go_wp2_with (first | (go_at_call 68; refine (inst_ops.calls _).mono ?_; rintro e w1 ⟨rfl, hb1⟩; have HB1 := Aside0.mk hb1; clear hb1))
      go_ret
      exact ⟨rfl, HB1.out⟩
/-- What a shape's fields may be. -/
def inst_shL : List (Bool × Bool × Bool × Bool × Int × Int × Int × Int × Int × Int × Int × Bool) := [(false, false, false, false, 0, 0, 0, 0, 0, 0, 0, false), (true, false, false, false, 0, 65535, 1, 48, 16, 0, 0, false), (true, true, false, false, 0, 4095, 1, 12, 12, 0, 0, true), (true, true, false, false, 0, 0, 0, 0, 0, 0, 0, false), (true, true, true, false, 0, 0, 0, 63, 1, 2, 0, false), (true, true, true, false, 0, 0, 0, 63, 1, 3, 0, false), (true, true, true, true, 0, 0, 0, 0, 0, 0, 0, false), (true, true, false, false, 0, 32760, 8, 0, 0, 0, 0, true), (true, true, false, false, 0, 4095, 1, 0, 0, 0, 0, true), (true, false, false, false, (-1048576), 1048572, 4, 0, 0, 0, 0, false), (true, false, false, false, (-1048576), 1048575, 1, 0, 0, 0, 0, false), (false, false, false, false, (-134217728), 134217724, 4, 0, 0, 0, 0, false), (false, false, false, false, (-1048576), 1048572, 4, 0, 0, 0, 13, false), (false, true, false, false, 0, 0, 0, 0, 0, 0, 0, false), (false, false, false, false, 0, 65535, 1, 0, 0, 0, 0, false), (false, false, false, false, 0, 0, 0, 0, 0, 0, 0, false), (true, true, true, false, 0, 0, 0, 0, 0, 0, 13, false)]
def inst_sh (i : Nat) : Bool × Bool × Bool × Bool × Int × Int × Int × Int × Int × Int × Int × Bool := inst_shL.getD i (false, false, false, false, 0, 0, 0, 0, 0, 0, 0, false)
def inst_shv (t : Bool × Bool × Bool × Bool × Int × Int × Int × Int × Int × Int × Int × Bool) : Array Value := #[.bool t.1, .bool t.2.1, .bool t.2.2.1, .bool t.2.2.2.1, .int .i64 t.2.2.2.2.1, .int .i64 t.2.2.2.2.2.1, .int .i64 t.2.2.2.2.2.2.1, .int .i64 t.2.2.2.2.2.2.2.1, .int .i64 t.2.2.2.2.2.2.2.2.1, .int .i64 t.2.2.2.2.2.2.2.2.2.1, .int .i64 t.2.2.2.2.2.2.2.2.2.2.1, .bool t.2.2.2.2.2.2.2.2.2.2.2]
def inst_shz : Array Value := #[.bool false, .bool false, .bool false, .bool false, .int .i64 0, .int .i64 0, .int .i64 0, .int .i64 0, .int .i64 0, .int .i64 0, .int .i64 0, .bool false]
def inst_shAll : Array Value := #[.bool false, .bool false, .bool false, .bool false, .int .i64 0, .int .i64 0, .int .i64 0, .int .i64 0, .int .i64 0, .int .i64 0, .int .i64 0, .bool false, .bool true, .bool false, .bool false, .bool false, .int .i64 0, .int .i64 65535, .int .i64 1, .int .i64 48, .int .i64 16, .int .i64 0, .int .i64 0, .bool false, .bool true, .bool true, .bool false, .bool false, .int .i64 0, .int .i64 4095, .int .i64 1, .int .i64 12, .int .i64 12, .int .i64 0, .int .i64 0, .bool true, .bool true, .bool true, .bool false, .bool false, .int .i64 0, .int .i64 0, .int .i64 0, .int .i64 0, .int .i64 0, .int .i64 0, .int .i64 0, .bool false, .bool true, .bool true, .bool true, .bool false, .int .i64 0, .int .i64 0, .int .i64 0, .int .i64 63, .int .i64 1, .int .i64 2, .int .i64 0, .bool false, .bool true, .bool true, .bool true, .bool false, .int .i64 0, .int .i64 0, .int .i64 0, .int .i64 63, .int .i64 1, .int .i64 3, .int .i64 0, .bool false, .bool true, .bool true, .bool true, .bool true, .int .i64 0, .int .i64 0, .int .i64 0, .int .i64 0, .int .i64 0, .int .i64 0, .int .i64 0, .bool false, .bool true, .bool true, .bool false, .bool false, .int .i64 0, .int .i64 32760, .int .i64 8, .int .i64 0, .int .i64 0, .int .i64 0, .int .i64 0, .bool true, .bool true, .bool true, .bool false, .bool false, .int .i64 0, .int .i64 4095, .int .i64 1, .int .i64 0, .int .i64 0, .int .i64 0, .int .i64 0, .bool true, .bool true, .bool false, .bool false, .bool false, .int .i64 (-1048576), .int .i64 1048572, .int .i64 4, .int .i64 0, .int .i64 0, .int .i64 0, .int .i64 0, .bool false, .bool true, .bool false, .bool false, .bool false, .int .i64 (-1048576), .int .i64 1048575, .int .i64 1, .int .i64 0, .int .i64 0, .int .i64 0, .int .i64 0, .bool false, .bool false, .bool false, .bool false, .bool false, .int .i64 (-134217728), .int .i64 134217724, .int .i64 4, .int .i64 0, .int .i64 0, .int .i64 0, .int .i64 0, .bool false, .bool false, .bool false, .bool false, .bool false, .int .i64 (-1048576), .int .i64 1048572, .int .i64 4, .int .i64 0, .int .i64 0, .int .i64 0, .int .i64 13, .bool false, .bool false, .bool true, .bool false, .bool false, .int .i64 0, .int .i64 0, .int .i64 0, .int .i64 0, .int .i64 0, .int .i64 0, .int .i64 0, .bool false, .bool false, .bool false, .bool false, .bool false, .int .i64 0, .int .i64 65535, .int .i64 1, .int .i64 0, .int .i64 0, .int .i64 0, .int .i64 0, .bool false, .bool false, .bool false, .bool false, .bool false, .int .i64 0, .int .i64 0, .int .i64 0, .int .i64 0, .int .i64 0, .int .i64 0, .int .i64 0, .bool false, .bool true, .bool true, .bool true, .bool false, .int .i64 0, .int .i64 0, .int .i64 0, .int .i64 0, .int .i64 0, .int .i64 0, .int .i64 13, .bool false]
theorem inst_shzero : (Tryd.prog.info? 59).map (fun i => (i.zero, i.size)) = some (some (.agg inst_shz), 12) := by kernel_rfl
theorem inst_sh1 (W : World) : (Instr.build 59 #[(0, .bool true), (5, .int .i64 65535), (6, .int .i64 1), (7, .int .i64 48), (8, .int .i64 16)]).run Tryd.prog W = .ok (.agg (inst_shv (inst_sh 1))) W := run_build W _ _ _ (by kernel_rfl)
theorem inst_sh2 (W : World) : (Instr.build 59 #[(0, .bool true), (1, .bool true), (5, .int .i64 4095), (6, .int .i64 1), (7, .int .i64 12), (8, .int .i64 12), (11, .bool true)]).run Tryd.prog W = .ok (.agg (inst_shv (inst_sh 2))) W := run_build W _ _ _ (by kernel_rfl)
theorem inst_sh3 (W : World) : (Instr.build 59 #[(0, .bool true), (1, .bool true)]).run Tryd.prog W = .ok (.agg (inst_shv (inst_sh 3))) W := run_build W _ _ _ (by kernel_rfl)
theorem inst_sh4 (W : World) : (Instr.build 59 #[(0, .bool true), (1, .bool true), (2, .bool true), (7, .int .i64 63), (8, .int .i64 1), (9, .int .i64 2)]).run Tryd.prog W = .ok (.agg (inst_shv (inst_sh 4))) W := run_build W _ _ _ (by kernel_rfl)
theorem inst_sh5 (W : World) : (Instr.build 59 #[(0, .bool true), (1, .bool true), (2, .bool true), (7, .int .i64 63), (8, .int .i64 1), (9, .int .i64 3)]).run Tryd.prog W = .ok (.agg (inst_shv (inst_sh 5))) W := run_build W _ _ _ (by kernel_rfl)
theorem inst_sh6 (W : World) : (Instr.build 59 #[(0, .bool true), (1, .bool true), (2, .bool true), (3, .bool true)]).run Tryd.prog W = .ok (.agg (inst_shv (inst_sh 6))) W := run_build W _ _ _ (by kernel_rfl)
theorem inst_sh7 (W : World) : (Instr.build 59 #[(0, .bool true), (1, .bool true), (5, .int .i64 32760), (6, .int .i64 8), (11, .bool true)]).run Tryd.prog W = .ok (.agg (inst_shv (inst_sh 7))) W := run_build W _ _ _ (by kernel_rfl)
theorem inst_sh8 (W : World) : (Instr.build 59 #[(0, .bool true), (1, .bool true), (5, .int .i64 4095), (6, .int .i64 1), (11, .bool true)]).run Tryd.prog W = .ok (.agg (inst_shv (inst_sh 8))) W := run_build W _ _ _ (by kernel_rfl)
theorem inst_sh9 (W : World) : (Instr.build 59 #[(0, .bool true), (4, .int .i64 (-1048576)), (5, .int .i64 1048572), (6, .int .i64 4)]).run Tryd.prog W = .ok (.agg (inst_shv (inst_sh 9))) W := run_build W _ _ _ (by kernel_rfl)
theorem inst_sh10 (W : World) : (Instr.build 59 #[(0, .bool true), (4, .int .i64 (-1048576)), (5, .int .i64 1048575), (6, .int .i64 1)]).run Tryd.prog W = .ok (.agg (inst_shv (inst_sh 10))) W := run_build W _ _ _ (by kernel_rfl)
theorem inst_sh11 (W : World) : (Instr.build 59 #[(4, .int .i64 (-134217728)), (5, .int .i64 134217724), (6, .int .i64 4)]).run Tryd.prog W = .ok (.agg (inst_shv (inst_sh 11))) W := run_build W _ _ _ (by kernel_rfl)
theorem inst_sh12 (W : World) : (Instr.build 59 #[(4, .int .i64 (-1048576)), (5, .int .i64 1048572), (6, .int .i64 4), (10, .int .i64 13)]).run Tryd.prog W = .ok (.agg (inst_shv (inst_sh 12))) W := run_build W _ _ _ (by kernel_rfl)
theorem inst_sh13 (W : World) : (Instr.build 59 #[(1, .bool true)]).run Tryd.prog W = .ok (.agg (inst_shv (inst_sh 13))) W := run_build W _ _ _ (by kernel_rfl)
theorem inst_sh14 (W : World) : (Instr.build 59 #[(5, .int .i64 65535), (6, .int .i64 1)]).run Tryd.prog W = .ok (.agg (inst_shv (inst_sh 14))) W := run_build W _ _ _ (by kernel_rfl)
theorem inst_sh16 (W : World) : (Instr.build 59 #[(0, .bool true), (1, .bool true), (2, .bool true), (10, .int .i64 13)]).run Tryd.prog W = .ok (.agg (inst_shv (inst_sh 16))) W := run_build W _ _ _ (by kernel_rfl)
theorem inst_shBuild (W : World) : (Instr.build 77 #[(1, .agg (inst_shv (inst_sh 1))), (2, .agg (inst_shv (inst_sh 2))), (3, .agg (inst_shv (inst_sh 3))), (4, .agg (inst_shv (inst_sh 4))), (5, .agg (inst_shv (inst_sh 5))), (6, .agg (inst_shv (inst_sh 6))), (7, .agg (inst_shv (inst_sh 7))), (8, .agg (inst_shv (inst_sh 8))), (9, .agg (inst_shv (inst_sh 9))), (10, .agg (inst_shv (inst_sh 10))), (11, .agg (inst_shv (inst_sh 11))), (12, .agg (inst_shv (inst_sh 12))), (13, .agg (inst_shv (inst_sh 13))), (14, .agg (inst_shv (inst_sh 14))), (16, .agg (inst_shv (inst_sh 16)))]).run Tryd.prog W = .ok (.agg inst_shAll) W := run_build W _ _ _ (by kernel_rfl)
theorem inst_shIndex : ∀ (i : Nat) (_ : i < 17) (W : World), (Instr.index 77 (.agg inst_shAll) (.int .i64 (i : Int))).run Tryd.prog W = .ok (.agg (inst_shv (inst_sh i))) W
  | 0, _, _ => by kernel_rfl
  | 1, _, _ => by kernel_rfl
  | 2, _, _ => by kernel_rfl
  | 3, _, _ => by kernel_rfl
  | 4, _, _ => by kernel_rfl
  | 5, _, _ => by kernel_rfl
  | 6, _, _ => by kernel_rfl
  | 7, _, _ => by kernel_rfl
  | 8, _, _ => by kernel_rfl
  | 9, _, _ => by kernel_rfl
  | 10, _, _ => by kernel_rfl
  | 11, _, _ => by kernel_rfl
  | 12, _, _ => by kernel_rfl
  | 13, _, _ => by kernel_rfl
  | 14, _, _ => by kernel_rfl
  | 15, _, _ => by kernel_rfl
  | 16, _, _ => by kernel_rfl
  | i + 17, h, _ => absurd h (by omega)
def inst_shapeOf.f (a0 : Int) : Option (Bool × Bool × Bool × Bool × Int × Int × Int × Int × Int × Int × Int × Bool) := if 0 ≤ a0 ∧ a0 < 17 then some (inst_sh a0.toNat) else none
theorem inst_sh_load (W : World) (t : Bool × Bool × Bool × Bool × Int × Int × Int × Int × Int × Int × Int × Bool) : (loadCellsFrom ⟨W.heap.size, 0, none⟩ 0 12 #[]).run Tryd.prog (W.alloc (.cells (inst_shv t) 59)) = .ok (inst_shv t) (W.alloc (.cells (inst_shv t) 59)) := run_loadCellsFrom_new W _ _ 12 rfl
attribute [-go_sem] Instr.build Instr.fill in
set_option maxHeartbeats 12800000 in
set_option maxRecDepth 100000 in
theorem inst_shapeOf.calls (a0 : Int) (r1 : Bool) (r2 : Bool) (r3 : Bool) (r4 : Bool) (r5 : Int) (r6 : Int) (r7 : Int) (r8 : Int) (r9 : Int) (r10 : Int) (r11 : Int) (r12 : Bool) (w : World) (h : inst_shapeOf.f a0 = some (r1, r2, r3, r4, r5, r6, r7, r8, r9, r10, r11, r12)) :
    Calls Tryd.prog 57 #[.int .i64 a0] w fun e w' => e = .returned (.agg #[.bool r1, .bool r2, .bool r3, .bool r4, .int .i64 r5, .int .i64 r6, .int .i64 r7, .int .i64 r8, .int .i64 r9, .int .i64 r10, .int .i64 r11, .bool r12]) ∧ Below w.heap.size w w' := by
  unfold inst_shapeOf.f at h
  split at h
  · rename_i hh
    obtain ⟨i, rfl⟩ := Int.eq_ofNat_of_zero_le hh.1
    have e := Option.some.inj h
    rw [Int.toNat_natCast] at e
    have ev : (.agg (inst_shv (inst_sh i)) : Value) = .agg #[.bool r1, .bool r2, .bool r3, .bool r4, .int .i64 r5, .int .i64 r6, .int .i64 r7, .int .i64 r8, .int .i64 r9, .int .i64 r10, .int .i64 r11, .bool r12] := by rw [e]; rfl
    rw [← ev]
    clear ev e h
    obtain ⟨hz, hs⟩ := zero_of_info inst_shzero
    have hst := run_storeCells_new (P := Tryd.prog) w 59 inst_shz (inst_shv (inst_sh i)) hs rfl (by simp [inst_shv, Value.oneCell'])
    have hld := inst_sh_load w (inst_sh i)
    have hsz : (inst_shv (inst_sh i)).size = 12 := rfl
    have hi := inst_shIndex i (by omega)
    have hb1 := inst_sh1
    have hb2 := inst_sh2
    have hb3 := inst_sh3
    have hb4 := inst_sh4
    have hb5 := inst_sh5
    have hb6 := inst_sh6
    have hb7 := inst_sh7
    have hb8 := inst_sh8
    have hb9 := inst_sh9
    have hb10 := inst_sh10
    have hb11 := inst_sh11
    have hb12 := inst_sh12
    have hb13 := inst_sh13
    have hb14 := inst_sh14
    have hb16 := inst_sh16
    have hba := inst_shBuild
    go_enter Tryd.func57, Tryd.ntmps57
    go_wp2
    clear hba hb1 hb2 hb3 hb4 hb5 hb6 hb7 hb8 hb9 hb10 hb11 hb12 hb13 hb14 hb16
    refine bodyPost_ret (v := .agg (inst_shv (inst_sh i))) (results_cell_ rfl _ _ rfl (heap_last_ w _) Tryd.underlying59 rfl hs) rfl ⟨rfl, (Below.refl _ _).alloc (Nat.le_refl _) _⟩
  · simp at h
def inst_register.f (a0 : Bool) (a1 : Int) : Option (Bool) := if a1 = 0 then (some true) else (if a0 = true then (if a1 > 0 then (some (decide (a1 ≤ 31))) else (some false)) else (some false))
set_option maxHeartbeats 8000000 in
set_option maxRecDepth 100000 in
theorem inst_register.calls (a0 : Bool) (a1 : Int) (r : Bool) (w : World) (h : inst_register.f a0 a1 = some r) :
    Calls Tryd.prog 59 #[.bool a0, .int .i64 a1] w fun e w' => e = .returned (.bool r) ∧ Drawn0 w w' := by
 have H : (if a1 = 0 then (some true) else (if a0 = true then (if a1 > 0 then (some (decide (a1 ≤ 31))) else (some false)) else (some false))) = some r := h
 clear h
 by_cases c3 : a1 = 0
 ·
  rw [if_pos c3] at H
  have c3b0 : (a1 == 0) = true := beq_iff_eq.mpr c3
  have c3b1 : (a1 != 0) = false := bne_eq_false_iff_eq.mpr c3
  clear c3
  obtain rfl := Option.some.inj H
  go_enter Tryd.func59, Tryd.ntmps59
  go_wp2
  go_ret
  exact ⟨by first | rfl | (simp; done) | (simp [*]; done), by repeat (first | exact Drawn0.refl _ | apply Drawn0.step)⟩
 ·
  rw [if_neg c3] at H
  have c3b0 : (a1 == 0) = false := beq_eq_false_iff_ne.mpr c3
  have c3b1 : (a1 != 0) = true := bne_iff_ne.mpr c3
  by_cases c4 : a0 = true
  ·
   subst c4
   have H1 : (if a1 > 0 then (some (decide (a1 ≤ 31))) else (some false)) = some r := by rw [if_pos rfl] at H; exact H
   clear H
   have H := H1
   clear H1
   by_cases c5 : a1 > 0
   ·
    rw [if_pos c5] at H
    have c5b0 : decide (0 < a1) = true := decide_eq_true c5
    clear c5
    obtain rfl := Option.some.inj H
    go_enter Tryd.func59, Tryd.ntmps59
    go_wp2
    go_ret
    exact ⟨by first | rfl | (simp; done) | (simp [*]; done), by repeat (first | exact Drawn0.refl _ | apply Drawn0.step)⟩
   ·
    rw [if_neg c5] at H
    have c5b0 : decide (0 < a1) = false := decide_eq_false c5
    clear c5
    obtain rfl := Option.some.inj H
    go_enter Tryd.func59, Tryd.ntmps59
    go_wp2
    go_ret
    exact ⟨by first | rfl | (simp; done) | (simp [*]; done), by repeat (first | exact Drawn0.refl _ | apply Drawn0.step)⟩
  ·
   replace c4 := Bool.eq_false_iff.mpr c4
   subst c4
   have H1 : (some false) = some r := by rw [if_neg (show ¬ (false = true) by decide)] at H; exact H
   clear H
   have H := H1
   clear H1
   obtain rfl := Option.some.inj H
   go_enter Tryd.func59, Tryd.ntmps59
   go_wp2
   go_ret
   exact ⟨by first | rfl | (simp; done) | (simp [*]; done), by repeat (first | exact Drawn0.refl _ | apply Drawn0.step)⟩
def inst_step.f (a0 : Int) (a1 : Int) (a2 : Int) (a3 : Int) : Option (Bool) := if a3 = 0 then (some (a0 == 0)) else (if a0 ≥ a1 then (if a0 ≤ a2 then (some ((Int.tmod a0 a3) == 0)) else (some false)) else (some false))
set_option maxHeartbeats 8000000 in
set_option maxRecDepth 100000 in
theorem inst_step.calls (a0 : Int) (a1 : Int) (a2 : Int) (a3 : Int) (r : Bool) (w : World) (h : inst_step.f a0 a1 a2 a3 = some r) :
    Calls Tryd.prog 60 #[.int .i64 a0, .int .i64 a1, .int .i64 a2, .int .i64 a3] w fun e w' => e = .returned (.bool r) ∧ Drawn0 w w' := by
 have H : (if a3 = 0 then (some (a0 == 0)) else (if a0 ≥ a1 then (if a0 ≤ a2 then (some ((Int.tmod a0 a3) == 0)) else (some false)) else (some false))) = some r := h
 clear h
 by_cases c5 : a3 = 0
 ·
  rw [if_pos c5] at H
  have c5b0 : (a3 == 0) = true := beq_iff_eq.mpr c5
  have c5b1 : (a3 != 0) = false := bne_eq_false_iff_eq.mpr c5
  clear c5
  obtain rfl := Option.some.inj H
  go_enter Tryd.func60, Tryd.ntmps60
  go_wp2
  go_ret
  exact ⟨by first | rfl | (simp; done) | (simp [*]; done), by repeat (first | exact Drawn0.refl _ | apply Drawn0.step)⟩
 ·
  rw [if_neg c5] at H
  have c5b0 : (a3 == 0) = false := beq_eq_false_iff_ne.mpr c5
  have c5b1 : (a3 != 0) = true := bne_iff_ne.mpr c5
  by_cases c6 : a0 ≥ a1
  ·
   rw [if_pos c6] at H
   have c6b0 : decide (a1 ≤ a0) = true := decide_eq_true c6
   clear c6
   by_cases c7 : a0 ≤ a2
   ·
    rw [if_pos c7] at H
    have c7b0 : decide (a0 ≤ a2) = true := decide_eq_true c7
    clear c7
    obtain rfl := Option.some.inj H
    go_enter Tryd.func60, Tryd.ntmps60
    go_wp2
    go_ret
    exact ⟨by first | rfl | (simp; done) | (simp [*]; done), by repeat (first | exact Drawn0.refl _ | apply Drawn0.step)⟩
   ·
    rw [if_neg c7] at H
    have c7b0 : decide (a0 ≤ a2) = false := decide_eq_false c7
    clear c7
    obtain rfl := Option.some.inj H
    go_enter Tryd.func60, Tryd.ntmps60
    go_wp2
    go_ret
    exact ⟨by first | rfl | (simp; done) | (simp [*]; done), by repeat (first | exact Drawn0.refl _ | apply Drawn0.step)⟩
  ·
   rw [if_neg c6] at H
   have c6b0 : decide (a1 ≤ a0) = false := decide_eq_false c6
   clear c6
   obtain rfl := Option.some.inj H
   go_enter Tryd.func60, Tryd.ntmps60
   go_wp2
   go_ret
   exact ⟨by first | rfl | (simp; done) | (simp [*]; done), by repeat (first | exact Drawn0.refl _ | apply Drawn0.step)⟩
end Go.Proofs.YtbklmlbmbnnjkaaDoor.R
