/- Written for this claim by a program of this session: what the claim uses of lemmas and proved contracts of Go functions. -/
import Derived.Test.YtbklmlbmbnnjkaaDoorZDoesRx0
import Derived.Test.YtbklmlbmbnnjkaaDoorZDoesRx10
import Derived.Test.YtbklmlbmbnnjkaaDoorZDoesRx12
import Derived.Test.YtbklmlbmbnnjkaaDoorZDoesRx15
namespace Go.Proofs.YtbklmlbmbnnjkaaDoor.R
open Go.RowKit Go.Proofs.YtbklmlbmbnnjkaaDoorW.PrintWords Go.Proofs.YtbklmlbmbnnjkaaDoorW.PrintLast Go.Proofs.YtbklmlbmbnnjkaaDoorW.PrintMore
attribute [local go_sem] max2_int min2_int max_two min_two max_three min_three max_four min_four   -- for this text's walks alone
set_option linter.unusedVariables false
set_option linter.unusedSimpArgs false
mutual
def cleatref04_Reads.j0 : Nat → Int → List Int → Bool → Int → Int → Int → Int → Int → Int → Int → Int → Int → Int → Option (List Int)
 | 0, _, _, _, _, _, _, _, _, _, _, _, _, _ => none
 | k + 1, x3, x4, x29, x286000, x286001, x286002, x286003, x286004, x286005, x286006, x286007, x286008, x286009 => if x29 = true then ((cleatref04_with.f k x4 x286002).bind fun t289 => (cleatref04_Reads.j1 k x3 t289 x286000 x286001 x286002 x286003 x286004 x286005 x286006 x286007 x286008 x286009)) else (cleatref04_Reads.j1 k x3 x4 x286000 x286001 x286002 x286003 x286004 x286005 x286006 x286007 x286008 x286009)
def cleatref04_Reads.j1 : Nat → Int → List Int → Int → Int → Int → Int → Int → Int → Int → Int → Int → Int → Option (List Int)
 | 0, _, _, _, _, _, _, _, _, _, _, _, _ => none
 | k + 1, x3, x4, x286000, x286001, x286002, x286003, x286004, x286005, x286006, x286007, x286008, x286009 => (cleatref04_Has.f k x3 (⟨#[109]⟩ : ByteArray)).bind fun t292 => (if t292 = true then (cleatref04_Reads.j2 k x3 x4 (decide (x286003 < 31)) x286000 x286001 x286002 x286003 x286004 x286005 x286006 x286007 x286008 x286009) else (cleatref04_Reads.j2 k x3 x4 false x286000 x286001 x286002 x286003 x286004 x286005 x286006 x286007 x286008 x286009))
def cleatref04_Reads.j2 : Nat → Int → List Int → Bool → Int → Int → Int → Int → Int → Int → Int → Int → Int → Int → Option (List Int)
 | 0, _, _, _, _, _, _, _, _, _, _, _, _, _ => none
 | k + 1, x3, x4, x40, x286000, x286001, x286002, x286003, x286004, x286005, x286006, x286007, x286008, x286009 => if x40 = true then ((cleatref04_with.f k x4 x286003).bind fun t293 => (cleatref04_Reads.j3 k x3 t293 x286000 x286001 x286002 x286003 x286004 x286005 x286006 x286007 x286008 x286009)) else (cleatref04_Reads.j3 k x3 x4 x286000 x286001 x286002 x286003 x286004 x286005 x286006 x286007 x286008 x286009)
def cleatref04_Reads.j3 : Nat → Int → List Int → Int → Int → Int → Int → Int → Int → Int → Int → Int → Int → Option (List Int)
 | 0, _, _, _, _, _, _, _, _, _, _, _, _ => none
 | k + 1, x3, x4, x286000, x286001, x286002, x286003, x286004, x286005, x286006, x286007, x286008, x286009 => (cleatref04_Has.f k x3 (⟨#[97]⟩ : ByteArray)).bind fun t296 => (if t296 = true then (cleatref04_Reads.j4 k x4 (decide (x286004 < 31)) x286000 x286001 x286002 x286003 x286004 x286005 x286006 x286007 x286008 x286009) else (cleatref04_Reads.j4 k x4 false x286000 x286001 x286002 x286003 x286004 x286005 x286006 x286007 x286008 x286009))
def cleatref04_Reads.j4 : Nat → List Int → Bool → Int → Int → Int → Int → Int → Int → Int → Int → Int → Int → Option (List Int)
 | 0, _, _, _, _, _, _, _, _, _, _, _, _ => none
 | k + 1, x4, x51, x286000, x286001, x286002, x286003, x286004, x286005, x286006, x286007, x286008, x286009 => if x51 = true then ((cleatref04_with.f k x4 x286004).bind fun t297 => (cleatref04_Reads.j5 k t297 x286000 x286001 x286002 x286003 x286004 x286005 x286006 x286007 x286008 x286009)) else (cleatref04_Reads.j5 k x4 x286000 x286001 x286002 x286003 x286004 x286005 x286006 x286007 x286008 x286009)
def cleatref04_Reads.j5 : Nat → List Int → Int → Int → Int → Int → Int → Int → Int → Int → Int → Int → Option (List Int)
 | 0, _, _, _, _, _, _, _, _, _, _, _ => none
 | k + 1, x4, x286000, x286001, x286002, x286003, x286004, x286005, x286006, x286007, x286008, x286009 => if x286001 < 31 then (if x286000 = 3 then (cleatref04_Reads.j6 k x4 true x286000 x286001 x286002 x286003 x286004 x286005 x286006 x286007 x286008 x286009) else (if x286000 = 23 then (cleatref04_Reads.j6 k x4 true x286000 x286001 x286002 x286003 x286004 x286005 x286006 x286007 x286008 x286009) else (if x286000 = 25 then (cleatref04_Reads.j6 k x4 true x286000 x286001 x286002 x286003 x286004 x286005 x286006 x286007 x286008 x286009) else (if x286000 = 32 then (cleatref04_Reads.j6 k x4 true x286000 x286001 x286002 x286003 x286004 x286005 x286006 x286007 x286008 x286009) else (cleatref04_Reads.j6 k x4 (x286000 == 33) x286000 x286001 x286002 x286003 x286004 x286005 x286006 x286007 x286008 x286009))))) else (cleatref04_Reads.j6 k x4 false x286000 x286001 x286002 x286003 x286004 x286005 x286006 x286007 x286008 x286009)
def cleatref04_Reads.j6 : Nat → List Int → Bool → Int → Int → Int → Int → Int → Int → Int → Int → Int → Int → Option (List Int)
 | 0, _, _, _, _, _, _, _, _, _, _, _, _ => none
 | k + 1, x4, x83, x286000, x286001, x286002, x286003, x286004, x286005, x286006, x286007, x286008, x286009 => if x83 = true then ((cleatref04_with.f k x4 x286001).bind fun t300 => (cleatref04_Reads.j7 k t300 x286000 x286001 x286002 x286003 x286004 x286005 x286006 x286007 x286008 x286009)) else (cleatref04_Reads.j7 k x4 x286000 x286001 x286002 x286003 x286004 x286005 x286006 x286007 x286008 x286009)
def cleatref04_Reads.j7 : Nat → List Int → Int → Int → Int → Int → Int → Int → Int → Int → Int → Int → Option (List Int)
 | 0, _, _, _, _, _, _, _, _, _, _, _ => none
 | k + 1, x4, x286000, x286001, x286002, x286003, x286004, x286005, x286006, x286007, x286008, x286009 => if x286000 = 37 then ((cleatref04_with.f k x4 0).bind fun t303 => (some t303)) else (some x4)
end
def cleatref04_Reads.f (k : Nat) (a0_0 : Int) (a0_1 : Int) (a0_2 : Int) (a0_3 : Int) (a0_4 : Int) (a0_5 : Int) (a0_6 : Int) (a0_7 : Int) (a0_8 : Int) (a0_9 : Int) : Option (List Int) := (cleatref04_Is.f k a0_0 a0_1 a0_2 a0_3 a0_4 a0_5 a0_6 a0_7 a0_8 a0_9).bind fun t286 => (if t286 = true then ((cleatref04_Shape.f k a0_0).bind fun t287 => ((cleatref04_Has.f k t287 (⟨#[110]⟩ : ByteArray)).bind fun t288 => (if t288 = true then (if a0_2 < 31 then (cleatref04_Reads.j0 k t287 ([] : List Int) true a0_0 a0_1 a0_2 a0_3 a0_4 a0_5 a0_6 a0_7 a0_8 a0_9) else (if t287 = 2 then (cleatref04_Reads.j0 k t287 ([] : List Int) true a0_0 a0_1 a0_2 a0_3 a0_4 a0_5 a0_6 a0_7 a0_8 a0_9) else (if t287 = 7 then (cleatref04_Reads.j0 k t287 ([] : List Int) true a0_0 a0_1 a0_2 a0_3 a0_4 a0_5 a0_6 a0_7 a0_8 a0_9) else (cleatref04_Reads.j0 k t287 ([] : List Int) (t287 == 8) a0_0 a0_1 a0_2 a0_3 a0_4 a0_5 a0_6 a0_7 a0_8 a0_9)))) else (cleatref04_Reads.j0 k t287 ([] : List Int) false a0_0 a0_1 a0_2 a0_3 a0_4 a0_5 a0_6 a0_7 a0_8 a0_9)))) else (some ([] : List Int)))
set_option maxHeartbeats 8000000 in
set_option maxRecDepth 100000 in
theorem cleatref04_Reads.calls (k : Nat) (a0_0 : Int) (a0_1 : Int) (a0_2 : Int) (a0_3 : Int) (a0_4 : Int) (a0_5 : Int) (a0_6 : Int) (a0_7 : Int) (a0_8 : Int) (a0_9 : Int) (r : List Int) (w : World) (h : cleatref04_Reads.f k a0_0 a0_1 a0_2 a0_3 a0_4 a0_5 a0_6 a0_7 a0_8 a0_9 = some r) :
    Calls Tryd.prog 34 #[.agg #[.int .i64 a0_0, .int .i64 a0_1, .int .i64 a0_2, .int .i64 a0_3, .int .i64 a0_4, .int .i64 a0_5, .int .u64 a0_6, .int .i64 a0_7, .int .i64 a0_8, .int .i64 a0_9]] w fun e w' => ∃ v0_ : Value, e = .returned (v0_) ∧ Kd.R (Kd.int .i64) 3 w' w.heap.size (fun _ => True) v0_ r ∧ Below w.heap.size w w' := by
 have hu37 := Tryd.underlying37
 have HB := Aside0.mk (Below.refl w.heap.size w)
 have H : ((cleatref04_Is.f k a0_0 a0_1 a0_2 a0_3 a0_4 a0_5 a0_6 a0_7 a0_8 a0_9).bind fun t286 => (if t286 = true then ((cleatref04_Shape.f k a0_0).bind fun t287 => ((cleatref04_Has.f k t287 (⟨#[110]⟩ : ByteArray)).bind fun t288 => (if t288 = true then (if a0_2 < 31 then (cleatref04_Reads.j0 k t287 ([] : List Int) true a0_0 a0_1 a0_2 a0_3 a0_4 a0_5 a0_6 a0_7 a0_8 a0_9) else (if t287 = 2 then (cleatref04_Reads.j0 k t287 ([] : List Int) true a0_0 a0_1 a0_2 a0_3 a0_4 a0_5 a0_6 a0_7 a0_8 a0_9) else (if t287 = 7 then (cleatref04_Reads.j0 k t287 ([] : List Int) true a0_0 a0_1 a0_2 a0_3 a0_4 a0_5 a0_6 a0_7 a0_8 a0_9) else (cleatref04_Reads.j0 k t287 ([] : List Int) (t287 == 8) a0_0 a0_1 a0_2 a0_3 a0_4 a0_5 a0_6 a0_7 a0_8 a0_9)))) else (cleatref04_Reads.j0 k t287 ([] : List Int) false a0_0 a0_1 a0_2 a0_3 a0_4 a0_5 a0_6 a0_7 a0_8 a0_9)))) else (some ([] : List Int)))) = some r := h
 clear h
 replace H := Option.bind_eq_some_iff.mp H
 obtain ⟨t286, A20, H⟩ := H
 replace H : (if t286 = true then ((cleatref04_Shape.f k a0_0).bind fun t287 => ((cleatref04_Has.f k t287 (⟨#[110]⟩ : ByteArray)).bind fun t288 => (if t288 = true then (if a0_2 < 31 then (cleatref04_Reads.j0 k t287 ([] : List Int) true a0_0 a0_1 a0_2 a0_3 a0_4 a0_5 a0_6 a0_7 a0_8 a0_9) else (if t287 = 2 then (cleatref04_Reads.j0 k t287 ([] : List Int) true a0_0 a0_1 a0_2 a0_3 a0_4 a0_5 a0_6 a0_7 a0_8 a0_9) else (if t287 = 7 then (cleatref04_Reads.j0 k t287 ([] : List Int) true a0_0 a0_1 a0_2 a0_3 a0_4 a0_5 a0_6 a0_7 a0_8 a0_9) else (cleatref04_Reads.j0 k t287 ([] : List Int) (t287 == 8) a0_0 a0_1 a0_2 a0_3 a0_4 a0_5 a0_6 a0_7 a0_8 a0_9)))) else (cleatref04_Reads.j0 k t287 ([] : List Int) false a0_0 a0_1 a0_2 a0_3 a0_4 a0_5 a0_6 a0_7 a0_8 a0_9)))) else (some ([] : List Int))) = some r := H
 have A2 := Aside0.mk A20
 clear A20
 by_cases c3 : t286 = true
 ·
  subst c3
  have H1 : ((cleatref04_Shape.f k a0_0).bind fun t287 => ((cleatref04_Has.f k t287 (⟨#[110]⟩ : ByteArray)).bind fun t288 => (if t288 = true then (if a0_2 < 31 then (cleatref04_Reads.j0 k t287 ([] : List Int) true a0_0 a0_1 a0_2 a0_3 a0_4 a0_5 a0_6 a0_7 a0_8 a0_9) else (if t287 = 2 then (cleatref04_Reads.j0 k t287 ([] : List Int) true a0_0 a0_1 a0_2 a0_3 a0_4 a0_5 a0_6 a0_7 a0_8 a0_9) else (if t287 = 7 then (cleatref04_Reads.j0 k t287 ([] : List Int) true a0_0 a0_1 a0_2 a0_3 a0_4 a0_5 a0_6 a0_7 a0_8 a0_9) else (cleatref04_Reads.j0 k t287 ([] : List Int) (t287 == 8) a0_0 a0_1 a0_2 a0_3 a0_4 a0_5 a0_6 a0_7 a0_8 a0_9)))) else (cleatref04_Reads.j0 k t287 ([] : List Int) false a0_0 a0_1 a0_2 a0_3 a0_4 a0_5 a0_6 a0_7 a0_8 a0_9)))) = some r := by rw [if_pos rfl] at H; exact H
  clear H
  have H := H1
  clear H1
  replace H := Option.bind_eq_some_iff.mp H
  obtain ⟨t287, A40, H⟩ := H
  replace H : ((cleatref04_Has.f k t287 (⟨#[110]⟩ : ByteArray)).bind fun t288 => (if t288 = true then (if a0_2 < 31 then (cleatref04_Reads.j0 k t287 ([] : List Int) true a0_0 a0_1 a0_2 a0_3 a0_4 a0_5 a0_6 a0_7 a0_8 a0_9) else (if t287 = 2 then (cleatref04_Reads.j0 k t287 ([] : List Int) true a0_0 a0_1 a0_2 a0_3 a0_4 a0_5 a0_6 a0_7 a0_8 a0_9) else (if t287 = 7 then (cleatref04_Reads.j0 k t287 ([] : List Int) true a0_0 a0_1 a0_2 a0_3 a0_4 a0_5 a0_6 a0_7 a0_8 a0_9) else (cleatref04_Reads.j0 k t287 ([] : List Int) (t287 == 8) a0_0 a0_1 a0_2 a0_3 a0_4 a0_5 a0_6 a0_7 a0_8 a0_9)))) else (cleatref04_Reads.j0 k t287 ([] : List Int) false a0_0 a0_1 a0_2 a0_3 a0_4 a0_5 a0_6 a0_7 a0_8 a0_9))) = some r := H
  have A4 := Aside0.mk A40
  clear A40
  have HC5 := Aside0.mk H
  clear H
  go_enter Tryd.func34, Tryd.ntmps34
  go_upto_region 5 with (first | ((with_reducible refine gate_dst (N := 1) rfl ?_); refine box_event ?hg (N := 1) ?hd (cs := #[.int .i64 a0_0, .int .i64 a0_1, .int .i64 a0_2, .int .i64 a0_3, .int .i64 a0_4, .int .i64 a0_5, .int .u64 a0_6, .int .i64 a0_7, .int .i64 a0_8, .int .i64 a0_9]) (t := 37) ?hr ?_; (case hd => rfl); (case hg => rfl); (case hr => first | (go_simp; done) | (go_simp; rfl)); intro gb285 hg w6 hbox hb; have n0_ := Aside0.mk (below_step (by repeat (first | (with_reducible first | exact HB.out | apply below_alloc | apply pw_below_drewN | apply below_drew1) | exact HB.out)) hb); have n1_ := Aside0.mk (hbox); have n2_ := Aside0.mk ((by rw [hg]; exact (below_size (by repeat (first | (with_reducible first | exact HB.out | apply below_alloc | apply pw_below_drewN | apply below_drew1) | exact HB.out))) : w.heap.size ≤ gb285)); have n3_ := Aside0.mk ((by rw [hg]; exact (below_size (by repeat (first | (with_reducible first | exact HB.out | apply below_alloc | apply pw_below_drewN | apply below_drew1) | exact HB.out))) : w.heap.size ≤ gb285)); clear HB; have HB := n0_; have BK285 := n1_; have GW285 := n2_; have GE285 := n3_; clear n0_ n1_ n2_ n3_; clear hb hbox hg; obtain ⟨hcz7_0, hcz7_1, hcz7_2, hcz7_3, hcz7_4, hcz7_5, hcz7_6, hcz7_7, hcz7_8, hcz7_9⟩ := cells10_ BK285.out; have hfz7_0 := fun j => blk_frozen BK285.out j) | ((with_reducible refine gate_callee (f := 31) rfl ?_); refine goesL_ (some 6) rfl rfl Tryd.func31 (by kernel_rfl) rfl #[.agg #[.int .i64 a0_0, .int .i64 a0_1, .int .i64 a0_2, .int .i64 a0_3, .int .i64 a0_4, .int .i64 a0_5, .int .u64 a0_6, .int .i64 a0_7, .int .i64 a0_8, .int .i64 a0_9]] rfl (by (try simp only [List.map_toArray, List.map_cons, List.map_nil]); first | done | rfl | (simp only [List.length_drop, List.length_take]; rfl)) ?_; (with_reducible refine (cleatref04_Is.calls k a0_0 a0_1 a0_2 a0_3 a0_4 a0_5 a0_6 a0_7 a0_8 a0_9 true _ A2.out).mono ?_); rintro e w8 ⟨rfl, hb⟩; refine ⟨_, rfl, ?_⟩; have n0_ := Aside0.mk (blk_below (g := gb285) (o := .cells #[.int .i64 a0_0, .int .i64 a0_1, .int .i64 a0_2, .int .i64 a0_3, .int .i64 a0_4, .int .i64 a0_5, .int .u64 a0_6, .int .i64 a0_7, .int .i64 a0_8, .int .i64 a0_9] 37 (0, 0)) (by (with_reducible repeat (first | refine blk_drewN ?_ _ | refine blk_drew ?_ | refine blk_alloc ?_ _)); exact BK285.out) hb); have n1_ := Aside0.mk (below_step (by repeat (first | (with_reducible first | exact HB.out | apply below_alloc | apply pw_below_drewN | apply below_drew1 | refine below_set ?_ GE285.out) | exact HB.out)) hb); clear BK285; clear HB; have BK285 := n0_; have HB := n1_; clear n0_ n1_; (try clear hb); (try clear hb2); (try clear hk); (try clear hi); obtain ⟨hcz9_0, hcz9_1, hcz9_2, hcz9_3, hcz9_4, hcz9_5, hcz9_6, hcz9_7, hcz9_8, hcz9_9⟩ := cells10_ BK285.out; have hfz9_0 := fun j => blk_frozen BK285.out j) | ((with_reducible refine gate_callee (f := 40) rfl ?_); refine goesL_ (some 10) rfl rfl Tryd.func40 (by kernel_rfl) rfl #[.int .i64 a0_0] rfl (by (try simp only [List.map_toArray, List.map_cons, List.map_nil]); first | done | rfl | (simp only [List.length_drop, List.length_take]; rfl)) ?_; (with_reducible refine (cleatref04_Shape.calls k a0_0 t287 _ A4.out).mono ?_); rintro e w10 ⟨rfl, hb⟩; refine ⟨_, rfl, ?_⟩; have n0_ := Aside0.mk (blk_below (g := gb285) (o := .cells #[.int .i64 a0_0, .int .i64 a0_1, .int .i64 a0_2, .int .i64 a0_3, .int .i64 a0_4, .int .i64 a0_5, .int .u64 a0_6, .int .i64 a0_7, .int .i64 a0_8, .int .i64 a0_9] 37 (0, 0)) (by (with_reducible repeat (first | refine blk_drewN ?_ _ | refine blk_drew ?_ | refine blk_alloc ?_ _)); exact BK285.out) hb); have n1_ := Aside0.mk (below_step (by repeat (first | (with_reducible first | exact HB.out | apply below_alloc | apply pw_below_drewN | apply below_drew1 | refine below_set ?_ GE285.out) | exact HB.out)) hb); clear BK285; clear HB; have BK285 := n0_; have HB := n1_; clear n0_ n1_; (try clear hb); (try clear hb2); (try clear hk); (try clear hi)))
  (try simp only [Act.put, List.setIfInBounds_toArray, List.set_cons_zero, List.set_cons_succ])
  go_cut [29] (fun v29 wc => ∃ (kq : Nat) (x29_4 : Bool), v29 = .bool x29_4 ∧ Aside0 (cleatref04_Reads.j0 kq t287 ([] : List Int) x29_4 a0_0 a0_1 a0_2 a0_3 a0_4 a0_5 a0_6 a0_7 a0_8 a0_9 = some r) ∧ Aside0 (kq ≤ k) ∧ Aside0 (Kd.R (Kd.int .i64) 3 wc w.heap.size (fun _ => True) (.slice none 0 0) ([] : List Int)) ∧ Aside0 (wc.heap[gb285]? = some (.cells #[.int .i64 a0_0, .int .i64 a0_1, .int .i64 a0_2, .int .i64 a0_3, .int .i64 a0_4, .int .i64 a0_5, .int .u64 a0_6, .int .i64 a0_7, .int .i64 a0_8, .int .i64 a0_9] 37 (0, 0))) ∧ Aside0 (Below w.heap.size w wc))
  case first =>
   have H := HC5.out
   clear HC5
   replace H := Option.bind_eq_some_iff.mp H
   obtain ⟨t288, A110, H⟩ := H
   replace H : (if t288 = true then (if a0_2 < 31 then (cleatref04_Reads.j0 k t287 ([] : List Int) true a0_0 a0_1 a0_2 a0_3 a0_4 a0_5 a0_6 a0_7 a0_8 a0_9) else (if t287 = 2 then (cleatref04_Reads.j0 k t287 ([] : List Int) true a0_0 a0_1 a0_2 a0_3 a0_4 a0_5 a0_6 a0_7 a0_8 a0_9) else (if t287 = 7 then (cleatref04_Reads.j0 k t287 ([] : List Int) true a0_0 a0_1 a0_2 a0_3 a0_4 a0_5 a0_6 a0_7 a0_8 a0_9) else (cleatref04_Reads.j0 k t287 ([] : List Int) (t287 == 8) a0_0 a0_1 a0_2 a0_3 a0_4 a0_5 a0_6 a0_7 a0_8 a0_9)))) else (cleatref04_Reads.j0 k t287 ([] : List Int) false a0_0 a0_1 a0_2 a0_3 a0_4 a0_5 a0_6 a0_7 a0_8 a0_9)) = some r := H
   have A11 := Aside0.mk A110
   clear A110
   by_cases c12 : t288 = true
   ·
    subst c12
    have H1 : (if a0_2 < 31 then (cleatref04_Reads.j0 k t287 ([] : List Int) true a0_0 a0_1 a0_2 a0_3 a0_4 a0_5 a0_6 a0_7 a0_8 a0_9) else (if t287 = 2 then (cleatref04_Reads.j0 k t287 ([] : List Int) true a0_0 a0_1 a0_2 a0_3 a0_4 a0_5 a0_6 a0_7 a0_8 a0_9) else (if t287 = 7 then (cleatref04_Reads.j0 k t287 ([] : List Int) true a0_0 a0_1 a0_2 a0_3 a0_4 a0_5 a0_6 a0_7 a0_8 a0_9) else (cleatref04_Reads.j0 k t287 ([] : List Int) (t287 == 8) a0_0 a0_1 a0_2 a0_3 a0_4 a0_5 a0_6 a0_7 a0_8 a0_9)))) = some r := by rw [if_pos rfl] at H; exact H
    clear H
    have H := H1
    clear H1
    by_cases c13 : a0_2 < 31
    ·
     rw [if_pos c13] at H
     have c13b0 : decide (a0_2 < 31) = true := decide_eq_true c13
     clear c13
     (first | rw [c13b0] | (simp only [i64_w, i32_w]; rw [c13b0]) | skip)
     have H' := Aside0.mk H
     clear H
     go_wp2_with (first | ((with_reducible refine gate_callee (f := 58) rfl ?_); refine goesL_ (some 12) rfl rfl Tryd.func58 (by kernel_rfl) rfl #[.int .i64 t287, .string (⟨#[110]⟩ : ByteArray)] rfl (by (try simp only [List.map_toArray, List.map_cons, List.map_nil]); first | done | rfl | (simp only [List.length_drop, List.length_take]; rfl)) ?_; (with_reducible refine (cleatref04_Has.calls k t287 (⟨#[110]⟩ : ByteArray) true _ A11.out).mono ?_); rintro e w14 ⟨rfl, hb⟩; refine ⟨_, rfl, ?_⟩; have n0_ := Aside0.mk (blk_below (g := gb285) (o := .cells #[.int .i64 a0_0, .int .i64 a0_1, .int .i64 a0_2, .int .i64 a0_3, .int .i64 a0_4, .int .i64 a0_5, .int .u64 a0_6, .int .i64 a0_7, .int .i64 a0_8, .int .i64 a0_9] 37 (0, 0)) (by (with_reducible repeat (first | refine blk_drewN ?_ _ | refine blk_drew ?_ | refine blk_alloc ?_ _)); exact BK285.out) hb); have n1_ := Aside0.mk (below_step (by repeat (first | (with_reducible first | exact HB.out | apply below_alloc | apply pw_below_drewN | apply below_drew1 | refine below_set ?_ GE285.out) | exact HB.out)) hb); clear BK285; clear HB; have BK285 := n0_; have HB := n1_; clear n0_ n1_; (try clear hb); (try clear hb2); (try clear hk); (try clear hi); obtain ⟨hcz15_0, hcz15_1, hcz15_2, hcz15_3, hcz15_4, hcz15_5, hcz15_6, hcz15_7, hcz15_8, hcz15_9⟩ := cells10_ BK285.out; have hfz15_0 := fun j => blk_frozen BK285.out j))
     go_meet
     case rel => exact ⟨_, (true), (by first | rfl | (simp; done) | (simp [*]; done)), H', ⟨by first | omega | exact Nat.le_refl _⟩, ⟨by first | exact Kd.R_nil _ _ _ _ _ | exact Kd.N_nil _ _ _ _ _ | exact Kd.V_nil _ _ _ _ _ | exact Kd.Q_nil _ _ _ _ _ | exact Kd.S_nil _ _ _ _ _⟩, ⟨by (with_reducible repeat (first | refine blk_drewN ?_ _ | refine blk_drew ?_ | refine blk_alloc ?_ _)); exact BK285.out⟩, ⟨by repeat (first | (with_reducible first | exact HB.out | apply below_alloc | apply pw_below_drewN | apply below_drew1 | refine below_set ?_ GE285.out) | exact HB.out)⟩⟩
    ·
     rw [if_neg c13] at H
     have c13b0 : decide (a0_2 < 31) = false := decide_eq_false c13
     clear c13
     (first | rw [c13b0] | (simp only [i64_w, i32_w]; rw [c13b0]) | skip)
     by_cases c16 : t287 = 2
     ·
      rw [if_pos c16] at H
      have c16b0 : (t287 == 2) = true := beq_iff_eq.mpr c16
      have c16b1 : (t287 != 2) = false := bne_eq_false_iff_eq.mpr c16
      clear c16
      have H' := Aside0.mk H
      clear H
      go_wp2_with (first | ((with_reducible refine gate_callee (f := 58) rfl ?_); refine goesL_ (some 12) rfl rfl Tryd.func58 (by kernel_rfl) rfl #[.int .i64 t287, .string (⟨#[110]⟩ : ByteArray)] rfl (by (try simp only [List.map_toArray, List.map_cons, List.map_nil]); first | done | rfl | (simp only [List.length_drop, List.length_take]; rfl)) ?_; (with_reducible refine (cleatref04_Has.calls k t287 (⟨#[110]⟩ : ByteArray) true _ A11.out).mono ?_); rintro e w17 ⟨rfl, hb⟩; refine ⟨_, rfl, ?_⟩; have n0_ := Aside0.mk (blk_below (g := gb285) (o := .cells #[.int .i64 a0_0, .int .i64 a0_1, .int .i64 a0_2, .int .i64 a0_3, .int .i64 a0_4, .int .i64 a0_5, .int .u64 a0_6, .int .i64 a0_7, .int .i64 a0_8, .int .i64 a0_9] 37 (0, 0)) (by (with_reducible repeat (first | refine blk_drewN ?_ _ | refine blk_drew ?_ | refine blk_alloc ?_ _)); exact BK285.out) hb); have n1_ := Aside0.mk (below_step (by repeat (first | (with_reducible first | exact HB.out | apply below_alloc | apply pw_below_drewN | apply below_drew1 | refine below_set ?_ GE285.out) | exact HB.out)) hb); clear BK285; clear HB; have BK285 := n0_; have HB := n1_; clear n0_ n1_; (try clear hb); (try clear hb2); (try clear hk); (try clear hi); obtain ⟨hcz18_0, hcz18_1, hcz18_2, hcz18_3, hcz18_4, hcz18_5, hcz18_6, hcz18_7, hcz18_8, hcz18_9⟩ := cells10_ BK285.out; have hfz18_0 := fun j => blk_frozen BK285.out j))
      go_meet
      case rel => exact ⟨_, (true), (by first | rfl | (simp; done) | (simp [*]; done)), H', ⟨by first | omega | exact Nat.le_refl _⟩, ⟨by first | exact Kd.R_nil _ _ _ _ _ | exact Kd.N_nil _ _ _ _ _ | exact Kd.V_nil _ _ _ _ _ | exact Kd.Q_nil _ _ _ _ _ | exact Kd.S_nil _ _ _ _ _⟩, ⟨by (with_reducible repeat (first | refine blk_drewN ?_ _ | refine blk_drew ?_ | refine blk_alloc ?_ _)); exact BK285.out⟩, ⟨by repeat (first | (with_reducible first | exact HB.out | apply below_alloc | apply pw_below_drewN | apply below_drew1 | refine below_set ?_ GE285.out) | exact HB.out)⟩⟩
     ·
      rw [if_neg c16] at H
      have c16b0 : (t287 == 2) = false := beq_eq_false_iff_ne.mpr c16
      have c16b1 : (t287 != 2) = true := bne_iff_ne.mpr c16
      by_cases c19 : t287 = 7
      ·
       rw [if_pos c19] at H
       have c19b0 : (t287 == 7) = true := beq_iff_eq.mpr c19
       have c19b1 : (t287 != 7) = false := bne_eq_false_iff_eq.mpr c19
       clear c19
       have H' := Aside0.mk H
       clear H
       go_wp2_with (first | ((with_reducible refine gate_callee (f := 58) rfl ?_); refine goesL_ (some 12) rfl rfl Tryd.func58 (by kernel_rfl) rfl #[.int .i64 t287, .string (⟨#[110]⟩ : ByteArray)] rfl (by (try simp only [List.map_toArray, List.map_cons, List.map_nil]); first | done | rfl | (simp only [List.length_drop, List.length_take]; rfl)) ?_; (with_reducible refine (cleatref04_Has.calls k t287 (⟨#[110]⟩ : ByteArray) true _ A11.out).mono ?_); rintro e w20 ⟨rfl, hb⟩; refine ⟨_, rfl, ?_⟩; have n0_ := Aside0.mk (blk_below (g := gb285) (o := .cells #[.int .i64 a0_0, .int .i64 a0_1, .int .i64 a0_2, .int .i64 a0_3, .int .i64 a0_4, .int .i64 a0_5, .int .u64 a0_6, .int .i64 a0_7, .int .i64 a0_8, .int .i64 a0_9] 37 (0, 0)) (by (with_reducible repeat (first | refine blk_drewN ?_ _ | refine blk_drew ?_ | refine blk_alloc ?_ _)); exact BK285.out) hb); have n1_ := Aside0.mk (below_step (by repeat (first | (with_reducible first | exact HB.out | apply below_alloc | apply pw_below_drewN | apply below_drew1 | refine below_set ?_ GE285.out) | exact HB.out)) hb); clear BK285; clear HB; have BK285 := n0_; have HB := n1_; clear n0_ n1_; (try clear hb); (try clear hb2); (try clear hk); (try clear hi); obtain ⟨hcz21_0, hcz21_1, hcz21_2, hcz21_3, hcz21_4, hcz21_5, hcz21_6, hcz21_7, hcz21_8, hcz21_9⟩ := cells10_ BK285.out; have hfz21_0 := fun j => blk_frozen BK285.out j))
       go_meet
       case rel => exact ⟨_, (true), (by first | rfl | (simp; done) | (simp [*]; done)), H', ⟨by first | omega | exact Nat.le_refl _⟩, ⟨by first | exact Kd.R_nil _ _ _ _ _ | exact Kd.N_nil _ _ _ _ _ | exact Kd.V_nil _ _ _ _ _ | exact Kd.Q_nil _ _ _ _ _ | exact Kd.S_nil _ _ _ _ _⟩, ⟨by (with_reducible repeat (first | refine blk_drewN ?_ _ | refine blk_drew ?_ | refine blk_alloc ?_ _)); exact BK285.out⟩, ⟨by repeat (first | (with_reducible first | exact HB.out | apply below_alloc | apply pw_below_drewN | apply below_drew1 | refine below_set ?_ GE285.out) | exact HB.out)⟩⟩
      ·
       rw [if_neg c19] at H
       have c19b0 : (t287 == 7) = false := beq_eq_false_iff_ne.mpr c19
       have c19b1 : (t287 != 7) = true := bne_iff_ne.mpr c19
       have H' := Aside0.mk H
       clear H
       go_wp2_with (first | ((with_reducible refine gate_callee (f := 58) rfl ?_); refine goesL_ (some 12) rfl rfl Tryd.func58 (by kernel_rfl) rfl #[.int .i64 t287, .string (⟨#[110]⟩ : ByteArray)] rfl (by (try simp only [List.map_toArray, List.map_cons, List.map_nil]); first | done | rfl | (simp only [List.length_drop, List.length_take]; rfl)) ?_; (with_reducible refine (cleatref04_Has.calls k t287 (⟨#[110]⟩ : ByteArray) true _ A11.out).mono ?_); rintro e w22 ⟨rfl, hb⟩; refine ⟨_, rfl, ?_⟩; have n0_ := Aside0.mk (blk_below (g := gb285) (o := .cells #[.int .i64 a0_0, .int .i64 a0_1, .int .i64 a0_2, .int .i64 a0_3, .int .i64 a0_4, .int .i64 a0_5, .int .u64 a0_6, .int .i64 a0_7, .int .i64 a0_8, .int .i64 a0_9] 37 (0, 0)) (by (with_reducible repeat (first | refine blk_drewN ?_ _ | refine blk_drew ?_ | refine blk_alloc ?_ _)); exact BK285.out) hb); have n1_ := Aside0.mk (below_step (by repeat (first | (with_reducible first | exact HB.out | apply below_alloc | apply pw_below_drewN | apply below_drew1 | refine below_set ?_ GE285.out) | exact HB.out)) hb); clear BK285; clear HB; have BK285 := n0_; have HB := n1_; clear n0_ n1_; (try clear hb); (try clear hb2); (try clear hk); (try clear hi); obtain ⟨hcz23_0, hcz23_1, hcz23_2, hcz23_3, hcz23_4, hcz23_5, hcz23_6, hcz23_7, hcz23_8, hcz23_9⟩ := cells10_ BK285.out; have hfz23_0 := fun j => blk_frozen BK285.out j))
       go_meet
       case rel => exact ⟨_, ((t287 == 8)), (by first | rfl | (simp; done) | (simp [*]; done)), H', ⟨by first | omega | exact Nat.le_refl _⟩, ⟨by first | exact Kd.R_nil _ _ _ _ _ | exact Kd.N_nil _ _ _ _ _ | exact Kd.V_nil _ _ _ _ _ | exact Kd.Q_nil _ _ _ _ _ | exact Kd.S_nil _ _ _ _ _⟩, ⟨by (with_reducible repeat (first | refine blk_drewN ?_ _ | refine blk_drew ?_ | refine blk_alloc ?_ _)); exact BK285.out⟩, ⟨by repeat (first | (with_reducible first | exact HB.out | apply below_alloc | apply pw_below_drewN | apply below_drew1 | refine below_set ?_ GE285.out) | exact HB.out)⟩⟩
   ·
    replace c12 := Bool.eq_false_iff.mpr c12
    subst c12
    have H1 : (cleatref04_Reads.j0 k t287 ([] : List Int) false a0_0 a0_1 a0_2 a0_3 a0_4 a0_5 a0_6 a0_7 a0_8 a0_9) = some r := by rw [if_neg (show ¬ (false = true) by decide)] at H; exact H
    clear H
    have H := H1
    clear H1
    have H' := Aside0.mk H
    clear H
    go_wp2_with (first | ((with_reducible refine gate_callee (f := 58) rfl ?_); refine goesL_ (some 12) rfl rfl Tryd.func58 (by kernel_rfl) rfl #[.int .i64 t287, .string (⟨#[110]⟩ : ByteArray)] rfl (by (try simp only [List.map_toArray, List.map_cons, List.map_nil]); first | done | rfl | (simp only [List.length_drop, List.length_take]; rfl)) ?_; (with_reducible refine (cleatref04_Has.calls k t287 (⟨#[110]⟩ : ByteArray) false _ A11.out).mono ?_); rintro e w24 ⟨rfl, hb⟩; refine ⟨_, rfl, ?_⟩; have n0_ := Aside0.mk (blk_below (g := gb285) (o := .cells #[.int .i64 a0_0, .int .i64 a0_1, .int .i64 a0_2, .int .i64 a0_3, .int .i64 a0_4, .int .i64 a0_5, .int .u64 a0_6, .int .i64 a0_7, .int .i64 a0_8, .int .i64 a0_9] 37 (0, 0)) (by (with_reducible repeat (first | refine blk_drewN ?_ _ | refine blk_drew ?_ | refine blk_alloc ?_ _)); exact BK285.out) hb); have n1_ := Aside0.mk (below_step (by repeat (first | (with_reducible first | exact HB.out | apply below_alloc | apply pw_below_drewN | apply below_drew1 | refine below_set ?_ GE285.out) | exact HB.out)) hb); clear BK285; clear HB; have BK285 := n0_; have HB := n1_; clear n0_ n1_; (try clear hb); (try clear hb2); (try clear hk); (try clear hi)))
    go_meet
    case rel => exact ⟨_, (false), (by first | rfl | (simp; done) | (simp [*]; done)), H', ⟨by first | omega | exact Nat.le_refl _⟩, ⟨by first | exact Kd.R_nil _ _ _ _ _ | exact Kd.N_nil _ _ _ _ _ | exact Kd.V_nil _ _ _ _ _ | exact Kd.Q_nil _ _ _ _ _ | exact Kd.S_nil _ _ _ _ _⟩, ⟨by (with_reducible repeat (first | refine blk_drewN ?_ _ | refine blk_drew ?_ | refine blk_alloc ?_ _)); exact BK285.out⟩, ⟨by repeat (first | (with_reducible first | exact HB.out | apply below_alloc | apply pw_below_drewN | apply below_drew1 | refine below_set ?_ GE285.out) | exact HB.out)⟩⟩
  case rest =>
   clear HC5
   try clear c1
   try clear p2
   try clear c3
   try clear c4
   try clear c5
   try clear c12
   try clear c13
   try clear c13b0
   try clear c16
   try clear c16b0
   try clear c16b1
   try clear c19
   try clear c19b0
   try clear c19b1
   try clear hcz15_0 hcz15_1 hcz15_2 hcz15_3 hcz15_4 hcz15_5 hcz15_6 hcz15_7 hcz15_8 hcz15_9
   try clear hcz18_0 hcz18_1 hcz18_2 hcz18_3 hcz18_4 hcz18_5 hcz18_6 hcz18_7 hcz18_8 hcz18_9
   try clear hcz21_0 hcz21_1 hcz21_2 hcz21_3 hcz21_4 hcz21_5 hcz21_6 hcz21_7 hcz21_8 hcz21_9
   try clear hcz23_0 hcz23_1 hcz23_2 hcz23_3 hcz23_4 hcz23_5 hcz23_6 hcz23_7 hcz23_8 hcz23_9
   try clear hcz7_0 hcz7_1 hcz7_2 hcz7_3 hcz7_4 hcz7_5 hcz7_6 hcz7_7 hcz7_8 hcz7_9
   try clear hcz9_0 hcz9_1 hcz9_2 hcz9_3 hcz9_4 hcz9_5 hcz9_6 hcz9_7 hcz9_8 hcz9_9
   try clear hfz15_0
   try clear hfz18_0
   try clear hfz21_0
   try clear hfz23_0
   try clear hfz7_0
   try clear hfz9_0
   obtain ⟨kq, x29_4, rfl, HA, HJ4, HO_4, BK285, HB⟩ := hcut
   cases kq with
   | zero => exact absurd HA.out (by simp [cleatref04_Reads.j0])
   | succ kj4 =>
    have H := HA.out
    clear HA
    simp only [cleatref04_Reads.j0] at H
    have HC25 := Aside0.mk H
    clear H
    go_upto_if 29 with (fail)
    go_cut [4] (fun v4 wc => ∃ (kq : Nat) (x4_24 : List Int), Aside0 (cleatref04_Reads.j1 kq t287 x4_24 a0_0 a0_1 a0_2 a0_3 a0_4 a0_5 a0_6 a0_7 a0_8 a0_9 = some r) ∧ Aside0 (kq ≤ kj4) ∧ Aside0 (Kd.R (Kd.int .i64) 3 wc w.heap.size (fun _ => True) v4 x4_24) ∧ Aside0 (wc.heap[gb285]? = some (.cells #[.int .i64 a0_0, .int .i64 a0_1, .int .i64 a0_2, .int .i64 a0_3, .int .i64 a0_4, .int .i64 a0_5, .int .u64 a0_6, .int .i64 a0_7, .int .i64 a0_8, .int .i64 a0_9] 37 (0, 0))) ∧ Aside0 (Below w.heap.size w wc))
    case first =>
     have H := HC25.out
     clear HC25
     by_cases c26 : x29_4 = true
     ·
      subst c26
      have H1 : ((cleatref04_with.f kj4 ([] : List Int) a0_2).bind fun t289 => (cleatref04_Reads.j1 kj4 t287 t289 a0_0 a0_1 a0_2 a0_3 a0_4 a0_5 a0_6 a0_7 a0_8 a0_9)) = some r := by rw [if_pos rfl] at H; exact H
      clear H
      have H := H1
      clear H1
      replace H := Option.bind_eq_some_iff.mp H
      obtain ⟨t289, A270, H⟩ := H
      replace H : (cleatref04_Reads.j1 kj4 t287 t289 a0_0 a0_1 a0_2 a0_3 a0_4 a0_5 a0_6 a0_7 a0_8 a0_9) = some r := H
      have A27 := Aside0.mk A270
      clear A270
      have H' := Aside0.mk H
      clear H
      have hcz28_0 : wc.cell? ⟨gb285, 0, none⟩ = some (.int .i64 a0_0) := (blk_cell BK285.out 0).trans rfl
      have hcz28_1 : wc.cell? ⟨gb285, 1, none⟩ = some (.int .i64 a0_1) := (blk_cell BK285.out 1).trans rfl
      have hcz28_2 : wc.cell? ⟨gb285, 2, none⟩ = some (.int .i64 a0_2) := (blk_cell BK285.out 2).trans rfl
      have hcz28_3 : wc.cell? ⟨gb285, 3, none⟩ = some (.int .i64 a0_3) := (blk_cell BK285.out 3).trans rfl
      have hcz28_4 : wc.cell? ⟨gb285, 4, none⟩ = some (.int .i64 a0_4) := (blk_cell BK285.out 4).trans rfl
      have hcz28_5 : wc.cell? ⟨gb285, 5, none⟩ = some (.int .i64 a0_5) := (blk_cell BK285.out 5).trans rfl
      have hcz28_6 : wc.cell? ⟨gb285, 6, none⟩ = some (.int .u64 a0_6) := (blk_cell BK285.out 6).trans rfl
      have hcz28_7 : wc.cell? ⟨gb285, 7, none⟩ = some (.int .i64 a0_7) := (blk_cell BK285.out 7).trans rfl
      have hcz28_8 : wc.cell? ⟨gb285, 8, none⟩ = some (.int .i64 a0_8) := (blk_cell BK285.out 8).trans rfl
      have hcz28_9 : wc.cell? ⟨gb285, 9, none⟩ = some (.int .i64 a0_9) := (blk_cell BK285.out 9).trans rfl
      have hfz28_0 := blk_frozen BK285.out 0
      have hfz28_1 := blk_frozen BK285.out 1
      have hfz28_2 := blk_frozen BK285.out 2
      have hfz28_3 := blk_frozen BK285.out 3
      have hfz28_4 := blk_frozen BK285.out 4
      have hfz28_5 := blk_frozen BK285.out 5
      have hfz28_6 := blk_frozen BK285.out 6
      have hfz28_7 := blk_frozen BK285.out 7
      have hfz28_8 := blk_frozen BK285.out 8
      have hfz28_9 := blk_frozen BK285.out 9
      go_wp2_with (first | ((with_reducible refine gate_callee (f := 67) rfl ?_); refine goesL_ (some 33) rfl rfl Tryd.func67 (by kernel_rfl) rfl #[.slice none ([] : List Int).length 0, .int .i64 a0_2] rfl (by (try simp only [List.map_toArray, List.map_cons, List.map_nil]); first | done | (rw [show ([] : List Int).length = 0 from (Kd.R_reads' HO_4.out).1.symm] <;> rfl) | rfl | (simp only [List.length_drop, List.length_take]; rfl)) ?_; (with_reducible refine (cleatref04_with.calls kj4 _ _ ([] : List Int) a0_2 t289 _ ?side1 ?side2 A27.out).mono ?_); (case side1 => repeat (first | exact (Kd.R_reads' HO_4.out).2.2 | (with_reducible refine Kd.C_alloc ?_ _) | (with_reducible refine Kd.C_drewN ?_ _) | (with_reducible refine Kd.C_drew ?_))); (case side2 => rw [show ([] : List Int).length = 0 from (Kd.R_reads' HO_4.out).1.symm]; exact (Kd.R_reads' HO_4.out).2.1); rintro e w29 ⟨v290, rfl, ho0, hb⟩; refine ⟨_, rfl, ?_⟩; have n0_ := Aside0.mk (Kd.R_elder' (by (with_reducible repeat (first | apply Kd.R_alloc | apply Kd.R_drewN | apply Kd.R_drew)); exact HO_4.out) (Kd.R_base ho0) hb); have n1_ := Aside0.mk (Kd.R_lower (Kd.R_new' ho0 (Kd.R_lt (by (with_reducible repeat (first | apply Kd.R_alloc | apply Kd.R_drewN | apply Kd.R_drew)); exact HO_4.out))) (below_size (by repeat (first | (with_reducible first | exact HB.out | apply below_alloc | apply pw_below_drewN | apply below_drew1 | refine below_set ?_ GE285.out) | exact HB.out)))); have n2_ := Aside0.mk (blk_below (g := gb285) (o := .cells #[.int .i64 a0_0, .int .i64 a0_1, .int .i64 a0_2, .int .i64 a0_3, .int .i64 a0_4, .int .i64 a0_5, .int .u64 a0_6, .int .i64 a0_7, .int .i64 a0_8, .int .i64 a0_9] 37 (0, 0)) (by (with_reducible repeat (first | refine blk_drewN ?_ _ | refine blk_drew ?_ | refine blk_alloc ?_ _)); exact BK285.out) hb); have n3_ := Aside0.mk (below_step (by repeat (first | (with_reducible first | exact HB.out | apply below_alloc | apply pw_below_drewN | apply below_drew1 | refine below_set ?_ GE285.out) | exact HB.out)) hb); clear HO_4; clear BK285; clear HB; have HO_4 := n0_; have HO291 := n1_; have BK285 := n2_; have HB := n3_; clear n0_ n1_ n2_ n3_; (try clear hb); (try clear hb2); (try clear hk); (try clear hi); (try clear ho0)))
      go_meet
      case rel => exact ⟨_, (t289), H', ⟨by have := HJ4.out; first | omega | exact Nat.le_refl _⟩, ⟨by (with_reducible repeat (first | apply Kd.R_alloc | apply Kd.R_drewN | apply Kd.R_drew)); exact Kd.R_mono HO291.out (fun _ hk => trivial)⟩, ⟨by (with_reducible repeat (first | refine blk_drewN ?_ _ | refine blk_drew ?_ | refine blk_alloc ?_ _)); exact BK285.out⟩, ⟨by repeat (first | (with_reducible first | exact HB.out | apply below_alloc | apply pw_below_drewN | apply below_drew1 | refine below_set ?_ GE285.out) | exact HB.out)⟩⟩
     ·
      replace c26 := Bool.eq_false_iff.mpr c26
      subst c26
      have H1 : (cleatref04_Reads.j1 kj4 t287 ([] : List Int) a0_0 a0_1 a0_2 a0_3 a0_4 a0_5 a0_6 a0_7 a0_8 a0_9) = some r := by rw [if_neg (show ¬ (false = true) by decide)] at H; exact H
      clear H
      have H := H1
      clear H1
      have H' := Aside0.mk H
      clear H
      go_wp2
      go_meet
      case rel => exact ⟨_, (([] : List Int)), H', ⟨by have := HJ4.out; first | omega | exact Nat.le_refl _⟩, ⟨by (with_reducible repeat (first | apply Kd.R_alloc | apply Kd.R_drewN | apply Kd.R_drew)); exact HO_4.out⟩, ⟨by (with_reducible repeat (first | refine blk_drewN ?_ _ | refine blk_drew ?_ | refine blk_alloc ?_ _)); exact BK285.out⟩, ⟨by repeat (first | (with_reducible first | exact HB.out | apply below_alloc | apply pw_below_drewN | apply below_drew1 | refine below_set ?_ GE285.out) | exact HB.out)⟩⟩
    case rest =>
     clear HC25
     try clear c1
     try clear c2
     try clear p2
     try clear c3
     try clear c4
     try clear c5
     try clear c6
     try clear c12
     try clear c13
     try clear c13b0
     try clear c16
     try clear c16b0
     try clear c16b1
     try clear c19
     try clear c19b0
     try clear c19b1
     try clear c26
     try clear hcz15_0 hcz15_1 hcz15_2 hcz15_3 hcz15_4 hcz15_5 hcz15_6 hcz15_7 hcz15_8 hcz15_9
     try clear hcz18_0 hcz18_1 hcz18_2 hcz18_3 hcz18_4 hcz18_5 hcz18_6 hcz18_7 hcz18_8 hcz18_9
     try clear hcz21_0 hcz21_1 hcz21_2 hcz21_3 hcz21_4 hcz21_5 hcz21_6 hcz21_7 hcz21_8 hcz21_9
     try clear hcz23_0 hcz23_1 hcz23_2 hcz23_3 hcz23_4 hcz23_5 hcz23_6 hcz23_7 hcz23_8 hcz23_9
     try clear hcz28_0 hcz28_1 hcz28_2 hcz28_3 hcz28_4 hcz28_5 hcz28_6 hcz28_7 hcz28_8 hcz28_9
     try clear hcz7_0 hcz7_1 hcz7_2 hcz7_3 hcz7_4 hcz7_5 hcz7_6 hcz7_7 hcz7_8 hcz7_9
     try clear hcz9_0 hcz9_1 hcz9_2 hcz9_3 hcz9_4 hcz9_5 hcz9_6 hcz9_7 hcz9_8 hcz9_9
     try clear hfz15_0
     try clear hfz18_0
     try clear hfz21_0
     try clear hfz23_0
     try clear hfz28_0
     try clear hfz7_0
     try clear hfz9_0
     try clear p2
     obtain ⟨kq, x4_24, HA, HJ24, HO_4, BK285, HB⟩ := hcut
     cases kq with
     | zero => exact absurd HA.out (by simp [cleatref04_Reads.j1])
     | succ kj24 =>
      have H := HA.out
      clear HA
      simp only [cleatref04_Reads.j1] at H
      have HC30 := Aside0.mk H
      clear H
      go_upto_region 7 with (fail)
      go_cut [40] (fun v40 wc => ∃ (kq : Nat) (x40_29 : Bool), v40 = .bool x40_29 ∧ Aside0 (cleatref04_Reads.j2 kq t287 x4_24 x40_29 a0_0 a0_1 a0_2 a0_3 a0_4 a0_5 a0_6 a0_7 a0_8 a0_9 = some r) ∧ Aside0 (kq ≤ kj24) ∧ Aside0 (Kd.R (Kd.int .i64) 3 wc w.heap.size (fun _ => True) u4 x4_24) ∧ Aside0 (wc.heap[gb285]? = some (.cells #[.int .i64 a0_0, .int .i64 a0_1, .int .i64 a0_2, .int .i64 a0_3, .int .i64 a0_4, .int .i64 a0_5, .int .u64 a0_6, .int .i64 a0_7, .int .i64 a0_8, .int .i64 a0_9] 37 (0, 0))) ∧ Aside0 (Below w.heap.size w wc))
      case first =>
       have H := HC30.out
       clear HC30
       replace H := Option.bind_eq_some_iff.mp H
       obtain ⟨t292, A310, H⟩ := H
       replace H : (if t292 = true then (cleatref04_Reads.j2 kj24 t287 x4_24 (decide (a0_3 < 31)) a0_0 a0_1 a0_2 a0_3 a0_4 a0_5 a0_6 a0_7 a0_8 a0_9) else (cleatref04_Reads.j2 kj24 t287 x4_24 false a0_0 a0_1 a0_2 a0_3 a0_4 a0_5 a0_6 a0_7 a0_8 a0_9)) = some r := H
       have A31 := Aside0.mk A310
       clear A310
       by_cases c32 : t292 = true
       ·
        subst c32
        have H1 : (cleatref04_Reads.j2 kj24 t287 x4_24 (decide (a0_3 < 31)) a0_0 a0_1 a0_2 a0_3 a0_4 a0_5 a0_6 a0_7 a0_8 a0_9) = some r := by rw [if_pos rfl] at H; exact H
        clear H
        have H := H1
        clear H1
        have H' := Aside0.mk H
        clear H
        go_wp2_with (first | ((with_reducible refine gate_callee (f := 58) rfl ?_); refine goesL_ (some 35) rfl rfl Tryd.func58 (by kernel_rfl) rfl #[.int .i64 t287, .string (⟨#[109]⟩ : ByteArray)] rfl (by (try simp only [List.map_toArray, List.map_cons, List.map_nil]); first | done | rfl | (simp only [List.length_drop, List.length_take]; rfl)) ?_; (with_reducible refine (cleatref04_Has.calls kj24 t287 (⟨#[109]⟩ : ByteArray) true _ A31.out).mono ?_); rintro e w33 ⟨rfl, hb⟩; refine ⟨_, rfl, ?_⟩; have n0_ := Aside0.mk (Kd.R_below (by (with_reducible repeat (first | apply Kd.R_alloc | apply Kd.R_drewN | apply Kd.R_drew)); exact HO_4.out) hb); have n1_ := Aside0.mk (blk_below (g := gb285) (o := .cells #[.int .i64 a0_0, .int .i64 a0_1, .int .i64 a0_2, .int .i64 a0_3, .int .i64 a0_4, .int .i64 a0_5, .int .u64 a0_6, .int .i64 a0_7, .int .i64 a0_8, .int .i64 a0_9] 37 (0, 0)) (by (with_reducible repeat (first | refine blk_drewN ?_ _ | refine blk_drew ?_ | refine blk_alloc ?_ _)); exact BK285.out) hb); have n2_ := Aside0.mk (below_step (by repeat (first | (with_reducible first | exact HB.out | apply below_alloc | apply pw_below_drewN | apply below_drew1 | refine below_set ?_ GE285.out) | exact HB.out)) hb); clear HO_4; clear BK285; clear HB; have HO_4 := n0_; have BK285 := n1_; have HB := n2_; clear n0_ n1_ n2_; (try clear hb); (try clear hb2); (try clear hk); (try clear hi); obtain ⟨hcz34_0, hcz34_1, hcz34_2, hcz34_3, hcz34_4, hcz34_5, hcz34_6, hcz34_7, hcz34_8, hcz34_9⟩ := cells10_ BK285.out; have hfz34_0 := fun j => blk_frozen BK285.out j))
        go_meet
        case rel => exact ⟨_, (decide (a0_3 < 31)), (by first | rfl | (simp; done) | (simp [*]; done)), H', ⟨by have := HJ4.out; have := HJ24.out; first | omega | exact Nat.le_refl _⟩, ⟨by (with_reducible repeat (first | apply Kd.R_alloc | apply Kd.R_drewN | apply Kd.R_drew)); exact HO_4.out⟩, ⟨by (with_reducible repeat (first | refine blk_drewN ?_ _ | refine blk_drew ?_ | refine blk_alloc ?_ _)); exact BK285.out⟩, ⟨by repeat (first | (with_reducible first | exact HB.out | apply below_alloc | apply pw_below_drewN | apply below_drew1 | refine below_set ?_ GE285.out) | exact HB.out)⟩⟩
       ·
        replace c32 := Bool.eq_false_iff.mpr c32
        subst c32
        have H1 : (cleatref04_Reads.j2 kj24 t287 x4_24 false a0_0 a0_1 a0_2 a0_3 a0_4 a0_5 a0_6 a0_7 a0_8 a0_9) = some r := by rw [if_neg (show ¬ (false = true) by decide)] at H; exact H
        clear H
        have H := H1
        clear H1
        have H' := Aside0.mk H
        clear H
        go_wp2_with (first | ((with_reducible refine gate_callee (f := 58) rfl ?_); refine goesL_ (some 35) rfl rfl Tryd.func58 (by kernel_rfl) rfl #[.int .i64 t287, .string (⟨#[109]⟩ : ByteArray)] rfl (by (try simp only [List.map_toArray, List.map_cons, List.map_nil]); first | done | rfl | (simp only [List.length_drop, List.length_take]; rfl)) ?_; (with_reducible refine (cleatref04_Has.calls kj24 t287 (⟨#[109]⟩ : ByteArray) false _ A31.out).mono ?_); rintro e w35 ⟨rfl, hb⟩; refine ⟨_, rfl, ?_⟩; have n0_ := Aside0.mk (Kd.R_below (by (with_reducible repeat (first | apply Kd.R_alloc | apply Kd.R_drewN | apply Kd.R_drew)); exact HO_4.out) hb); have n1_ := Aside0.mk (blk_below (g := gb285) (o := .cells #[.int .i64 a0_0, .int .i64 a0_1, .int .i64 a0_2, .int .i64 a0_3, .int .i64 a0_4, .int .i64 a0_5, .int .u64 a0_6, .int .i64 a0_7, .int .i64 a0_8, .int .i64 a0_9] 37 (0, 0)) (by (with_reducible repeat (first | refine blk_drewN ?_ _ | refine blk_drew ?_ | refine blk_alloc ?_ _)); exact BK285.out) hb); have n2_ := Aside0.mk (below_step (by repeat (first | (with_reducible first | exact HB.out | apply below_alloc | apply pw_below_drewN | apply below_drew1 | refine below_set ?_ GE285.out) | exact HB.out)) hb); clear HO_4; clear BK285; clear HB; have HO_4 := n0_; have BK285 := n1_; have HB := n2_; clear n0_ n1_ n2_; (try clear hb); (try clear hb2); (try clear hk); (try clear hi)))
        go_meet
        case rel => exact ⟨_, (false), (by first | rfl | (simp; done) | (simp [*]; done)), H', ⟨by have := HJ4.out; have := HJ24.out; first | omega | exact Nat.le_refl _⟩, ⟨by (with_reducible repeat (first | apply Kd.R_alloc | apply Kd.R_drewN | apply Kd.R_drew)); exact HO_4.out⟩, ⟨by (with_reducible repeat (first | refine blk_drewN ?_ _ | refine blk_drew ?_ | refine blk_alloc ?_ _)); exact BK285.out⟩, ⟨by repeat (first | (with_reducible first | exact HB.out | apply below_alloc | apply pw_below_drewN | apply below_drew1 | refine below_set ?_ GE285.out) | exact HB.out)⟩⟩
      case rest =>
       clear HC30
       try clear c1
       try clear c2
       try clear p2
       try clear c3
       try clear c4
       try clear c5
       try clear c6
       try clear c12
       try clear c13
       try clear c13b0
       try clear c16
       try clear c16b0
       try clear c16b1
       try clear c19
       try clear c19b0
       try clear c19b1
       try clear c26
       try clear c31
       try clear c32
       try clear c34
       try clear hcz15_0 hcz15_1 hcz15_2 hcz15_3 hcz15_4 hcz15_5 hcz15_6 hcz15_7 hcz15_8 hcz15_9
       try clear hcz18_0 hcz18_1 hcz18_2 hcz18_3 hcz18_4 hcz18_5 hcz18_6 hcz18_7 hcz18_8 hcz18_9
       try clear hcz21_0 hcz21_1 hcz21_2 hcz21_3 hcz21_4 hcz21_5 hcz21_6 hcz21_7 hcz21_8 hcz21_9
       try clear hcz23_0 hcz23_1 hcz23_2 hcz23_3 hcz23_4 hcz23_5 hcz23_6 hcz23_7 hcz23_8 hcz23_9
       try clear hcz28_0 hcz28_1 hcz28_2 hcz28_3 hcz28_4 hcz28_5 hcz28_6 hcz28_7 hcz28_8 hcz28_9
       try clear hcz34_0 hcz34_1 hcz34_2 hcz34_3 hcz34_4 hcz34_5 hcz34_6 hcz34_7 hcz34_8 hcz34_9
       try clear hcz7_0 hcz7_1 hcz7_2 hcz7_3 hcz7_4 hcz7_5 hcz7_6 hcz7_7 hcz7_8 hcz7_9
       try clear hcz9_0 hcz9_1 hcz9_2 hcz9_3 hcz9_4 hcz9_5 hcz9_6 hcz9_7 hcz9_8 hcz9_9
       try clear hfz15_0
       try clear hfz18_0
       try clear hfz21_0
       try clear hfz23_0
       try clear hfz28_0
       try clear hfz34_0
       try clear hfz7_0
       try clear hfz9_0
       try clear p2
       obtain ⟨kq, x40_29, rfl, HA, HJ29, HO_4, BK285, HB⟩ := hcut
       cases kq with
       | zero => exact absurd HA.out (by simp [cleatref04_Reads.j2])
       | succ kj29 =>
        have H := HA.out
        clear HA
        simp only [cleatref04_Reads.j2] at H
        have HC36 := Aside0.mk H
        clear H
        go_upto_if 40 with (fail)
        go_cut [4] (fun v4 wc => ∃ (kq : Nat) (x4_35 : List Int), Aside0 (cleatref04_Reads.j3 kq t287 x4_35 a0_0 a0_1 a0_2 a0_3 a0_4 a0_5 a0_6 a0_7 a0_8 a0_9 = some r) ∧ Aside0 (kq ≤ kj29) ∧ Aside0 (Kd.R (Kd.int .i64) 3 wc w.heap.size (fun _ => True) v4 x4_35) ∧ Aside0 (wc.heap[gb285]? = some (.cells #[.int .i64 a0_0, .int .i64 a0_1, .int .i64 a0_2, .int .i64 a0_3, .int .i64 a0_4, .int .i64 a0_5, .int .u64 a0_6, .int .i64 a0_7, .int .i64 a0_8, .int .i64 a0_9] 37 (0, 0))) ∧ Aside0 (Below w.heap.size w wc))
        case first =>
         have H := HC36.out
         clear HC36
         by_cases c37 : x40_29 = true
         ·
          subst c37
          have H1 : ((cleatref04_with.f kj29 x4_24 a0_3).bind fun t293 => (cleatref04_Reads.j3 kj29 t287 t293 a0_0 a0_1 a0_2 a0_3 a0_4 a0_5 a0_6 a0_7 a0_8 a0_9)) = some r := by rw [if_pos rfl] at H; exact H
          clear H
          have H := H1
          clear H1
          replace H := Option.bind_eq_some_iff.mp H
          obtain ⟨t293, A380, H⟩ := H
          replace H : (cleatref04_Reads.j3 kj29 t287 t293 a0_0 a0_1 a0_2 a0_3 a0_4 a0_5 a0_6 a0_7 a0_8 a0_9) = some r := H
          have A38 := Aside0.mk A380
          clear A380
          have H' := Aside0.mk H
          clear H
          have hcz39_0 : wc.cell? ⟨gb285, 0, none⟩ = some (.int .i64 a0_0) := (blk_cell BK285.out 0).trans rfl
          have hcz39_1 : wc.cell? ⟨gb285, 1, none⟩ = some (.int .i64 a0_1) := (blk_cell BK285.out 1).trans rfl
          have hcz39_2 : wc.cell? ⟨gb285, 2, none⟩ = some (.int .i64 a0_2) := (blk_cell BK285.out 2).trans rfl
          have hcz39_3 : wc.cell? ⟨gb285, 3, none⟩ = some (.int .i64 a0_3) := (blk_cell BK285.out 3).trans rfl
          have hcz39_4 : wc.cell? ⟨gb285, 4, none⟩ = some (.int .i64 a0_4) := (blk_cell BK285.out 4).trans rfl
          have hcz39_5 : wc.cell? ⟨gb285, 5, none⟩ = some (.int .i64 a0_5) := (blk_cell BK285.out 5).trans rfl
          have hcz39_6 : wc.cell? ⟨gb285, 6, none⟩ = some (.int .u64 a0_6) := (blk_cell BK285.out 6).trans rfl
          have hcz39_7 : wc.cell? ⟨gb285, 7, none⟩ = some (.int .i64 a0_7) := (blk_cell BK285.out 7).trans rfl
          have hcz39_8 : wc.cell? ⟨gb285, 8, none⟩ = some (.int .i64 a0_8) := (blk_cell BK285.out 8).trans rfl
          have hcz39_9 : wc.cell? ⟨gb285, 9, none⟩ = some (.int .i64 a0_9) := (blk_cell BK285.out 9).trans rfl
          have hfz39_0 := blk_frozen BK285.out 0
          have hfz39_1 := blk_frozen BK285.out 1
          have hfz39_2 := blk_frozen BK285.out 2
          have hfz39_3 := blk_frozen BK285.out 3
          have hfz39_4 := blk_frozen BK285.out 4
          have hfz39_5 := blk_frozen BK285.out 5
          have hfz39_6 := blk_frozen BK285.out 6
          have hfz39_7 := blk_frozen BK285.out 7
          have hfz39_8 := blk_frozen BK285.out 8
          have hfz39_9 := blk_frozen BK285.out 9
          obtain ⟨Ao40, co40, eo40⟩ := Kd.R_slice HO_4.out
          subst eo40
          go_wp2_with (first | ((with_reducible refine gate_callee (f := 67) rfl ?_); refine goesL_ (some 44) rfl rfl Tryd.func67 (by kernel_rfl) rfl #[.slice Ao40 x4_24.length co40, .int .i64 a0_3] rfl (by (try simp only [List.map_toArray, List.map_cons, List.map_nil]); first | done | rfl | (simp only [List.length_drop, List.length_take]; rfl)) ?_; (with_reducible refine (cleatref04_with.calls kj29 _ _ x4_24 a0_3 t293 _ ?side1 ?side2 A38.out).mono ?_); (case side1 => repeat (first | exact (Kd.R_reads' HO_4.out).2.2 | (with_reducible refine Kd.C_alloc ?_ _) | (with_reducible refine Kd.C_drewN ?_ _) | (with_reducible refine Kd.C_drew ?_))); (case side2 => exact (Kd.R_reads' HO_4.out).2.1); rintro e w41 ⟨v294, rfl, ho0, hb⟩; refine ⟨_, rfl, ?_⟩; have n0_ := Aside0.mk (Kd.R_elder' (by (with_reducible repeat (first | apply Kd.R_alloc | apply Kd.R_drewN | apply Kd.R_drew)); exact HO_4.out) (Kd.R_base ho0) hb); have n1_ := Aside0.mk (Kd.R_lower (Kd.R_new' ho0 (Kd.R_lt (by (with_reducible repeat (first | apply Kd.R_alloc | apply Kd.R_drewN | apply Kd.R_drew)); exact HO_4.out))) (below_size (by repeat (first | (with_reducible first | exact HB.out | apply below_alloc | apply pw_below_drewN | apply below_drew1 | refine below_set ?_ GE285.out) | exact HB.out)))); have n2_ := Aside0.mk (blk_below (g := gb285) (o := .cells #[.int .i64 a0_0, .int .i64 a0_1, .int .i64 a0_2, .int .i64 a0_3, .int .i64 a0_4, .int .i64 a0_5, .int .u64 a0_6, .int .i64 a0_7, .int .i64 a0_8, .int .i64 a0_9] 37 (0, 0)) (by (with_reducible repeat (first | refine blk_drewN ?_ _ | refine blk_drew ?_ | refine blk_alloc ?_ _)); exact BK285.out) hb); have n3_ := Aside0.mk (below_step (by repeat (first | (with_reducible first | exact HB.out | apply below_alloc | apply pw_below_drewN | apply below_drew1 | refine below_set ?_ GE285.out) | exact HB.out)) hb); clear HO_4; clear BK285; clear HB; have HO_4 := n0_; have HO295 := n1_; have BK285 := n2_; have HB := n3_; clear n0_ n1_ n2_ n3_; (try clear hb); (try clear hb2); (try clear hk); (try clear hi); (try clear ho0)))
          go_meet
          case rel => exact ⟨_, (t293), H', ⟨by have := HJ4.out; have := HJ24.out; have := HJ29.out; first | omega | exact Nat.le_refl _⟩, ⟨by (with_reducible repeat (first | apply Kd.R_alloc | apply Kd.R_drewN | apply Kd.R_drew)); exact Kd.R_mono HO295.out (fun _ hk => trivial)⟩, ⟨by (with_reducible repeat (first | refine blk_drewN ?_ _ | refine blk_drew ?_ | refine blk_alloc ?_ _)); exact BK285.out⟩, ⟨by repeat (first | (with_reducible first | exact HB.out | apply below_alloc | apply pw_below_drewN | apply below_drew1 | refine below_set ?_ GE285.out) | exact HB.out)⟩⟩
         ·
          replace c37 := Bool.eq_false_iff.mpr c37
          subst c37
          have H1 : (cleatref04_Reads.j3 kj29 t287 x4_24 a0_0 a0_1 a0_2 a0_3 a0_4 a0_5 a0_6 a0_7 a0_8 a0_9) = some r := by rw [if_neg (show ¬ (false = true) by decide)] at H; exact H
          clear H
          have H := H1
          clear H1
          have H' := Aside0.mk H
          clear H
          go_wp2
          go_meet
          case rel => exact ⟨_, (x4_24), H', ⟨by have := HJ4.out; have := HJ24.out; have := HJ29.out; first | omega | exact Nat.le_refl _⟩, ⟨by (with_reducible repeat (first | apply Kd.R_alloc | apply Kd.R_drewN | apply Kd.R_drew)); exact HO_4.out⟩, ⟨by (with_reducible repeat (first | refine blk_drewN ?_ _ | refine blk_drew ?_ | refine blk_alloc ?_ _)); exact BK285.out⟩, ⟨by repeat (first | (with_reducible first | exact HB.out | apply below_alloc | apply pw_below_drewN | apply below_drew1 | refine below_set ?_ GE285.out) | exact HB.out)⟩⟩
        case rest =>
         clear HC36
         try clear c1
         try clear c2
         try clear p2
         try clear c3
         try clear c4
         try clear c5
         try clear c6
         try clear c12
         try clear c13
         try clear c13b0
         try clear c16
         try clear c16b0
         try clear c16b1
         try clear c19
         try clear c19b0
         try clear c19b1
         try clear c26
         try clear c31
         try clear c32
         try clear c34
         try clear c37
         try clear hcz15_0 hcz15_1 hcz15_2 hcz15_3 hcz15_4 hcz15_5 hcz15_6 hcz15_7 hcz15_8 hcz15_9
         try clear hcz18_0 hcz18_1 hcz18_2 hcz18_3 hcz18_4 hcz18_5 hcz18_6 hcz18_7 hcz18_8 hcz18_9
         try clear hcz21_0 hcz21_1 hcz21_2 hcz21_3 hcz21_4 hcz21_5 hcz21_6 hcz21_7 hcz21_8 hcz21_9
         try clear hcz23_0 hcz23_1 hcz23_2 hcz23_3 hcz23_4 hcz23_5 hcz23_6 hcz23_7 hcz23_8 hcz23_9
         try clear hcz28_0 hcz28_1 hcz28_2 hcz28_3 hcz28_4 hcz28_5 hcz28_6 hcz28_7 hcz28_8 hcz28_9
         try clear hcz34_0 hcz34_1 hcz34_2 hcz34_3 hcz34_4 hcz34_5 hcz34_6 hcz34_7 hcz34_8 hcz34_9
         try clear hcz39_0 hcz39_1 hcz39_2 hcz39_3 hcz39_4 hcz39_5 hcz39_6 hcz39_7 hcz39_8 hcz39_9
         try clear hcz7_0 hcz7_1 hcz7_2 hcz7_3 hcz7_4 hcz7_5 hcz7_6 hcz7_7 hcz7_8 hcz7_9
         try clear hcz9_0 hcz9_1 hcz9_2 hcz9_3 hcz9_4 hcz9_5 hcz9_6 hcz9_7 hcz9_8 hcz9_9
         try clear hfz15_0
         try clear hfz18_0
         try clear hfz21_0
         try clear hfz23_0
         try clear hfz28_0
         try clear hfz34_0
         try clear hfz39_0
         try clear hfz7_0
         try clear hfz9_0
         try clear p2
         obtain ⟨kq, x4_35, HA, HJ35, HO_4, BK285, HB⟩ := hcut
         cases kq with
         | zero => exact absurd HA.out (by simp [cleatref04_Reads.j3])
         | succ kj35 =>
          have H := HA.out
          clear HA
          simp only [cleatref04_Reads.j3] at H
          have HC42 := Aside0.mk H
          clear H
          go_upto_region 9 with (fail)
          go_cut [51] (fun v51 wc => ∃ (kq : Nat) (x51_41 : Bool), v51 = .bool x51_41 ∧ Aside0 (cleatref04_Reads.j4 kq x4_35 x51_41 a0_0 a0_1 a0_2 a0_3 a0_4 a0_5 a0_6 a0_7 a0_8 a0_9 = some r) ∧ Aside0 (kq ≤ kj35) ∧ Aside0 (Kd.R (Kd.int .i64) 3 wc w.heap.size (fun _ => True) u4 x4_35) ∧ Aside0 (wc.heap[gb285]? = some (.cells #[.int .i64 a0_0, .int .i64 a0_1, .int .i64 a0_2, .int .i64 a0_3, .int .i64 a0_4, .int .i64 a0_5, .int .u64 a0_6, .int .i64 a0_7, .int .i64 a0_8, .int .i64 a0_9] 37 (0, 0))) ∧ Aside0 (Below w.heap.size w wc))
          case first =>
           have H := HC42.out
           clear HC42
           replace H := Option.bind_eq_some_iff.mp H
           obtain ⟨t296, A430, H⟩ := H
           replace H : (if t296 = true then (cleatref04_Reads.j4 kj35 x4_35 (decide (a0_4 < 31)) a0_0 a0_1 a0_2 a0_3 a0_4 a0_5 a0_6 a0_7 a0_8 a0_9) else (cleatref04_Reads.j4 kj35 x4_35 false a0_0 a0_1 a0_2 a0_3 a0_4 a0_5 a0_6 a0_7 a0_8 a0_9)) = some r := H
           have A43 := Aside0.mk A430
           clear A430
           by_cases c44 : t296 = true
           ·
            subst c44
            have H1 : (cleatref04_Reads.j4 kj35 x4_35 (decide (a0_4 < 31)) a0_0 a0_1 a0_2 a0_3 a0_4 a0_5 a0_6 a0_7 a0_8 a0_9) = some r := by rw [if_pos rfl] at H; exact H
            clear H
            have H := H1
            clear H1
            have H' := Aside0.mk H
            clear H
            go_wp2_with (first | ((with_reducible refine gate_callee (f := 58) rfl ?_); refine goesL_ (some 46) rfl rfl Tryd.func58 (by kernel_rfl) rfl #[.int .i64 t287, .string (⟨#[97]⟩ : ByteArray)] rfl (by (try simp only [List.map_toArray, List.map_cons, List.map_nil]); first | done | rfl | (simp only [List.length_drop, List.length_take]; rfl)) ?_; (with_reducible refine (cleatref04_Has.calls kj35 t287 (⟨#[97]⟩ : ByteArray) true _ A43.out).mono ?_); rintro e w45 ⟨rfl, hb⟩; refine ⟨_, rfl, ?_⟩; have n0_ := Aside0.mk (Kd.R_below (by (with_reducible repeat (first | apply Kd.R_alloc | apply Kd.R_drewN | apply Kd.R_drew)); exact HO_4.out) hb); have n1_ := Aside0.mk (blk_below (g := gb285) (o := .cells #[.int .i64 a0_0, .int .i64 a0_1, .int .i64 a0_2, .int .i64 a0_3, .int .i64 a0_4, .int .i64 a0_5, .int .u64 a0_6, .int .i64 a0_7, .int .i64 a0_8, .int .i64 a0_9] 37 (0, 0)) (by (with_reducible repeat (first | refine blk_drewN ?_ _ | refine blk_drew ?_ | refine blk_alloc ?_ _)); exact BK285.out) hb); have n2_ := Aside0.mk (below_step (by repeat (first | (with_reducible first | exact HB.out | apply below_alloc | apply pw_below_drewN | apply below_drew1 | refine below_set ?_ GE285.out) | exact HB.out)) hb); clear HO_4; clear BK285; clear HB; have HO_4 := n0_; have BK285 := n1_; have HB := n2_; clear n0_ n1_ n2_; (try clear hb); (try clear hb2); (try clear hk); (try clear hi); obtain ⟨hcz46_0, hcz46_1, hcz46_2, hcz46_3, hcz46_4, hcz46_5, hcz46_6, hcz46_7, hcz46_8, hcz46_9⟩ := cells10_ BK285.out; have hfz46_0 := fun j => blk_frozen BK285.out j))
            go_meet
            case rel => exact ⟨_, (decide (a0_4 < 31)), (by first | rfl | (simp; done) | (simp [*]; done)), H', ⟨by have := HJ4.out; have := HJ24.out; have := HJ29.out; have := HJ35.out; first | omega | exact Nat.le_refl _⟩, ⟨by (with_reducible repeat (first | apply Kd.R_alloc | apply Kd.R_drewN | apply Kd.R_drew)); exact HO_4.out⟩, ⟨by (with_reducible repeat (first | refine blk_drewN ?_ _ | refine blk_drew ?_ | refine blk_alloc ?_ _)); exact BK285.out⟩, ⟨by repeat (first | (with_reducible first | exact HB.out | apply below_alloc | apply pw_below_drewN | apply below_drew1 | refine below_set ?_ GE285.out) | exact HB.out)⟩⟩
           ·
            replace c44 := Bool.eq_false_iff.mpr c44
            subst c44
            have H1 : (cleatref04_Reads.j4 kj35 x4_35 false a0_0 a0_1 a0_2 a0_3 a0_4 a0_5 a0_6 a0_7 a0_8 a0_9) = some r := by rw [if_neg (show ¬ (false = true) by decide)] at H; exact H
            clear H
            have H := H1
            clear H1
            have H' := Aside0.mk H
            clear H
            go_wp2_with (first | ((with_reducible refine gate_callee (f := 58) rfl ?_); refine goesL_ (some 46) rfl rfl Tryd.func58 (by kernel_rfl) rfl #[.int .i64 t287, .string (⟨#[97]⟩ : ByteArray)] rfl (by (try simp only [List.map_toArray, List.map_cons, List.map_nil]); first | done | rfl | (simp only [List.length_drop, List.length_take]; rfl)) ?_; (with_reducible refine (cleatref04_Has.calls kj35 t287 (⟨#[97]⟩ : ByteArray) false _ A43.out).mono ?_); rintro e w47 ⟨rfl, hb⟩; refine ⟨_, rfl, ?_⟩; have n0_ := Aside0.mk (Kd.R_below (by (with_reducible repeat (first | apply Kd.R_alloc | apply Kd.R_drewN | apply Kd.R_drew)); exact HO_4.out) hb); have n1_ := Aside0.mk (blk_below (g := gb285) (o := .cells #[.int .i64 a0_0, .int .i64 a0_1, .int .i64 a0_2, .int .i64 a0_3, .int .i64 a0_4, .int .i64 a0_5, .int .u64 a0_6, .int .i64 a0_7, .int .i64 a0_8, .int .i64 a0_9] 37 (0, 0)) (by (with_reducible repeat (first | refine blk_drewN ?_ _ | refine blk_drew ?_ | refine blk_alloc ?_ _)); exact BK285.out) hb); have n2_ := Aside0.mk (below_step (by repeat (first | (with_reducible first | exact HB.out | apply below_alloc | apply pw_below_drewN | apply below_drew1 | refine below_set ?_ GE285.out) | exact HB.out)) hb); clear HO_4; clear BK285; clear HB; have HO_4 := n0_; have BK285 := n1_; have HB := n2_; clear n0_ n1_ n2_; (try clear hb); (try clear hb2); (try clear hk); (try clear hi)))
            go_meet
            case rel => exact ⟨_, (false), (by first | rfl | (simp; done) | (simp [*]; done)), H', ⟨by have := HJ4.out; have := HJ24.out; have := HJ29.out; have := HJ35.out; first | omega | exact Nat.le_refl _⟩, ⟨by (with_reducible repeat (first | apply Kd.R_alloc | apply Kd.R_drewN | apply Kd.R_drew)); exact HO_4.out⟩, ⟨by (with_reducible repeat (first | refine blk_drewN ?_ _ | refine blk_drew ?_ | refine blk_alloc ?_ _)); exact BK285.out⟩, ⟨by repeat (first | (with_reducible first | exact HB.out | apply below_alloc | apply pw_below_drewN | apply below_drew1 | refine below_set ?_ GE285.out) | exact HB.out)⟩⟩
          case rest =>
           clear HC42
           try clear c1
           try clear c2
           try clear p2
           try clear c3
           try clear c4
           try clear c5
           try clear c6
           try clear c12
           try clear c13
           try clear c13b0
           try clear c16
           try clear c16b0
           try clear c16b1
           try clear c19
           try clear c19b0
           try clear c19b1
           try clear c26
           try clear c31
           try clear c32
           try clear c34
           try clear c37
           try clear c44
           try clear hcz15_0 hcz15_1 hcz15_2 hcz15_3 hcz15_4 hcz15_5 hcz15_6 hcz15_7 hcz15_8 hcz15_9
           try clear hcz18_0 hcz18_1 hcz18_2 hcz18_3 hcz18_4 hcz18_5 hcz18_6 hcz18_7 hcz18_8 hcz18_9
           try clear hcz21_0 hcz21_1 hcz21_2 hcz21_3 hcz21_4 hcz21_5 hcz21_6 hcz21_7 hcz21_8 hcz21_9
           try clear hcz23_0 hcz23_1 hcz23_2 hcz23_3 hcz23_4 hcz23_5 hcz23_6 hcz23_7 hcz23_8 hcz23_9
           try clear hcz28_0 hcz28_1 hcz28_2 hcz28_3 hcz28_4 hcz28_5 hcz28_6 hcz28_7 hcz28_8 hcz28_9
           try clear hcz34_0 hcz34_1 hcz34_2 hcz34_3 hcz34_4 hcz34_5 hcz34_6 hcz34_7 hcz34_8 hcz34_9
           try clear hcz39_0 hcz39_1 hcz39_2 hcz39_3 hcz39_4 hcz39_5 hcz39_6 hcz39_7 hcz39_8 hcz39_9
           try clear hcz46_0 hcz46_1 hcz46_2 hcz46_3 hcz46_4 hcz46_5 hcz46_6 hcz46_7 hcz46_8 hcz46_9
           try clear hcz7_0 hcz7_1 hcz7_2 hcz7_3 hcz7_4 hcz7_5 hcz7_6 hcz7_7 hcz7_8 hcz7_9
           try clear hcz9_0 hcz9_1 hcz9_2 hcz9_3 hcz9_4 hcz9_5 hcz9_6 hcz9_7 hcz9_8 hcz9_9
           try clear hfz15_0
           try clear hfz18_0
           try clear hfz21_0
           try clear hfz23_0
           try clear hfz28_0
           try clear hfz34_0
           try clear hfz39_0
           try clear hfz46_0
           try clear hfz7_0
           try clear hfz9_0
           try clear p2
           obtain ⟨kq, x51_41, rfl, HA, HJ41, HO_4, BK285, HB⟩ := hcut
           cases kq with
           | zero => exact absurd HA.out (by simp [cleatref04_Reads.j4])
           | succ kj41 =>
            have H := HA.out
            clear HA
            simp only [cleatref04_Reads.j4] at H
            have HC48 := Aside0.mk H
            clear H
            go_upto_if 51 with (fail)
            go_cut [4] (fun v4 wc => ∃ (kq : Nat) (x4_47 : List Int), Aside0 (cleatref04_Reads.j5 kq x4_47 a0_0 a0_1 a0_2 a0_3 a0_4 a0_5 a0_6 a0_7 a0_8 a0_9 = some r) ∧ Aside0 (kq ≤ kj41) ∧ Aside0 (Kd.R (Kd.int .i64) 3 wc w.heap.size (fun _ => True) v4 x4_47) ∧ Aside0 (wc.heap[gb285]? = some (.cells #[.int .i64 a0_0, .int .i64 a0_1, .int .i64 a0_2, .int .i64 a0_3, .int .i64 a0_4, .int .i64 a0_5, .int .u64 a0_6, .int .i64 a0_7, .int .i64 a0_8, .int .i64 a0_9] 37 (0, 0))) ∧ Aside0 (Below w.heap.size w wc))
            case first =>
             have H := HC48.out
             clear HC48
             by_cases c49 : x51_41 = true
             ·
              subst c49
              have H1 : ((cleatref04_with.f kj41 x4_35 a0_4).bind fun t297 => (cleatref04_Reads.j5 kj41 t297 a0_0 a0_1 a0_2 a0_3 a0_4 a0_5 a0_6 a0_7 a0_8 a0_9)) = some r := by rw [if_pos rfl] at H; exact H
              clear H
              have H := H1
              clear H1
              replace H := Option.bind_eq_some_iff.mp H
              obtain ⟨t297, A500, H⟩ := H
              replace H : (cleatref04_Reads.j5 kj41 t297 a0_0 a0_1 a0_2 a0_3 a0_4 a0_5 a0_6 a0_7 a0_8 a0_9) = some r := H
              have A50 := Aside0.mk A500
              clear A500
              have H' := Aside0.mk H
              clear H
              have hcz51_0 : wc.cell? ⟨gb285, 0, none⟩ = some (.int .i64 a0_0) := (blk_cell BK285.out 0).trans rfl
              have hcz51_1 : wc.cell? ⟨gb285, 1, none⟩ = some (.int .i64 a0_1) := (blk_cell BK285.out 1).trans rfl
              have hcz51_2 : wc.cell? ⟨gb285, 2, none⟩ = some (.int .i64 a0_2) := (blk_cell BK285.out 2).trans rfl
              have hcz51_3 : wc.cell? ⟨gb285, 3, none⟩ = some (.int .i64 a0_3) := (blk_cell BK285.out 3).trans rfl
              have hcz51_4 : wc.cell? ⟨gb285, 4, none⟩ = some (.int .i64 a0_4) := (blk_cell BK285.out 4).trans rfl
              have hcz51_5 : wc.cell? ⟨gb285, 5, none⟩ = some (.int .i64 a0_5) := (blk_cell BK285.out 5).trans rfl
              have hcz51_6 : wc.cell? ⟨gb285, 6, none⟩ = some (.int .u64 a0_6) := (blk_cell BK285.out 6).trans rfl
              have hcz51_7 : wc.cell? ⟨gb285, 7, none⟩ = some (.int .i64 a0_7) := (blk_cell BK285.out 7).trans rfl
              have hcz51_8 : wc.cell? ⟨gb285, 8, none⟩ = some (.int .i64 a0_8) := (blk_cell BK285.out 8).trans rfl
              have hcz51_9 : wc.cell? ⟨gb285, 9, none⟩ = some (.int .i64 a0_9) := (blk_cell BK285.out 9).trans rfl
              have hfz51_0 := blk_frozen BK285.out 0
              have hfz51_1 := blk_frozen BK285.out 1
              have hfz51_2 := blk_frozen BK285.out 2
              have hfz51_3 := blk_frozen BK285.out 3
              have hfz51_4 := blk_frozen BK285.out 4
              have hfz51_5 := blk_frozen BK285.out 5
              have hfz51_6 := blk_frozen BK285.out 6
              have hfz51_7 := blk_frozen BK285.out 7
              have hfz51_8 := blk_frozen BK285.out 8
              have hfz51_9 := blk_frozen BK285.out 9
              obtain ⟨Ao52, co52, eo52⟩ := Kd.R_slice HO_4.out
              subst eo52
              go_wp2_with (first | ((with_reducible refine gate_callee (f := 67) rfl ?_); refine goesL_ (some 55) rfl rfl Tryd.func67 (by kernel_rfl) rfl #[.slice Ao52 x4_35.length co52, .int .i64 a0_4] rfl (by (try simp only [List.map_toArray, List.map_cons, List.map_nil]); first | done | rfl | (simp only [List.length_drop, List.length_take]; rfl)) ?_; (with_reducible refine (cleatref04_with.calls kj41 _ _ x4_35 a0_4 t297 _ ?side1 ?side2 A50.out).mono ?_); (case side1 => repeat (first | exact (Kd.R_reads' HO_4.out).2.2 | (with_reducible refine Kd.C_alloc ?_ _) | (with_reducible refine Kd.C_drewN ?_ _) | (with_reducible refine Kd.C_drew ?_))); (case side2 => exact (Kd.R_reads' HO_4.out).2.1); rintro e w53 ⟨v298, rfl, ho0, hb⟩; refine ⟨_, rfl, ?_⟩; have n0_ := Aside0.mk (Kd.R_elder' (by (with_reducible repeat (first | apply Kd.R_alloc | apply Kd.R_drewN | apply Kd.R_drew)); exact HO_4.out) (Kd.R_base ho0) hb); have n1_ := Aside0.mk (Kd.R_lower (Kd.R_new' ho0 (Kd.R_lt (by (with_reducible repeat (first | apply Kd.R_alloc | apply Kd.R_drewN | apply Kd.R_drew)); exact HO_4.out))) (below_size (by repeat (first | (with_reducible first | exact HB.out | apply below_alloc | apply pw_below_drewN | apply below_drew1 | refine below_set ?_ GE285.out) | exact HB.out)))); have n2_ := Aside0.mk (blk_below (g := gb285) (o := .cells #[.int .i64 a0_0, .int .i64 a0_1, .int .i64 a0_2, .int .i64 a0_3, .int .i64 a0_4, .int .i64 a0_5, .int .u64 a0_6, .int .i64 a0_7, .int .i64 a0_8, .int .i64 a0_9] 37 (0, 0)) (by (with_reducible repeat (first | refine blk_drewN ?_ _ | refine blk_drew ?_ | refine blk_alloc ?_ _)); exact BK285.out) hb); have n3_ := Aside0.mk (below_step (by repeat (first | (with_reducible first | exact HB.out | apply below_alloc | apply pw_below_drewN | apply below_drew1 | refine below_set ?_ GE285.out) | exact HB.out)) hb); clear HO_4; clear BK285; clear HB; have HO_4 := n0_; have HO299 := n1_; have BK285 := n2_; have HB := n3_; clear n0_ n1_ n2_ n3_; (try clear hb); (try clear hb2); (try clear hk); (try clear hi); (try clear ho0)))
              go_meet
              case rel => exact ⟨_, (t297), H', ⟨by have := HJ4.out; have := HJ24.out; have := HJ29.out; have := HJ35.out; have := HJ41.out; first | omega | exact Nat.le_refl _⟩, ⟨by (with_reducible repeat (first | apply Kd.R_alloc | apply Kd.R_drewN | apply Kd.R_drew)); exact Kd.R_mono HO299.out (fun _ hk => trivial)⟩, ⟨by (with_reducible repeat (first | refine blk_drewN ?_ _ | refine blk_drew ?_ | refine blk_alloc ?_ _)); exact BK285.out⟩, ⟨by repeat (first | (with_reducible first | exact HB.out | apply below_alloc | apply pw_below_drewN | apply below_drew1 | refine below_set ?_ GE285.out) | exact HB.out)⟩⟩
             ·
              replace c49 := Bool.eq_false_iff.mpr c49
              subst c49
              have H1 : (cleatref04_Reads.j5 kj41 x4_35 a0_0 a0_1 a0_2 a0_3 a0_4 a0_5 a0_6 a0_7 a0_8 a0_9) = some r := by rw [if_neg (show ¬ (false = true) by decide)] at H; exact H
              clear H
              have H := H1
              clear H1
              have H' := Aside0.mk H
              clear H
              go_wp2
              go_meet
              case rel => exact ⟨_, (x4_35), H', ⟨by have := HJ4.out; have := HJ24.out; have := HJ29.out; have := HJ35.out; have := HJ41.out; first | omega | exact Nat.le_refl _⟩, ⟨by (with_reducible repeat (first | apply Kd.R_alloc | apply Kd.R_drewN | apply Kd.R_drew)); exact HO_4.out⟩, ⟨by (with_reducible repeat (first | refine blk_drewN ?_ _ | refine blk_drew ?_ | refine blk_alloc ?_ _)); exact BK285.out⟩, ⟨by repeat (first | (with_reducible first | exact HB.out | apply below_alloc | apply pw_below_drewN | apply below_drew1 | refine below_set ?_ GE285.out) | exact HB.out)⟩⟩
            case rest =>
             clear HC48
             try clear c1
             try clear c2
             try clear p2
             try clear c3
             try clear c4
             try clear c5
             try clear c6
             try clear c12
             try clear c13
             try clear c13b0
             try clear c16
             try clear c16b0
             try clear c16b1
             try clear c19
             try clear c19b0
             try clear c19b1
             try clear c26
             try clear c31
             try clear c32
             try clear c34
             try clear c37
             try clear c44
             try clear c49
             try clear hcz15_0 hcz15_1 hcz15_2 hcz15_3 hcz15_4 hcz15_5 hcz15_6 hcz15_7 hcz15_8 hcz15_9
             try clear hcz18_0 hcz18_1 hcz18_2 hcz18_3 hcz18_4 hcz18_5 hcz18_6 hcz18_7 hcz18_8 hcz18_9
             try clear hcz21_0 hcz21_1 hcz21_2 hcz21_3 hcz21_4 hcz21_5 hcz21_6 hcz21_7 hcz21_8 hcz21_9
             try clear hcz23_0 hcz23_1 hcz23_2 hcz23_3 hcz23_4 hcz23_5 hcz23_6 hcz23_7 hcz23_8 hcz23_9
             try clear hcz28_0 hcz28_1 hcz28_2 hcz28_3 hcz28_4 hcz28_5 hcz28_6 hcz28_7 hcz28_8 hcz28_9
             try clear hcz34_0 hcz34_1 hcz34_2 hcz34_3 hcz34_4 hcz34_5 hcz34_6 hcz34_7 hcz34_8 hcz34_9
             try clear hcz39_0 hcz39_1 hcz39_2 hcz39_3 hcz39_4 hcz39_5 hcz39_6 hcz39_7 hcz39_8 hcz39_9
             try clear hcz46_0 hcz46_1 hcz46_2 hcz46_3 hcz46_4 hcz46_5 hcz46_6 hcz46_7 hcz46_8 hcz46_9
             try clear hcz51_0 hcz51_1 hcz51_2 hcz51_3 hcz51_4 hcz51_5 hcz51_6 hcz51_7 hcz51_8 hcz51_9
             try clear hcz7_0 hcz7_1 hcz7_2 hcz7_3 hcz7_4 hcz7_5 hcz7_6 hcz7_7 hcz7_8 hcz7_9
             try clear hcz9_0 hcz9_1 hcz9_2 hcz9_3 hcz9_4 hcz9_5 hcz9_6 hcz9_7 hcz9_8 hcz9_9
             try clear hfz15_0
             try clear hfz18_0
             try clear hfz21_0
             try clear hfz23_0
             try clear hfz28_0
             try clear hfz34_0
             try clear hfz39_0
             try clear hfz46_0
             try clear hfz51_0
             try clear hfz7_0
             try clear hfz9_0
             try clear p2
             obtain ⟨kq, x4_47, HA, HJ47, HO_4, BK285, HB⟩ := hcut
             cases kq with
             | zero => exact absurd HA.out (by simp [cleatref04_Reads.j5])
             | succ kj47 =>
              have H := HA.out
              clear HA
              simp only [cleatref04_Reads.j5] at H
              have HC54 := Aside0.mk H
              clear H
              go_upto_region 11 with (fail)
              go_cut [83] (fun v83 wc => ∃ (kq : Nat) (x83_53 : Bool), v83 = .bool x83_53 ∧ Aside0 (cleatref04_Reads.j6 kq x4_47 x83_53 a0_0 a0_1 a0_2 a0_3 a0_4 a0_5 a0_6 a0_7 a0_8 a0_9 = some r) ∧ Aside0 (kq ≤ kj47) ∧ Aside0 (Kd.R (Kd.int .i64) 3 wc w.heap.size (fun _ => True) u4 x4_47) ∧ Aside0 (wc.heap[gb285]? = some (.cells #[.int .i64 a0_0, .int .i64 a0_1, .int .i64 a0_2, .int .i64 a0_3, .int .i64 a0_4, .int .i64 a0_5, .int .u64 a0_6, .int .i64 a0_7, .int .i64 a0_8, .int .i64 a0_9] 37 (0, 0))) ∧ Aside0 (Below w.heap.size w wc))
              case first =>
               have H := HC54.out
               clear HC54
               by_cases c55 : a0_1 < 31
               ·
                rw [if_pos c55] at H
                have c55b0 : decide (a0_1 < 31) = true := decide_eq_true c55
                clear c55
                (first | rw [c55b0] | (simp only [i64_w, i32_w]; rw [c55b0]) | skip)
                by_cases c56 : a0_0 = 3
                ·
                 rw [if_pos c56] at H
                 have c56b0 : (a0_0 == 3) = true := beq_iff_eq.mpr c56
                 have c56b1 : (a0_0 != 3) = false := bne_eq_false_iff_eq.mpr c56
                 clear c56
                 have H' := Aside0.mk H
                 clear H
                 have hcz57_0 : wc.cell? ⟨gb285, 0, none⟩ = some (.int .i64 a0_0) := (blk_cell BK285.out 0).trans rfl
                 have hcz57_1 : wc.cell? ⟨gb285, 1, none⟩ = some (.int .i64 a0_1) := (blk_cell BK285.out 1).trans rfl
                 have hcz57_2 : wc.cell? ⟨gb285, 2, none⟩ = some (.int .i64 a0_2) := (blk_cell BK285.out 2).trans rfl
                 have hcz57_3 : wc.cell? ⟨gb285, 3, none⟩ = some (.int .i64 a0_3) := (blk_cell BK285.out 3).trans rfl
                 have hcz57_4 : wc.cell? ⟨gb285, 4, none⟩ = some (.int .i64 a0_4) := (blk_cell BK285.out 4).trans rfl
                 have hcz57_5 : wc.cell? ⟨gb285, 5, none⟩ = some (.int .i64 a0_5) := (blk_cell BK285.out 5).trans rfl
                 have hcz57_6 : wc.cell? ⟨gb285, 6, none⟩ = some (.int .u64 a0_6) := (blk_cell BK285.out 6).trans rfl
                 have hcz57_7 : wc.cell? ⟨gb285, 7, none⟩ = some (.int .i64 a0_7) := (blk_cell BK285.out 7).trans rfl
                 have hcz57_8 : wc.cell? ⟨gb285, 8, none⟩ = some (.int .i64 a0_8) := (blk_cell BK285.out 8).trans rfl
                 have hcz57_9 : wc.cell? ⟨gb285, 9, none⟩ = some (.int .i64 a0_9) := (blk_cell BK285.out 9).trans rfl
                 have hfz57_0 := blk_frozen BK285.out 0
                 have hfz57_1 := blk_frozen BK285.out 1
                 have hfz57_2 := blk_frozen BK285.out 2
                 have hfz57_3 := blk_frozen BK285.out 3
                 have hfz57_4 := blk_frozen BK285.out 4
                 have hfz57_5 := blk_frozen BK285.out 5
                 have hfz57_6 := blk_frozen BK285.out 6
                 have hfz57_7 := blk_frozen BK285.out 7
                 have hfz57_8 := blk_frozen BK285.out 8
                 have hfz57_9 := blk_frozen BK285.out 9
                 go_wp2
                 go_meet
                 case rel => exact ⟨_, (true), (by first | rfl | (simp; done) | (simp [*]; done)), H', ⟨by have := HJ4.out; have := HJ24.out; have := HJ29.out; have := HJ35.out; have := HJ41.out; have := HJ47.out; first | omega | exact Nat.le_refl _⟩, ⟨by (with_reducible repeat (first | apply Kd.R_alloc | apply Kd.R_drewN | apply Kd.R_drew)); exact HO_4.out⟩, ⟨by (with_reducible repeat (first | refine blk_drewN ?_ _ | refine blk_drew ?_ | refine blk_alloc ?_ _)); exact BK285.out⟩, ⟨by repeat (first | (with_reducible first | exact HB.out | apply below_alloc | apply pw_below_drewN | apply below_drew1 | refine below_set ?_ GE285.out) | exact HB.out)⟩⟩
                ·
                 rw [if_neg c56] at H
                 have c56b0 : (a0_0 == 3) = false := beq_eq_false_iff_ne.mpr c56
                 have c56b1 : (a0_0 != 3) = true := bne_iff_ne.mpr c56
                 by_cases c58 : a0_0 = 23
                 ·
                  rw [if_pos c58] at H
                  have c58b0 : (a0_0 == 23) = true := beq_iff_eq.mpr c58
                  have c58b1 : (a0_0 != 23) = false := bne_eq_false_iff_eq.mpr c58
                  clear c58
                  have H' := Aside0.mk H
                  clear H
                  have hcz59_0 : wc.cell? ⟨gb285, 0, none⟩ = some (.int .i64 a0_0) := (blk_cell BK285.out 0).trans rfl
                  have hcz59_1 : wc.cell? ⟨gb285, 1, none⟩ = some (.int .i64 a0_1) := (blk_cell BK285.out 1).trans rfl
                  have hcz59_2 : wc.cell? ⟨gb285, 2, none⟩ = some (.int .i64 a0_2) := (blk_cell BK285.out 2).trans rfl
                  have hcz59_3 : wc.cell? ⟨gb285, 3, none⟩ = some (.int .i64 a0_3) := (blk_cell BK285.out 3).trans rfl
                  have hcz59_4 : wc.cell? ⟨gb285, 4, none⟩ = some (.int .i64 a0_4) := (blk_cell BK285.out 4).trans rfl
                  have hcz59_5 : wc.cell? ⟨gb285, 5, none⟩ = some (.int .i64 a0_5) := (blk_cell BK285.out 5).trans rfl
                  have hcz59_6 : wc.cell? ⟨gb285, 6, none⟩ = some (.int .u64 a0_6) := (blk_cell BK285.out 6).trans rfl
                  have hcz59_7 : wc.cell? ⟨gb285, 7, none⟩ = some (.int .i64 a0_7) := (blk_cell BK285.out 7).trans rfl
                  have hcz59_8 : wc.cell? ⟨gb285, 8, none⟩ = some (.int .i64 a0_8) := (blk_cell BK285.out 8).trans rfl
                  have hcz59_9 : wc.cell? ⟨gb285, 9, none⟩ = some (.int .i64 a0_9) := (blk_cell BK285.out 9).trans rfl
                  have hfz59_0 := blk_frozen BK285.out 0
                  have hfz59_1 := blk_frozen BK285.out 1
                  have hfz59_2 := blk_frozen BK285.out 2
                  have hfz59_3 := blk_frozen BK285.out 3
                  have hfz59_4 := blk_frozen BK285.out 4
                  have hfz59_5 := blk_frozen BK285.out 5
                  have hfz59_6 := blk_frozen BK285.out 6
                  have hfz59_7 := blk_frozen BK285.out 7
                  have hfz59_8 := blk_frozen BK285.out 8
                  have hfz59_9 := blk_frozen BK285.out 9
                  go_wp2
                  go_meet
                  case rel => exact ⟨_, (true), (by first | rfl | (simp; done) | (simp [*]; done)), H', ⟨by have := HJ4.out; have := HJ24.out; have := HJ29.out; have := HJ35.out; have := HJ41.out; have := HJ47.out; first | omega | exact Nat.le_refl _⟩, ⟨by (with_reducible repeat (first | apply Kd.R_alloc | apply Kd.R_drewN | apply Kd.R_drew)); exact HO_4.out⟩, ⟨by (with_reducible repeat (first | refine blk_drewN ?_ _ | refine blk_drew ?_ | refine blk_alloc ?_ _)); exact BK285.out⟩, ⟨by repeat (first | (with_reducible first | exact HB.out | apply below_alloc | apply pw_below_drewN | apply below_drew1 | refine below_set ?_ GE285.out) | exact HB.out)⟩⟩
                 ·
                  rw [if_neg c58] at H
                  have c58b0 : (a0_0 == 23) = false := beq_eq_false_iff_ne.mpr c58
                  have c58b1 : (a0_0 != 23) = true := bne_iff_ne.mpr c58
                  by_cases c60 : a0_0 = 25
                  ·
                   rw [if_pos c60] at H
                   have c60b0 : (a0_0 == 25) = true := beq_iff_eq.mpr c60
                   have c60b1 : (a0_0 != 25) = false := bne_eq_false_iff_eq.mpr c60
                   clear c60
                   have H' := Aside0.mk H
                   clear H
                   have hcz61_0 : wc.cell? ⟨gb285, 0, none⟩ = some (.int .i64 a0_0) := (blk_cell BK285.out 0).trans rfl
                   have hcz61_1 : wc.cell? ⟨gb285, 1, none⟩ = some (.int .i64 a0_1) := (blk_cell BK285.out 1).trans rfl
                   have hcz61_2 : wc.cell? ⟨gb285, 2, none⟩ = some (.int .i64 a0_2) := (blk_cell BK285.out 2).trans rfl
                   have hcz61_3 : wc.cell? ⟨gb285, 3, none⟩ = some (.int .i64 a0_3) := (blk_cell BK285.out 3).trans rfl
                   have hcz61_4 : wc.cell? ⟨gb285, 4, none⟩ = some (.int .i64 a0_4) := (blk_cell BK285.out 4).trans rfl
                   have hcz61_5 : wc.cell? ⟨gb285, 5, none⟩ = some (.int .i64 a0_5) := (blk_cell BK285.out 5).trans rfl
                   have hcz61_6 : wc.cell? ⟨gb285, 6, none⟩ = some (.int .u64 a0_6) := (blk_cell BK285.out 6).trans rfl
                   have hcz61_7 : wc.cell? ⟨gb285, 7, none⟩ = some (.int .i64 a0_7) := (blk_cell BK285.out 7).trans rfl
                   have hcz61_8 : wc.cell? ⟨gb285, 8, none⟩ = some (.int .i64 a0_8) := (blk_cell BK285.out 8).trans rfl
                   have hcz61_9 : wc.cell? ⟨gb285, 9, none⟩ = some (.int .i64 a0_9) := (blk_cell BK285.out 9).trans rfl
                   have hfz61_0 := blk_frozen BK285.out 0
                   have hfz61_1 := blk_frozen BK285.out 1
                   have hfz61_2 := blk_frozen BK285.out 2
                   have hfz61_3 := blk_frozen BK285.out 3
                   have hfz61_4 := blk_frozen BK285.out 4
                   have hfz61_5 := blk_frozen BK285.out 5
                   have hfz61_6 := blk_frozen BK285.out 6
                   have hfz61_7 := blk_frozen BK285.out 7
                   have hfz61_8 := blk_frozen BK285.out 8
                   have hfz61_9 := blk_frozen BK285.out 9
                   go_wp2
                   go_meet
                   case rel => exact ⟨_, (true), (by first | rfl | (simp; done) | (simp [*]; done)), H', ⟨by have := HJ4.out; have := HJ24.out; have := HJ29.out; have := HJ35.out; have := HJ41.out; have := HJ47.out; first | omega | exact Nat.le_refl _⟩, ⟨by (with_reducible repeat (first | apply Kd.R_alloc | apply Kd.R_drewN | apply Kd.R_drew)); exact HO_4.out⟩, ⟨by (with_reducible repeat (first | refine blk_drewN ?_ _ | refine blk_drew ?_ | refine blk_alloc ?_ _)); exact BK285.out⟩, ⟨by repeat (first | (with_reducible first | exact HB.out | apply below_alloc | apply pw_below_drewN | apply below_drew1 | refine below_set ?_ GE285.out) | exact HB.out)⟩⟩
                  ·
                   rw [if_neg c60] at H
                   have c60b0 : (a0_0 == 25) = false := beq_eq_false_iff_ne.mpr c60
                   have c60b1 : (a0_0 != 25) = true := bne_iff_ne.mpr c60
                   by_cases c62 : a0_0 = 32
                   ·
                    rw [if_pos c62] at H
                    have c62b0 : (a0_0 == 32) = true := beq_iff_eq.mpr c62
                    have c62b1 : (a0_0 != 32) = false := bne_eq_false_iff_eq.mpr c62
                    clear c62
                    have H' := Aside0.mk H
                    clear H
                    have hcz63_0 : wc.cell? ⟨gb285, 0, none⟩ = some (.int .i64 a0_0) := (blk_cell BK285.out 0).trans rfl
                    have hcz63_1 : wc.cell? ⟨gb285, 1, none⟩ = some (.int .i64 a0_1) := (blk_cell BK285.out 1).trans rfl
                    have hcz63_2 : wc.cell? ⟨gb285, 2, none⟩ = some (.int .i64 a0_2) := (blk_cell BK285.out 2).trans rfl
                    have hcz63_3 : wc.cell? ⟨gb285, 3, none⟩ = some (.int .i64 a0_3) := (blk_cell BK285.out 3).trans rfl
                    have hcz63_4 : wc.cell? ⟨gb285, 4, none⟩ = some (.int .i64 a0_4) := (blk_cell BK285.out 4).trans rfl
                    have hcz63_5 : wc.cell? ⟨gb285, 5, none⟩ = some (.int .i64 a0_5) := (blk_cell BK285.out 5).trans rfl
                    have hcz63_6 : wc.cell? ⟨gb285, 6, none⟩ = some (.int .u64 a0_6) := (blk_cell BK285.out 6).trans rfl
                    have hcz63_7 : wc.cell? ⟨gb285, 7, none⟩ = some (.int .i64 a0_7) := (blk_cell BK285.out 7).trans rfl
                    have hcz63_8 : wc.cell? ⟨gb285, 8, none⟩ = some (.int .i64 a0_8) := (blk_cell BK285.out 8).trans rfl
                    have hcz63_9 : wc.cell? ⟨gb285, 9, none⟩ = some (.int .i64 a0_9) := (blk_cell BK285.out 9).trans rfl
                    have hfz63_0 := blk_frozen BK285.out 0
                    have hfz63_1 := blk_frozen BK285.out 1
                    have hfz63_2 := blk_frozen BK285.out 2
                    have hfz63_3 := blk_frozen BK285.out 3
                    have hfz63_4 := blk_frozen BK285.out 4
                    have hfz63_5 := blk_frozen BK285.out 5
                    have hfz63_6 := blk_frozen BK285.out 6
                    have hfz63_7 := blk_frozen BK285.out 7
                    have hfz63_8 := blk_frozen BK285.out 8
                    have hfz63_9 := blk_frozen BK285.out 9
                    go_wp2
                    go_meet
                    case rel => exact ⟨_, (true), (by first | rfl | (simp; done) | (simp [*]; done)), H', ⟨by have := HJ4.out; have := HJ24.out; have := HJ29.out; have := HJ35.out; have := HJ41.out; have := HJ47.out; first | omega | exact Nat.le_refl _⟩, ⟨by (with_reducible repeat (first | apply Kd.R_alloc | apply Kd.R_drewN | apply Kd.R_drew)); exact HO_4.out⟩, ⟨by (with_reducible repeat (first | refine blk_drewN ?_ _ | refine blk_drew ?_ | refine blk_alloc ?_ _)); exact BK285.out⟩, ⟨by repeat (first | (with_reducible first | exact HB.out | apply below_alloc | apply pw_below_drewN | apply below_drew1 | refine below_set ?_ GE285.out) | exact HB.out)⟩⟩
                   ·
                    rw [if_neg c62] at H
                    have c62b0 : (a0_0 == 32) = false := beq_eq_false_iff_ne.mpr c62
                    have c62b1 : (a0_0 != 32) = true := bne_iff_ne.mpr c62
                    have H' := Aside0.mk H
                    clear H
                    have hcz64_0 : wc.cell? ⟨gb285, 0, none⟩ = some (.int .i64 a0_0) := (blk_cell BK285.out 0).trans rfl
                    have hcz64_1 : wc.cell? ⟨gb285, 1, none⟩ = some (.int .i64 a0_1) := (blk_cell BK285.out 1).trans rfl
                    have hcz64_2 : wc.cell? ⟨gb285, 2, none⟩ = some (.int .i64 a0_2) := (blk_cell BK285.out 2).trans rfl
                    have hcz64_3 : wc.cell? ⟨gb285, 3, none⟩ = some (.int .i64 a0_3) := (blk_cell BK285.out 3).trans rfl
                    have hcz64_4 : wc.cell? ⟨gb285, 4, none⟩ = some (.int .i64 a0_4) := (blk_cell BK285.out 4).trans rfl
                    have hcz64_5 : wc.cell? ⟨gb285, 5, none⟩ = some (.int .i64 a0_5) := (blk_cell BK285.out 5).trans rfl
                    have hcz64_6 : wc.cell? ⟨gb285, 6, none⟩ = some (.int .u64 a0_6) := (blk_cell BK285.out 6).trans rfl
                    have hcz64_7 : wc.cell? ⟨gb285, 7, none⟩ = some (.int .i64 a0_7) := (blk_cell BK285.out 7).trans rfl
                    have hcz64_8 : wc.cell? ⟨gb285, 8, none⟩ = some (.int .i64 a0_8) := (blk_cell BK285.out 8).trans rfl
                    have hcz64_9 : wc.cell? ⟨gb285, 9, none⟩ = some (.int .i64 a0_9) := (blk_cell BK285.out 9).trans rfl
                    have hfz64_0 := blk_frozen BK285.out 0
                    have hfz64_1 := blk_frozen BK285.out 1
                    have hfz64_2 := blk_frozen BK285.out 2
                    have hfz64_3 := blk_frozen BK285.out 3
                    have hfz64_4 := blk_frozen BK285.out 4
                    have hfz64_5 := blk_frozen BK285.out 5
                    have hfz64_6 := blk_frozen BK285.out 6
                    have hfz64_7 := blk_frozen BK285.out 7
                    have hfz64_8 := blk_frozen BK285.out 8
                    have hfz64_9 := blk_frozen BK285.out 9
                    go_wp2
                    go_meet
                    case rel => exact ⟨_, ((a0_0 == 33)), (by first | rfl | (simp; done) | (simp [*]; done)), H', ⟨by have := HJ4.out; have := HJ24.out; have := HJ29.out; have := HJ35.out; have := HJ41.out; have := HJ47.out; first | omega | exact Nat.le_refl _⟩, ⟨by (with_reducible repeat (first | apply Kd.R_alloc | apply Kd.R_drewN | apply Kd.R_drew)); exact HO_4.out⟩, ⟨by (with_reducible repeat (first | refine blk_drewN ?_ _ | refine blk_drew ?_ | refine blk_alloc ?_ _)); exact BK285.out⟩, ⟨by repeat (first | (with_reducible first | exact HB.out | apply below_alloc | apply pw_below_drewN | apply below_drew1 | refine below_set ?_ GE285.out) | exact HB.out)⟩⟩
               ·
                rw [if_neg c55] at H
                have c55b0 : decide (a0_1 < 31) = false := decide_eq_false c55
                clear c55
                (first | rw [c55b0] | (simp only [i64_w, i32_w]; rw [c55b0]) | skip)
                have H' := Aside0.mk H
                clear H
                have hcz65_0 : wc.cell? ⟨gb285, 0, none⟩ = some (.int .i64 a0_0) := (blk_cell BK285.out 0).trans rfl
                have hcz65_1 : wc.cell? ⟨gb285, 1, none⟩ = some (.int .i64 a0_1) := (blk_cell BK285.out 1).trans rfl
                have hcz65_2 : wc.cell? ⟨gb285, 2, none⟩ = some (.int .i64 a0_2) := (blk_cell BK285.out 2).trans rfl
                have hcz65_3 : wc.cell? ⟨gb285, 3, none⟩ = some (.int .i64 a0_3) := (blk_cell BK285.out 3).trans rfl
                have hcz65_4 : wc.cell? ⟨gb285, 4, none⟩ = some (.int .i64 a0_4) := (blk_cell BK285.out 4).trans rfl
                have hcz65_5 : wc.cell? ⟨gb285, 5, none⟩ = some (.int .i64 a0_5) := (blk_cell BK285.out 5).trans rfl
                have hcz65_6 : wc.cell? ⟨gb285, 6, none⟩ = some (.int .u64 a0_6) := (blk_cell BK285.out 6).trans rfl
                have hcz65_7 : wc.cell? ⟨gb285, 7, none⟩ = some (.int .i64 a0_7) := (blk_cell BK285.out 7).trans rfl
                have hcz65_8 : wc.cell? ⟨gb285, 8, none⟩ = some (.int .i64 a0_8) := (blk_cell BK285.out 8).trans rfl
                have hcz65_9 : wc.cell? ⟨gb285, 9, none⟩ = some (.int .i64 a0_9) := (blk_cell BK285.out 9).trans rfl
                have hfz65_0 := blk_frozen BK285.out 0
                have hfz65_1 := blk_frozen BK285.out 1
                have hfz65_2 := blk_frozen BK285.out 2
                have hfz65_3 := blk_frozen BK285.out 3
                have hfz65_4 := blk_frozen BK285.out 4
                have hfz65_5 := blk_frozen BK285.out 5
                have hfz65_6 := blk_frozen BK285.out 6
                have hfz65_7 := blk_frozen BK285.out 7
                have hfz65_8 := blk_frozen BK285.out 8
                have hfz65_9 := blk_frozen BK285.out 9
                go_wp2
                go_meet
                case rel => exact ⟨_, (false), (by first | rfl | (simp; done) | (simp [*]; done)), H', ⟨by have := HJ4.out; have := HJ24.out; have := HJ29.out; have := HJ35.out; have := HJ41.out; have := HJ47.out; first | omega | exact Nat.le_refl _⟩, ⟨by (with_reducible repeat (first | apply Kd.R_alloc | apply Kd.R_drewN | apply Kd.R_drew)); exact HO_4.out⟩, ⟨by (with_reducible repeat (first | refine blk_drewN ?_ _ | refine blk_drew ?_ | refine blk_alloc ?_ _)); exact BK285.out⟩, ⟨by repeat (first | (with_reducible first | exact HB.out | apply below_alloc | apply pw_below_drewN | apply below_drew1 | refine below_set ?_ GE285.out) | exact HB.out)⟩⟩
              case rest =>
               clear HC54
               try clear c1
               try clear c2
               try clear p2
               try clear c3
               try clear c4
               try clear c5
               try clear c6
               try clear c12
               try clear c13
               try clear c13b0
               try clear c16
               try clear c16b0
               try clear c16b1
               try clear c19
               try clear c19b0
               try clear c19b1
               try clear c26
               try clear c31
               try clear c32
               try clear c34
               try clear c37
               try clear c44
               try clear c49
               try clear c55
               try clear c55b0
               try clear c56
               try clear c56b0
               try clear c56b1
               try clear c58
               try clear c58b0
               try clear c58b1
               try clear c60
               try clear c60b0
               try clear c60b1
               try clear c62
               try clear c62b0
               try clear c62b1
               try clear hcz15_0 hcz15_1 hcz15_2 hcz15_3 hcz15_4 hcz15_5 hcz15_6 hcz15_7 hcz15_8 hcz15_9
               try clear hcz18_0 hcz18_1 hcz18_2 hcz18_3 hcz18_4 hcz18_5 hcz18_6 hcz18_7 hcz18_8 hcz18_9
               try clear hcz21_0 hcz21_1 hcz21_2 hcz21_3 hcz21_4 hcz21_5 hcz21_6 hcz21_7 hcz21_8 hcz21_9
               try clear hcz23_0 hcz23_1 hcz23_2 hcz23_3 hcz23_4 hcz23_5 hcz23_6 hcz23_7 hcz23_8 hcz23_9
               try clear hcz28_0 hcz28_1 hcz28_2 hcz28_3 hcz28_4 hcz28_5 hcz28_6 hcz28_7 hcz28_8 hcz28_9
               try clear hcz34_0 hcz34_1 hcz34_2 hcz34_3 hcz34_4 hcz34_5 hcz34_6 hcz34_7 hcz34_8 hcz34_9
               try clear hcz39_0 hcz39_1 hcz39_2 hcz39_3 hcz39_4 hcz39_5 hcz39_6 hcz39_7 hcz39_8 hcz39_9
               try clear hcz46_0 hcz46_1 hcz46_2 hcz46_3 hcz46_4 hcz46_5 hcz46_6 hcz46_7 hcz46_8 hcz46_9
               try clear hcz51_0 hcz51_1 hcz51_2 hcz51_3 hcz51_4 hcz51_5 hcz51_6 hcz51_7 hcz51_8 hcz51_9
               try clear hcz57_0 hcz57_1 hcz57_2 hcz57_3 hcz57_4 hcz57_5 hcz57_6 hcz57_7 hcz57_8 hcz57_9
               try clear hcz59_0 hcz59_1 hcz59_2 hcz59_3 hcz59_4 hcz59_5 hcz59_6 hcz59_7 hcz59_8 hcz59_9
               try clear hcz61_0 hcz61_1 hcz61_2 hcz61_3 hcz61_4 hcz61_5 hcz61_6 hcz61_7 hcz61_8 hcz61_9
               try clear hcz63_0 hcz63_1 hcz63_2 hcz63_3 hcz63_4 hcz63_5 hcz63_6 hcz63_7 hcz63_8 hcz63_9
               try clear hcz64_0 hcz64_1 hcz64_2 hcz64_3 hcz64_4 hcz64_5 hcz64_6 hcz64_7 hcz64_8 hcz64_9
               try clear hcz65_0 hcz65_1 hcz65_2 hcz65_3 hcz65_4 hcz65_5 hcz65_6 hcz65_7 hcz65_8 hcz65_9
               try clear hcz7_0 hcz7_1 hcz7_2 hcz7_3 hcz7_4 hcz7_5 hcz7_6 hcz7_7 hcz7_8 hcz7_9
               try clear hcz9_0 hcz9_1 hcz9_2 hcz9_3 hcz9_4 hcz9_5 hcz9_6 hcz9_7 hcz9_8 hcz9_9
               try clear hfz15_0
               try clear hfz18_0
               try clear hfz21_0
               try clear hfz23_0
               try clear hfz28_0
               try clear hfz34_0
               try clear hfz39_0
               try clear hfz46_0
               try clear hfz51_0
               try clear hfz57_0
               try clear hfz59_0
               try clear hfz61_0
               try clear hfz63_0
               try clear hfz64_0
               try clear hfz65_0
               try clear hfz7_0
               try clear hfz9_0
               try clear p2
               obtain ⟨kq, x83_53, rfl, HA, HJ53, HO_4, BK285, HB⟩ := hcut
               cases kq with
               | zero => exact absurd HA.out (by simp [cleatref04_Reads.j6])
               | succ kj53 =>
                have H := HA.out
                clear HA
                simp only [cleatref04_Reads.j6] at H
                have HC66 := Aside0.mk H
                clear H
                go_upto_if 83 with (fail)
                go_cut [4] (fun v4 wc => ∃ (kq : Nat) (x4_65 : List Int), Aside0 (cleatref04_Reads.j7 kq x4_65 a0_0 a0_1 a0_2 a0_3 a0_4 a0_5 a0_6 a0_7 a0_8 a0_9 = some r) ∧ Aside0 (kq ≤ kj53) ∧ Aside0 (Kd.R (Kd.int .i64) 3 wc w.heap.size (fun _ => True) v4 x4_65) ∧ Aside0 (wc.heap[gb285]? = some (.cells #[.int .i64 a0_0, .int .i64 a0_1, .int .i64 a0_2, .int .i64 a0_3, .int .i64 a0_4, .int .i64 a0_5, .int .u64 a0_6, .int .i64 a0_7, .int .i64 a0_8, .int .i64 a0_9] 37 (0, 0))) ∧ Aside0 (Below w.heap.size w wc))
                case first =>
                 have H := HC66.out
                 clear HC66
                 by_cases c67 : x83_53 = true
                 ·
                  subst c67
                  have H1 : ((cleatref04_with.f kj53 x4_47 a0_1).bind fun t300 => (cleatref04_Reads.j7 kj53 t300 a0_0 a0_1 a0_2 a0_3 a0_4 a0_5 a0_6 a0_7 a0_8 a0_9)) = some r := by rw [if_pos rfl] at H; exact H
                  clear H
                  have H := H1
                  clear H1
                  replace H := Option.bind_eq_some_iff.mp H
                  obtain ⟨t300, A680, H⟩ := H
                  replace H : (cleatref04_Reads.j7 kj53 t300 a0_0 a0_1 a0_2 a0_3 a0_4 a0_5 a0_6 a0_7 a0_8 a0_9) = some r := H
                  have A68 := Aside0.mk A680
                  clear A680
                  have H' := Aside0.mk H
                  clear H
                  have hcz69_0 : wc.cell? ⟨gb285, 0, none⟩ = some (.int .i64 a0_0) := (blk_cell BK285.out 0).trans rfl
                  have hcz69_1 : wc.cell? ⟨gb285, 1, none⟩ = some (.int .i64 a0_1) := (blk_cell BK285.out 1).trans rfl
                  have hcz69_2 : wc.cell? ⟨gb285, 2, none⟩ = some (.int .i64 a0_2) := (blk_cell BK285.out 2).trans rfl
                  have hcz69_3 : wc.cell? ⟨gb285, 3, none⟩ = some (.int .i64 a0_3) := (blk_cell BK285.out 3).trans rfl
                  have hcz69_4 : wc.cell? ⟨gb285, 4, none⟩ = some (.int .i64 a0_4) := (blk_cell BK285.out 4).trans rfl
                  have hcz69_5 : wc.cell? ⟨gb285, 5, none⟩ = some (.int .i64 a0_5) := (blk_cell BK285.out 5).trans rfl
                  have hcz69_6 : wc.cell? ⟨gb285, 6, none⟩ = some (.int .u64 a0_6) := (blk_cell BK285.out 6).trans rfl
                  have hcz69_7 : wc.cell? ⟨gb285, 7, none⟩ = some (.int .i64 a0_7) := (blk_cell BK285.out 7).trans rfl
                  have hcz69_8 : wc.cell? ⟨gb285, 8, none⟩ = some (.int .i64 a0_8) := (blk_cell BK285.out 8).trans rfl
                  have hcz69_9 : wc.cell? ⟨gb285, 9, none⟩ = some (.int .i64 a0_9) := (blk_cell BK285.out 9).trans rfl
                  have hfz69_0 := blk_frozen BK285.out 0
                  have hfz69_1 := blk_frozen BK285.out 1
                  have hfz69_2 := blk_frozen BK285.out 2
                  have hfz69_3 := blk_frozen BK285.out 3
                  have hfz69_4 := blk_frozen BK285.out 4
                  have hfz69_5 := blk_frozen BK285.out 5
                  have hfz69_6 := blk_frozen BK285.out 6
                  have hfz69_7 := blk_frozen BK285.out 7
                  have hfz69_8 := blk_frozen BK285.out 8
                  have hfz69_9 := blk_frozen BK285.out 9
                  obtain ⟨Ao70, co70, eo70⟩ := Kd.R_slice HO_4.out
                  subst eo70
                  go_wp2_with (first | ((with_reducible refine gate_callee (f := 67) rfl ?_); refine goesL_ (some 87) rfl rfl Tryd.func67 (by kernel_rfl) rfl #[.slice Ao70 x4_47.length co70, .int .i64 a0_1] rfl (by (try simp only [List.map_toArray, List.map_cons, List.map_nil]); first | done | rfl | (simp only [List.length_drop, List.length_take]; rfl)) ?_; (with_reducible refine (cleatref04_with.calls kj53 _ _ x4_47 a0_1 t300 _ ?side1 ?side2 A68.out).mono ?_); (case side1 => repeat (first | exact (Kd.R_reads' HO_4.out).2.2 | (with_reducible refine Kd.C_alloc ?_ _) | (with_reducible refine Kd.C_drewN ?_ _) | (with_reducible refine Kd.C_drew ?_))); (case side2 => exact (Kd.R_reads' HO_4.out).2.1); rintro e w71 ⟨v301, rfl, ho0, hb⟩; refine ⟨_, rfl, ?_⟩; have n0_ := Aside0.mk (Kd.R_elder' (by (with_reducible repeat (first | apply Kd.R_alloc | apply Kd.R_drewN | apply Kd.R_drew)); exact HO_4.out) (Kd.R_base ho0) hb); have n1_ := Aside0.mk (Kd.R_lower (Kd.R_new' ho0 (Kd.R_lt (by (with_reducible repeat (first | apply Kd.R_alloc | apply Kd.R_drewN | apply Kd.R_drew)); exact HO_4.out))) (below_size (by repeat (first | (with_reducible first | exact HB.out | apply below_alloc | apply pw_below_drewN | apply below_drew1 | refine below_set ?_ GE285.out) | exact HB.out)))); have n2_ := Aside0.mk (blk_below (g := gb285) (o := .cells #[.int .i64 a0_0, .int .i64 a0_1, .int .i64 a0_2, .int .i64 a0_3, .int .i64 a0_4, .int .i64 a0_5, .int .u64 a0_6, .int .i64 a0_7, .int .i64 a0_8, .int .i64 a0_9] 37 (0, 0)) (by (with_reducible repeat (first | refine blk_drewN ?_ _ | refine blk_drew ?_ | refine blk_alloc ?_ _)); exact BK285.out) hb); have n3_ := Aside0.mk (below_step (by repeat (first | (with_reducible first | exact HB.out | apply below_alloc | apply pw_below_drewN | apply below_drew1 | refine below_set ?_ GE285.out) | exact HB.out)) hb); clear HO_4; clear BK285; clear HB; have HO_4 := n0_; have HO302 := n1_; have BK285 := n2_; have HB := n3_; clear n0_ n1_ n2_ n3_; (try clear hb); (try clear hb2); (try clear hk); (try clear hi); (try clear ho0)))
                  go_meet
                  case rel => exact ⟨_, (t300), H', ⟨by have := HJ4.out; have := HJ24.out; have := HJ29.out; have := HJ35.out; have := HJ41.out; have := HJ47.out; have := HJ53.out; first | omega | exact Nat.le_refl _⟩, ⟨by (with_reducible repeat (first | apply Kd.R_alloc | apply Kd.R_drewN | apply Kd.R_drew)); exact Kd.R_mono HO302.out (fun _ hk => trivial)⟩, ⟨by (with_reducible repeat (first | refine blk_drewN ?_ _ | refine blk_drew ?_ | refine blk_alloc ?_ _)); exact BK285.out⟩, ⟨by repeat (first | (with_reducible first | exact HB.out | apply below_alloc | apply pw_below_drewN | apply below_drew1 | refine below_set ?_ GE285.out) | exact HB.out)⟩⟩
                 ·
                  replace c67 := Bool.eq_false_iff.mpr c67
                  subst c67
                  have H1 : (cleatref04_Reads.j7 kj53 x4_47 a0_0 a0_1 a0_2 a0_3 a0_4 a0_5 a0_6 a0_7 a0_8 a0_9) = some r := by rw [if_neg (show ¬ (false = true) by decide)] at H; exact H
                  clear H
                  have H := H1
                  clear H1
                  have H' := Aside0.mk H
                  clear H
                  go_wp2
                  go_meet
                  case rel => exact ⟨_, (x4_47), H', ⟨by have := HJ4.out; have := HJ24.out; have := HJ29.out; have := HJ35.out; have := HJ41.out; have := HJ47.out; have := HJ53.out; first | omega | exact Nat.le_refl _⟩, ⟨by (with_reducible repeat (first | apply Kd.R_alloc | apply Kd.R_drewN | apply Kd.R_drew)); exact HO_4.out⟩, ⟨by (with_reducible repeat (first | refine blk_drewN ?_ _ | refine blk_drew ?_ | refine blk_alloc ?_ _)); exact BK285.out⟩, ⟨by repeat (first | (with_reducible first | exact HB.out | apply below_alloc | apply pw_below_drewN | apply below_drew1 | refine below_set ?_ GE285.out) | exact HB.out)⟩⟩
                case rest =>
                 clear HC66
                 try clear c1
                 try clear c2
                 try clear p2
                 try clear c3
                 try clear c4
                 try clear c5
                 try clear c6
                 try clear c12
                 try clear c13
                 try clear c13b0
                 try clear c16
                 try clear c16b0
                 try clear c16b1
                 try clear c19
                 try clear c19b0
                 try clear c19b1
                 try clear c26
                 try clear c31
                 try clear c32
                 try clear c34
                 try clear c37
                 try clear c44
                 try clear c49
                 try clear c55
                 try clear c55b0
                 try clear c56
                 try clear c56b0
                 try clear c56b1
                 try clear c58
                 try clear c58b0
                 try clear c58b1
                 try clear c60
                 try clear c60b0
                 try clear c60b1
                 try clear c62
                 try clear c62b0
                 try clear c62b1
                 try clear c67
                 try clear hcz15_0 hcz15_1 hcz15_2 hcz15_3 hcz15_4 hcz15_5 hcz15_6 hcz15_7 hcz15_8 hcz15_9
                 try clear hcz18_0 hcz18_1 hcz18_2 hcz18_3 hcz18_4 hcz18_5 hcz18_6 hcz18_7 hcz18_8 hcz18_9
                 try clear hcz21_0 hcz21_1 hcz21_2 hcz21_3 hcz21_4 hcz21_5 hcz21_6 hcz21_7 hcz21_8 hcz21_9
                 try clear hcz23_0 hcz23_1 hcz23_2 hcz23_3 hcz23_4 hcz23_5 hcz23_6 hcz23_7 hcz23_8 hcz23_9
                 try clear hcz28_0 hcz28_1 hcz28_2 hcz28_3 hcz28_4 hcz28_5 hcz28_6 hcz28_7 hcz28_8 hcz28_9
                 try clear hcz34_0 hcz34_1 hcz34_2 hcz34_3 hcz34_4 hcz34_5 hcz34_6 hcz34_7 hcz34_8 hcz34_9
                 try clear hcz39_0 hcz39_1 hcz39_2 hcz39_3 hcz39_4 hcz39_5 hcz39_6 hcz39_7 hcz39_8 hcz39_9
                 try clear hcz46_0 hcz46_1 hcz46_2 hcz46_3 hcz46_4 hcz46_5 hcz46_6 hcz46_7 hcz46_8 hcz46_9
                 try clear hcz51_0 hcz51_1 hcz51_2 hcz51_3 hcz51_4 hcz51_5 hcz51_6 hcz51_7 hcz51_8 hcz51_9
                 try clear hcz57_0 hcz57_1 hcz57_2 hcz57_3 hcz57_4 hcz57_5 hcz57_6 hcz57_7 hcz57_8 hcz57_9
                 try clear hcz59_0 hcz59_1 hcz59_2 hcz59_3 hcz59_4 hcz59_5 hcz59_6 hcz59_7 hcz59_8 hcz59_9
                 try clear hcz61_0 hcz61_1 hcz61_2 hcz61_3 hcz61_4 hcz61_5 hcz61_6 hcz61_7 hcz61_8 hcz61_9
                 try clear hcz63_0 hcz63_1 hcz63_2 hcz63_3 hcz63_4 hcz63_5 hcz63_6 hcz63_7 hcz63_8 hcz63_9
                 try clear hcz64_0 hcz64_1 hcz64_2 hcz64_3 hcz64_4 hcz64_5 hcz64_6 hcz64_7 hcz64_8 hcz64_9
                 try clear hcz65_0 hcz65_1 hcz65_2 hcz65_3 hcz65_4 hcz65_5 hcz65_6 hcz65_7 hcz65_8 hcz65_9
                 try clear hcz69_0 hcz69_1 hcz69_2 hcz69_3 hcz69_4 hcz69_5 hcz69_6 hcz69_7 hcz69_8 hcz69_9
                 try clear hcz7_0 hcz7_1 hcz7_2 hcz7_3 hcz7_4 hcz7_5 hcz7_6 hcz7_7 hcz7_8 hcz7_9
                 try clear hcz9_0 hcz9_1 hcz9_2 hcz9_3 hcz9_4 hcz9_5 hcz9_6 hcz9_7 hcz9_8 hcz9_9
                 try clear hfz15_0
                 try clear hfz18_0
                 try clear hfz21_0
                 try clear hfz23_0
                 try clear hfz28_0
                 try clear hfz34_0
                 try clear hfz39_0
                 try clear hfz46_0
                 try clear hfz51_0
                 try clear hfz57_0
                 try clear hfz59_0
                 try clear hfz61_0
                 try clear hfz63_0
                 try clear hfz64_0
                 try clear hfz65_0
                 try clear hfz69_0
                 try clear hfz7_0
                 try clear hfz9_0
                 try clear p2
                 obtain ⟨kq, x4_65, HA, HJ65, HO_4, BK285, HB⟩ := hcut
                 cases kq with
                 | zero => exact absurd HA.out (by simp [cleatref04_Reads.j7])
                 | succ kj65 =>
                  have H := HA.out
                  clear HA
                  simp only [cleatref04_Reads.j7] at H
                  by_cases c72 : a0_0 = 37
                  ·
                   rw [if_pos c72] at H
                   have c72b0 : (a0_0 == 37) = true := beq_iff_eq.mpr c72
                   have c72b1 : (a0_0 != 37) = false := bne_eq_false_iff_eq.mpr c72
                   clear c72
                   replace H := Option.bind_eq_some_iff.mp H
                   obtain ⟨t303, A730, H⟩ := H
                   replace H : (some t303) = some r := H
                   have A73 := Aside0.mk A730
                   clear A730
                   obtain rfl := Option.some.inj H
                   have hcz74_0 : wc.cell? ⟨gb285, 0, none⟩ = some (.int .i64 a0_0) := (blk_cell BK285.out 0).trans rfl
                   have hcz74_1 : wc.cell? ⟨gb285, 1, none⟩ = some (.int .i64 a0_1) := (blk_cell BK285.out 1).trans rfl
                   have hcz74_2 : wc.cell? ⟨gb285, 2, none⟩ = some (.int .i64 a0_2) := (blk_cell BK285.out 2).trans rfl
                   have hcz74_3 : wc.cell? ⟨gb285, 3, none⟩ = some (.int .i64 a0_3) := (blk_cell BK285.out 3).trans rfl
                   have hcz74_4 : wc.cell? ⟨gb285, 4, none⟩ = some (.int .i64 a0_4) := (blk_cell BK285.out 4).trans rfl
                   have hcz74_5 : wc.cell? ⟨gb285, 5, none⟩ = some (.int .i64 a0_5) := (blk_cell BK285.out 5).trans rfl
                   have hcz74_6 : wc.cell? ⟨gb285, 6, none⟩ = some (.int .u64 a0_6) := (blk_cell BK285.out 6).trans rfl
                   have hcz74_7 : wc.cell? ⟨gb285, 7, none⟩ = some (.int .i64 a0_7) := (blk_cell BK285.out 7).trans rfl
                   have hcz74_8 : wc.cell? ⟨gb285, 8, none⟩ = some (.int .i64 a0_8) := (blk_cell BK285.out 8).trans rfl
                   have hcz74_9 : wc.cell? ⟨gb285, 9, none⟩ = some (.int .i64 a0_9) := (blk_cell BK285.out 9).trans rfl
                   have hfz74_0 := blk_frozen BK285.out 0
                   have hfz74_1 := blk_frozen BK285.out 1
                   have hfz74_2 := blk_frozen BK285.out 2
                   have hfz74_3 := blk_frozen BK285.out 3
                   have hfz74_4 := blk_frozen BK285.out 4
                   have hfz74_5 := blk_frozen BK285.out 5
                   have hfz74_6 := blk_frozen BK285.out 6
                   have hfz74_7 := blk_frozen BK285.out 7
                   have hfz74_8 := blk_frozen BK285.out 8
                   have hfz74_9 := blk_frozen BK285.out 9
                   obtain ⟨Ao75, co75, eo75⟩ := Kd.R_slice HO_4.out
                   subst eo75
                   go_wp2_with (first | ((with_reducible refine gate_callee (f := 67) rfl ?_); refine goesL_ (some 92) rfl rfl Tryd.func67 (by kernel_rfl) rfl #[.slice Ao75 x4_65.length co75, .int .i64 0] rfl (by (try simp only [List.map_toArray, List.map_cons, List.map_nil]); first | done | rfl | (simp only [List.length_drop, List.length_take]; rfl)) ?_; (with_reducible refine (cleatref04_with.calls kj65 _ _ x4_65 0 t303 _ ?side1 ?side2 A73.out).mono ?_); (case side1 => repeat (first | exact (Kd.R_reads' HO_4.out).2.2 | (with_reducible refine Kd.C_alloc ?_ _) | (with_reducible refine Kd.C_drewN ?_ _) | (with_reducible refine Kd.C_drew ?_))); (case side2 => exact (Kd.R_reads' HO_4.out).2.1); rintro e w76 ⟨v304, rfl, ho0, hb⟩; refine ⟨_, rfl, ?_⟩; have n0_ := Aside0.mk (Kd.R_elder' (by (with_reducible repeat (first | apply Kd.R_alloc | apply Kd.R_drewN | apply Kd.R_drew)); exact HO_4.out) (Kd.R_base ho0) hb); have n1_ := Aside0.mk (Kd.R_lower (Kd.R_new' ho0 (Kd.R_lt (by (with_reducible repeat (first | apply Kd.R_alloc | apply Kd.R_drewN | apply Kd.R_drew)); exact HO_4.out))) (below_size (by repeat (first | (with_reducible first | exact HB.out | apply below_alloc | apply pw_below_drewN | apply below_drew1 | refine below_set ?_ GE285.out) | exact HB.out)))); have n2_ := Aside0.mk (blk_below (g := gb285) (o := .cells #[.int .i64 a0_0, .int .i64 a0_1, .int .i64 a0_2, .int .i64 a0_3, .int .i64 a0_4, .int .i64 a0_5, .int .u64 a0_6, .int .i64 a0_7, .int .i64 a0_8, .int .i64 a0_9] 37 (0, 0)) (by (with_reducible repeat (first | refine blk_drewN ?_ _ | refine blk_drew ?_ | refine blk_alloc ?_ _)); exact BK285.out) hb); have n3_ := Aside0.mk (below_step (by repeat (first | (with_reducible first | exact HB.out | apply below_alloc | apply pw_below_drewN | apply below_drew1 | refine below_set ?_ GE285.out) | exact HB.out)) hb); clear HO_4; clear BK285; clear HB; have HO_4 := n0_; have HO305 := n1_; have BK285 := n2_; have HB := n3_; clear n0_ n1_ n2_ n3_; (try clear hb); (try clear hb2); (try clear hk); (try clear hi); (try clear ho0)))
                   go_ret
                   exact ⟨_, by first | rfl | (simp [errW_none, errW_some] <;> rfl) | (simp [*, errW_none, errW_some] <;> rfl), by (with_reducible repeat (first | apply Kd.R_alloc | apply Kd.R_drewN | apply Kd.R_drew)); exact Kd.R_mono HO305.out (fun _ hk => trivial), by repeat (first | (with_reducible first | exact HB.out | apply below_alloc | apply pw_below_drewN | apply below_drew1 | refine below_set ?_ GE285.out) | exact HB.out)⟩
                  ·
                   rw [if_neg c72] at H
                   have c72b0 : (a0_0 == 37) = false := beq_eq_false_iff_ne.mpr c72
                   have c72b1 : (a0_0 != 37) = true := bne_iff_ne.mpr c72
                   obtain rfl := Option.some.inj H
                   have hcz77_0 : wc.cell? ⟨gb285, 0, none⟩ = some (.int .i64 a0_0) := (blk_cell BK285.out 0).trans rfl
                   have hcz77_1 : wc.cell? ⟨gb285, 1, none⟩ = some (.int .i64 a0_1) := (blk_cell BK285.out 1).trans rfl
                   have hcz77_2 : wc.cell? ⟨gb285, 2, none⟩ = some (.int .i64 a0_2) := (blk_cell BK285.out 2).trans rfl
                   have hcz77_3 : wc.cell? ⟨gb285, 3, none⟩ = some (.int .i64 a0_3) := (blk_cell BK285.out 3).trans rfl
                   have hcz77_4 : wc.cell? ⟨gb285, 4, none⟩ = some (.int .i64 a0_4) := (blk_cell BK285.out 4).trans rfl
                   have hcz77_5 : wc.cell? ⟨gb285, 5, none⟩ = some (.int .i64 a0_5) := (blk_cell BK285.out 5).trans rfl
                   have hcz77_6 : wc.cell? ⟨gb285, 6, none⟩ = some (.int .u64 a0_6) := (blk_cell BK285.out 6).trans rfl
                   have hcz77_7 : wc.cell? ⟨gb285, 7, none⟩ = some (.int .i64 a0_7) := (blk_cell BK285.out 7).trans rfl
                   have hcz77_8 : wc.cell? ⟨gb285, 8, none⟩ = some (.int .i64 a0_8) := (blk_cell BK285.out 8).trans rfl
                   have hcz77_9 : wc.cell? ⟨gb285, 9, none⟩ = some (.int .i64 a0_9) := (blk_cell BK285.out 9).trans rfl
                   have hfz77_0 := blk_frozen BK285.out 0
                   have hfz77_1 := blk_frozen BK285.out 1
                   have hfz77_2 := blk_frozen BK285.out 2
                   have hfz77_3 := blk_frozen BK285.out 3
                   have hfz77_4 := blk_frozen BK285.out 4
                   have hfz77_5 := blk_frozen BK285.out 5
                   have hfz77_6 := blk_frozen BK285.out 6
                   have hfz77_7 := blk_frozen BK285.out 7
                   have hfz77_8 := blk_frozen BK285.out 8
                   have hfz77_9 := blk_frozen BK285.out 9
                   go_wp2
                   go_ret
                   exact ⟨_, by first | rfl | (simp [errW_none, errW_some] <;> rfl) | (simp [*, errW_none, errW_some] <;> rfl), by (with_reducible repeat (first | apply Kd.R_alloc | apply Kd.R_drewN | apply Kd.R_drew)); exact HO_4.out, by repeat (first | (with_reducible first | exact HB.out | apply below_alloc | apply pw_below_drewN | apply below_drew1 | refine below_set ?_ GE285.out) | exact HB.out)⟩
 ·
  replace c3 := Bool.eq_false_iff.mpr c3
  subst c3
  have H1 : (some ([] : List Int)) = some r := by rw [if_neg (show ¬ (false = true) by decide)] at H; exact H
  clear H
  have H := H1
  clear H1
  obtain rfl := Option.some.inj H
  go_enter Tryd.func34, Tryd.ntmps34
  go_wp2_with (first | ((with_reducible refine gate_dst (N := 1) rfl ?_); refine box_event ?hg (N := 1) ?hd (cs := #[.int .i64 a0_0, .int .i64 a0_1, .int .i64 a0_2, .int .i64 a0_3, .int .i64 a0_4, .int .i64 a0_5, .int .u64 a0_6, .int .i64 a0_7, .int .i64 a0_8, .int .i64 a0_9]) (t := 37) ?hr ?_; (case hd => rfl); (case hg => rfl); (case hr => first | (go_simp; done) | (go_simp; rfl)); intro gb285 hg w78 hbox hb; have n0_ := Aside0.mk (below_step (by repeat (first | (with_reducible first | exact HB.out | apply below_alloc | apply pw_below_drewN | apply below_drew1) | exact HB.out)) hb); have n1_ := Aside0.mk (hbox); have n2_ := Aside0.mk ((by rw [hg]; exact (below_size (by repeat (first | (with_reducible first | exact HB.out | apply below_alloc | apply pw_below_drewN | apply below_drew1) | exact HB.out))) : w.heap.size ≤ gb285)); have n3_ := Aside0.mk ((by rw [hg]; exact (below_size (by repeat (first | (with_reducible first | exact HB.out | apply below_alloc | apply pw_below_drewN | apply below_drew1) | exact HB.out))) : w.heap.size ≤ gb285)); clear HB; have HB := n0_; have BK285 := n1_; have GW285 := n2_; have GE285 := n3_; clear n0_ n1_ n2_ n3_; clear hb hbox hg; obtain ⟨hcz79_0, hcz79_1, hcz79_2, hcz79_3, hcz79_4, hcz79_5, hcz79_6, hcz79_7, hcz79_8, hcz79_9⟩ := cells10_ BK285.out; have hfz79_0 := fun j => blk_frozen BK285.out j) | ((with_reducible refine gate_callee (f := 31) rfl ?_); refine goesL_ (some 6) rfl rfl Tryd.func31 (by kernel_rfl) rfl #[.agg #[.int .i64 a0_0, .int .i64 a0_1, .int .i64 a0_2, .int .i64 a0_3, .int .i64 a0_4, .int .i64 a0_5, .int .u64 a0_6, .int .i64 a0_7, .int .i64 a0_8, .int .i64 a0_9]] rfl (by (try simp only [List.map_toArray, List.map_cons, List.map_nil]); first | done | rfl | (simp only [List.length_drop, List.length_take]; rfl)) ?_; (with_reducible refine (cleatref04_Is.calls k a0_0 a0_1 a0_2 a0_3 a0_4 a0_5 a0_6 a0_7 a0_8 a0_9 false _ A2.out).mono ?_); rintro e w80 ⟨rfl, hb⟩; refine ⟨_, rfl, ?_⟩; have n0_ := Aside0.mk (blk_below (g := gb285) (o := .cells #[.int .i64 a0_0, .int .i64 a0_1, .int .i64 a0_2, .int .i64 a0_3, .int .i64 a0_4, .int .i64 a0_5, .int .u64 a0_6, .int .i64 a0_7, .int .i64 a0_8, .int .i64 a0_9] 37 (0, 0)) (by (with_reducible repeat (first | refine blk_drewN ?_ _ | refine blk_drew ?_ | refine blk_alloc ?_ _)); exact BK285.out) hb); have n1_ := Aside0.mk (below_step (by repeat (first | (with_reducible first | exact HB.out | apply below_alloc | apply pw_below_drewN | apply below_drew1 | refine below_set ?_ GE285.out) | exact HB.out)) hb); clear BK285; clear HB; have BK285 := n0_; have HB := n1_; clear n0_ n1_; (try clear hb); (try clear hb2); (try clear hk); (try clear hi)))
  go_ret
  exact ⟨_, by first | rfl | (simp [errW_none, errW_some] <;> rfl) | (simp [*, errW_none, errW_some] <;> rfl), by first | exact Kd.R_nil _ _ _ _ _ | exact Kd.N_nil _ _ _ _ _ | exact Kd.V_nil _ _ _ _ _ | exact Kd.Q_nil _ _ _ _ _ | exact Kd.S_nil _ _ _ _ _, by repeat (first | (with_reducible first | exact HB.out | apply below_alloc | apply pw_below_drewN | apply below_drew1 | refine below_set ?_ GE285.out) | exact HB.out)⟩
end Go.Proofs.YtbklmlbmbnnjkaaDoor.R
