/- Written for this claim by a program of this session: what the claim uses of lemmas and proved contracts of Go functions. -/
import Derived.Test.YtbklmlbmbnnjkaaDoorZDoesRx0
import Derived.Test.YtbklmlbmbnnjkaaDoorZDoesRx10
import Derived.Test.YtbklmlbmbnnjkaaDoorZDoesRx12
namespace Go.Proofs.YtbklmlbmbnnjkaaDoor.R
open Go.RowKit Go.Proofs.YtbklmlbmbnnjkaaDoorW.PrintWords Go.Proofs.YtbklmlbmbnnjkaaDoorW.PrintLast Go.Proofs.YtbklmlbmbnnjkaaDoorW.PrintMore
attribute [local go_sem] max2_int min2_int max_two min_two max_three min_three max_four min_four   -- for this text's walks alone
set_option linter.unusedVariables false
set_option linter.unusedSimpArgs false
mutual
def cleatref04_Writes.j0 : Nat → Bool → Int → Int → Int → Int → Int → Int → Int → Int → Int → Int → Option (Int × Bool)
 | 0, _, _, _, _, _, _, _, _, _, _, _ => none
 | k + 1, x27, x220000, x220001, x220002, x220003, x220004, x220005, x220006, x220007, x220008, x220009 => if x27 = true then (some (0, false)) else (if x220000 = 30 then (cleatref04_Writes.j1 k true x220000 x220001 x220002 x220003 x220004 x220005 x220006 x220007 x220008 x220009) else (cleatref04_Writes.j1 k (x220000 == 35) x220000 x220001 x220002 x220003 x220004 x220005 x220006 x220007 x220008 x220009))
def cleatref04_Writes.j1 : Nat → Bool → Int → Int → Int → Int → Int → Int → Int → Int → Int → Int → Option (Int × Bool)
 | 0, _, _, _, _, _, _, _, _, _, _, _ => none
 | k + 1, x35, x220000, x220001, x220002, x220003, x220004, x220005, x220006, x220007, x220008, x220009 => if x35 = true then (some (30, true)) else (if x220000 = 4 then (cleatref04_Writes.j2 k true x220000 x220001 x220002 x220003 x220004 x220005 x220006 x220007 x220008 x220009) else (if x220000 = 5 then (cleatref04_Writes.j2 k true x220000 x220001 x220002 x220003 x220004 x220005 x220006 x220007 x220008 x220009) else (if x220000 = 8 then (cleatref04_Writes.j2 k true x220000 x220001 x220002 x220003 x220004 x220005 x220006 x220007 x220008 x220009) else (if x220000 = 9 then (cleatref04_Writes.j2 k true x220000 x220001 x220002 x220003 x220004 x220005 x220006 x220007 x220008 x220009) else (cleatref04_Writes.j2 k (x220000 == 10) x220000 x220001 x220002 x220003 x220004 x220005 x220006 x220007 x220008 x220009)))))
def cleatref04_Writes.j2 : Nat → Bool → Int → Int → Int → Int → Int → Int → Int → Int → Int → Int → Option (Int × Bool)
 | 0, _, _, _, _, _, _, _, _, _, _, _ => none
 | k + 1, x4, x220000, x220001, x220002, x220003, x220004, x220005, x220006, x220007, x220008, x220009 => (cleatref04_Shape.f k x220000).bind fun t221 => ((cleatref04_Has.f k t221 (⟨#[100]⟩ : ByteArray)).bind fun t222 => (if t222 = true then (if x220001 = 31 then (cleatref04_Writes.j3 k (!x4) x220000 x220001 x220002 x220003 x220004 x220005 x220006 x220007 x220008 x220009) else (cleatref04_Writes.j3 k false x220000 x220001 x220002 x220003 x220004 x220005 x220006 x220007 x220008 x220009)) else (cleatref04_Writes.j3 k true x220000 x220001 x220002 x220003 x220004 x220005 x220006 x220007 x220008 x220009)))
def cleatref04_Writes.j3 : Nat → Bool → Int → Int → Int → Int → Int → Int → Int → Int → Int → Int → Option (Int × Bool)
 | 0, _, _, _, _, _, _, _, _, _, _, _ => none
 | k + 1, x72, x220000, x220001, x220002, x220003, x220004, x220005, x220006, x220007, x220008, x220009 => if x72 = true then (some (0, false)) else (some (x220001, true))
end
def cleatref04_Writes.f (k : Nat) (a0_0 : Int) (a0_1 : Int) (a0_2 : Int) (a0_3 : Int) (a0_4 : Int) (a0_5 : Int) (a0_6 : Int) (a0_7 : Int) (a0_8 : Int) (a0_9 : Int) : Option (Int × Bool) := (cleatref04_Is.f k a0_0 a0_1 a0_2 a0_3 a0_4 a0_5 a0_6 a0_7 a0_8 a0_9).bind fun t220 => (if t220 = true then (if a0_0 = 23 then (cleatref04_Writes.j0 k true a0_0 a0_1 a0_2 a0_3 a0_4 a0_5 a0_6 a0_7 a0_8 a0_9) else (if a0_0 = 25 then (cleatref04_Writes.j0 k true a0_0 a0_1 a0_2 a0_3 a0_4 a0_5 a0_6 a0_7 a0_8 a0_9) else (if a0_0 = 32 then (cleatref04_Writes.j0 k true a0_0 a0_1 a0_2 a0_3 a0_4 a0_5 a0_6 a0_7 a0_8 a0_9) else (cleatref04_Writes.j0 k (a0_0 == 33) a0_0 a0_1 a0_2 a0_3 a0_4 a0_5 a0_6 a0_7 a0_8 a0_9)))) else (cleatref04_Writes.j0 k true a0_0 a0_1 a0_2 a0_3 a0_4 a0_5 a0_6 a0_7 a0_8 a0_9))
set_option maxHeartbeats 8000000 in
set_option maxRecDepth 100000 in
theorem cleatref04_Writes.calls (k : Nat) (a0_0 : Int) (a0_1 : Int) (a0_2 : Int) (a0_3 : Int) (a0_4 : Int) (a0_5 : Int) (a0_6 : Int) (a0_7 : Int) (a0_8 : Int) (a0_9 : Int) (r1 : Int) (r2 : Bool) (w : World) (h : cleatref04_Writes.f k a0_0 a0_1 a0_2 a0_3 a0_4 a0_5 a0_6 a0_7 a0_8 a0_9 = some (r1, r2)) :
    Calls Tryd.prog 28 #[.agg #[.int .i64 a0_0, .int .i64 a0_1, .int .i64 a0_2, .int .i64 a0_3, .int .i64 a0_4, .int .i64 a0_5, .int .u64 a0_6, .int .i64 a0_7, .int .i64 a0_8, .int .i64 a0_9]] w fun e w' => e = .returned (.tuple #[.int .i64 r1, .bool r2]) ∧ Below w.heap.size w w' := by
 have hu37 := Tryd.underlying37
 have HB := Aside0.mk (Below.refl w.heap.size w)
 have H : ((cleatref04_Is.f k a0_0 a0_1 a0_2 a0_3 a0_4 a0_5 a0_6 a0_7 a0_8 a0_9).bind fun t220 => (if t220 = true then (if a0_0 = 23 then (cleatref04_Writes.j0 k true a0_0 a0_1 a0_2 a0_3 a0_4 a0_5 a0_6 a0_7 a0_8 a0_9) else (if a0_0 = 25 then (cleatref04_Writes.j0 k true a0_0 a0_1 a0_2 a0_3 a0_4 a0_5 a0_6 a0_7 a0_8 a0_9) else (if a0_0 = 32 then (cleatref04_Writes.j0 k true a0_0 a0_1 a0_2 a0_3 a0_4 a0_5 a0_6 a0_7 a0_8 a0_9) else (cleatref04_Writes.j0 k (a0_0 == 33) a0_0 a0_1 a0_2 a0_3 a0_4 a0_5 a0_6 a0_7 a0_8 a0_9)))) else (cleatref04_Writes.j0 k true a0_0 a0_1 a0_2 a0_3 a0_4 a0_5 a0_6 a0_7 a0_8 a0_9))) = some (r1, r2) := h
 clear h
 have HC2 := Aside0.mk H
 clear H
 go_enter Tryd.func28, Tryd.ntmps28
 go_upto_region 1 with (first | ((with_reducible refine gate_dst (N := 1) rfl ?_); refine box_event ?hg (N := 1) ?hd (cs := #[.int .i64 a0_0, .int .i64 a0_1, .int .i64 a0_2, .int .i64 a0_3, .int .i64 a0_4, .int .i64 a0_5, .int .u64 a0_6, .int .i64 a0_7, .int .i64 a0_8, .int .i64 a0_9]) (t := 37) ?hr ?_; (case hd => rfl); (case hg => rfl); (case hr => first | (go_simp; done) | (go_simp; rfl)); intro gb219 hg w3 hbox hb; have n0_ := Aside0.mk (below_step (by repeat (first | (with_reducible first | exact HB.out | apply below_alloc | apply pw_below_drewN | apply below_drew1) | exact HB.out)) hb); have n1_ := Aside0.mk (hbox); have n2_ := Aside0.mk ((by rw [hg]; exact (below_size (by repeat (first | (with_reducible first | exact HB.out | apply below_alloc | apply pw_below_drewN | apply below_drew1) | exact HB.out))) : w.heap.size ≤ gb219)); have n3_ := Aside0.mk ((by rw [hg]; exact (below_size (by repeat (first | (with_reducible first | exact HB.out | apply below_alloc | apply pw_below_drewN | apply below_drew1) | exact HB.out))) : w.heap.size ≤ gb219)); clear HB; have HB := n0_; have BK219 := n1_; have GW219 := n2_; have GE219 := n3_; clear n0_ n1_ n2_ n3_; clear hb hbox hg))
 (try simp only [Act.put, List.setIfInBounds_toArray, List.set_cons_zero, List.set_cons_succ])
 go_cut [27] (fun v27 wc => ∃ (kq : Nat) (x27_1 : Bool), v27 = .bool x27_1 ∧ Aside0 (cleatref04_Writes.j0 kq x27_1 a0_0 a0_1 a0_2 a0_3 a0_4 a0_5 a0_6 a0_7 a0_8 a0_9 = some (r1, r2)) ∧ Aside0 (kq ≤ k) ∧ Aside0 (wc.heap[gb219]? = some (.cells #[.int .i64 a0_0, .int .i64 a0_1, .int .i64 a0_2, .int .i64 a0_3, .int .i64 a0_4, .int .i64 a0_5, .int .u64 a0_6, .int .i64 a0_7, .int .i64 a0_8, .int .i64 a0_9] 37 (0, 0))) ∧ Aside0 (Below w.heap.size w wc))
 case first =>
  have H := HC2.out
  clear HC2
  replace H := Option.bind_eq_some_iff.mp H
  obtain ⟨t220, A40, H⟩ := H
  replace H : (if t220 = true then (if a0_0 = 23 then (cleatref04_Writes.j0 k true a0_0 a0_1 a0_2 a0_3 a0_4 a0_5 a0_6 a0_7 a0_8 a0_9) else (if a0_0 = 25 then (cleatref04_Writes.j0 k true a0_0 a0_1 a0_2 a0_3 a0_4 a0_5 a0_6 a0_7 a0_8 a0_9) else (if a0_0 = 32 then (cleatref04_Writes.j0 k true a0_0 a0_1 a0_2 a0_3 a0_4 a0_5 a0_6 a0_7 a0_8 a0_9) else (cleatref04_Writes.j0 k (a0_0 == 33) a0_0 a0_1 a0_2 a0_3 a0_4 a0_5 a0_6 a0_7 a0_8 a0_9)))) else (cleatref04_Writes.j0 k true a0_0 a0_1 a0_2 a0_3 a0_4 a0_5 a0_6 a0_7 a0_8 a0_9)) = some (r1, r2) := H
  have A4 := Aside0.mk A40
  clear A40
  by_cases c5 : t220 = true
  ·
   subst c5
   have H1 : (if a0_0 = 23 then (cleatref04_Writes.j0 k true a0_0 a0_1 a0_2 a0_3 a0_4 a0_5 a0_6 a0_7 a0_8 a0_9) else (if a0_0 = 25 then (cleatref04_Writes.j0 k true a0_0 a0_1 a0_2 a0_3 a0_4 a0_5 a0_6 a0_7 a0_8 a0_9) else (if a0_0 = 32 then (cleatref04_Writes.j0 k true a0_0 a0_1 a0_2 a0_3 a0_4 a0_5 a0_6 a0_7 a0_8 a0_9) else (cleatref04_Writes.j0 k (a0_0 == 33) a0_0 a0_1 a0_2 a0_3 a0_4 a0_5 a0_6 a0_7 a0_8 a0_9)))) = some (r1, r2) := by rw [if_pos rfl] at H; exact H
   clear H
   have H := H1
   clear H1
   by_cases c6 : a0_0 = 23
   ·
    rw [if_pos c6] at H
    have c6b0 : (a0_0 == 23) = true := beq_iff_eq.mpr c6
    have c6b1 : (a0_0 != 23) = false := bne_eq_false_iff_eq.mpr c6
    clear c6
    (first | rw [c6b0] | (simp only [i64_w, i32_w]; rw [c6b0]) | skip)
    have H' := Aside0.mk H
    clear H
    have hcz7_0 : w3.cell? ⟨gb219, 0, none⟩ = some (.int .i64 a0_0) := (blk_cell BK219.out 0).trans rfl
    have hcz7_1 : w3.cell? ⟨gb219, 1, none⟩ = some (.int .i64 a0_1) := (blk_cell BK219.out 1).trans rfl
    have hcz7_2 : w3.cell? ⟨gb219, 2, none⟩ = some (.int .i64 a0_2) := (blk_cell BK219.out 2).trans rfl
    have hcz7_3 : w3.cell? ⟨gb219, 3, none⟩ = some (.int .i64 a0_3) := (blk_cell BK219.out 3).trans rfl
    have hcz7_4 : w3.cell? ⟨gb219, 4, none⟩ = some (.int .i64 a0_4) := (blk_cell BK219.out 4).trans rfl
    have hcz7_5 : w3.cell? ⟨gb219, 5, none⟩ = some (.int .i64 a0_5) := (blk_cell BK219.out 5).trans rfl
    have hcz7_6 : w3.cell? ⟨gb219, 6, none⟩ = some (.int .u64 a0_6) := (blk_cell BK219.out 6).trans rfl
    have hcz7_7 : w3.cell? ⟨gb219, 7, none⟩ = some (.int .i64 a0_7) := (blk_cell BK219.out 7).trans rfl
    have hcz7_8 : w3.cell? ⟨gb219, 8, none⟩ = some (.int .i64 a0_8) := (blk_cell BK219.out 8).trans rfl
    have hcz7_9 : w3.cell? ⟨gb219, 9, none⟩ = some (.int .i64 a0_9) := (blk_cell BK219.out 9).trans rfl
    have hfz7_0 := blk_frozen BK219.out 0
    have hfz7_1 := blk_frozen BK219.out 1
    have hfz7_2 := blk_frozen BK219.out 2
    have hfz7_3 := blk_frozen BK219.out 3
    have hfz7_4 := blk_frozen BK219.out 4
    have hfz7_5 := blk_frozen BK219.out 5
    have hfz7_6 := blk_frozen BK219.out 6
    have hfz7_7 := blk_frozen BK219.out 7
    have hfz7_8 := blk_frozen BK219.out 8
    have hfz7_9 := blk_frozen BK219.out 9
    go_wp2_with (first | ((with_reducible refine gate_callee (f := 31) rfl ?_); refine goesL_ (some 6) rfl rfl Tryd.func31 (by kernel_rfl) rfl #[.agg #[.int .i64 a0_0, .int .i64 a0_1, .int .i64 a0_2, .int .i64 a0_3, .int .i64 a0_4, .int .i64 a0_5, .int .u64 a0_6, .int .i64 a0_7, .int .i64 a0_8, .int .i64 a0_9]] rfl (by (try simp only [List.map_toArray, List.map_cons, List.map_nil]); first | done | rfl | (simp only [List.length_drop, List.length_take]; rfl)) ?_; (with_reducible refine (cleatref04_Is.calls k a0_0 a0_1 a0_2 a0_3 a0_4 a0_5 a0_6 a0_7 a0_8 a0_9 true _ A4.out).mono ?_); rintro e w8 ⟨rfl, hb⟩; refine ⟨_, rfl, ?_⟩; have n0_ := Aside0.mk (blk_below (g := gb219) (o := .cells #[.int .i64 a0_0, .int .i64 a0_1, .int .i64 a0_2, .int .i64 a0_3, .int .i64 a0_4, .int .i64 a0_5, .int .u64 a0_6, .int .i64 a0_7, .int .i64 a0_8, .int .i64 a0_9] 37 (0, 0)) (by (with_reducible repeat (first | refine blk_drewN ?_ _ | refine blk_drew ?_ | refine blk_alloc ?_ _)); exact BK219.out) hb); have n1_ := Aside0.mk (below_step (by repeat (first | (with_reducible first | exact HB.out | apply below_alloc | apply pw_below_drewN | apply below_drew1 | refine below_set ?_ GE219.out) | exact HB.out)) hb); clear BK219; clear HB; have BK219 := n0_; have HB := n1_; clear n0_ n1_; (try clear hb); (try clear hb2); (try clear hk); (try clear hi); obtain ⟨hcz9_0, hcz9_1, hcz9_2, hcz9_3, hcz9_4, hcz9_5, hcz9_6, hcz9_7, hcz9_8, hcz9_9⟩ := cells10_ BK219.out; have hfz9_0 := fun j => blk_frozen BK219.out j))
    go_meet
    case rel => exact ⟨_, (true), (by first | rfl | (simp; done) | (simp [*]; done)), H', ⟨by first | omega | exact Nat.le_refl _⟩, ⟨by (with_reducible repeat (first | refine blk_drewN ?_ _ | refine blk_drew ?_ | refine blk_alloc ?_ _)); exact BK219.out⟩, ⟨by repeat (first | (with_reducible first | exact HB.out | apply below_alloc | apply pw_below_drewN | apply below_drew1 | refine below_set ?_ GE219.out) | exact HB.out)⟩⟩
   ·
    rw [if_neg c6] at H
    have c6b0 : (a0_0 == 23) = false := beq_eq_false_iff_ne.mpr c6
    have c6b1 : (a0_0 != 23) = true := bne_iff_ne.mpr c6
    (first | rw [c6b0] | (simp only [i64_w, i32_w]; rw [c6b0]) | skip)
    by_cases c10 : a0_0 = 25
    ·
     rw [if_pos c10] at H
     have c10b0 : (a0_0 == 25) = true := beq_iff_eq.mpr c10
     have c10b1 : (a0_0 != 25) = false := bne_eq_false_iff_eq.mpr c10
     clear c10
     have H' := Aside0.mk H
     clear H
     have hcz11_0 : w3.cell? ⟨gb219, 0, none⟩ = some (.int .i64 a0_0) := (blk_cell BK219.out 0).trans rfl
     have hcz11_1 : w3.cell? ⟨gb219, 1, none⟩ = some (.int .i64 a0_1) := (blk_cell BK219.out 1).trans rfl
     have hcz11_2 : w3.cell? ⟨gb219, 2, none⟩ = some (.int .i64 a0_2) := (blk_cell BK219.out 2).trans rfl
     have hcz11_3 : w3.cell? ⟨gb219, 3, none⟩ = some (.int .i64 a0_3) := (blk_cell BK219.out 3).trans rfl
     have hcz11_4 : w3.cell? ⟨gb219, 4, none⟩ = some (.int .i64 a0_4) := (blk_cell BK219.out 4).trans rfl
     have hcz11_5 : w3.cell? ⟨gb219, 5, none⟩ = some (.int .i64 a0_5) := (blk_cell BK219.out 5).trans rfl
     have hcz11_6 : w3.cell? ⟨gb219, 6, none⟩ = some (.int .u64 a0_6) := (blk_cell BK219.out 6).trans rfl
     have hcz11_7 : w3.cell? ⟨gb219, 7, none⟩ = some (.int .i64 a0_7) := (blk_cell BK219.out 7).trans rfl
     have hcz11_8 : w3.cell? ⟨gb219, 8, none⟩ = some (.int .i64 a0_8) := (blk_cell BK219.out 8).trans rfl
     have hcz11_9 : w3.cell? ⟨gb219, 9, none⟩ = some (.int .i64 a0_9) := (blk_cell BK219.out 9).trans rfl
     have hfz11_0 := blk_frozen BK219.out 0
     have hfz11_1 := blk_frozen BK219.out 1
     have hfz11_2 := blk_frozen BK219.out 2
     have hfz11_3 := blk_frozen BK219.out 3
     have hfz11_4 := blk_frozen BK219.out 4
     have hfz11_5 := blk_frozen BK219.out 5
     have hfz11_6 := blk_frozen BK219.out 6
     have hfz11_7 := blk_frozen BK219.out 7
     have hfz11_8 := blk_frozen BK219.out 8
     have hfz11_9 := blk_frozen BK219.out 9
     go_wp2_with (first | ((with_reducible refine gate_callee (f := 31) rfl ?_); refine goesL_ (some 6) rfl rfl Tryd.func31 (by kernel_rfl) rfl #[.agg #[.int .i64 a0_0, .int .i64 a0_1, .int .i64 a0_2, .int .i64 a0_3, .int .i64 a0_4, .int .i64 a0_5, .int .u64 a0_6, .int .i64 a0_7, .int .i64 a0_8, .int .i64 a0_9]] rfl (by (try simp only [List.map_toArray, List.map_cons, List.map_nil]); first | done | rfl | (simp only [List.length_drop, List.length_take]; rfl)) ?_; (with_reducible refine (cleatref04_Is.calls k a0_0 a0_1 a0_2 a0_3 a0_4 a0_5 a0_6 a0_7 a0_8 a0_9 true _ A4.out).mono ?_); rintro e w12 ⟨rfl, hb⟩; refine ⟨_, rfl, ?_⟩; have n0_ := Aside0.mk (blk_below (g := gb219) (o := .cells #[.int .i64 a0_0, .int .i64 a0_1, .int .i64 a0_2, .int .i64 a0_3, .int .i64 a0_4, .int .i64 a0_5, .int .u64 a0_6, .int .i64 a0_7, .int .i64 a0_8, .int .i64 a0_9] 37 (0, 0)) (by (with_reducible repeat (first | refine blk_drewN ?_ _ | refine blk_drew ?_ | refine blk_alloc ?_ _)); exact BK219.out) hb); have n1_ := Aside0.mk (below_step (by repeat (first | (with_reducible first | exact HB.out | apply below_alloc | apply pw_below_drewN | apply below_drew1 | refine below_set ?_ GE219.out) | exact HB.out)) hb); clear BK219; clear HB; have BK219 := n0_; have HB := n1_; clear n0_ n1_; (try clear hb); (try clear hb2); (try clear hk); (try clear hi); obtain ⟨hcz13_0, hcz13_1, hcz13_2, hcz13_3, hcz13_4, hcz13_5, hcz13_6, hcz13_7, hcz13_8, hcz13_9⟩ := cells10_ BK219.out; have hfz13_0 := fun j => blk_frozen BK219.out j))
     go_meet
     case rel => exact ⟨_, (true), (by first | rfl | (simp; done) | (simp [*]; done)), H', ⟨by first | omega | exact Nat.le_refl _⟩, ⟨by (with_reducible repeat (first | refine blk_drewN ?_ _ | refine blk_drew ?_ | refine blk_alloc ?_ _)); exact BK219.out⟩, ⟨by repeat (first | (with_reducible first | exact HB.out | apply below_alloc | apply pw_below_drewN | apply below_drew1 | refine below_set ?_ GE219.out) | exact HB.out)⟩⟩
    ·
     rw [if_neg c10] at H
     have c10b0 : (a0_0 == 25) = false := beq_eq_false_iff_ne.mpr c10
     have c10b1 : (a0_0 != 25) = true := bne_iff_ne.mpr c10
     by_cases c14 : a0_0 = 32
     ·
      rw [if_pos c14] at H
      have c14b0 : (a0_0 == 32) = true := beq_iff_eq.mpr c14
      have c14b1 : (a0_0 != 32) = false := bne_eq_false_iff_eq.mpr c14
      clear c14
      have H' := Aside0.mk H
      clear H
      have hcz15_0 : w3.cell? ⟨gb219, 0, none⟩ = some (.int .i64 a0_0) := (blk_cell BK219.out 0).trans rfl
      have hcz15_1 : w3.cell? ⟨gb219, 1, none⟩ = some (.int .i64 a0_1) := (blk_cell BK219.out 1).trans rfl
      have hcz15_2 : w3.cell? ⟨gb219, 2, none⟩ = some (.int .i64 a0_2) := (blk_cell BK219.out 2).trans rfl
      have hcz15_3 : w3.cell? ⟨gb219, 3, none⟩ = some (.int .i64 a0_3) := (blk_cell BK219.out 3).trans rfl
      have hcz15_4 : w3.cell? ⟨gb219, 4, none⟩ = some (.int .i64 a0_4) := (blk_cell BK219.out 4).trans rfl
      have hcz15_5 : w3.cell? ⟨gb219, 5, none⟩ = some (.int .i64 a0_5) := (blk_cell BK219.out 5).trans rfl
      have hcz15_6 : w3.cell? ⟨gb219, 6, none⟩ = some (.int .u64 a0_6) := (blk_cell BK219.out 6).trans rfl
      have hcz15_7 : w3.cell? ⟨gb219, 7, none⟩ = some (.int .i64 a0_7) := (blk_cell BK219.out 7).trans rfl
      have hcz15_8 : w3.cell? ⟨gb219, 8, none⟩ = some (.int .i64 a0_8) := (blk_cell BK219.out 8).trans rfl
      have hcz15_9 : w3.cell? ⟨gb219, 9, none⟩ = some (.int .i64 a0_9) := (blk_cell BK219.out 9).trans rfl
      have hfz15_0 := blk_frozen BK219.out 0
      have hfz15_1 := blk_frozen BK219.out 1
      have hfz15_2 := blk_frozen BK219.out 2
      have hfz15_3 := blk_frozen BK219.out 3
      have hfz15_4 := blk_frozen BK219.out 4
      have hfz15_5 := blk_frozen BK219.out 5
      have hfz15_6 := blk_frozen BK219.out 6
      have hfz15_7 := blk_frozen BK219.out 7
      have hfz15_8 := blk_frozen BK219.out 8
      have hfz15_9 := blk_frozen BK219.out 9
      go_wp2_with (first | ((with_reducible refine gate_callee (f := 31) rfl ?_); refine goesL_ (some 6) rfl rfl Tryd.func31 (by kernel_rfl) rfl #[.agg #[.int .i64 a0_0, .int .i64 a0_1, .int .i64 a0_2, .int .i64 a0_3, .int .i64 a0_4, .int .i64 a0_5, .int .u64 a0_6, .int .i64 a0_7, .int .i64 a0_8, .int .i64 a0_9]] rfl (by (try simp only [List.map_toArray, List.map_cons, List.map_nil]); first | done | rfl | (simp only [List.length_drop, List.length_take]; rfl)) ?_; (with_reducible refine (cleatref04_Is.calls k a0_0 a0_1 a0_2 a0_3 a0_4 a0_5 a0_6 a0_7 a0_8 a0_9 true _ A4.out).mono ?_); rintro e w16 ⟨rfl, hb⟩; refine ⟨_, rfl, ?_⟩; have n0_ := Aside0.mk (blk_below (g := gb219) (o := .cells #[.int .i64 a0_0, .int .i64 a0_1, .int .i64 a0_2, .int .i64 a0_3, .int .i64 a0_4, .int .i64 a0_5, .int .u64 a0_6, .int .i64 a0_7, .int .i64 a0_8, .int .i64 a0_9] 37 (0, 0)) (by (with_reducible repeat (first | refine blk_drewN ?_ _ | refine blk_drew ?_ | refine blk_alloc ?_ _)); exact BK219.out) hb); have n1_ := Aside0.mk (below_step (by repeat (first | (with_reducible first | exact HB.out | apply below_alloc | apply pw_below_drewN | apply below_drew1 | refine below_set ?_ GE219.out) | exact HB.out)) hb); clear BK219; clear HB; have BK219 := n0_; have HB := n1_; clear n0_ n1_; (try clear hb); (try clear hb2); (try clear hk); (try clear hi); obtain ⟨hcz17_0, hcz17_1, hcz17_2, hcz17_3, hcz17_4, hcz17_5, hcz17_6, hcz17_7, hcz17_8, hcz17_9⟩ := cells10_ BK219.out; have hfz17_0 := fun j => blk_frozen BK219.out j))
      go_meet
      case rel => exact ⟨_, (true), (by first | rfl | (simp; done) | (simp [*]; done)), H', ⟨by first | omega | exact Nat.le_refl _⟩, ⟨by (with_reducible repeat (first | refine blk_drewN ?_ _ | refine blk_drew ?_ | refine blk_alloc ?_ _)); exact BK219.out⟩, ⟨by repeat (first | (with_reducible first | exact HB.out | apply below_alloc | apply pw_below_drewN | apply below_drew1 | refine below_set ?_ GE219.out) | exact HB.out)⟩⟩
     ·
      rw [if_neg c14] at H
      have c14b0 : (a0_0 == 32) = false := beq_eq_false_iff_ne.mpr c14
      have c14b1 : (a0_0 != 32) = true := bne_iff_ne.mpr c14
      have H' := Aside0.mk H
      clear H
      have hcz18_0 : w3.cell? ⟨gb219, 0, none⟩ = some (.int .i64 a0_0) := (blk_cell BK219.out 0).trans rfl
      have hcz18_1 : w3.cell? ⟨gb219, 1, none⟩ = some (.int .i64 a0_1) := (blk_cell BK219.out 1).trans rfl
      have hcz18_2 : w3.cell? ⟨gb219, 2, none⟩ = some (.int .i64 a0_2) := (blk_cell BK219.out 2).trans rfl
      have hcz18_3 : w3.cell? ⟨gb219, 3, none⟩ = some (.int .i64 a0_3) := (blk_cell BK219.out 3).trans rfl
      have hcz18_4 : w3.cell? ⟨gb219, 4, none⟩ = some (.int .i64 a0_4) := (blk_cell BK219.out 4).trans rfl
      have hcz18_5 : w3.cell? ⟨gb219, 5, none⟩ = some (.int .i64 a0_5) := (blk_cell BK219.out 5).trans rfl
      have hcz18_6 : w3.cell? ⟨gb219, 6, none⟩ = some (.int .u64 a0_6) := (blk_cell BK219.out 6).trans rfl
      have hcz18_7 : w3.cell? ⟨gb219, 7, none⟩ = some (.int .i64 a0_7) := (blk_cell BK219.out 7).trans rfl
      have hcz18_8 : w3.cell? ⟨gb219, 8, none⟩ = some (.int .i64 a0_8) := (blk_cell BK219.out 8).trans rfl
      have hcz18_9 : w3.cell? ⟨gb219, 9, none⟩ = some (.int .i64 a0_9) := (blk_cell BK219.out 9).trans rfl
      have hfz18_0 := blk_frozen BK219.out 0
      have hfz18_1 := blk_frozen BK219.out 1
      have hfz18_2 := blk_frozen BK219.out 2
      have hfz18_3 := blk_frozen BK219.out 3
      have hfz18_4 := blk_frozen BK219.out 4
      have hfz18_5 := blk_frozen BK219.out 5
      have hfz18_6 := blk_frozen BK219.out 6
      have hfz18_7 := blk_frozen BK219.out 7
      have hfz18_8 := blk_frozen BK219.out 8
      have hfz18_9 := blk_frozen BK219.out 9
      go_wp2_with (first | ((with_reducible refine gate_callee (f := 31) rfl ?_); refine goesL_ (some 6) rfl rfl Tryd.func31 (by kernel_rfl) rfl #[.agg #[.int .i64 a0_0, .int .i64 a0_1, .int .i64 a0_2, .int .i64 a0_3, .int .i64 a0_4, .int .i64 a0_5, .int .u64 a0_6, .int .i64 a0_7, .int .i64 a0_8, .int .i64 a0_9]] rfl (by (try simp only [List.map_toArray, List.map_cons, List.map_nil]); first | done | rfl | (simp only [List.length_drop, List.length_take]; rfl)) ?_; (with_reducible refine (cleatref04_Is.calls k a0_0 a0_1 a0_2 a0_3 a0_4 a0_5 a0_6 a0_7 a0_8 a0_9 true _ A4.out).mono ?_); rintro e w19 ⟨rfl, hb⟩; refine ⟨_, rfl, ?_⟩; have n0_ := Aside0.mk (blk_below (g := gb219) (o := .cells #[.int .i64 a0_0, .int .i64 a0_1, .int .i64 a0_2, .int .i64 a0_3, .int .i64 a0_4, .int .i64 a0_5, .int .u64 a0_6, .int .i64 a0_7, .int .i64 a0_8, .int .i64 a0_9] 37 (0, 0)) (by (with_reducible repeat (first | refine blk_drewN ?_ _ | refine blk_drew ?_ | refine blk_alloc ?_ _)); exact BK219.out) hb); have n1_ := Aside0.mk (below_step (by repeat (first | (with_reducible first | exact HB.out | apply below_alloc | apply pw_below_drewN | apply below_drew1 | refine below_set ?_ GE219.out) | exact HB.out)) hb); clear BK219; clear HB; have BK219 := n0_; have HB := n1_; clear n0_ n1_; (try clear hb); (try clear hb2); (try clear hk); (try clear hi); obtain ⟨hcz20_0, hcz20_1, hcz20_2, hcz20_3, hcz20_4, hcz20_5, hcz20_6, hcz20_7, hcz20_8, hcz20_9⟩ := cells10_ BK219.out; have hfz20_0 := fun j => blk_frozen BK219.out j))
      go_meet
      case rel => exact ⟨_, ((a0_0 == 33)), (by first | rfl | (simp; done) | (simp [*]; done)), H', ⟨by first | omega | exact Nat.le_refl _⟩, ⟨by (with_reducible repeat (first | refine blk_drewN ?_ _ | refine blk_drew ?_ | refine blk_alloc ?_ _)); exact BK219.out⟩, ⟨by repeat (first | (with_reducible first | exact HB.out | apply below_alloc | apply pw_below_drewN | apply below_drew1 | refine below_set ?_ GE219.out) | exact HB.out)⟩⟩
  ·
   replace c5 := Bool.eq_false_iff.mpr c5
   subst c5
   have H1 : (cleatref04_Writes.j0 k true a0_0 a0_1 a0_2 a0_3 a0_4 a0_5 a0_6 a0_7 a0_8 a0_9) = some (r1, r2) := by rw [if_neg (show ¬ (false = true) by decide)] at H; exact H
   clear H
   have H := H1
   clear H1
   have H' := Aside0.mk H
   clear H
   have hcz21_0 : w3.cell? ⟨gb219, 0, none⟩ = some (.int .i64 a0_0) := (blk_cell BK219.out 0).trans rfl
   have hcz21_1 : w3.cell? ⟨gb219, 1, none⟩ = some (.int .i64 a0_1) := (blk_cell BK219.out 1).trans rfl
   have hcz21_2 : w3.cell? ⟨gb219, 2, none⟩ = some (.int .i64 a0_2) := (blk_cell BK219.out 2).trans rfl
   have hcz21_3 : w3.cell? ⟨gb219, 3, none⟩ = some (.int .i64 a0_3) := (blk_cell BK219.out 3).trans rfl
   have hcz21_4 : w3.cell? ⟨gb219, 4, none⟩ = some (.int .i64 a0_4) := (blk_cell BK219.out 4).trans rfl
   have hcz21_5 : w3.cell? ⟨gb219, 5, none⟩ = some (.int .i64 a0_5) := (blk_cell BK219.out 5).trans rfl
   have hcz21_6 : w3.cell? ⟨gb219, 6, none⟩ = some (.int .u64 a0_6) := (blk_cell BK219.out 6).trans rfl
   have hcz21_7 : w3.cell? ⟨gb219, 7, none⟩ = some (.int .i64 a0_7) := (blk_cell BK219.out 7).trans rfl
   have hcz21_8 : w3.cell? ⟨gb219, 8, none⟩ = some (.int .i64 a0_8) := (blk_cell BK219.out 8).trans rfl
   have hcz21_9 : w3.cell? ⟨gb219, 9, none⟩ = some (.int .i64 a0_9) := (blk_cell BK219.out 9).trans rfl
   have hfz21_0 := blk_frozen BK219.out 0
   have hfz21_1 := blk_frozen BK219.out 1
   have hfz21_2 := blk_frozen BK219.out 2
   have hfz21_3 := blk_frozen BK219.out 3
   have hfz21_4 := blk_frozen BK219.out 4
   have hfz21_5 := blk_frozen BK219.out 5
   have hfz21_6 := blk_frozen BK219.out 6
   have hfz21_7 := blk_frozen BK219.out 7
   have hfz21_8 := blk_frozen BK219.out 8
   have hfz21_9 := blk_frozen BK219.out 9
   go_wp2_with (first | ((with_reducible refine gate_callee (f := 31) rfl ?_); refine goesL_ (some 6) rfl rfl Tryd.func31 (by kernel_rfl) rfl #[.agg #[.int .i64 a0_0, .int .i64 a0_1, .int .i64 a0_2, .int .i64 a0_3, .int .i64 a0_4, .int .i64 a0_5, .int .u64 a0_6, .int .i64 a0_7, .int .i64 a0_8, .int .i64 a0_9]] rfl (by (try simp only [List.map_toArray, List.map_cons, List.map_nil]); first | done | rfl | (simp only [List.length_drop, List.length_take]; rfl)) ?_; (with_reducible refine (cleatref04_Is.calls k a0_0 a0_1 a0_2 a0_3 a0_4 a0_5 a0_6 a0_7 a0_8 a0_9 false _ A4.out).mono ?_); rintro e w22 ⟨rfl, hb⟩; refine ⟨_, rfl, ?_⟩; have n0_ := Aside0.mk (blk_below (g := gb219) (o := .cells #[.int .i64 a0_0, .int .i64 a0_1, .int .i64 a0_2, .int .i64 a0_3, .int .i64 a0_4, .int .i64 a0_5, .int .u64 a0_6, .int .i64 a0_7, .int .i64 a0_8, .int .i64 a0_9] 37 (0, 0)) (by (with_reducible repeat (first | refine blk_drewN ?_ _ | refine blk_drew ?_ | refine blk_alloc ?_ _)); exact BK219.out) hb); have n1_ := Aside0.mk (below_step (by repeat (first | (with_reducible first | exact HB.out | apply below_alloc | apply pw_below_drewN | apply below_drew1 | refine below_set ?_ GE219.out) | exact HB.out)) hb); clear BK219; clear HB; have BK219 := n0_; have HB := n1_; clear n0_ n1_; (try clear hb); (try clear hb2); (try clear hk); (try clear hi)))
   go_meet
   case rel => exact ⟨_, (true), (by first | rfl | (simp; done) | (simp [*]; done)), H', ⟨by first | omega | exact Nat.le_refl _⟩, ⟨by (with_reducible repeat (first | refine blk_drewN ?_ _ | refine blk_drew ?_ | refine blk_alloc ?_ _)); exact BK219.out⟩, ⟨by repeat (first | (with_reducible first | exact HB.out | apply below_alloc | apply pw_below_drewN | apply below_drew1 | refine below_set ?_ GE219.out) | exact HB.out)⟩⟩
 case rest =>
  clear HC2
  try clear c1
  try clear c2
  try clear p2
  try clear c3
  try clear c5
  try clear c6
  try clear c6b0
  try clear c6b1
  try clear c10
  try clear c10b0
  try clear c10b1
  try clear c14
  try clear c14b0
  try clear c14b1
  try clear hcz11_0 hcz11_1 hcz11_2 hcz11_3 hcz11_4 hcz11_5 hcz11_6 hcz11_7 hcz11_8 hcz11_9
  try clear hcz13_0 hcz13_1 hcz13_2 hcz13_3 hcz13_4 hcz13_5 hcz13_6 hcz13_7 hcz13_8 hcz13_9
  try clear hcz15_0 hcz15_1 hcz15_2 hcz15_3 hcz15_4 hcz15_5 hcz15_6 hcz15_7 hcz15_8 hcz15_9
  try clear hcz17_0 hcz17_1 hcz17_2 hcz17_3 hcz17_4 hcz17_5 hcz17_6 hcz17_7 hcz17_8 hcz17_9
  try clear hcz18_0 hcz18_1 hcz18_2 hcz18_3 hcz18_4 hcz18_5 hcz18_6 hcz18_7 hcz18_8 hcz18_9
  try clear hcz20_0 hcz20_1 hcz20_2 hcz20_3 hcz20_4 hcz20_5 hcz20_6 hcz20_7 hcz20_8 hcz20_9
  try clear hcz21_0 hcz21_1 hcz21_2 hcz21_3 hcz21_4 hcz21_5 hcz21_6 hcz21_7 hcz21_8 hcz21_9
  try clear hcz7_0 hcz7_1 hcz7_2 hcz7_3 hcz7_4 hcz7_5 hcz7_6 hcz7_7 hcz7_8 hcz7_9
  try clear hcz9_0 hcz9_1 hcz9_2 hcz9_3 hcz9_4 hcz9_5 hcz9_6 hcz9_7 hcz9_8 hcz9_9
  try clear hfz11_0
  try clear hfz13_0
  try clear hfz15_0
  try clear hfz17_0
  try clear hfz18_0
  try clear hfz20_0
  try clear hfz21_0
  try clear hfz7_0
  try clear hfz9_0
  obtain ⟨kq, x27_1, rfl, HA, HJ1, BK219, HB⟩ := hcut
  cases kq with
  | zero => exact absurd HA.out (by simp [cleatref04_Writes.j0])
  | succ kj1 =>
   have H := HA.out
   clear HA
   simp only [cleatref04_Writes.j0] at H
   by_cases c23 : x27_1 = true
   ·
    subst c23
    have H1 : (some (0, false)) = some (r1, r2) := by rw [if_pos rfl] at H; exact H
    clear H
    have H := H1
    clear H1
    simp only [Option.some.injEq, Prod.mk.injEq] at H
    obtain ⟨rfl, rfl⟩ := H
    go_wp2
    go_ret2
    exact ⟨by first | rfl | (simp [errW_none, errW_some] <;> rfl) | (simp [*, errW_none, errW_some] <;> rfl), by repeat (first | (with_reducible first | exact HB.out | apply below_alloc | apply pw_below_drewN | apply below_drew1 | refine below_set ?_ GE219.out) | exact HB.out)⟩
   ·
    replace c23 := Bool.eq_false_iff.mpr c23
    subst c23
    have H1 : (if a0_0 = 30 then (cleatref04_Writes.j1 kj1 true a0_0 a0_1 a0_2 a0_3 a0_4 a0_5 a0_6 a0_7 a0_8 a0_9) else (cleatref04_Writes.j1 kj1 (a0_0 == 35) a0_0 a0_1 a0_2 a0_3 a0_4 a0_5 a0_6 a0_7 a0_8 a0_9)) = some (r1, r2) := by rw [if_neg (show ¬ (false = true) by decide)] at H; exact H
    clear H
    have H := H1
    clear H1
    have HC24 := Aside0.mk H
    clear H
    go_upto_region 3 with (fail)
    go_cut [35] (fun v35 wc => ∃ (kq : Nat) (x35_23 : Bool), v35 = .bool x35_23 ∧ Aside0 (cleatref04_Writes.j1 kq x35_23 a0_0 a0_1 a0_2 a0_3 a0_4 a0_5 a0_6 a0_7 a0_8 a0_9 = some (r1, r2)) ∧ Aside0 (kq ≤ kj1) ∧ Aside0 (wc.heap[gb219]? = some (.cells #[.int .i64 a0_0, .int .i64 a0_1, .int .i64 a0_2, .int .i64 a0_3, .int .i64 a0_4, .int .i64 a0_5, .int .u64 a0_6, .int .i64 a0_7, .int .i64 a0_8, .int .i64 a0_9] 37 (0, 0))) ∧ Aside0 (Below w.heap.size w wc))
    case first =>
     have H := HC24.out
     clear HC24
     by_cases c25 : a0_0 = 30
     ·
      rw [if_pos c25] at H
      have c25b0 : (a0_0 == 30) = true := beq_iff_eq.mpr c25
      have c25b1 : (a0_0 != 30) = false := bne_eq_false_iff_eq.mpr c25
      clear c25
      (first | rw [c25b0] | (simp only [i64_w, i32_w]; rw [c25b0]) | skip)
      have H' := Aside0.mk H
      clear H
      have hcz26_0 : wc.cell? ⟨gb219, 0, none⟩ = some (.int .i64 a0_0) := (blk_cell BK219.out 0).trans rfl
      have hcz26_1 : wc.cell? ⟨gb219, 1, none⟩ = some (.int .i64 a0_1) := (blk_cell BK219.out 1).trans rfl
      have hcz26_2 : wc.cell? ⟨gb219, 2, none⟩ = some (.int .i64 a0_2) := (blk_cell BK219.out 2).trans rfl
      have hcz26_3 : wc.cell? ⟨gb219, 3, none⟩ = some (.int .i64 a0_3) := (blk_cell BK219.out 3).trans rfl
      have hcz26_4 : wc.cell? ⟨gb219, 4, none⟩ = some (.int .i64 a0_4) := (blk_cell BK219.out 4).trans rfl
      have hcz26_5 : wc.cell? ⟨gb219, 5, none⟩ = some (.int .i64 a0_5) := (blk_cell BK219.out 5).trans rfl
      have hcz26_6 : wc.cell? ⟨gb219, 6, none⟩ = some (.int .u64 a0_6) := (blk_cell BK219.out 6).trans rfl
      have hcz26_7 : wc.cell? ⟨gb219, 7, none⟩ = some (.int .i64 a0_7) := (blk_cell BK219.out 7).trans rfl
      have hcz26_8 : wc.cell? ⟨gb219, 8, none⟩ = some (.int .i64 a0_8) := (blk_cell BK219.out 8).trans rfl
      have hcz26_9 : wc.cell? ⟨gb219, 9, none⟩ = some (.int .i64 a0_9) := (blk_cell BK219.out 9).trans rfl
      have hfz26_0 := blk_frozen BK219.out 0
      have hfz26_1 := blk_frozen BK219.out 1
      have hfz26_2 := blk_frozen BK219.out 2
      have hfz26_3 := blk_frozen BK219.out 3
      have hfz26_4 := blk_frozen BK219.out 4
      have hfz26_5 := blk_frozen BK219.out 5
      have hfz26_6 := blk_frozen BK219.out 6
      have hfz26_7 := blk_frozen BK219.out 7
      have hfz26_8 := blk_frozen BK219.out 8
      have hfz26_9 := blk_frozen BK219.out 9
      go_wp2
      go_meet
      case rel => exact ⟨_, (true), (by first | rfl | (simp; done) | (simp [*]; done)), H', ⟨by have := HJ1.out; first | omega | exact Nat.le_refl _⟩, ⟨by (with_reducible repeat (first | refine blk_drewN ?_ _ | refine blk_drew ?_ | refine blk_alloc ?_ _)); exact BK219.out⟩, ⟨by repeat (first | (with_reducible first | exact HB.out | apply below_alloc | apply pw_below_drewN | apply below_drew1 | refine below_set ?_ GE219.out) | exact HB.out)⟩⟩
     ·
      rw [if_neg c25] at H
      have c25b0 : (a0_0 == 30) = false := beq_eq_false_iff_ne.mpr c25
      have c25b1 : (a0_0 != 30) = true := bne_iff_ne.mpr c25
      (first | rw [c25b0] | (simp only [i64_w, i32_w]; rw [c25b0]) | skip)
      have H' := Aside0.mk H
      clear H
      have hcz27_0 : wc.cell? ⟨gb219, 0, none⟩ = some (.int .i64 a0_0) := (blk_cell BK219.out 0).trans rfl
      have hcz27_1 : wc.cell? ⟨gb219, 1, none⟩ = some (.int .i64 a0_1) := (blk_cell BK219.out 1).trans rfl
      have hcz27_2 : wc.cell? ⟨gb219, 2, none⟩ = some (.int .i64 a0_2) := (blk_cell BK219.out 2).trans rfl
      have hcz27_3 : wc.cell? ⟨gb219, 3, none⟩ = some (.int .i64 a0_3) := (blk_cell BK219.out 3).trans rfl
      have hcz27_4 : wc.cell? ⟨gb219, 4, none⟩ = some (.int .i64 a0_4) := (blk_cell BK219.out 4).trans rfl
      have hcz27_5 : wc.cell? ⟨gb219, 5, none⟩ = some (.int .i64 a0_5) := (blk_cell BK219.out 5).trans rfl
      have hcz27_6 : wc.cell? ⟨gb219, 6, none⟩ = some (.int .u64 a0_6) := (blk_cell BK219.out 6).trans rfl
      have hcz27_7 : wc.cell? ⟨gb219, 7, none⟩ = some (.int .i64 a0_7) := (blk_cell BK219.out 7).trans rfl
      have hcz27_8 : wc.cell? ⟨gb219, 8, none⟩ = some (.int .i64 a0_8) := (blk_cell BK219.out 8).trans rfl
      have hcz27_9 : wc.cell? ⟨gb219, 9, none⟩ = some (.int .i64 a0_9) := (blk_cell BK219.out 9).trans rfl
      have hfz27_0 := blk_frozen BK219.out 0
      have hfz27_1 := blk_frozen BK219.out 1
      have hfz27_2 := blk_frozen BK219.out 2
      have hfz27_3 := blk_frozen BK219.out 3
      have hfz27_4 := blk_frozen BK219.out 4
      have hfz27_5 := blk_frozen BK219.out 5
      have hfz27_6 := blk_frozen BK219.out 6
      have hfz27_7 := blk_frozen BK219.out 7
      have hfz27_8 := blk_frozen BK219.out 8
      have hfz27_9 := blk_frozen BK219.out 9
      go_wp2
      go_meet
      case rel => exact ⟨_, ((a0_0 == 35)), (by first | rfl | (simp; done) | (simp [*]; done)), H', ⟨by have := HJ1.out; first | omega | exact Nat.le_refl _⟩, ⟨by (with_reducible repeat (first | refine blk_drewN ?_ _ | refine blk_drew ?_ | refine blk_alloc ?_ _)); exact BK219.out⟩, ⟨by repeat (first | (with_reducible first | exact HB.out | apply below_alloc | apply pw_below_drewN | apply below_drew1 | refine below_set ?_ GE219.out) | exact HB.out)⟩⟩
    case rest =>
     clear HC24
     try clear c1
     try clear c2
     try clear p2
     try clear c3
     try clear c5
     try clear c6
     try clear c6b0
     try clear c6b1
     try clear c10
     try clear c10b0
     try clear c10b1
     try clear c14
     try clear c14b0
     try clear c14b1
     try clear c23
     try clear c25
     try clear c25b0
     try clear c25b1
     try clear hcz11_0 hcz11_1 hcz11_2 hcz11_3 hcz11_4 hcz11_5 hcz11_6 hcz11_7 hcz11_8 hcz11_9
     try clear hcz13_0 hcz13_1 hcz13_2 hcz13_3 hcz13_4 hcz13_5 hcz13_6 hcz13_7 hcz13_8 hcz13_9
     try clear hcz15_0 hcz15_1 hcz15_2 hcz15_3 hcz15_4 hcz15_5 hcz15_6 hcz15_7 hcz15_8 hcz15_9
     try clear hcz17_0 hcz17_1 hcz17_2 hcz17_3 hcz17_4 hcz17_5 hcz17_6 hcz17_7 hcz17_8 hcz17_9
     try clear hcz18_0 hcz18_1 hcz18_2 hcz18_3 hcz18_4 hcz18_5 hcz18_6 hcz18_7 hcz18_8 hcz18_9
     try clear hcz20_0 hcz20_1 hcz20_2 hcz20_3 hcz20_4 hcz20_5 hcz20_6 hcz20_7 hcz20_8 hcz20_9
     try clear hcz21_0 hcz21_1 hcz21_2 hcz21_3 hcz21_4 hcz21_5 hcz21_6 hcz21_7 hcz21_8 hcz21_9
     try clear hcz26_0 hcz26_1 hcz26_2 hcz26_3 hcz26_4 hcz26_5 hcz26_6 hcz26_7 hcz26_8 hcz26_9
     try clear hcz27_0 hcz27_1 hcz27_2 hcz27_3 hcz27_4 hcz27_5 hcz27_6 hcz27_7 hcz27_8 hcz27_9
     try clear hcz7_0 hcz7_1 hcz7_2 hcz7_3 hcz7_4 hcz7_5 hcz7_6 hcz7_7 hcz7_8 hcz7_9
     try clear hcz9_0 hcz9_1 hcz9_2 hcz9_3 hcz9_4 hcz9_5 hcz9_6 hcz9_7 hcz9_8 hcz9_9
     try clear hfz11_0
     try clear hfz13_0
     try clear hfz15_0
     try clear hfz17_0
     try clear hfz18_0
     try clear hfz20_0
     try clear hfz21_0
     try clear hfz26_0
     try clear hfz27_0
     try clear hfz7_0
     try clear hfz9_0
     try clear p2
     obtain ⟨kq, x35_23, rfl, HA, HJ23, BK219, HB⟩ := hcut
     cases kq with
     | zero => exact absurd HA.out (by simp [cleatref04_Writes.j1])
     | succ kj23 =>
      have H := HA.out
      clear HA
      simp only [cleatref04_Writes.j1] at H
      by_cases c28 : x35_23 = true
      ·
       subst c28
       have H1 : (some (30, true)) = some (r1, r2) := by rw [if_pos rfl] at H; exact H
       clear H
       have H := H1
       clear H1
       simp only [Option.some.injEq, Prod.mk.injEq] at H
       obtain ⟨rfl, rfl⟩ := H
       go_wp2
       go_ret2
       exact ⟨by first | rfl | (simp [errW_none, errW_some] <;> rfl) | (simp [*, errW_none, errW_some] <;> rfl), by repeat (first | (with_reducible first | exact HB.out | apply below_alloc | apply pw_below_drewN | apply below_drew1 | refine below_set ?_ GE219.out) | exact HB.out)⟩
      ·
       replace c28 := Bool.eq_false_iff.mpr c28
       subst c28
       have H1 : (if a0_0 = 4 then (cleatref04_Writes.j2 kj23 true a0_0 a0_1 a0_2 a0_3 a0_4 a0_5 a0_6 a0_7 a0_8 a0_9) else (if a0_0 = 5 then (cleatref04_Writes.j2 kj23 true a0_0 a0_1 a0_2 a0_3 a0_4 a0_5 a0_6 a0_7 a0_8 a0_9) else (if a0_0 = 8 then (cleatref04_Writes.j2 kj23 true a0_0 a0_1 a0_2 a0_3 a0_4 a0_5 a0_6 a0_7 a0_8 a0_9) else (if a0_0 = 9 then (cleatref04_Writes.j2 kj23 true a0_0 a0_1 a0_2 a0_3 a0_4 a0_5 a0_6 a0_7 a0_8 a0_9) else (cleatref04_Writes.j2 kj23 (a0_0 == 10) a0_0 a0_1 a0_2 a0_3 a0_4 a0_5 a0_6 a0_7 a0_8 a0_9))))) = some (r1, r2) := by rw [if_neg (show ¬ (false = true) by decide)] at H; exact H
       clear H
       have H := H1
       clear H1
       have HC29 := Aside0.mk H
       clear H
       go_upto_region 5 with (fail)
       go_cut [4] (fun v4 wc => ∃ (kq : Nat) (x4_28 : Bool), v4 = .bool x4_28 ∧ Aside0 (cleatref04_Writes.j2 kq x4_28 a0_0 a0_1 a0_2 a0_3 a0_4 a0_5 a0_6 a0_7 a0_8 a0_9 = some (r1, r2)) ∧ Aside0 (kq ≤ kj23) ∧ Aside0 (wc.heap[gb219]? = some (.cells #[.int .i64 a0_0, .int .i64 a0_1, .int .i64 a0_2, .int .i64 a0_3, .int .i64 a0_4, .int .i64 a0_5, .int .u64 a0_6, .int .i64 a0_7, .int .i64 a0_8, .int .i64 a0_9] 37 (0, 0))) ∧ Aside0 (Below w.heap.size w wc))
       case first =>
        have H := HC29.out
        clear HC29
        by_cases c30 : a0_0 = 4
        ·
         rw [if_pos c30] at H
         have c30b0 : (a0_0 == 4) = true := beq_iff_eq.mpr c30
         have c30b1 : (a0_0 != 4) = false := bne_eq_false_iff_eq.mpr c30
         clear c30
         (first | rw [c30b0] | (simp only [i64_w, i32_w]; rw [c30b0]) | skip)
         have H' := Aside0.mk H
         clear H
         have hcz31_0 : wc.cell? ⟨gb219, 0, none⟩ = some (.int .i64 a0_0) := (blk_cell BK219.out 0).trans rfl
         have hcz31_1 : wc.cell? ⟨gb219, 1, none⟩ = some (.int .i64 a0_1) := (blk_cell BK219.out 1).trans rfl
         have hcz31_2 : wc.cell? ⟨gb219, 2, none⟩ = some (.int .i64 a0_2) := (blk_cell BK219.out 2).trans rfl
         have hcz31_3 : wc.cell? ⟨gb219, 3, none⟩ = some (.int .i64 a0_3) := (blk_cell BK219.out 3).trans rfl
         have hcz31_4 : wc.cell? ⟨gb219, 4, none⟩ = some (.int .i64 a0_4) := (blk_cell BK219.out 4).trans rfl
         have hcz31_5 : wc.cell? ⟨gb219, 5, none⟩ = some (.int .i64 a0_5) := (blk_cell BK219.out 5).trans rfl
         have hcz31_6 : wc.cell? ⟨gb219, 6, none⟩ = some (.int .u64 a0_6) := (blk_cell BK219.out 6).trans rfl
         have hcz31_7 : wc.cell? ⟨gb219, 7, none⟩ = some (.int .i64 a0_7) := (blk_cell BK219.out 7).trans rfl
         have hcz31_8 : wc.cell? ⟨gb219, 8, none⟩ = some (.int .i64 a0_8) := (blk_cell BK219.out 8).trans rfl
         have hcz31_9 : wc.cell? ⟨gb219, 9, none⟩ = some (.int .i64 a0_9) := (blk_cell BK219.out 9).trans rfl
         have hfz31_0 := blk_frozen BK219.out 0
         have hfz31_1 := blk_frozen BK219.out 1
         have hfz31_2 := blk_frozen BK219.out 2
         have hfz31_3 := blk_frozen BK219.out 3
         have hfz31_4 := blk_frozen BK219.out 4
         have hfz31_5 := blk_frozen BK219.out 5
         have hfz31_6 := blk_frozen BK219.out 6
         have hfz31_7 := blk_frozen BK219.out 7
         have hfz31_8 := blk_frozen BK219.out 8
         have hfz31_9 := blk_frozen BK219.out 9
         go_wp2
         go_meet
         case rel => exact ⟨_, (true), (by first | rfl | (simp; done) | (simp [*]; done)), H', ⟨by have := HJ1.out; have := HJ23.out; first | omega | exact Nat.le_refl _⟩, ⟨by (with_reducible repeat (first | refine blk_drewN ?_ _ | refine blk_drew ?_ | refine blk_alloc ?_ _)); exact BK219.out⟩, ⟨by repeat (first | (with_reducible first | exact HB.out | apply below_alloc | apply pw_below_drewN | apply below_drew1 | refine below_set ?_ GE219.out) | exact HB.out)⟩⟩
        ·
         rw [if_neg c30] at H
         have c30b0 : (a0_0 == 4) = false := beq_eq_false_iff_ne.mpr c30
         have c30b1 : (a0_0 != 4) = true := bne_iff_ne.mpr c30
         (first | rw [c30b0] | (simp only [i64_w, i32_w]; rw [c30b0]) | skip)
         by_cases c32 : a0_0 = 5
         ·
          rw [if_pos c32] at H
          have c32b0 : (a0_0 == 5) = true := beq_iff_eq.mpr c32
          have c32b1 : (a0_0 != 5) = false := bne_eq_false_iff_eq.mpr c32
          clear c32
          have H' := Aside0.mk H
          clear H
          have hcz33_0 : wc.cell? ⟨gb219, 0, none⟩ = some (.int .i64 a0_0) := (blk_cell BK219.out 0).trans rfl
          have hcz33_1 : wc.cell? ⟨gb219, 1, none⟩ = some (.int .i64 a0_1) := (blk_cell BK219.out 1).trans rfl
          have hcz33_2 : wc.cell? ⟨gb219, 2, none⟩ = some (.int .i64 a0_2) := (blk_cell BK219.out 2).trans rfl
          have hcz33_3 : wc.cell? ⟨gb219, 3, none⟩ = some (.int .i64 a0_3) := (blk_cell BK219.out 3).trans rfl
          have hcz33_4 : wc.cell? ⟨gb219, 4, none⟩ = some (.int .i64 a0_4) := (blk_cell BK219.out 4).trans rfl
          have hcz33_5 : wc.cell? ⟨gb219, 5, none⟩ = some (.int .i64 a0_5) := (blk_cell BK219.out 5).trans rfl
          have hcz33_6 : wc.cell? ⟨gb219, 6, none⟩ = some (.int .u64 a0_6) := (blk_cell BK219.out 6).trans rfl
          have hcz33_7 : wc.cell? ⟨gb219, 7, none⟩ = some (.int .i64 a0_7) := (blk_cell BK219.out 7).trans rfl
          have hcz33_8 : wc.cell? ⟨gb219, 8, none⟩ = some (.int .i64 a0_8) := (blk_cell BK219.out 8).trans rfl
          have hcz33_9 : wc.cell? ⟨gb219, 9, none⟩ = some (.int .i64 a0_9) := (blk_cell BK219.out 9).trans rfl
          have hfz33_0 := blk_frozen BK219.out 0
          have hfz33_1 := blk_frozen BK219.out 1
          have hfz33_2 := blk_frozen BK219.out 2
          have hfz33_3 := blk_frozen BK219.out 3
          have hfz33_4 := blk_frozen BK219.out 4
          have hfz33_5 := blk_frozen BK219.out 5
          have hfz33_6 := blk_frozen BK219.out 6
          have hfz33_7 := blk_frozen BK219.out 7
          have hfz33_8 := blk_frozen BK219.out 8
          have hfz33_9 := blk_frozen BK219.out 9
          go_wp2
          go_meet
          case rel => exact ⟨_, (true), (by first | rfl | (simp; done) | (simp [*]; done)), H', ⟨by have := HJ1.out; have := HJ23.out; first | omega | exact Nat.le_refl _⟩, ⟨by (with_reducible repeat (first | refine blk_drewN ?_ _ | refine blk_drew ?_ | refine blk_alloc ?_ _)); exact BK219.out⟩, ⟨by repeat (first | (with_reducible first | exact HB.out | apply below_alloc | apply pw_below_drewN | apply below_drew1 | refine below_set ?_ GE219.out) | exact HB.out)⟩⟩
         ·
          rw [if_neg c32] at H
          have c32b0 : (a0_0 == 5) = false := beq_eq_false_iff_ne.mpr c32
          have c32b1 : (a0_0 != 5) = true := bne_iff_ne.mpr c32
          by_cases c34 : a0_0 = 8
          ·
           rw [if_pos c34] at H
           have c34b0 : (a0_0 == 8) = true := beq_iff_eq.mpr c34
           have c34b1 : (a0_0 != 8) = false := bne_eq_false_iff_eq.mpr c34
           clear c34
           have H' := Aside0.mk H
           clear H
           have hcz35_0 : wc.cell? ⟨gb219, 0, none⟩ = some (.int .i64 a0_0) := (blk_cell BK219.out 0).trans rfl
           have hcz35_1 : wc.cell? ⟨gb219, 1, none⟩ = some (.int .i64 a0_1) := (blk_cell BK219.out 1).trans rfl
           have hcz35_2 : wc.cell? ⟨gb219, 2, none⟩ = some (.int .i64 a0_2) := (blk_cell BK219.out 2).trans rfl
           have hcz35_3 : wc.cell? ⟨gb219, 3, none⟩ = some (.int .i64 a0_3) := (blk_cell BK219.out 3).trans rfl
           have hcz35_4 : wc.cell? ⟨gb219, 4, none⟩ = some (.int .i64 a0_4) := (blk_cell BK219.out 4).trans rfl
           have hcz35_5 : wc.cell? ⟨gb219, 5, none⟩ = some (.int .i64 a0_5) := (blk_cell BK219.out 5).trans rfl
           have hcz35_6 : wc.cell? ⟨gb219, 6, none⟩ = some (.int .u64 a0_6) := (blk_cell BK219.out 6).trans rfl
           have hcz35_7 : wc.cell? ⟨gb219, 7, none⟩ = some (.int .i64 a0_7) := (blk_cell BK219.out 7).trans rfl
           have hcz35_8 : wc.cell? ⟨gb219, 8, none⟩ = some (.int .i64 a0_8) := (blk_cell BK219.out 8).trans rfl
           have hcz35_9 : wc.cell? ⟨gb219, 9, none⟩ = some (.int .i64 a0_9) := (blk_cell BK219.out 9).trans rfl
           have hfz35_0 := blk_frozen BK219.out 0
           have hfz35_1 := blk_frozen BK219.out 1
           have hfz35_2 := blk_frozen BK219.out 2
           have hfz35_3 := blk_frozen BK219.out 3
           have hfz35_4 := blk_frozen BK219.out 4
           have hfz35_5 := blk_frozen BK219.out 5
           have hfz35_6 := blk_frozen BK219.out 6
           have hfz35_7 := blk_frozen BK219.out 7
           have hfz35_8 := blk_frozen BK219.out 8
           have hfz35_9 := blk_frozen BK219.out 9
           go_wp2
           go_meet
           case rel => exact ⟨_, (true), (by first | rfl | (simp; done) | (simp [*]; done)), H', ⟨by have := HJ1.out; have := HJ23.out; first | omega | exact Nat.le_refl _⟩, ⟨by (with_reducible repeat (first | refine blk_drewN ?_ _ | refine blk_drew ?_ | refine blk_alloc ?_ _)); exact BK219.out⟩, ⟨by repeat (first | (with_reducible first | exact HB.out | apply below_alloc | apply pw_below_drewN | apply below_drew1 | refine below_set ?_ GE219.out) | exact HB.out)⟩⟩
          ·
           rw [if_neg c34] at H
           have c34b0 : (a0_0 == 8) = false := beq_eq_false_iff_ne.mpr c34
           have c34b1 : (a0_0 != 8) = true := bne_iff_ne.mpr c34
           by_cases c36 : a0_0 = 9
           ·
            rw [if_pos c36] at H
            have c36b0 : (a0_0 == 9) = true := beq_iff_eq.mpr c36
            have c36b1 : (a0_0 != 9) = false := bne_eq_false_iff_eq.mpr c36
            clear c36
            have H' := Aside0.mk H
            clear H
            have hcz37_0 : wc.cell? ⟨gb219, 0, none⟩ = some (.int .i64 a0_0) := (blk_cell BK219.out 0).trans rfl
            have hcz37_1 : wc.cell? ⟨gb219, 1, none⟩ = some (.int .i64 a0_1) := (blk_cell BK219.out 1).trans rfl
            have hcz37_2 : wc.cell? ⟨gb219, 2, none⟩ = some (.int .i64 a0_2) := (blk_cell BK219.out 2).trans rfl
            have hcz37_3 : wc.cell? ⟨gb219, 3, none⟩ = some (.int .i64 a0_3) := (blk_cell BK219.out 3).trans rfl
            have hcz37_4 : wc.cell? ⟨gb219, 4, none⟩ = some (.int .i64 a0_4) := (blk_cell BK219.out 4).trans rfl
            have hcz37_5 : wc.cell? ⟨gb219, 5, none⟩ = some (.int .i64 a0_5) := (blk_cell BK219.out 5).trans rfl
            have hcz37_6 : wc.cell? ⟨gb219, 6, none⟩ = some (.int .u64 a0_6) := (blk_cell BK219.out 6).trans rfl
            have hcz37_7 : wc.cell? ⟨gb219, 7, none⟩ = some (.int .i64 a0_7) := (blk_cell BK219.out 7).trans rfl
            have hcz37_8 : wc.cell? ⟨gb219, 8, none⟩ = some (.int .i64 a0_8) := (blk_cell BK219.out 8).trans rfl
            have hcz37_9 : wc.cell? ⟨gb219, 9, none⟩ = some (.int .i64 a0_9) := (blk_cell BK219.out 9).trans rfl
            have hfz37_0 := blk_frozen BK219.out 0
            have hfz37_1 := blk_frozen BK219.out 1
            have hfz37_2 := blk_frozen BK219.out 2
            have hfz37_3 := blk_frozen BK219.out 3
            have hfz37_4 := blk_frozen BK219.out 4
            have hfz37_5 := blk_frozen BK219.out 5
            have hfz37_6 := blk_frozen BK219.out 6
            have hfz37_7 := blk_frozen BK219.out 7
            have hfz37_8 := blk_frozen BK219.out 8
            have hfz37_9 := blk_frozen BK219.out 9
            go_wp2
            go_meet
            case rel => exact ⟨_, (true), (by first | rfl | (simp; done) | (simp [*]; done)), H', ⟨by have := HJ1.out; have := HJ23.out; first | omega | exact Nat.le_refl _⟩, ⟨by (with_reducible repeat (first | refine blk_drewN ?_ _ | refine blk_drew ?_ | refine blk_alloc ?_ _)); exact BK219.out⟩, ⟨by repeat (first | (with_reducible first | exact HB.out | apply below_alloc | apply pw_below_drewN | apply below_drew1 | refine below_set ?_ GE219.out) | exact HB.out)⟩⟩
           ·
            rw [if_neg c36] at H
            have c36b0 : (a0_0 == 9) = false := beq_eq_false_iff_ne.mpr c36
            have c36b1 : (a0_0 != 9) = true := bne_iff_ne.mpr c36
            have H' := Aside0.mk H
            clear H
            have hcz38_0 : wc.cell? ⟨gb219, 0, none⟩ = some (.int .i64 a0_0) := (blk_cell BK219.out 0).trans rfl
            have hcz38_1 : wc.cell? ⟨gb219, 1, none⟩ = some (.int .i64 a0_1) := (blk_cell BK219.out 1).trans rfl
            have hcz38_2 : wc.cell? ⟨gb219, 2, none⟩ = some (.int .i64 a0_2) := (blk_cell BK219.out 2).trans rfl
            have hcz38_3 : wc.cell? ⟨gb219, 3, none⟩ = some (.int .i64 a0_3) := (blk_cell BK219.out 3).trans rfl
            have hcz38_4 : wc.cell? ⟨gb219, 4, none⟩ = some (.int .i64 a0_4) := (blk_cell BK219.out 4).trans rfl
            have hcz38_5 : wc.cell? ⟨gb219, 5, none⟩ = some (.int .i64 a0_5) := (blk_cell BK219.out 5).trans rfl
            have hcz38_6 : wc.cell? ⟨gb219, 6, none⟩ = some (.int .u64 a0_6) := (blk_cell BK219.out 6).trans rfl
            have hcz38_7 : wc.cell? ⟨gb219, 7, none⟩ = some (.int .i64 a0_7) := (blk_cell BK219.out 7).trans rfl
            have hcz38_8 : wc.cell? ⟨gb219, 8, none⟩ = some (.int .i64 a0_8) := (blk_cell BK219.out 8).trans rfl
            have hcz38_9 : wc.cell? ⟨gb219, 9, none⟩ = some (.int .i64 a0_9) := (blk_cell BK219.out 9).trans rfl
            have hfz38_0 := blk_frozen BK219.out 0
            have hfz38_1 := blk_frozen BK219.out 1
            have hfz38_2 := blk_frozen BK219.out 2
            have hfz38_3 := blk_frozen BK219.out 3
            have hfz38_4 := blk_frozen BK219.out 4
            have hfz38_5 := blk_frozen BK219.out 5
            have hfz38_6 := blk_frozen BK219.out 6
            have hfz38_7 := blk_frozen BK219.out 7
            have hfz38_8 := blk_frozen BK219.out 8
            have hfz38_9 := blk_frozen BK219.out 9
            go_wp2
            go_meet
            case rel => exact ⟨_, ((a0_0 == 10)), (by first | rfl | (simp; done) | (simp [*]; done)), H', ⟨by have := HJ1.out; have := HJ23.out; first | omega | exact Nat.le_refl _⟩, ⟨by (with_reducible repeat (first | refine blk_drewN ?_ _ | refine blk_drew ?_ | refine blk_alloc ?_ _)); exact BK219.out⟩, ⟨by repeat (first | (with_reducible first | exact HB.out | apply below_alloc | apply pw_below_drewN | apply below_drew1 | refine below_set ?_ GE219.out) | exact HB.out)⟩⟩
       case rest =>
        clear HC29
        try clear c1
        try clear c2
        try clear p2
        try clear c3
        try clear c5
        try clear c6
        try clear c6b0
        try clear c6b1
        try clear c10
        try clear c10b0
        try clear c10b1
        try clear c14
        try clear c14b0
        try clear c14b1
        try clear c23
        try clear c25
        try clear c25b0
        try clear c25b1
        try clear c28
        try clear c30
        try clear c30b0
        try clear c30b1
        try clear c32
        try clear c32b0
        try clear c32b1
        try clear c34
        try clear c34b0
        try clear c34b1
        try clear c36
        try clear c36b0
        try clear c36b1
        try clear hcz11_0 hcz11_1 hcz11_2 hcz11_3 hcz11_4 hcz11_5 hcz11_6 hcz11_7 hcz11_8 hcz11_9
        try clear hcz13_0 hcz13_1 hcz13_2 hcz13_3 hcz13_4 hcz13_5 hcz13_6 hcz13_7 hcz13_8 hcz13_9
        try clear hcz15_0 hcz15_1 hcz15_2 hcz15_3 hcz15_4 hcz15_5 hcz15_6 hcz15_7 hcz15_8 hcz15_9
        try clear hcz17_0 hcz17_1 hcz17_2 hcz17_3 hcz17_4 hcz17_5 hcz17_6 hcz17_7 hcz17_8 hcz17_9
        try clear hcz18_0 hcz18_1 hcz18_2 hcz18_3 hcz18_4 hcz18_5 hcz18_6 hcz18_7 hcz18_8 hcz18_9
        try clear hcz20_0 hcz20_1 hcz20_2 hcz20_3 hcz20_4 hcz20_5 hcz20_6 hcz20_7 hcz20_8 hcz20_9
        try clear hcz21_0 hcz21_1 hcz21_2 hcz21_3 hcz21_4 hcz21_5 hcz21_6 hcz21_7 hcz21_8 hcz21_9
        try clear hcz26_0 hcz26_1 hcz26_2 hcz26_3 hcz26_4 hcz26_5 hcz26_6 hcz26_7 hcz26_8 hcz26_9
        try clear hcz27_0 hcz27_1 hcz27_2 hcz27_3 hcz27_4 hcz27_5 hcz27_6 hcz27_7 hcz27_8 hcz27_9
        try clear hcz31_0 hcz31_1 hcz31_2 hcz31_3 hcz31_4 hcz31_5 hcz31_6 hcz31_7 hcz31_8 hcz31_9
        try clear hcz33_0 hcz33_1 hcz33_2 hcz33_3 hcz33_4 hcz33_5 hcz33_6 hcz33_7 hcz33_8 hcz33_9
        try clear hcz35_0 hcz35_1 hcz35_2 hcz35_3 hcz35_4 hcz35_5 hcz35_6 hcz35_7 hcz35_8 hcz35_9
        try clear hcz37_0 hcz37_1 hcz37_2 hcz37_3 hcz37_4 hcz37_5 hcz37_6 hcz37_7 hcz37_8 hcz37_9
        try clear hcz38_0 hcz38_1 hcz38_2 hcz38_3 hcz38_4 hcz38_5 hcz38_6 hcz38_7 hcz38_8 hcz38_9
        try clear hcz7_0 hcz7_1 hcz7_2 hcz7_3 hcz7_4 hcz7_5 hcz7_6 hcz7_7 hcz7_8 hcz7_9
        try clear hcz9_0 hcz9_1 hcz9_2 hcz9_3 hcz9_4 hcz9_5 hcz9_6 hcz9_7 hcz9_8 hcz9_9
        try clear hfz11_0
        try clear hfz13_0
        try clear hfz15_0
        try clear hfz17_0
        try clear hfz18_0
        try clear hfz20_0
        try clear hfz21_0
        try clear hfz26_0
        try clear hfz27_0
        try clear hfz31_0
        try clear hfz33_0
        try clear hfz35_0
        try clear hfz37_0
        try clear hfz38_0
        try clear hfz7_0
        try clear hfz9_0
        try clear p2
        obtain ⟨kq, x4_28, rfl, HA, HJ28, BK219, HB⟩ := hcut
        cases kq with
        | zero => exact absurd HA.out (by simp [cleatref04_Writes.j2])
        | succ kj28 =>
         have H := HA.out
         clear HA
         simp only [cleatref04_Writes.j2] at H
         have HC39 := Aside0.mk H
         clear H
         go_upto_region 6 with (fail)
         go_cut [72] (fun v72 wc => ∃ (kq : Nat) (x72_38 : Bool), v72 = .bool x72_38 ∧ Aside0 (cleatref04_Writes.j3 kq x72_38 a0_0 a0_1 a0_2 a0_3 a0_4 a0_5 a0_6 a0_7 a0_8 a0_9 = some (r1, r2)) ∧ Aside0 (kq ≤ kj28) ∧ Aside0 (wc.heap[gb219]? = some (.cells #[.int .i64 a0_0, .int .i64 a0_1, .int .i64 a0_2, .int .i64 a0_3, .int .i64 a0_4, .int .i64 a0_5, .int .u64 a0_6, .int .i64 a0_7, .int .i64 a0_8, .int .i64 a0_9] 37 (0, 0))) ∧ Aside0 (Below w.heap.size w wc))
         case first =>
          have H := HC39.out
          clear HC39
          replace H := Option.bind_eq_some_iff.mp H
          obtain ⟨t221, A400, H⟩ := H
          replace H : ((cleatref04_Has.f kj28 t221 (⟨#[100]⟩ : ByteArray)).bind fun t222 => (if t222 = true then (if a0_1 = 31 then (cleatref04_Writes.j3 kj28 (!x4_28) a0_0 a0_1 a0_2 a0_3 a0_4 a0_5 a0_6 a0_7 a0_8 a0_9) else (cleatref04_Writes.j3 kj28 false a0_0 a0_1 a0_2 a0_3 a0_4 a0_5 a0_6 a0_7 a0_8 a0_9)) else (cleatref04_Writes.j3 kj28 true a0_0 a0_1 a0_2 a0_3 a0_4 a0_5 a0_6 a0_7 a0_8 a0_9))) = some (r1, r2) := H
          have A40 := Aside0.mk A400
          clear A400
          replace H := Option.bind_eq_some_iff.mp H
          obtain ⟨t222, A410, H⟩ := H
          replace H : (if t222 = true then (if a0_1 = 31 then (cleatref04_Writes.j3 kj28 (!x4_28) a0_0 a0_1 a0_2 a0_3 a0_4 a0_5 a0_6 a0_7 a0_8 a0_9) else (cleatref04_Writes.j3 kj28 false a0_0 a0_1 a0_2 a0_3 a0_4 a0_5 a0_6 a0_7 a0_8 a0_9)) else (cleatref04_Writes.j3 kj28 true a0_0 a0_1 a0_2 a0_3 a0_4 a0_5 a0_6 a0_7 a0_8 a0_9)) = some (r1, r2) := H
          have A41 := Aside0.mk A410
          clear A410
          by_cases c42 : t222 = true
          ·
           subst c42
           have H1 : (if a0_1 = 31 then (cleatref04_Writes.j3 kj28 (!x4_28) a0_0 a0_1 a0_2 a0_3 a0_4 a0_5 a0_6 a0_7 a0_8 a0_9) else (cleatref04_Writes.j3 kj28 false a0_0 a0_1 a0_2 a0_3 a0_4 a0_5 a0_6 a0_7 a0_8 a0_9)) = some (r1, r2) := by rw [if_pos rfl] at H; exact H
           clear H
           have H := H1
           clear H1
           by_cases c43 : a0_1 = 31
           ·
            rw [if_pos c43] at H
            have c43b0 : (a0_1 == 31) = true := beq_iff_eq.mpr c43
            have c43b1 : (a0_1 != 31) = false := bne_eq_false_iff_eq.mpr c43
            clear c43
            (first | rw [c43b0] | (simp only [i64_w, i32_w]; rw [c43b0]) | skip)
            have H' := Aside0.mk H
            clear H
            have hcz44_0 : wc.cell? ⟨gb219, 0, none⟩ = some (.int .i64 a0_0) := (blk_cell BK219.out 0).trans rfl
            have hcz44_1 : wc.cell? ⟨gb219, 1, none⟩ = some (.int .i64 a0_1) := (blk_cell BK219.out 1).trans rfl
            have hcz44_2 : wc.cell? ⟨gb219, 2, none⟩ = some (.int .i64 a0_2) := (blk_cell BK219.out 2).trans rfl
            have hcz44_3 : wc.cell? ⟨gb219, 3, none⟩ = some (.int .i64 a0_3) := (blk_cell BK219.out 3).trans rfl
            have hcz44_4 : wc.cell? ⟨gb219, 4, none⟩ = some (.int .i64 a0_4) := (blk_cell BK219.out 4).trans rfl
            have hcz44_5 : wc.cell? ⟨gb219, 5, none⟩ = some (.int .i64 a0_5) := (blk_cell BK219.out 5).trans rfl
            have hcz44_6 : wc.cell? ⟨gb219, 6, none⟩ = some (.int .u64 a0_6) := (blk_cell BK219.out 6).trans rfl
            have hcz44_7 : wc.cell? ⟨gb219, 7, none⟩ = some (.int .i64 a0_7) := (blk_cell BK219.out 7).trans rfl
            have hcz44_8 : wc.cell? ⟨gb219, 8, none⟩ = some (.int .i64 a0_8) := (blk_cell BK219.out 8).trans rfl
            have hcz44_9 : wc.cell? ⟨gb219, 9, none⟩ = some (.int .i64 a0_9) := (blk_cell BK219.out 9).trans rfl
            have hfz44_0 := blk_frozen BK219.out 0
            have hfz44_1 := blk_frozen BK219.out 1
            have hfz44_2 := blk_frozen BK219.out 2
            have hfz44_3 := blk_frozen BK219.out 3
            have hfz44_4 := blk_frozen BK219.out 4
            have hfz44_5 := blk_frozen BK219.out 5
            have hfz44_6 := blk_frozen BK219.out 6
            have hfz44_7 := blk_frozen BK219.out 7
            have hfz44_8 := blk_frozen BK219.out 8
            have hfz44_9 := blk_frozen BK219.out 9
            go_wp2_with (first | ((with_reducible refine gate_callee (f := 40) rfl ?_); refine goesL_ (some 61) rfl rfl Tryd.func40 (by kernel_rfl) rfl #[.int .i64 a0_0] rfl (by (try simp only [List.map_toArray, List.map_cons, List.map_nil]); first | done | rfl | (simp only [List.length_drop, List.length_take]; rfl)) ?_; (with_reducible refine (cleatref04_Shape.calls kj28 a0_0 t221 _ A40.out).mono ?_); rintro e w45 ⟨rfl, hb⟩; refine ⟨_, rfl, ?_⟩; have n0_ := Aside0.mk (blk_below (g := gb219) (o := .cells #[.int .i64 a0_0, .int .i64 a0_1, .int .i64 a0_2, .int .i64 a0_3, .int .i64 a0_4, .int .i64 a0_5, .int .u64 a0_6, .int .i64 a0_7, .int .i64 a0_8, .int .i64 a0_9] 37 (0, 0)) (by (with_reducible repeat (first | refine blk_drewN ?_ _ | refine blk_drew ?_ | refine blk_alloc ?_ _)); exact BK219.out) hb); have n1_ := Aside0.mk (below_step (by repeat (first | (with_reducible first | exact HB.out | apply below_alloc | apply pw_below_drewN | apply below_drew1 | refine below_set ?_ GE219.out) | exact HB.out)) hb); clear BK219; clear HB; have BK219 := n0_; have HB := n1_; clear n0_ n1_; (try clear hb); (try clear hb2); (try clear hk); (try clear hi)) | ((with_reducible refine gate_callee (f := 58) rfl ?_); refine goesL_ (some 62) rfl rfl Tryd.func58 (by kernel_rfl) rfl #[.int .i64 t221, .string (⟨#[100]⟩ : ByteArray)] rfl (by (try simp only [List.map_toArray, List.map_cons, List.map_nil]); first | done | rfl | (simp only [List.length_drop, List.length_take]; rfl)) ?_; (with_reducible refine (cleatref04_Has.calls kj28 t221 (⟨#[100]⟩ : ByteArray) true _ A41.out).mono ?_); rintro e w46 ⟨rfl, hb⟩; refine ⟨_, rfl, ?_⟩; have n0_ := Aside0.mk (blk_below (g := gb219) (o := .cells #[.int .i64 a0_0, .int .i64 a0_1, .int .i64 a0_2, .int .i64 a0_3, .int .i64 a0_4, .int .i64 a0_5, .int .u64 a0_6, .int .i64 a0_7, .int .i64 a0_8, .int .i64 a0_9] 37 (0, 0)) (by (with_reducible repeat (first | refine blk_drewN ?_ _ | refine blk_drew ?_ | refine blk_alloc ?_ _)); exact BK219.out) hb); have n1_ := Aside0.mk (below_step (by repeat (first | (with_reducible first | exact HB.out | apply below_alloc | apply pw_below_drewN | apply below_drew1 | refine below_set ?_ GE219.out) | exact HB.out)) hb); clear BK219; clear HB; have BK219 := n0_; have HB := n1_; clear n0_ n1_; (try clear hb); (try clear hb2); (try clear hk); (try clear hi); obtain ⟨hcz47_0, hcz47_1, hcz47_2, hcz47_3, hcz47_4, hcz47_5, hcz47_6, hcz47_7, hcz47_8, hcz47_9⟩ := cells10_ BK219.out; have hfz47_0 := fun j => blk_frozen BK219.out j))
            go_meet
            case rel => exact ⟨_, (!x4_28), (by first | rfl | (simp; done) | (simp [*]; done)), H', ⟨by have := HJ1.out; have := HJ23.out; have := HJ28.out; first | omega | exact Nat.le_refl _⟩, ⟨by (with_reducible repeat (first | refine blk_drewN ?_ _ | refine blk_drew ?_ | refine blk_alloc ?_ _)); exact BK219.out⟩, ⟨by repeat (first | (with_reducible first | exact HB.out | apply below_alloc | apply pw_below_drewN | apply below_drew1 | refine below_set ?_ GE219.out) | exact HB.out)⟩⟩
           ·
            rw [if_neg c43] at H
            have c43b0 : (a0_1 == 31) = false := beq_eq_false_iff_ne.mpr c43
            have c43b1 : (a0_1 != 31) = true := bne_iff_ne.mpr c43
            (first | rw [c43b0] | (simp only [i64_w, i32_w]; rw [c43b0]) | skip)
            have H' := Aside0.mk H
            clear H
            have hcz48_0 : wc.cell? ⟨gb219, 0, none⟩ = some (.int .i64 a0_0) := (blk_cell BK219.out 0).trans rfl
            have hcz48_1 : wc.cell? ⟨gb219, 1, none⟩ = some (.int .i64 a0_1) := (blk_cell BK219.out 1).trans rfl
            have hcz48_2 : wc.cell? ⟨gb219, 2, none⟩ = some (.int .i64 a0_2) := (blk_cell BK219.out 2).trans rfl
            have hcz48_3 : wc.cell? ⟨gb219, 3, none⟩ = some (.int .i64 a0_3) := (blk_cell BK219.out 3).trans rfl
            have hcz48_4 : wc.cell? ⟨gb219, 4, none⟩ = some (.int .i64 a0_4) := (blk_cell BK219.out 4).trans rfl
            have hcz48_5 : wc.cell? ⟨gb219, 5, none⟩ = some (.int .i64 a0_5) := (blk_cell BK219.out 5).trans rfl
            have hcz48_6 : wc.cell? ⟨gb219, 6, none⟩ = some (.int .u64 a0_6) := (blk_cell BK219.out 6).trans rfl
            have hcz48_7 : wc.cell? ⟨gb219, 7, none⟩ = some (.int .i64 a0_7) := (blk_cell BK219.out 7).trans rfl
            have hcz48_8 : wc.cell? ⟨gb219, 8, none⟩ = some (.int .i64 a0_8) := (blk_cell BK219.out 8).trans rfl
            have hcz48_9 : wc.cell? ⟨gb219, 9, none⟩ = some (.int .i64 a0_9) := (blk_cell BK219.out 9).trans rfl
            have hfz48_0 := blk_frozen BK219.out 0
            have hfz48_1 := blk_frozen BK219.out 1
            have hfz48_2 := blk_frozen BK219.out 2
            have hfz48_3 := blk_frozen BK219.out 3
            have hfz48_4 := blk_frozen BK219.out 4
            have hfz48_5 := blk_frozen BK219.out 5
            have hfz48_6 := blk_frozen BK219.out 6
            have hfz48_7 := blk_frozen BK219.out 7
            have hfz48_8 := blk_frozen BK219.out 8
            have hfz48_9 := blk_frozen BK219.out 9
            go_wp2_with (first | ((with_reducible refine gate_callee (f := 40) rfl ?_); refine goesL_ (some 61) rfl rfl Tryd.func40 (by kernel_rfl) rfl #[.int .i64 a0_0] rfl (by (try simp only [List.map_toArray, List.map_cons, List.map_nil]); first | done | rfl | (simp only [List.length_drop, List.length_take]; rfl)) ?_; (with_reducible refine (cleatref04_Shape.calls kj28 a0_0 t221 _ A40.out).mono ?_); rintro e w49 ⟨rfl, hb⟩; refine ⟨_, rfl, ?_⟩; have n0_ := Aside0.mk (blk_below (g := gb219) (o := .cells #[.int .i64 a0_0, .int .i64 a0_1, .int .i64 a0_2, .int .i64 a0_3, .int .i64 a0_4, .int .i64 a0_5, .int .u64 a0_6, .int .i64 a0_7, .int .i64 a0_8, .int .i64 a0_9] 37 (0, 0)) (by (with_reducible repeat (first | refine blk_drewN ?_ _ | refine blk_drew ?_ | refine blk_alloc ?_ _)); exact BK219.out) hb); have n1_ := Aside0.mk (below_step (by repeat (first | (with_reducible first | exact HB.out | apply below_alloc | apply pw_below_drewN | apply below_drew1 | refine below_set ?_ GE219.out) | exact HB.out)) hb); clear BK219; clear HB; have BK219 := n0_; have HB := n1_; clear n0_ n1_; (try clear hb); (try clear hb2); (try clear hk); (try clear hi)) | ((with_reducible refine gate_callee (f := 58) rfl ?_); refine goesL_ (some 62) rfl rfl Tryd.func58 (by kernel_rfl) rfl #[.int .i64 t221, .string (⟨#[100]⟩ : ByteArray)] rfl (by (try simp only [List.map_toArray, List.map_cons, List.map_nil]); first | done | rfl | (simp only [List.length_drop, List.length_take]; rfl)) ?_; (with_reducible refine (cleatref04_Has.calls kj28 t221 (⟨#[100]⟩ : ByteArray) true _ A41.out).mono ?_); rintro e w50 ⟨rfl, hb⟩; refine ⟨_, rfl, ?_⟩; have n0_ := Aside0.mk (blk_below (g := gb219) (o := .cells #[.int .i64 a0_0, .int .i64 a0_1, .int .i64 a0_2, .int .i64 a0_3, .int .i64 a0_4, .int .i64 a0_5, .int .u64 a0_6, .int .i64 a0_7, .int .i64 a0_8, .int .i64 a0_9] 37 (0, 0)) (by (with_reducible repeat (first | refine blk_drewN ?_ _ | refine blk_drew ?_ | refine blk_alloc ?_ _)); exact BK219.out) hb); have n1_ := Aside0.mk (below_step (by repeat (first | (with_reducible first | exact HB.out | apply below_alloc | apply pw_below_drewN | apply below_drew1 | refine below_set ?_ GE219.out) | exact HB.out)) hb); clear BK219; clear HB; have BK219 := n0_; have HB := n1_; clear n0_ n1_; (try clear hb); (try clear hb2); (try clear hk); (try clear hi); obtain ⟨hcz51_0, hcz51_1, hcz51_2, hcz51_3, hcz51_4, hcz51_5, hcz51_6, hcz51_7, hcz51_8, hcz51_9⟩ := cells10_ BK219.out; have hfz51_0 := fun j => blk_frozen BK219.out j))
            go_meet
            case rel => exact ⟨_, (false), (by first | rfl | (simp; done) | (simp [*]; done)), H', ⟨by have := HJ1.out; have := HJ23.out; have := HJ28.out; first | omega | exact Nat.le_refl _⟩, ⟨by (with_reducible repeat (first | refine blk_drewN ?_ _ | refine blk_drew ?_ | refine blk_alloc ?_ _)); exact BK219.out⟩, ⟨by repeat (first | (with_reducible first | exact HB.out | apply below_alloc | apply pw_below_drewN | apply below_drew1 | refine below_set ?_ GE219.out) | exact HB.out)⟩⟩
          ·
           replace c42 := Bool.eq_false_iff.mpr c42
           subst c42
           have H1 : (cleatref04_Writes.j3 kj28 true a0_0 a0_1 a0_2 a0_3 a0_4 a0_5 a0_6 a0_7 a0_8 a0_9) = some (r1, r2) := by rw [if_neg (show ¬ (false = true) by decide)] at H; exact H
           clear H
           have H := H1
           clear H1
           have H' := Aside0.mk H
           clear H
           have hcz52_0 : wc.cell? ⟨gb219, 0, none⟩ = some (.int .i64 a0_0) := (blk_cell BK219.out 0).trans rfl
           have hcz52_1 : wc.cell? ⟨gb219, 1, none⟩ = some (.int .i64 a0_1) := (blk_cell BK219.out 1).trans rfl
           have hcz52_2 : wc.cell? ⟨gb219, 2, none⟩ = some (.int .i64 a0_2) := (blk_cell BK219.out 2).trans rfl
           have hcz52_3 : wc.cell? ⟨gb219, 3, none⟩ = some (.int .i64 a0_3) := (blk_cell BK219.out 3).trans rfl
           have hcz52_4 : wc.cell? ⟨gb219, 4, none⟩ = some (.int .i64 a0_4) := (blk_cell BK219.out 4).trans rfl
           have hcz52_5 : wc.cell? ⟨gb219, 5, none⟩ = some (.int .i64 a0_5) := (blk_cell BK219.out 5).trans rfl
           have hcz52_6 : wc.cell? ⟨gb219, 6, none⟩ = some (.int .u64 a0_6) := (blk_cell BK219.out 6).trans rfl
           have hcz52_7 : wc.cell? ⟨gb219, 7, none⟩ = some (.int .i64 a0_7) := (blk_cell BK219.out 7).trans rfl
           have hcz52_8 : wc.cell? ⟨gb219, 8, none⟩ = some (.int .i64 a0_8) := (blk_cell BK219.out 8).trans rfl
           have hcz52_9 : wc.cell? ⟨gb219, 9, none⟩ = some (.int .i64 a0_9) := (blk_cell BK219.out 9).trans rfl
           have hfz52_0 := blk_frozen BK219.out 0
           have hfz52_1 := blk_frozen BK219.out 1
           have hfz52_2 := blk_frozen BK219.out 2
           have hfz52_3 := blk_frozen BK219.out 3
           have hfz52_4 := blk_frozen BK219.out 4
           have hfz52_5 := blk_frozen BK219.out 5
           have hfz52_6 := blk_frozen BK219.out 6
           have hfz52_7 := blk_frozen BK219.out 7
           have hfz52_8 := blk_frozen BK219.out 8
           have hfz52_9 := blk_frozen BK219.out 9
           go_wp2_with (first | ((with_reducible refine gate_callee (f := 40) rfl ?_); refine goesL_ (some 61) rfl rfl Tryd.func40 (by kernel_rfl) rfl #[.int .i64 a0_0] rfl (by (try simp only [List.map_toArray, List.map_cons, List.map_nil]); first | done | rfl | (simp only [List.length_drop, List.length_take]; rfl)) ?_; (with_reducible refine (cleatref04_Shape.calls kj28 a0_0 t221 _ A40.out).mono ?_); rintro e w53 ⟨rfl, hb⟩; refine ⟨_, rfl, ?_⟩; have n0_ := Aside0.mk (blk_below (g := gb219) (o := .cells #[.int .i64 a0_0, .int .i64 a0_1, .int .i64 a0_2, .int .i64 a0_3, .int .i64 a0_4, .int .i64 a0_5, .int .u64 a0_6, .int .i64 a0_7, .int .i64 a0_8, .int .i64 a0_9] 37 (0, 0)) (by (with_reducible repeat (first | refine blk_drewN ?_ _ | refine blk_drew ?_ | refine blk_alloc ?_ _)); exact BK219.out) hb); have n1_ := Aside0.mk (below_step (by repeat (first | (with_reducible first | exact HB.out | apply below_alloc | apply pw_below_drewN | apply below_drew1 | refine below_set ?_ GE219.out) | exact HB.out)) hb); clear BK219; clear HB; have BK219 := n0_; have HB := n1_; clear n0_ n1_; (try clear hb); (try clear hb2); (try clear hk); (try clear hi)) | ((with_reducible refine gate_callee (f := 58) rfl ?_); refine goesL_ (some 62) rfl rfl Tryd.func58 (by kernel_rfl) rfl #[.int .i64 t221, .string (⟨#[100]⟩ : ByteArray)] rfl (by (try simp only [List.map_toArray, List.map_cons, List.map_nil]); first | done | rfl | (simp only [List.length_drop, List.length_take]; rfl)) ?_; (with_reducible refine (cleatref04_Has.calls kj28 t221 (⟨#[100]⟩ : ByteArray) false _ A41.out).mono ?_); rintro e w54 ⟨rfl, hb⟩; refine ⟨_, rfl, ?_⟩; have n0_ := Aside0.mk (blk_below (g := gb219) (o := .cells #[.int .i64 a0_0, .int .i64 a0_1, .int .i64 a0_2, .int .i64 a0_3, .int .i64 a0_4, .int .i64 a0_5, .int .u64 a0_6, .int .i64 a0_7, .int .i64 a0_8, .int .i64 a0_9] 37 (0, 0)) (by (with_reducible repeat (first | refine blk_drewN ?_ _ | refine blk_drew ?_ | refine blk_alloc ?_ _)); exact BK219.out) hb); have n1_ := Aside0.mk (below_step (by repeat (first | (with_reducible first | exact HB.out | apply below_alloc | apply pw_below_drewN | apply below_drew1 | refine below_set ?_ GE219.out) | exact HB.out)) hb); clear BK219; clear HB; have BK219 := n0_; have HB := n1_; clear n0_ n1_; (try clear hb); (try clear hb2); (try clear hk); (try clear hi)))
           go_meet
           case rel => exact ⟨_, (true), (by first | rfl | (simp; done) | (simp [*]; done)), H', ⟨by have := HJ1.out; have := HJ23.out; have := HJ28.out; first | omega | exact Nat.le_refl _⟩, ⟨by (with_reducible repeat (first | refine blk_drewN ?_ _ | refine blk_drew ?_ | refine blk_alloc ?_ _)); exact BK219.out⟩, ⟨by repeat (first | (with_reducible first | exact HB.out | apply below_alloc | apply pw_below_drewN | apply below_drew1 | refine below_set ?_ GE219.out) | exact HB.out)⟩⟩
         case rest =>
          clear HC39
          try clear c1
          try clear c2
          try clear p2
          try clear c3
          try clear c4
          try clear c5
          try clear c6
          try clear c6b0
          try clear c6b1
          try clear c10
          try clear c10b0
          try clear c10b1
          try clear c14
          try clear c14b0
          try clear c14b1
          try clear c23
          try clear c25
          try clear c25b0
          try clear c25b1
          try clear c28
          try clear c30
          try clear c30b0
          try clear c30b1
          try clear c32
          try clear c32b0
          try clear c32b1
          try clear c34
          try clear c34b0
          try clear c34b1
          try clear c36
          try clear c36b0
          try clear c36b1
          try clear c40
          try clear c42
          try clear c43
          try clear c43b0
          try clear c43b1
          try clear hcz11_0 hcz11_1 hcz11_2 hcz11_3 hcz11_4 hcz11_5 hcz11_6 hcz11_7 hcz11_8 hcz11_9
          try clear hcz13_0 hcz13_1 hcz13_2 hcz13_3 hcz13_4 hcz13_5 hcz13_6 hcz13_7 hcz13_8 hcz13_9
          try clear hcz15_0 hcz15_1 hcz15_2 hcz15_3 hcz15_4 hcz15_5 hcz15_6 hcz15_7 hcz15_8 hcz15_9
          try clear hcz17_0 hcz17_1 hcz17_2 hcz17_3 hcz17_4 hcz17_5 hcz17_6 hcz17_7 hcz17_8 hcz17_9
          try clear hcz18_0 hcz18_1 hcz18_2 hcz18_3 hcz18_4 hcz18_5 hcz18_6 hcz18_7 hcz18_8 hcz18_9
          try clear hcz20_0 hcz20_1 hcz20_2 hcz20_3 hcz20_4 hcz20_5 hcz20_6 hcz20_7 hcz20_8 hcz20_9
          try clear hcz21_0 hcz21_1 hcz21_2 hcz21_3 hcz21_4 hcz21_5 hcz21_6 hcz21_7 hcz21_8 hcz21_9
          try clear hcz26_0 hcz26_1 hcz26_2 hcz26_3 hcz26_4 hcz26_5 hcz26_6 hcz26_7 hcz26_8 hcz26_9
          try clear hcz27_0 hcz27_1 hcz27_2 hcz27_3 hcz27_4 hcz27_5 hcz27_6 hcz27_7 hcz27_8 hcz27_9
          try clear hcz31_0 hcz31_1 hcz31_2 hcz31_3 hcz31_4 hcz31_5 hcz31_6 hcz31_7 hcz31_8 hcz31_9
          try clear hcz33_0 hcz33_1 hcz33_2 hcz33_3 hcz33_4 hcz33_5 hcz33_6 hcz33_7 hcz33_8 hcz33_9
          try clear hcz35_0 hcz35_1 hcz35_2 hcz35_3 hcz35_4 hcz35_5 hcz35_6 hcz35_7 hcz35_8 hcz35_9
          try clear hcz37_0 hcz37_1 hcz37_2 hcz37_3 hcz37_4 hcz37_5 hcz37_6 hcz37_7 hcz37_8 hcz37_9
          try clear hcz38_0 hcz38_1 hcz38_2 hcz38_3 hcz38_4 hcz38_5 hcz38_6 hcz38_7 hcz38_8 hcz38_9
          try clear hcz44_0 hcz44_1 hcz44_2 hcz44_3 hcz44_4 hcz44_5 hcz44_6 hcz44_7 hcz44_8 hcz44_9
          try clear hcz47_0 hcz47_1 hcz47_2 hcz47_3 hcz47_4 hcz47_5 hcz47_6 hcz47_7 hcz47_8 hcz47_9
          try clear hcz48_0 hcz48_1 hcz48_2 hcz48_3 hcz48_4 hcz48_5 hcz48_6 hcz48_7 hcz48_8 hcz48_9
          try clear hcz51_0 hcz51_1 hcz51_2 hcz51_3 hcz51_4 hcz51_5 hcz51_6 hcz51_7 hcz51_8 hcz51_9
          try clear hcz52_0 hcz52_1 hcz52_2 hcz52_3 hcz52_4 hcz52_5 hcz52_6 hcz52_7 hcz52_8 hcz52_9
          try clear hcz7_0 hcz7_1 hcz7_2 hcz7_3 hcz7_4 hcz7_5 hcz7_6 hcz7_7 hcz7_8 hcz7_9
          try clear hcz9_0 hcz9_1 hcz9_2 hcz9_3 hcz9_4 hcz9_5 hcz9_6 hcz9_7 hcz9_8 hcz9_9
          try clear hfz11_0
          try clear hfz13_0
          try clear hfz15_0
          try clear hfz17_0
          try clear hfz18_0
          try clear hfz20_0
          try clear hfz21_0
          try clear hfz26_0
          try clear hfz27_0
          try clear hfz31_0
          try clear hfz33_0
          try clear hfz35_0
          try clear hfz37_0
          try clear hfz38_0
          try clear hfz44_0
          try clear hfz47_0
          try clear hfz48_0
          try clear hfz51_0
          try clear hfz52_0
          try clear hfz7_0
          try clear hfz9_0
          try clear p2
          obtain ⟨kq, x72_38, rfl, HA, HJ38, BK219, HB⟩ := hcut
          cases kq with
          | zero => exact absurd HA.out (by simp [cleatref04_Writes.j3])
          | succ kj38 =>
           have H := HA.out
           clear HA
           simp only [cleatref04_Writes.j3] at H
           by_cases c55 : x72_38 = true
           ·
            subst c55
            have H1 : (some (0, false)) = some (r1, r2) := by rw [if_pos rfl] at H; exact H
            clear H
            have H := H1
            clear H1
            simp only [Option.some.injEq, Prod.mk.injEq] at H
            obtain ⟨rfl, rfl⟩ := H
            go_wp2
            go_ret2
            exact ⟨by first | rfl | (simp [errW_none, errW_some] <;> rfl) | (simp [*, errW_none, errW_some] <;> rfl), by repeat (first | (with_reducible first | exact HB.out | apply below_alloc | apply pw_below_drewN | apply below_drew1 | refine below_set ?_ GE219.out) | exact HB.out)⟩
           ·
            replace c55 := Bool.eq_false_iff.mpr c55
            subst c55
            have H1 : (some (a0_1, true)) = some (r1, r2) := by rw [if_neg (show ¬ (false = true) by decide)] at H; exact H
            clear H
            have H := H1
            clear H1
            simp only [Option.some.injEq, Prod.mk.injEq] at H
            obtain ⟨rfl, rfl⟩ := H
            have hcz56_0 : wc.cell? ⟨gb219, 0, none⟩ = some (.int .i64 a0_0) := (blk_cell BK219.out 0).trans rfl
            have hcz56_1 : wc.cell? ⟨gb219, 1, none⟩ = some (.int .i64 a0_1) := (blk_cell BK219.out 1).trans rfl
            have hcz56_2 : wc.cell? ⟨gb219, 2, none⟩ = some (.int .i64 a0_2) := (blk_cell BK219.out 2).trans rfl
            have hcz56_3 : wc.cell? ⟨gb219, 3, none⟩ = some (.int .i64 a0_3) := (blk_cell BK219.out 3).trans rfl
            have hcz56_4 : wc.cell? ⟨gb219, 4, none⟩ = some (.int .i64 a0_4) := (blk_cell BK219.out 4).trans rfl
            have hcz56_5 : wc.cell? ⟨gb219, 5, none⟩ = some (.int .i64 a0_5) := (blk_cell BK219.out 5).trans rfl
            have hcz56_6 : wc.cell? ⟨gb219, 6, none⟩ = some (.int .u64 a0_6) := (blk_cell BK219.out 6).trans rfl
            have hcz56_7 : wc.cell? ⟨gb219, 7, none⟩ = some (.int .i64 a0_7) := (blk_cell BK219.out 7).trans rfl
            have hcz56_8 : wc.cell? ⟨gb219, 8, none⟩ = some (.int .i64 a0_8) := (blk_cell BK219.out 8).trans rfl
            have hcz56_9 : wc.cell? ⟨gb219, 9, none⟩ = some (.int .i64 a0_9) := (blk_cell BK219.out 9).trans rfl
            have hfz56_0 := blk_frozen BK219.out 0
            have hfz56_1 := blk_frozen BK219.out 1
            have hfz56_2 := blk_frozen BK219.out 2
            have hfz56_3 := blk_frozen BK219.out 3
            have hfz56_4 := blk_frozen BK219.out 4
            have hfz56_5 := blk_frozen BK219.out 5
            have hfz56_6 := blk_frozen BK219.out 6
            have hfz56_7 := blk_frozen BK219.out 7
            have hfz56_8 := blk_frozen BK219.out 8
            have hfz56_9 := blk_frozen BK219.out 9
            go_wp2
            go_ret2
            exact ⟨by first | rfl | (simp [errW_none, errW_some] <;> rfl) | (simp [*, errW_none, errW_some] <;> rfl), by repeat (first | (with_reducible first | exact HB.out | apply below_alloc | apply pw_below_drewN | apply below_drew1 | refine below_set ?_ GE219.out) | exact HB.out)⟩
end Go.Proofs.YtbklmlbmbnnjkaaDoor.R
