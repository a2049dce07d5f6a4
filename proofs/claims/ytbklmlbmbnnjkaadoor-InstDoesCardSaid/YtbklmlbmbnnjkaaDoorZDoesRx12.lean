/- Written for this claim by a program of this session: what the claim uses of lemmas and proved contracts of Go functions. -/
import Derived.Test.YtbklmlbmbnnjkaaDoorZDoesRx0
import Derived.Test.YtbklmlbmbnnjkaaDoorZDoesRx9
import Derived.Test.YtbklmlbmbnnjkaaDoorZDoesRx10
import Derived.Test.YtbklmlbmbnnjkaaDoorZDoesRx11
namespace Go.Proofs.YtbklmlbmbnnjkaaDoor.R
open Go.RowKit Go.Proofs.YtbklmlbmbnnjkaaDoorW.PrintWords Go.Proofs.YtbklmlbmbnnjkaaDoorW.PrintLast Go.Proofs.YtbklmlbmbnnjkaaDoorW.PrintMore
attribute [local go_sem] max2_int min2_int max_two min_two max_three min_three max_four min_four   -- for this text's walks alone
set_option linter.unusedVariables false
set_option linter.unusedSimpArgs false
mutual
def cleatref04_Is.j0 : Nat → Int → Bool → Int → Int → Int → Int → Int → Int → Int → Int → Int → Int → Option (Bool)
 | 0, _, _, _, _, _, _, _, _, _, _, _, _ => none
 | k + 1, x3, x39, x210000, x210001, x210002, x210003, x210004, x210005, x210006, x210007, x210008, x210009 => if x39 = true then (some false) else (if x210007 = 0 then (cleatref04_Is.j1 k x3 true x210000 x210001 x210002 x210003 x210004 x210005 x210006 x210007 x210008 x210009) else (if x3 = 4 then (if x210007 ≥ 0 then (if x210007 ≤ 2 then (cleatref04_Is.j1 k x3 true x210000 x210001 x210002 x210003 x210004 x210005 x210006 x210007 x210008 x210009) else (if x3 = 5 then (cleatref04_Is.j1 k x3 (decide (x210007 ≤ 3)) x210000 x210001 x210002 x210003 x210004 x210005 x210006 x210007 x210008 x210009) else (cleatref04_Is.j1 k x3 false x210000 x210001 x210002 x210003 x210004 x210005 x210006 x210007 x210008 x210009))) else (if x3 = 5 then (cleatref04_Is.j1 k x3 false x210000 x210001 x210002 x210003 x210004 x210005 x210006 x210007 x210008 x210009) else (cleatref04_Is.j1 k x3 false x210000 x210001 x210002 x210003 x210004 x210005 x210006 x210007 x210008 x210009))) else (if x3 = 5 then (if x210007 ≥ 0 then (cleatref04_Is.j1 k x3 (decide (x210007 ≤ 3)) x210000 x210001 x210002 x210003 x210004 x210005 x210006 x210007 x210008 x210009) else (cleatref04_Is.j1 k x3 false x210000 x210001 x210002 x210003 x210004 x210005 x210006 x210007 x210008 x210009)) else (cleatref04_Is.j1 k x3 false x210000 x210001 x210002 x210003 x210004 x210005 x210006 x210007 x210008 x210009))))
def cleatref04_Is.j1 : Nat → Int → Bool → Int → Int → Int → Int → Int → Int → Int → Int → Int → Int → Option (Bool)
 | 0, _, _, _, _, _, _, _, _, _, _, _, _ => none
 | k + 1, x3, x4, x210000, x210001, x210002, x210003, x210004, x210005, x210006, x210007, x210008, x210009 => if x210009 = 0 then (cleatref04_Is.j2 k x3 x4 true x210000 x210001 x210002 x210003 x210004 x210005 x210006 x210007 x210008 x210009) else ((cleatref04_Has.f k x3 (⟨#[99]⟩ : ByteArray)).bind fun t215 => (if t215 = true then (if x210009 ≥ 0 then (cleatref04_Is.j2 k x3 x4 (decide (x210009 ≤ 13)) x210000 x210001 x210002 x210003 x210004 x210005 x210006 x210007 x210008 x210009) else (cleatref04_Is.j2 k x3 x4 false x210000 x210001 x210002 x210003 x210004 x210005 x210006 x210007 x210008 x210009)) else (cleatref04_Is.j2 k x3 x4 false x210000 x210001 x210002 x210003 x210004 x210005 x210006 x210007 x210008 x210009)))
def cleatref04_Is.j2 : Nat → Int → Bool → Bool → Int → Int → Int → Int → Int → Int → Int → Int → Int → Int → Option (Bool)
 | 0, _, _, _, _, _, _, _, _, _, _, _, _, _ => none
 | k + 1, x3, x4, x5, x210000, x210001, x210002, x210003, x210004, x210005, x210006, x210007, x210008, x210009 => if x3 = 3 then ((cleatref02_Is.f k x210006).bind fun t216 => (if t216 = true then (cleatref04_Is.j3 k x3 x4 x5 true x210000 x210001 x210002 x210003 x210004 x210005 x210006 x210007 x210008 x210009) else (cleatref04_Is.j3 k x3 x4 x5 false x210000 x210001 x210002 x210003 x210004 x210005 x210006 x210007 x210008 x210009))) else (cleatref04_Is.j3 k x3 x4 x5 (x210006 == 0) x210000 x210001 x210002 x210003 x210004 x210005 x210006 x210007 x210008 x210009)
def cleatref04_Is.j3 : Nat → Int → Bool → Bool → Bool → Int → Int → Int → Int → Int → Int → Int → Int → Int → Int → Option (Bool)
 | 0, _, _, _, _, _, _, _, _, _, _, _, _, _, _ => none
 | k + 1, x3, x4, x5, x6, x210000, x210001, x210002, x210003, x210004, x210005, x210006, x210007, x210008, x210009 => (cleatref04_imm.f k x3 x210005).bind fun t217 => (if t217 = true then ((cleatref04_amount.f k x3 x210008).bind fun t218 => (if t218 = true then (if x4 = true then (if x5 = true then (some x6) else (some false)) else (some false)) else (some false))) else (some false))
end
def cleatref04_Is.f (k : Nat) (a0_0 : Int) (a0_1 : Int) (a0_2 : Int) (a0_3 : Int) (a0_4 : Int) (a0_5 : Int) (a0_6 : Int) (a0_7 : Int) (a0_8 : Int) (a0_9 : Int) : Option (Bool) := (cleatref04_Shape.f k a0_0).bind fun t210 => (if t210 = 0 then (cleatref04_Is.j0 k t210 true a0_0 a0_1 a0_2 a0_3 a0_4 a0_5 a0_6 a0_7 a0_8 a0_9) else ((cleatref04_reg.f k t210 (⟨#[100]⟩ : ByteArray) a0_1).bind fun t211 => (if t211 = true then ((cleatref04_reg.f k t210 (⟨#[110]⟩ : ByteArray) a0_2).bind fun t212 => (if t212 = true then ((cleatref04_reg.f k t210 (⟨#[109]⟩ : ByteArray) a0_3).bind fun t213 => (if t213 = true then ((cleatref04_reg.f k t210 (⟨#[97]⟩ : ByteArray) a0_4).bind fun t214 => (cleatref04_Is.j0 k t210 (!t214) a0_0 a0_1 a0_2 a0_3 a0_4 a0_5 a0_6 a0_7 a0_8 a0_9)) else (cleatref04_Is.j0 k t210 true a0_0 a0_1 a0_2 a0_3 a0_4 a0_5 a0_6 a0_7 a0_8 a0_9))) else (cleatref04_Is.j0 k t210 true a0_0 a0_1 a0_2 a0_3 a0_4 a0_5 a0_6 a0_7 a0_8 a0_9))) else (cleatref04_Is.j0 k t210 true a0_0 a0_1 a0_2 a0_3 a0_4 a0_5 a0_6 a0_7 a0_8 a0_9))))
set_option maxHeartbeats 8000000 in
set_option maxRecDepth 100000 in
theorem cleatref04_Is.calls (k : Nat) (a0_0 : Int) (a0_1 : Int) (a0_2 : Int) (a0_3 : Int) (a0_4 : Int) (a0_5 : Int) (a0_6 : Int) (a0_7 : Int) (a0_8 : Int) (a0_9 : Int) (r : Bool) (w : World) (h : cleatref04_Is.f k a0_0 a0_1 a0_2 a0_3 a0_4 a0_5 a0_6 a0_7 a0_8 a0_9 = some r) :
    Calls Tryd.prog 31 #[.agg #[.int .i64 a0_0, .int .i64 a0_1, .int .i64 a0_2, .int .i64 a0_3, .int .i64 a0_4, .int .i64 a0_5, .int .u64 a0_6, .int .i64 a0_7, .int .i64 a0_8, .int .i64 a0_9]] w fun e w' => e = .returned (.bool r) ∧ Below w.heap.size w w' := by
 have hu37 := Tryd.underlying37
 have HB := Aside0.mk (Below.refl w.heap.size w)
 have H : ((cleatref04_Shape.f k a0_0).bind fun t210 => (if t210 = 0 then (cleatref04_Is.j0 k t210 true a0_0 a0_1 a0_2 a0_3 a0_4 a0_5 a0_6 a0_7 a0_8 a0_9) else ((cleatref04_reg.f k t210 (⟨#[100]⟩ : ByteArray) a0_1).bind fun t211 => (if t211 = true then ((cleatref04_reg.f k t210 (⟨#[110]⟩ : ByteArray) a0_2).bind fun t212 => (if t212 = true then ((cleatref04_reg.f k t210 (⟨#[109]⟩ : ByteArray) a0_3).bind fun t213 => (if t213 = true then ((cleatref04_reg.f k t210 (⟨#[97]⟩ : ByteArray) a0_4).bind fun t214 => (cleatref04_Is.j0 k t210 (!t214) a0_0 a0_1 a0_2 a0_3 a0_4 a0_5 a0_6 a0_7 a0_8 a0_9)) else (cleatref04_Is.j0 k t210 true a0_0 a0_1 a0_2 a0_3 a0_4 a0_5 a0_6 a0_7 a0_8 a0_9))) else (cleatref04_Is.j0 k t210 true a0_0 a0_1 a0_2 a0_3 a0_4 a0_5 a0_6 a0_7 a0_8 a0_9))) else (cleatref04_Is.j0 k t210 true a0_0 a0_1 a0_2 a0_3 a0_4 a0_5 a0_6 a0_7 a0_8 a0_9))))) = some r := h
 clear h
 replace H := Option.bind_eq_some_iff.mp H
 obtain ⟨t210, A20, H⟩ := H
 replace H : (if t210 = 0 then (cleatref04_Is.j0 k t210 true a0_0 a0_1 a0_2 a0_3 a0_4 a0_5 a0_6 a0_7 a0_8 a0_9) else ((cleatref04_reg.f k t210 (⟨#[100]⟩ : ByteArray) a0_1).bind fun t211 => (if t211 = true then ((cleatref04_reg.f k t210 (⟨#[110]⟩ : ByteArray) a0_2).bind fun t212 => (if t212 = true then ((cleatref04_reg.f k t210 (⟨#[109]⟩ : ByteArray) a0_3).bind fun t213 => (if t213 = true then ((cleatref04_reg.f k t210 (⟨#[97]⟩ : ByteArray) a0_4).bind fun t214 => (cleatref04_Is.j0 k t210 (!t214) a0_0 a0_1 a0_2 a0_3 a0_4 a0_5 a0_6 a0_7 a0_8 a0_9)) else (cleatref04_Is.j0 k t210 true a0_0 a0_1 a0_2 a0_3 a0_4 a0_5 a0_6 a0_7 a0_8 a0_9))) else (cleatref04_Is.j0 k t210 true a0_0 a0_1 a0_2 a0_3 a0_4 a0_5 a0_6 a0_7 a0_8 a0_9))) else (cleatref04_Is.j0 k t210 true a0_0 a0_1 a0_2 a0_3 a0_4 a0_5 a0_6 a0_7 a0_8 a0_9)))) = some r := H
 have A2 := Aside0.mk A20
 clear A20
 have HC3 := Aside0.mk H
 clear H
 go_enter Tryd.func31, Tryd.ntmps31
 go_upto_region 2 with (first | ((with_reducible refine gate_dst (N := 1) rfl ?_); refine box_event ?hg (N := 1) ?hd (cs := #[.int .i64 a0_0, .int .i64 a0_1, .int .i64 a0_2, .int .i64 a0_3, .int .i64 a0_4, .int .i64 a0_5, .int .u64 a0_6, .int .i64 a0_7, .int .i64 a0_8, .int .i64 a0_9]) (t := 37) ?hr ?_; (case hd => rfl); (case hg => rfl); (case hr => first | (go_simp; done) | (go_simp; rfl)); intro gb209 hg w4 hbox hb; have n0_ := Aside0.mk (below_step (by repeat (first | (with_reducible first | exact HB.out | apply below_alloc | apply pw_below_drewN | apply below_drew1) | exact HB.out)) hb); have n1_ := Aside0.mk (hbox); have n2_ := Aside0.mk ((by rw [hg]; exact (below_size (by repeat (first | (with_reducible first | exact HB.out | apply below_alloc | apply pw_below_drewN | apply below_drew1) | exact HB.out))) : w.heap.size ≤ gb209)); have n3_ := Aside0.mk ((by rw [hg]; exact (below_size (by repeat (first | (with_reducible first | exact HB.out | apply below_alloc | apply pw_below_drewN | apply below_drew1) | exact HB.out))) : w.heap.size ≤ gb209)); clear HB; have HB := n0_; have BK209 := n1_; have GW209 := n2_; have GE209 := n3_; clear n0_ n1_ n2_ n3_; clear hb hbox hg; obtain ⟨hcz5_0, hcz5_1, hcz5_2, hcz5_3, hcz5_4, hcz5_5, hcz5_6, hcz5_7, hcz5_8, hcz5_9⟩ := cells10_ BK209.out; have hfz5_0 := fun j => blk_frozen BK209.out j) | ((with_reducible refine gate_callee (f := 40) rfl ?_); refine goesL_ (some 9) rfl rfl Tryd.func40 (by kernel_rfl) rfl #[.int .i64 a0_0] rfl (by (try simp only [List.map_toArray, List.map_cons, List.map_nil]); first | done | rfl | (simp only [List.length_drop, List.length_take]; rfl)) ?_; (with_reducible refine (cleatref04_Shape.calls k a0_0 t210 _ A2.out).mono ?_); rintro e w6 ⟨rfl, hb⟩; refine ⟨_, rfl, ?_⟩; have n0_ := Aside0.mk (blk_below (g := gb209) (o := .cells #[.int .i64 a0_0, .int .i64 a0_1, .int .i64 a0_2, .int .i64 a0_3, .int .i64 a0_4, .int .i64 a0_5, .int .u64 a0_6, .int .i64 a0_7, .int .i64 a0_8, .int .i64 a0_9] 37 (0, 0)) (by (with_reducible repeat (first | refine blk_drewN ?_ _ | refine blk_drew ?_ | refine blk_alloc ?_ _)); exact BK209.out) hb); have n1_ := Aside0.mk (below_step (by repeat (first | (with_reducible first | exact HB.out | apply below_alloc | apply pw_below_drewN | apply below_drew1 | refine below_set ?_ GE209.out) | exact HB.out)) hb); clear BK209; clear HB; have BK209 := n0_; have HB := n1_; clear n0_ n1_; (try clear hb); (try clear hb2); (try clear hk); (try clear hi)))
 (try simp only [Act.put, List.setIfInBounds_toArray, List.set_cons_zero, List.set_cons_succ])
 go_cut [39] (fun v39 wc => ∃ (kq : Nat) (x39_2 : Bool), v39 = .bool x39_2 ∧ Aside0 (cleatref04_Is.j0 kq t210 x39_2 a0_0 a0_1 a0_2 a0_3 a0_4 a0_5 a0_6 a0_7 a0_8 a0_9 = some r) ∧ Aside0 (kq ≤ k) ∧ Aside0 (wc.heap[gb209]? = some (.cells #[.int .i64 a0_0, .int .i64 a0_1, .int .i64 a0_2, .int .i64 a0_3, .int .i64 a0_4, .int .i64 a0_5, .int .u64 a0_6, .int .i64 a0_7, .int .i64 a0_8, .int .i64 a0_9] 37 (0, 0))) ∧ Aside0 (Below w.heap.size w wc))
 case first =>
  have H := HC3.out
  clear HC3
  by_cases c7 : t210 = 0
  ·
   rw [if_pos c7] at H
   have c7b0 : (t210 == 0) = true := beq_iff_eq.mpr c7
   have c7b1 : (t210 != 0) = false := bne_eq_false_iff_eq.mpr c7
   clear c7
   (first | rw [c7b0] | (simp only [i64_w, i32_w]; rw [c7b0]) | skip)
   have H' := Aside0.mk H
   clear H
   go_wp2
   go_meet
   case rel => exact ⟨_, (true), (by first | rfl | (simp; done) | (simp [*]; done)), H', ⟨by first | omega | exact Nat.le_refl _⟩, ⟨by (with_reducible repeat (first | refine blk_drewN ?_ _ | refine blk_drew ?_ | refine blk_alloc ?_ _)); exact BK209.out⟩, ⟨by repeat (first | (with_reducible first | exact HB.out | apply below_alloc | apply pw_below_drewN | apply below_drew1 | refine below_set ?_ GE209.out) | exact HB.out)⟩⟩
  ·
   rw [if_neg c7] at H
   have c7b0 : (t210 == 0) = false := beq_eq_false_iff_ne.mpr c7
   have c7b1 : (t210 != 0) = true := bne_iff_ne.mpr c7
   (first | rw [c7b0] | (simp only [i64_w, i32_w]; rw [c7b0]) | skip)
   replace H := Option.bind_eq_some_iff.mp H
   obtain ⟨t211, A80, H⟩ := H
   replace H : (if t211 = true then ((cleatref04_reg.f k t210 (⟨#[110]⟩ : ByteArray) a0_2).bind fun t212 => (if t212 = true then ((cleatref04_reg.f k t210 (⟨#[109]⟩ : ByteArray) a0_3).bind fun t213 => (if t213 = true then ((cleatref04_reg.f k t210 (⟨#[97]⟩ : ByteArray) a0_4).bind fun t214 => (cleatref04_Is.j0 k t210 (!t214) a0_0 a0_1 a0_2 a0_3 a0_4 a0_5 a0_6 a0_7 a0_8 a0_9)) else (cleatref04_Is.j0 k t210 true a0_0 a0_1 a0_2 a0_3 a0_4 a0_5 a0_6 a0_7 a0_8 a0_9))) else (cleatref04_Is.j0 k t210 true a0_0 a0_1 a0_2 a0_3 a0_4 a0_5 a0_6 a0_7 a0_8 a0_9))) else (cleatref04_Is.j0 k t210 true a0_0 a0_1 a0_2 a0_3 a0_4 a0_5 a0_6 a0_7 a0_8 a0_9)) = some r := H
   have A8 := Aside0.mk A80
   clear A80
   by_cases c9 : t211 = true
   ·
    subst c9
    have H1 : ((cleatref04_reg.f k t210 (⟨#[110]⟩ : ByteArray) a0_2).bind fun t212 => (if t212 = true then ((cleatref04_reg.f k t210 (⟨#[109]⟩ : ByteArray) a0_3).bind fun t213 => (if t213 = true then ((cleatref04_reg.f k t210 (⟨#[97]⟩ : ByteArray) a0_4).bind fun t214 => (cleatref04_Is.j0 k t210 (!t214) a0_0 a0_1 a0_2 a0_3 a0_4 a0_5 a0_6 a0_7 a0_8 a0_9)) else (cleatref04_Is.j0 k t210 true a0_0 a0_1 a0_2 a0_3 a0_4 a0_5 a0_6 a0_7 a0_8 a0_9))) else (cleatref04_Is.j0 k t210 true a0_0 a0_1 a0_2 a0_3 a0_4 a0_5 a0_6 a0_7 a0_8 a0_9))) = some r := by rw [if_pos rfl] at H; exact H
    clear H
    have H := H1
    clear H1
    replace H := Option.bind_eq_some_iff.mp H
    obtain ⟨t212, A100, H⟩ := H
    replace H : (if t212 = true then ((cleatref04_reg.f k t210 (⟨#[109]⟩ : ByteArray) a0_3).bind fun t213 => (if t213 = true then ((cleatref04_reg.f k t210 (⟨#[97]⟩ : ByteArray) a0_4).bind fun t214 => (cleatref04_Is.j0 k t210 (!t214) a0_0 a0_1 a0_2 a0_3 a0_4 a0_5 a0_6 a0_7 a0_8 a0_9)) else (cleatref04_Is.j0 k t210 true a0_0 a0_1 a0_2 a0_3 a0_4 a0_5 a0_6 a0_7 a0_8 a0_9))) else (cleatref04_Is.j0 k t210 true a0_0 a0_1 a0_2 a0_3 a0_4 a0_5 a0_6 a0_7 a0_8 a0_9)) = some r := H
    have A10 := Aside0.mk A100
    clear A100
    by_cases c11 : t212 = true
    ·
     subst c11
     have H1 : ((cleatref04_reg.f k t210 (⟨#[109]⟩ : ByteArray) a0_3).bind fun t213 => (if t213 = true then ((cleatref04_reg.f k t210 (⟨#[97]⟩ : ByteArray) a0_4).bind fun t214 => (cleatref04_Is.j0 k t210 (!t214) a0_0 a0_1 a0_2 a0_3 a0_4 a0_5 a0_6 a0_7 a0_8 a0_9)) else (cleatref04_Is.j0 k t210 true a0_0 a0_1 a0_2 a0_3 a0_4 a0_5 a0_6 a0_7 a0_8 a0_9))) = some r := by rw [if_pos rfl] at H; exact H
     clear H
     have H := H1
     clear H1
     replace H := Option.bind_eq_some_iff.mp H
     obtain ⟨t213, A120, H⟩ := H
     replace H : (if t213 = true then ((cleatref04_reg.f k t210 (⟨#[97]⟩ : ByteArray) a0_4).bind fun t214 => (cleatref04_Is.j0 k t210 (!t214) a0_0 a0_1 a0_2 a0_3 a0_4 a0_5 a0_6 a0_7 a0_8 a0_9)) else (cleatref04_Is.j0 k t210 true a0_0 a0_1 a0_2 a0_3 a0_4 a0_5 a0_6 a0_7 a0_8 a0_9)) = some r := H
     have A12 := Aside0.mk A120
     clear A120
     by_cases c13 : t213 = true
     ·
      subst c13
      have H1 : ((cleatref04_reg.f k t210 (⟨#[97]⟩ : ByteArray) a0_4).bind fun t214 => (cleatref04_Is.j0 k t210 (!t214) a0_0 a0_1 a0_2 a0_3 a0_4 a0_5 a0_6 a0_7 a0_8 a0_9)) = some r := by rw [if_pos rfl] at H; exact H
      clear H
      have H := H1
      clear H1
      replace H := Option.bind_eq_some_iff.mp H
      obtain ⟨t214, A140, H⟩ := H
      replace H : (cleatref04_Is.j0 k t210 (!t214) a0_0 a0_1 a0_2 a0_3 a0_4 a0_5 a0_6 a0_7 a0_8 a0_9) = some r := H
      have A14 := Aside0.mk A140
      clear A140
      have H' := Aside0.mk H
      clear H
      have hcz15_0 : w6.cell? ⟨gb209, 0, none⟩ = some (.int .i64 a0_0) := (blk_cell BK209.out 0).trans rfl
      have hcz15_1 : w6.cell? ⟨gb209, 1, none⟩ = some (.int .i64 a0_1) := (blk_cell BK209.out 1).trans rfl
      have hcz15_2 : w6.cell? ⟨gb209, 2, none⟩ = some (.int .i64 a0_2) := (blk_cell BK209.out 2).trans rfl
      have hcz15_3 : w6.cell? ⟨gb209, 3, none⟩ = some (.int .i64 a0_3) := (blk_cell BK209.out 3).trans rfl
      have hcz15_4 : w6.cell? ⟨gb209, 4, none⟩ = some (.int .i64 a0_4) := (blk_cell BK209.out 4).trans rfl
      have hcz15_5 : w6.cell? ⟨gb209, 5, none⟩ = some (.int .i64 a0_5) := (blk_cell BK209.out 5).trans rfl
      have hcz15_6 : w6.cell? ⟨gb209, 6, none⟩ = some (.int .u64 a0_6) := (blk_cell BK209.out 6).trans rfl
      have hcz15_7 : w6.cell? ⟨gb209, 7, none⟩ = some (.int .i64 a0_7) := (blk_cell BK209.out 7).trans rfl
      have hcz15_8 : w6.cell? ⟨gb209, 8, none⟩ = some (.int .i64 a0_8) := (blk_cell BK209.out 8).trans rfl
      have hcz15_9 : w6.cell? ⟨gb209, 9, none⟩ = some (.int .i64 a0_9) := (blk_cell BK209.out 9).trans rfl
      have hfz15_0 := blk_frozen BK209.out 0
      have hfz15_1 := blk_frozen BK209.out 1
      have hfz15_2 := blk_frozen BK209.out 2
      have hfz15_3 := blk_frozen BK209.out 3
      have hfz15_4 := blk_frozen BK209.out 4
      have hfz15_5 := blk_frozen BK209.out 5
      have hfz15_6 := blk_frozen BK209.out 6
      have hfz15_7 := blk_frozen BK209.out 7
      have hfz15_8 := blk_frozen BK209.out 8
      have hfz15_9 := blk_frozen BK209.out 9
      go_wp2_with (first | (go_at_call 61; (with_reducible refine (cleatref04_reg.calls k t210 (⟨#[100]⟩ : ByteArray) a0_1 true _ A8.out).mono ?_); rintro e w16 ⟨rfl, hb⟩; have n0_ := Aside0.mk (blk_below (g := gb209) (o := .cells #[.int .i64 a0_0, .int .i64 a0_1, .int .i64 a0_2, .int .i64 a0_3, .int .i64 a0_4, .int .i64 a0_5, .int .u64 a0_6, .int .i64 a0_7, .int .i64 a0_8, .int .i64 a0_9] 37 (0, 0)) (by (with_reducible repeat (first | refine blk_drewN ?_ _ | refine blk_drew ?_ | refine blk_alloc ?_ _)); exact BK209.out) hb); have n1_ := Aside0.mk (below_step (by repeat (first | (with_reducible first | exact HB.out | apply below_alloc | apply pw_below_drewN | apply below_drew1 | refine below_set ?_ GE209.out) | exact HB.out)) hb); clear BK209; clear HB; have BK209 := n0_; have HB := n1_; clear n0_ n1_; (try clear hb); (try clear hb2); (try clear hk); (try clear hi); obtain ⟨hcz17_0, hcz17_1, hcz17_2, hcz17_3, hcz17_4, hcz17_5, hcz17_6, hcz17_7, hcz17_8, hcz17_9⟩ := cells10_ BK209.out; have hfz17_0 := fun j => blk_frozen BK209.out j) | (go_at_call 61; (with_reducible refine (cleatref04_reg.calls k t210 (⟨#[110]⟩ : ByteArray) a0_2 true _ A10.out).mono ?_); rintro e w18 ⟨rfl, hb⟩; have n0_ := Aside0.mk (blk_below (g := gb209) (o := .cells #[.int .i64 a0_0, .int .i64 a0_1, .int .i64 a0_2, .int .i64 a0_3, .int .i64 a0_4, .int .i64 a0_5, .int .u64 a0_6, .int .i64 a0_7, .int .i64 a0_8, .int .i64 a0_9] 37 (0, 0)) (by (with_reducible repeat (first | refine blk_drewN ?_ _ | refine blk_drew ?_ | refine blk_alloc ?_ _)); exact BK209.out) hb); have n1_ := Aside0.mk (below_step (by repeat (first | (with_reducible first | exact HB.out | apply below_alloc | apply pw_below_drewN | apply below_drew1 | refine below_set ?_ GE209.out) | exact HB.out)) hb); clear BK209; clear HB; have BK209 := n0_; have HB := n1_; clear n0_ n1_; (try clear hb); (try clear hb2); (try clear hk); (try clear hi); obtain ⟨hcz19_0, hcz19_1, hcz19_2, hcz19_3, hcz19_4, hcz19_5, hcz19_6, hcz19_7, hcz19_8, hcz19_9⟩ := cells10_ BK209.out; have hfz19_0 := fun j => blk_frozen BK209.out j) | (go_at_call 61; (with_reducible refine (cleatref04_reg.calls k t210 (⟨#[109]⟩ : ByteArray) a0_3 true _ A12.out).mono ?_); rintro e w20 ⟨rfl, hb⟩; have n0_ := Aside0.mk (blk_below (g := gb209) (o := .cells #[.int .i64 a0_0, .int .i64 a0_1, .int .i64 a0_2, .int .i64 a0_3, .int .i64 a0_4, .int .i64 a0_5, .int .u64 a0_6, .int .i64 a0_7, .int .i64 a0_8, .int .i64 a0_9] 37 (0, 0)) (by (with_reducible repeat (first | refine blk_drewN ?_ _ | refine blk_drew ?_ | refine blk_alloc ?_ _)); exact BK209.out) hb); have n1_ := Aside0.mk (below_step (by repeat (first | (with_reducible first | exact HB.out | apply below_alloc | apply pw_below_drewN | apply below_drew1 | refine below_set ?_ GE209.out) | exact HB.out)) hb); clear BK209; clear HB; have BK209 := n0_; have HB := n1_; clear n0_ n1_; (try clear hb); (try clear hb2); (try clear hk); (try clear hi); obtain ⟨hcz21_0, hcz21_1, hcz21_2, hcz21_3, hcz21_4, hcz21_5, hcz21_6, hcz21_7, hcz21_8, hcz21_9⟩ := cells10_ BK209.out; have hfz21_0 := fun j => blk_frozen BK209.out j) | (go_at_call 61; (with_reducible refine (cleatref04_reg.calls k t210 (⟨#[97]⟩ : ByteArray) a0_4 t214 _ A14.out).mono ?_); rintro e w22 ⟨rfl, hb⟩; have n0_ := Aside0.mk (blk_below (g := gb209) (o := .cells #[.int .i64 a0_0, .int .i64 a0_1, .int .i64 a0_2, .int .i64 a0_3, .int .i64 a0_4, .int .i64 a0_5, .int .u64 a0_6, .int .i64 a0_7, .int .i64 a0_8, .int .i64 a0_9] 37 (0, 0)) (by (with_reducible repeat (first | refine blk_drewN ?_ _ | refine blk_drew ?_ | refine blk_alloc ?_ _)); exact BK209.out) hb); have n1_ := Aside0.mk (below_step (by repeat (first | (with_reducible first | exact HB.out | apply below_alloc | apply pw_below_drewN | apply below_drew1 | refine below_set ?_ GE209.out) | exact HB.out)) hb); clear BK209; clear HB; have BK209 := n0_; have HB := n1_; clear n0_ n1_; (try clear hb); (try clear hb2); (try clear hk); (try clear hi)))
      go_meet
      case rel => exact ⟨_, (!t214), (by first | rfl | (simp; done) | (simp [*]; done)), H', ⟨by first | omega | exact Nat.le_refl _⟩, ⟨by (with_reducible repeat (first | refine blk_drewN ?_ _ | refine blk_drew ?_ | refine blk_alloc ?_ _)); exact BK209.out⟩, ⟨by repeat (first | (with_reducible first | exact HB.out | apply below_alloc | apply pw_below_drewN | apply below_drew1 | refine below_set ?_ GE209.out) | exact HB.out)⟩⟩
     ·
      replace c13 := Bool.eq_false_iff.mpr c13
      subst c13
      have H1 : (cleatref04_Is.j0 k t210 true a0_0 a0_1 a0_2 a0_3 a0_4 a0_5 a0_6 a0_7 a0_8 a0_9) = some r := by rw [if_neg (show ¬ (false = true) by decide)] at H; exact H
      clear H
      have H := H1
      clear H1
      have H' := Aside0.mk H
      clear H
      have hcz23_0 : w6.cell? ⟨gb209, 0, none⟩ = some (.int .i64 a0_0) := (blk_cell BK209.out 0).trans rfl
      have hcz23_1 : w6.cell? ⟨gb209, 1, none⟩ = some (.int .i64 a0_1) := (blk_cell BK209.out 1).trans rfl
      have hcz23_2 : w6.cell? ⟨gb209, 2, none⟩ = some (.int .i64 a0_2) := (blk_cell BK209.out 2).trans rfl
      have hcz23_3 : w6.cell? ⟨gb209, 3, none⟩ = some (.int .i64 a0_3) := (blk_cell BK209.out 3).trans rfl
      have hcz23_4 : w6.cell? ⟨gb209, 4, none⟩ = some (.int .i64 a0_4) := (blk_cell BK209.out 4).trans rfl
      have hcz23_5 : w6.cell? ⟨gb209, 5, none⟩ = some (.int .i64 a0_5) := (blk_cell BK209.out 5).trans rfl
      have hcz23_6 : w6.cell? ⟨gb209, 6, none⟩ = some (.int .u64 a0_6) := (blk_cell BK209.out 6).trans rfl
      have hcz23_7 : w6.cell? ⟨gb209, 7, none⟩ = some (.int .i64 a0_7) := (blk_cell BK209.out 7).trans rfl
      have hcz23_8 : w6.cell? ⟨gb209, 8, none⟩ = some (.int .i64 a0_8) := (blk_cell BK209.out 8).trans rfl
      have hcz23_9 : w6.cell? ⟨gb209, 9, none⟩ = some (.int .i64 a0_9) := (blk_cell BK209.out 9).trans rfl
      have hfz23_0 := blk_frozen BK209.out 0
      have hfz23_1 := blk_frozen BK209.out 1
      have hfz23_2 := blk_frozen BK209.out 2
      have hfz23_3 := blk_frozen BK209.out 3
      have hfz23_4 := blk_frozen BK209.out 4
      have hfz23_5 := blk_frozen BK209.out 5
      have hfz23_6 := blk_frozen BK209.out 6
      have hfz23_7 := blk_frozen BK209.out 7
      have hfz23_8 := blk_frozen BK209.out 8
      have hfz23_9 := blk_frozen BK209.out 9
      go_wp2_with (first | (go_at_call 61; (with_reducible refine (cleatref04_reg.calls k t210 (⟨#[100]⟩ : ByteArray) a0_1 true _ A8.out).mono ?_); rintro e w24 ⟨rfl, hb⟩; have n0_ := Aside0.mk (blk_below (g := gb209) (o := .cells #[.int .i64 a0_0, .int .i64 a0_1, .int .i64 a0_2, .int .i64 a0_3, .int .i64 a0_4, .int .i64 a0_5, .int .u64 a0_6, .int .i64 a0_7, .int .i64 a0_8, .int .i64 a0_9] 37 (0, 0)) (by (with_reducible repeat (first | refine blk_drewN ?_ _ | refine blk_drew ?_ | refine blk_alloc ?_ _)); exact BK209.out) hb); have n1_ := Aside0.mk (below_step (by repeat (first | (with_reducible first | exact HB.out | apply below_alloc | apply pw_below_drewN | apply below_drew1 | refine below_set ?_ GE209.out) | exact HB.out)) hb); clear BK209; clear HB; have BK209 := n0_; have HB := n1_; clear n0_ n1_; (try clear hb); (try clear hb2); (try clear hk); (try clear hi); obtain ⟨hcz25_0, hcz25_1, hcz25_2, hcz25_3, hcz25_4, hcz25_5, hcz25_6, hcz25_7, hcz25_8, hcz25_9⟩ := cells10_ BK209.out; have hfz25_0 := fun j => blk_frozen BK209.out j) | (go_at_call 61; (with_reducible refine (cleatref04_reg.calls k t210 (⟨#[110]⟩ : ByteArray) a0_2 true _ A10.out).mono ?_); rintro e w26 ⟨rfl, hb⟩; have n0_ := Aside0.mk (blk_below (g := gb209) (o := .cells #[.int .i64 a0_0, .int .i64 a0_1, .int .i64 a0_2, .int .i64 a0_3, .int .i64 a0_4, .int .i64 a0_5, .int .u64 a0_6, .int .i64 a0_7, .int .i64 a0_8, .int .i64 a0_9] 37 (0, 0)) (by (with_reducible repeat (first | refine blk_drewN ?_ _ | refine blk_drew ?_ | refine blk_alloc ?_ _)); exact BK209.out) hb); have n1_ := Aside0.mk (below_step (by repeat (first | (with_reducible first | exact HB.out | apply below_alloc | apply pw_below_drewN | apply below_drew1 | refine below_set ?_ GE209.out) | exact HB.out)) hb); clear BK209; clear HB; have BK209 := n0_; have HB := n1_; clear n0_ n1_; (try clear hb); (try clear hb2); (try clear hk); (try clear hi); obtain ⟨hcz27_0, hcz27_1, hcz27_2, hcz27_3, hcz27_4, hcz27_5, hcz27_6, hcz27_7, hcz27_8, hcz27_9⟩ := cells10_ BK209.out; have hfz27_0 := fun j => blk_frozen BK209.out j) | (go_at_call 61; (with_reducible refine (cleatref04_reg.calls k t210 (⟨#[109]⟩ : ByteArray) a0_3 false _ A12.out).mono ?_); rintro e w28 ⟨rfl, hb⟩; have n0_ := Aside0.mk (blk_below (g := gb209) (o := .cells #[.int .i64 a0_0, .int .i64 a0_1, .int .i64 a0_2, .int .i64 a0_3, .int .i64 a0_4, .int .i64 a0_5, .int .u64 a0_6, .int .i64 a0_7, .int .i64 a0_8, .int .i64 a0_9] 37 (0, 0)) (by (with_reducible repeat (first | refine blk_drewN ?_ _ | refine blk_drew ?_ | refine blk_alloc ?_ _)); exact BK209.out) hb); have n1_ := Aside0.mk (below_step (by repeat (first | (with_reducible first | exact HB.out | apply below_alloc | apply pw_below_drewN | apply below_drew1 | refine below_set ?_ GE209.out) | exact HB.out)) hb); clear BK209; clear HB; have BK209 := n0_; have HB := n1_; clear n0_ n1_; (try clear hb); (try clear hb2); (try clear hk); (try clear hi)))
      go_meet
      case rel => exact ⟨_, (true), (by first | rfl | (simp; done) | (simp [*]; done)), H', ⟨by first | omega | exact Nat.le_refl _⟩, ⟨by (with_reducible repeat (first | refine blk_drewN ?_ _ | refine blk_drew ?_ | refine blk_alloc ?_ _)); exact BK209.out⟩, ⟨by repeat (first | (with_reducible first | exact HB.out | apply below_alloc | apply pw_below_drewN | apply below_drew1 | refine below_set ?_ GE209.out) | exact HB.out)⟩⟩
    ·
     replace c11 := Bool.eq_false_iff.mpr c11
     subst c11
     have H1 : (cleatref04_Is.j0 k t210 true a0_0 a0_1 a0_2 a0_3 a0_4 a0_5 a0_6 a0_7 a0_8 a0_9) = some r := by rw [if_neg (show ¬ (false = true) by decide)] at H; exact H
     clear H
     have H := H1
     clear H1
     have H' := Aside0.mk H
     clear H
     have hcz29_0 : w6.cell? ⟨gb209, 0, none⟩ = some (.int .i64 a0_0) := (blk_cell BK209.out 0).trans rfl
     have hcz29_1 : w6.cell? ⟨gb209, 1, none⟩ = some (.int .i64 a0_1) := (blk_cell BK209.out 1).trans rfl
     have hcz29_2 : w6.cell? ⟨gb209, 2, none⟩ = some (.int .i64 a0_2) := (blk_cell BK209.out 2).trans rfl
     have hcz29_3 : w6.cell? ⟨gb209, 3, none⟩ = some (.int .i64 a0_3) := (blk_cell BK209.out 3).trans rfl
     have hcz29_4 : w6.cell? ⟨gb209, 4, none⟩ = some (.int .i64 a0_4) := (blk_cell BK209.out 4).trans rfl
     have hcz29_5 : w6.cell? ⟨gb209, 5, none⟩ = some (.int .i64 a0_5) := (blk_cell BK209.out 5).trans rfl
     have hcz29_6 : w6.cell? ⟨gb209, 6, none⟩ = some (.int .u64 a0_6) := (blk_cell BK209.out 6).trans rfl
     have hcz29_7 : w6.cell? ⟨gb209, 7, none⟩ = some (.int .i64 a0_7) := (blk_cell BK209.out 7).trans rfl
     have hcz29_8 : w6.cell? ⟨gb209, 8, none⟩ = some (.int .i64 a0_8) := (blk_cell BK209.out 8).trans rfl
     have hcz29_9 : w6.cell? ⟨gb209, 9, none⟩ = some (.int .i64 a0_9) := (blk_cell BK209.out 9).trans rfl
     have hfz29_0 := blk_frozen BK209.out 0
     have hfz29_1 := blk_frozen BK209.out 1
     have hfz29_2 := blk_frozen BK209.out 2
     have hfz29_3 := blk_frozen BK209.out 3
     have hfz29_4 := blk_frozen BK209.out 4
     have hfz29_5 := blk_frozen BK209.out 5
     have hfz29_6 := blk_frozen BK209.out 6
     have hfz29_7 := blk_frozen BK209.out 7
     have hfz29_8 := blk_frozen BK209.out 8
     have hfz29_9 := blk_frozen BK209.out 9
     go_wp2_with (first | (go_at_call 61; (with_reducible refine (cleatref04_reg.calls k t210 (⟨#[100]⟩ : ByteArray) a0_1 true _ A8.out).mono ?_); rintro e w30 ⟨rfl, hb⟩; have n0_ := Aside0.mk (blk_below (g := gb209) (o := .cells #[.int .i64 a0_0, .int .i64 a0_1, .int .i64 a0_2, .int .i64 a0_3, .int .i64 a0_4, .int .i64 a0_5, .int .u64 a0_6, .int .i64 a0_7, .int .i64 a0_8, .int .i64 a0_9] 37 (0, 0)) (by (with_reducible repeat (first | refine blk_drewN ?_ _ | refine blk_drew ?_ | refine blk_alloc ?_ _)); exact BK209.out) hb); have n1_ := Aside0.mk (below_step (by repeat (first | (with_reducible first | exact HB.out | apply below_alloc | apply pw_below_drewN | apply below_drew1 | refine below_set ?_ GE209.out) | exact HB.out)) hb); clear BK209; clear HB; have BK209 := n0_; have HB := n1_; clear n0_ n1_; (try clear hb); (try clear hb2); (try clear hk); (try clear hi); obtain ⟨hcz31_0, hcz31_1, hcz31_2, hcz31_3, hcz31_4, hcz31_5, hcz31_6, hcz31_7, hcz31_8, hcz31_9⟩ := cells10_ BK209.out; have hfz31_0 := fun j => blk_frozen BK209.out j) | (go_at_call 61; (with_reducible refine (cleatref04_reg.calls k t210 (⟨#[110]⟩ : ByteArray) a0_2 false _ A10.out).mono ?_); rintro e w32 ⟨rfl, hb⟩; have n0_ := Aside0.mk (blk_below (g := gb209) (o := .cells #[.int .i64 a0_0, .int .i64 a0_1, .int .i64 a0_2, .int .i64 a0_3, .int .i64 a0_4, .int .i64 a0_5, .int .u64 a0_6, .int .i64 a0_7, .int .i64 a0_8, .int .i64 a0_9] 37 (0, 0)) (by (with_reducible repeat (first | refine blk_drewN ?_ _ | refine blk_drew ?_ | refine blk_alloc ?_ _)); exact BK209.out) hb); have n1_ := Aside0.mk (below_step (by repeat (first | (with_reducible first | exact HB.out | apply below_alloc | apply pw_below_drewN | apply below_drew1 | refine below_set ?_ GE209.out) | exact HB.out)) hb); clear BK209; clear HB; have BK209 := n0_; have HB := n1_; clear n0_ n1_; (try clear hb); (try clear hb2); (try clear hk); (try clear hi)))
     go_meet
     case rel => exact ⟨_, (true), (by first | rfl | (simp; done) | (simp [*]; done)), H', ⟨by first | omega | exact Nat.le_refl _⟩, ⟨by (with_reducible repeat (first | refine blk_drewN ?_ _ | refine blk_drew ?_ | refine blk_alloc ?_ _)); exact BK209.out⟩, ⟨by repeat (first | (with_reducible first | exact HB.out | apply below_alloc | apply pw_below_drewN | apply below_drew1 | refine below_set ?_ GE209.out) | exact HB.out)⟩⟩
   ·
    replace c9 := Bool.eq_false_iff.mpr c9
    subst c9
    have H1 : (cleatref04_Is.j0 k t210 true a0_0 a0_1 a0_2 a0_3 a0_4 a0_5 a0_6 a0_7 a0_8 a0_9) = some r := by rw [if_neg (show ¬ (false = true) by decide)] at H; exact H
    clear H
    have H := H1
    clear H1
    have H' := Aside0.mk H
    clear H
    have hcz33_0 : w6.cell? ⟨gb209, 0, none⟩ = some (.int .i64 a0_0) := (blk_cell BK209.out 0).trans rfl
    have hcz33_1 : w6.cell? ⟨gb209, 1, none⟩ = some (.int .i64 a0_1) := (blk_cell BK209.out 1).trans rfl
    have hcz33_2 : w6.cell? ⟨gb209, 2, none⟩ = some (.int .i64 a0_2) := (blk_cell BK209.out 2).trans rfl
    have hcz33_3 : w6.cell? ⟨gb209, 3, none⟩ = some (.int .i64 a0_3) := (blk_cell BK209.out 3).trans rfl
    have hcz33_4 : w6.cell? ⟨gb209, 4, none⟩ = some (.int .i64 a0_4) := (blk_cell BK209.out 4).trans rfl
    have hcz33_5 : w6.cell? ⟨gb209, 5, none⟩ = some (.int .i64 a0_5) := (blk_cell BK209.out 5).trans rfl
    have hcz33_6 : w6.cell? ⟨gb209, 6, none⟩ = some (.int .u64 a0_6) := (blk_cell BK209.out 6).trans rfl
    have hcz33_7 : w6.cell? ⟨gb209, 7, none⟩ = some (.int .i64 a0_7) := (blk_cell BK209.out 7).trans rfl
    have hcz33_8 : w6.cell? ⟨gb209, 8, none⟩ = some (.int .i64 a0_8) := (blk_cell BK209.out 8).trans rfl
    have hcz33_9 : w6.cell? ⟨gb209, 9, none⟩ = some (.int .i64 a0_9) := (blk_cell BK209.out 9).trans rfl
    have hfz33_0 := blk_frozen BK209.out 0
    have hfz33_1 := blk_frozen BK209.out 1
    have hfz33_2 := blk_frozen BK209.out 2
    have hfz33_3 := blk_frozen BK209.out 3
    have hfz33_4 := blk_frozen BK209.out 4
    have hfz33_5 := blk_frozen BK209.out 5
    have hfz33_6 := blk_frozen BK209.out 6
    have hfz33_7 := blk_frozen BK209.out 7
    have hfz33_8 := blk_frozen BK209.out 8
    have hfz33_9 := blk_frozen BK209.out 9
    go_wp2_with (first | (go_at_call 61; (with_reducible refine (cleatref04_reg.calls k t210 (⟨#[100]⟩ : ByteArray) a0_1 false _ A8.out).mono ?_); rintro e w34 ⟨rfl, hb⟩; have n0_ := Aside0.mk (blk_below (g := gb209) (o := .cells #[.int .i64 a0_0, .int .i64 a0_1, .int .i64 a0_2, .int .i64 a0_3, .int .i64 a0_4, .int .i64 a0_5, .int .u64 a0_6, .int .i64 a0_7, .int .i64 a0_8, .int .i64 a0_9] 37 (0, 0)) (by (with_reducible repeat (first | refine blk_drewN ?_ _ | refine blk_drew ?_ | refine blk_alloc ?_ _)); exact BK209.out) hb); have n1_ := Aside0.mk (below_step (by repeat (first | (with_reducible first | exact HB.out | apply below_alloc | apply pw_below_drewN | apply below_drew1 | refine below_set ?_ GE209.out) | exact HB.out)) hb); clear BK209; clear HB; have BK209 := n0_; have HB := n1_; clear n0_ n1_; (try clear hb); (try clear hb2); (try clear hk); (try clear hi)))
    go_meet
    case rel => exact ⟨_, (true), (by first | rfl | (simp; done) | (simp [*]; done)), H', ⟨by first | omega | exact Nat.le_refl _⟩, ⟨by (with_reducible repeat (first | refine blk_drewN ?_ _ | refine blk_drew ?_ | refine blk_alloc ?_ _)); exact BK209.out⟩, ⟨by repeat (first | (with_reducible first | exact HB.out | apply below_alloc | apply pw_below_drewN | apply below_drew1 | refine below_set ?_ GE209.out) | exact HB.out)⟩⟩
 case rest =>
  clear HC3
  try clear c1
  try clear p2
  try clear c3
  try clear c4
  try clear c7
  try clear c7b0
  try clear c7b1
  try clear c9
  try clear c11
  try clear c13
  try clear c31
  try clear hcz15_0 hcz15_1 hcz15_2 hcz15_3 hcz15_4 hcz15_5 hcz15_6 hcz15_7 hcz15_8 hcz15_9
  try clear hcz17_0 hcz17_1 hcz17_2 hcz17_3 hcz17_4 hcz17_5 hcz17_6 hcz17_7 hcz17_8 hcz17_9
  try clear hcz19_0 hcz19_1 hcz19_2 hcz19_3 hcz19_4 hcz19_5 hcz19_6 hcz19_7 hcz19_8 hcz19_9
  try clear hcz21_0 hcz21_1 hcz21_2 hcz21_3 hcz21_4 hcz21_5 hcz21_6 hcz21_7 hcz21_8 hcz21_9
  try clear hcz23_0 hcz23_1 hcz23_2 hcz23_3 hcz23_4 hcz23_5 hcz23_6 hcz23_7 hcz23_8 hcz23_9
  try clear hcz25_0 hcz25_1 hcz25_2 hcz25_3 hcz25_4 hcz25_5 hcz25_6 hcz25_7 hcz25_8 hcz25_9
  try clear hcz27_0 hcz27_1 hcz27_2 hcz27_3 hcz27_4 hcz27_5 hcz27_6 hcz27_7 hcz27_8 hcz27_9
  try clear hcz29_0 hcz29_1 hcz29_2 hcz29_3 hcz29_4 hcz29_5 hcz29_6 hcz29_7 hcz29_8 hcz29_9
  try clear hcz31_0 hcz31_1 hcz31_2 hcz31_3 hcz31_4 hcz31_5 hcz31_6 hcz31_7 hcz31_8 hcz31_9
  try clear hcz33_0 hcz33_1 hcz33_2 hcz33_3 hcz33_4 hcz33_5 hcz33_6 hcz33_7 hcz33_8 hcz33_9
  try clear hcz5_0 hcz5_1 hcz5_2 hcz5_3 hcz5_4 hcz5_5 hcz5_6 hcz5_7 hcz5_8 hcz5_9
  try clear hfz15_0
  try clear hfz17_0
  try clear hfz19_0
  try clear hfz21_0
  try clear hfz23_0
  try clear hfz25_0
  try clear hfz27_0
  try clear hfz29_0
  try clear hfz31_0
  try clear hfz33_0
  try clear hfz5_0
  obtain ⟨kq, x39_2, rfl, HA, HJ2, BK209, HB⟩ := hcut
  cases kq with
  | zero => exact absurd HA.out (by simp [cleatref04_Is.j0])
  | succ kj2 =>
   have H := HA.out
   clear HA
   simp only [cleatref04_Is.j0] at H
   by_cases c35 : x39_2 = true
   ·
    subst c35
    have H1 : (some false) = some r := by rw [if_pos rfl] at H; exact H
    clear H
    have H := H1
    clear H1
    obtain rfl := Option.some.inj H
    go_wp2
    go_ret
    exact ⟨by first | rfl | (simp [errW_none, errW_some] <;> rfl) | (simp [*, errW_none, errW_some] <;> rfl), by repeat (first | (with_reducible first | exact HB.out | apply below_alloc | apply pw_below_drewN | apply below_drew1 | refine below_set ?_ GE209.out) | exact HB.out)⟩
   ·
    replace c35 := Bool.eq_false_iff.mpr c35
    subst c35
    have H1 : (if a0_7 = 0 then (cleatref04_Is.j1 kj2 t210 true a0_0 a0_1 a0_2 a0_3 a0_4 a0_5 a0_6 a0_7 a0_8 a0_9) else (if t210 = 4 then (if a0_7 ≥ 0 then (if a0_7 ≤ 2 then (cleatref04_Is.j1 kj2 t210 true a0_0 a0_1 a0_2 a0_3 a0_4 a0_5 a0_6 a0_7 a0_8 a0_9) else (if t210 = 5 then (cleatref04_Is.j1 kj2 t210 (decide (a0_7 ≤ 3)) a0_0 a0_1 a0_2 a0_3 a0_4 a0_5 a0_6 a0_7 a0_8 a0_9) else (cleatref04_Is.j1 kj2 t210 false a0_0 a0_1 a0_2 a0_3 a0_4 a0_5 a0_6 a0_7 a0_8 a0_9))) else (if t210 = 5 then (cleatref04_Is.j1 kj2 t210 false a0_0 a0_1 a0_2 a0_3 a0_4 a0_5 a0_6 a0_7 a0_8 a0_9) else (cleatref04_Is.j1 kj2 t210 false a0_0 a0_1 a0_2 a0_3 a0_4 a0_5 a0_6 a0_7 a0_8 a0_9))) else (if t210 = 5 then (if a0_7 ≥ 0 then (cleatref04_Is.j1 kj2 t210 (decide (a0_7 ≤ 3)) a0_0 a0_1 a0_2 a0_3 a0_4 a0_5 a0_6 a0_7 a0_8 a0_9) else (cleatref04_Is.j1 kj2 t210 false a0_0 a0_1 a0_2 a0_3 a0_4 a0_5 a0_6 a0_7 a0_8 a0_9)) else (cleatref04_Is.j1 kj2 t210 false a0_0 a0_1 a0_2 a0_3 a0_4 a0_5 a0_6 a0_7 a0_8 a0_9)))) = some r := by rw [if_neg (show ¬ (false = true) by decide)] at H; exact H
    clear H
    have H := H1
    clear H1
    have HC36 := Aside0.mk H
    clear H
    go_upto_region 4 with (fail)
    go_cut [4] (fun v4 wc => ∃ (kq : Nat) (x4_35 : Bool), v4 = .bool x4_35 ∧ Aside0 (cleatref04_Is.j1 kq t210 x4_35 a0_0 a0_1 a0_2 a0_3 a0_4 a0_5 a0_6 a0_7 a0_8 a0_9 = some r) ∧ Aside0 (kq ≤ kj2) ∧ Aside0 (wc.heap[gb209]? = some (.cells #[.int .i64 a0_0, .int .i64 a0_1, .int .i64 a0_2, .int .i64 a0_3, .int .i64 a0_4, .int .i64 a0_5, .int .u64 a0_6, .int .i64 a0_7, .int .i64 a0_8, .int .i64 a0_9] 37 (0, 0))) ∧ Aside0 (Below w.heap.size w wc))
    case first =>
     have H := HC36.out
     clear HC36
     by_cases c37 : a0_7 = 0
     ·
      rw [if_pos c37] at H
      have c37b0 : (a0_7 == 0) = true := beq_iff_eq.mpr c37
      have c37b1 : (a0_7 != 0) = false := bne_eq_false_iff_eq.mpr c37
      clear c37
      (first | rw [c37b0] | (simp only [i64_w, i32_w]; rw [c37b0]) | skip)
      have H' := Aside0.mk H
      clear H
      have hcz38_0 : wc.cell? ⟨gb209, 0, none⟩ = some (.int .i64 a0_0) := (blk_cell BK209.out 0).trans rfl
      have hcz38_1 : wc.cell? ⟨gb209, 1, none⟩ = some (.int .i64 a0_1) := (blk_cell BK209.out 1).trans rfl
      have hcz38_2 : wc.cell? ⟨gb209, 2, none⟩ = some (.int .i64 a0_2) := (blk_cell BK209.out 2).trans rfl
      have hcz38_3 : wc.cell? ⟨gb209, 3, none⟩ = some (.int .i64 a0_3) := (blk_cell BK209.out 3).trans rfl
      have hcz38_4 : wc.cell? ⟨gb209, 4, none⟩ = some (.int .i64 a0_4) := (blk_cell BK209.out 4).trans rfl
      have hcz38_5 : wc.cell? ⟨gb209, 5, none⟩ = some (.int .i64 a0_5) := (blk_cell BK209.out 5).trans rfl
      have hcz38_6 : wc.cell? ⟨gb209, 6, none⟩ = some (.int .u64 a0_6) := (blk_cell BK209.out 6).trans rfl
      have hcz38_7 : wc.cell? ⟨gb209, 7, none⟩ = some (.int .i64 a0_7) := (blk_cell BK209.out 7).trans rfl
      have hcz38_8 : wc.cell? ⟨gb209, 8, none⟩ = some (.int .i64 a0_8) := (blk_cell BK209.out 8).trans rfl
      have hcz38_9 : wc.cell? ⟨gb209, 9, none⟩ = some (.int .i64 a0_9) := (blk_cell BK209.out 9).trans rfl
      have hfz38_0 := blk_frozen BK209.out 0
      have hfz38_1 := blk_frozen BK209.out 1
      have hfz38_2 := blk_frozen BK209.out 2
      have hfz38_3 := blk_frozen BK209.out 3
      have hfz38_4 := blk_frozen BK209.out 4
      have hfz38_5 := blk_frozen BK209.out 5
      have hfz38_6 := blk_frozen BK209.out 6
      have hfz38_7 := blk_frozen BK209.out 7
      have hfz38_8 := blk_frozen BK209.out 8
      have hfz38_9 := blk_frozen BK209.out 9
      go_wp2
      go_meet
      case rel => exact ⟨_, (true), (by first | rfl | (simp; done) | (simp [*]; done)), H', ⟨by have := HJ2.out; first | omega | exact Nat.le_refl _⟩, ⟨by (with_reducible repeat (first | refine blk_drewN ?_ _ | refine blk_drew ?_ | refine blk_alloc ?_ _)); exact BK209.out⟩, ⟨by repeat (first | (with_reducible first | exact HB.out | apply below_alloc | apply pw_below_drewN | apply below_drew1 | refine below_set ?_ GE209.out) | exact HB.out)⟩⟩
     ·
      rw [if_neg c37] at H
      have c37b0 : (a0_7 == 0) = false := beq_eq_false_iff_ne.mpr c37
      have c37b1 : (a0_7 != 0) = true := bne_iff_ne.mpr c37
      (first | rw [c37b0] | (simp only [i64_w, i32_w]; rw [c37b0]) | skip)
      by_cases c39 : t210 = 4
      ·
       rw [if_pos c39] at H
       have c39b0 : (t210 == 4) = true := beq_iff_eq.mpr c39
       have c39b1 : (t210 != 4) = false := bne_eq_false_iff_eq.mpr c39
       clear c39
       by_cases c40 : a0_7 ≥ 0
       ·
        rw [if_pos c40] at H
        have c40b0 : decide (0 ≤ a0_7) = true := decide_eq_true c40
        clear c40
        by_cases c41 : a0_7 ≤ 2
        ·
         rw [if_pos c41] at H
         have c41b0 : decide (a0_7 ≤ 2) = true := decide_eq_true c41
         clear c41
         have H' := Aside0.mk H
         clear H
         have hcz42_0 : wc.cell? ⟨gb209, 0, none⟩ = some (.int .i64 a0_0) := (blk_cell BK209.out 0).trans rfl
         have hcz42_1 : wc.cell? ⟨gb209, 1, none⟩ = some (.int .i64 a0_1) := (blk_cell BK209.out 1).trans rfl
         have hcz42_2 : wc.cell? ⟨gb209, 2, none⟩ = some (.int .i64 a0_2) := (blk_cell BK209.out 2).trans rfl
         have hcz42_3 : wc.cell? ⟨gb209, 3, none⟩ = some (.int .i64 a0_3) := (blk_cell BK209.out 3).trans rfl
         have hcz42_4 : wc.cell? ⟨gb209, 4, none⟩ = some (.int .i64 a0_4) := (blk_cell BK209.out 4).trans rfl
         have hcz42_5 : wc.cell? ⟨gb209, 5, none⟩ = some (.int .i64 a0_5) := (blk_cell BK209.out 5).trans rfl
         have hcz42_6 : wc.cell? ⟨gb209, 6, none⟩ = some (.int .u64 a0_6) := (blk_cell BK209.out 6).trans rfl
         have hcz42_7 : wc.cell? ⟨gb209, 7, none⟩ = some (.int .i64 a0_7) := (blk_cell BK209.out 7).trans rfl
         have hcz42_8 : wc.cell? ⟨gb209, 8, none⟩ = some (.int .i64 a0_8) := (blk_cell BK209.out 8).trans rfl
         have hcz42_9 : wc.cell? ⟨gb209, 9, none⟩ = some (.int .i64 a0_9) := (blk_cell BK209.out 9).trans rfl
         have hfz42_0 := blk_frozen BK209.out 0
         have hfz42_1 := blk_frozen BK209.out 1
         have hfz42_2 := blk_frozen BK209.out 2
         have hfz42_3 := blk_frozen BK209.out 3
         have hfz42_4 := blk_frozen BK209.out 4
         have hfz42_5 := blk_frozen BK209.out 5
         have hfz42_6 := blk_frozen BK209.out 6
         have hfz42_7 := blk_frozen BK209.out 7
         have hfz42_8 := blk_frozen BK209.out 8
         have hfz42_9 := blk_frozen BK209.out 9
         go_wp2
         go_meet
         case rel => exact ⟨_, (true), (by first | rfl | (simp; done) | (simp [*]; done)), H', ⟨by have := HJ2.out; first | omega | exact Nat.le_refl _⟩, ⟨by (with_reducible repeat (first | refine blk_drewN ?_ _ | refine blk_drew ?_ | refine blk_alloc ?_ _)); exact BK209.out⟩, ⟨by repeat (first | (with_reducible first | exact HB.out | apply below_alloc | apply pw_below_drewN | apply below_drew1 | refine below_set ?_ GE209.out) | exact HB.out)⟩⟩
        ·
         rw [if_neg c41] at H
         have c41b0 : decide (a0_7 ≤ 2) = false := decide_eq_false c41
         clear c41
         by_cases c43 : t210 = 5
         ·
          rw [if_pos c43] at H
          have c43b0 : (t210 == 5) = true := beq_iff_eq.mpr c43
          have c43b1 : (t210 != 5) = false := bne_eq_false_iff_eq.mpr c43
          clear c43
          have H' := Aside0.mk H
          clear H
          have hcz44_0 : wc.cell? ⟨gb209, 0, none⟩ = some (.int .i64 a0_0) := (blk_cell BK209.out 0).trans rfl
          have hcz44_1 : wc.cell? ⟨gb209, 1, none⟩ = some (.int .i64 a0_1) := (blk_cell BK209.out 1).trans rfl
          have hcz44_2 : wc.cell? ⟨gb209, 2, none⟩ = some (.int .i64 a0_2) := (blk_cell BK209.out 2).trans rfl
          have hcz44_3 : wc.cell? ⟨gb209, 3, none⟩ = some (.int .i64 a0_3) := (blk_cell BK209.out 3).trans rfl
          have hcz44_4 : wc.cell? ⟨gb209, 4, none⟩ = some (.int .i64 a0_4) := (blk_cell BK209.out 4).trans rfl
          have hcz44_5 : wc.cell? ⟨gb209, 5, none⟩ = some (.int .i64 a0_5) := (blk_cell BK209.out 5).trans rfl
          have hcz44_6 : wc.cell? ⟨gb209, 6, none⟩ = some (.int .u64 a0_6) := (blk_cell BK209.out 6).trans rfl
          have hcz44_7 : wc.cell? ⟨gb209, 7, none⟩ = some (.int .i64 a0_7) := (blk_cell BK209.out 7).trans rfl
          have hcz44_8 : wc.cell? ⟨gb209, 8, none⟩ = some (.int .i64 a0_8) := (blk_cell BK209.out 8).trans rfl
          have hcz44_9 : wc.cell? ⟨gb209, 9, none⟩ = some (.int .i64 a0_9) := (blk_cell BK209.out 9).trans rfl
          have hfz44_0 := blk_frozen BK209.out 0
          have hfz44_1 := blk_frozen BK209.out 1
          have hfz44_2 := blk_frozen BK209.out 2
          have hfz44_3 := blk_frozen BK209.out 3
          have hfz44_4 := blk_frozen BK209.out 4
          have hfz44_5 := blk_frozen BK209.out 5
          have hfz44_6 := blk_frozen BK209.out 6
          have hfz44_7 := blk_frozen BK209.out 7
          have hfz44_8 := blk_frozen BK209.out 8
          have hfz44_9 := blk_frozen BK209.out 9
          go_wp2
          go_meet
          case rel => exact ⟨_, (decide (a0_7 ≤ 3)), (by first | rfl | (simp; done) | (simp [*]; done)), H', ⟨by have := HJ2.out; first | omega | exact Nat.le_refl _⟩, ⟨by (with_reducible repeat (first | refine blk_drewN ?_ _ | refine blk_drew ?_ | refine blk_alloc ?_ _)); exact BK209.out⟩, ⟨by repeat (first | (with_reducible first | exact HB.out | apply below_alloc | apply pw_below_drewN | apply below_drew1 | refine below_set ?_ GE209.out) | exact HB.out)⟩⟩
         ·
          rw [if_neg c43] at H
          have c43b0 : (t210 == 5) = false := beq_eq_false_iff_ne.mpr c43
          have c43b1 : (t210 != 5) = true := bne_iff_ne.mpr c43
          have H' := Aside0.mk H
          clear H
          have hcz45_0 : wc.cell? ⟨gb209, 0, none⟩ = some (.int .i64 a0_0) := (blk_cell BK209.out 0).trans rfl
          have hcz45_1 : wc.cell? ⟨gb209, 1, none⟩ = some (.int .i64 a0_1) := (blk_cell BK209.out 1).trans rfl
          have hcz45_2 : wc.cell? ⟨gb209, 2, none⟩ = some (.int .i64 a0_2) := (blk_cell BK209.out 2).trans rfl
          have hcz45_3 : wc.cell? ⟨gb209, 3, none⟩ = some (.int .i64 a0_3) := (blk_cell BK209.out 3).trans rfl
          have hcz45_4 : wc.cell? ⟨gb209, 4, none⟩ = some (.int .i64 a0_4) := (blk_cell BK209.out 4).trans rfl
          have hcz45_5 : wc.cell? ⟨gb209, 5, none⟩ = some (.int .i64 a0_5) := (blk_cell BK209.out 5).trans rfl
          have hcz45_6 : wc.cell? ⟨gb209, 6, none⟩ = some (.int .u64 a0_6) := (blk_cell BK209.out 6).trans rfl
          have hcz45_7 : wc.cell? ⟨gb209, 7, none⟩ = some (.int .i64 a0_7) := (blk_cell BK209.out 7).trans rfl
          have hcz45_8 : wc.cell? ⟨gb209, 8, none⟩ = some (.int .i64 a0_8) := (blk_cell BK209.out 8).trans rfl
          have hcz45_9 : wc.cell? ⟨gb209, 9, none⟩ = some (.int .i64 a0_9) := (blk_cell BK209.out 9).trans rfl
          have hfz45_0 := blk_frozen BK209.out 0
          have hfz45_1 := blk_frozen BK209.out 1
          have hfz45_2 := blk_frozen BK209.out 2
          have hfz45_3 := blk_frozen BK209.out 3
          have hfz45_4 := blk_frozen BK209.out 4
          have hfz45_5 := blk_frozen BK209.out 5
          have hfz45_6 := blk_frozen BK209.out 6
          have hfz45_7 := blk_frozen BK209.out 7
          have hfz45_8 := blk_frozen BK209.out 8
          have hfz45_9 := blk_frozen BK209.out 9
          go_wp2
          go_meet
          case rel => exact ⟨_, (false), (by first | rfl | (simp; done) | (simp [*]; done)), H', ⟨by have := HJ2.out; first | omega | exact Nat.le_refl _⟩, ⟨by (with_reducible repeat (first | refine blk_drewN ?_ _ | refine blk_drew ?_ | refine blk_alloc ?_ _)); exact BK209.out⟩, ⟨by repeat (first | (with_reducible first | exact HB.out | apply below_alloc | apply pw_below_drewN | apply below_drew1 | refine below_set ?_ GE209.out) | exact HB.out)⟩⟩
       ·
        rw [if_neg c40] at H
        have c40b0 : decide (0 ≤ a0_7) = false := decide_eq_false c40
        clear c40
        by_cases c46 : t210 = 5
        ·
         rw [if_pos c46] at H
         have c46b0 : (t210 == 5) = true := beq_iff_eq.mpr c46
         have c46b1 : (t210 != 5) = false := bne_eq_false_iff_eq.mpr c46
         clear c46
         have H' := Aside0.mk H
         clear H
         have hcz47_0 : wc.cell? ⟨gb209, 0, none⟩ = some (.int .i64 a0_0) := (blk_cell BK209.out 0).trans rfl
         have hcz47_1 : wc.cell? ⟨gb209, 1, none⟩ = some (.int .i64 a0_1) := (blk_cell BK209.out 1).trans rfl
         have hcz47_2 : wc.cell? ⟨gb209, 2, none⟩ = some (.int .i64 a0_2) := (blk_cell BK209.out 2).trans rfl
         have hcz47_3 : wc.cell? ⟨gb209, 3, none⟩ = some (.int .i64 a0_3) := (blk_cell BK209.out 3).trans rfl
         have hcz47_4 : wc.cell? ⟨gb209, 4, none⟩ = some (.int .i64 a0_4) := (blk_cell BK209.out 4).trans rfl
         have hcz47_5 : wc.cell? ⟨gb209, 5, none⟩ = some (.int .i64 a0_5) := (blk_cell BK209.out 5).trans rfl
         have hcz47_6 : wc.cell? ⟨gb209, 6, none⟩ = some (.int .u64 a0_6) := (blk_cell BK209.out 6).trans rfl
         have hcz47_7 : wc.cell? ⟨gb209, 7, none⟩ = some (.int .i64 a0_7) := (blk_cell BK209.out 7).trans rfl
         have hcz47_8 : wc.cell? ⟨gb209, 8, none⟩ = some (.int .i64 a0_8) := (blk_cell BK209.out 8).trans rfl
         have hcz47_9 : wc.cell? ⟨gb209, 9, none⟩ = some (.int .i64 a0_9) := (blk_cell BK209.out 9).trans rfl
         have hfz47_0 := blk_frozen BK209.out 0
         have hfz47_1 := blk_frozen BK209.out 1
         have hfz47_2 := blk_frozen BK209.out 2
         have hfz47_3 := blk_frozen BK209.out 3
         have hfz47_4 := blk_frozen BK209.out 4
         have hfz47_5 := blk_frozen BK209.out 5
         have hfz47_6 := blk_frozen BK209.out 6
         have hfz47_7 := blk_frozen BK209.out 7
         have hfz47_8 := blk_frozen BK209.out 8
         have hfz47_9 := blk_frozen BK209.out 9
         go_wp2
         go_meet
         case rel => exact ⟨_, (false), (by first | rfl | (simp; done) | (simp [*]; done)), H', ⟨by have := HJ2.out; first | omega | exact Nat.le_refl _⟩, ⟨by (with_reducible repeat (first | refine blk_drewN ?_ _ | refine blk_drew ?_ | refine blk_alloc ?_ _)); exact BK209.out⟩, ⟨by repeat (first | (with_reducible first | exact HB.out | apply below_alloc | apply pw_below_drewN | apply below_drew1 | refine below_set ?_ GE209.out) | exact HB.out)⟩⟩
        ·
         rw [if_neg c46] at H
         have c46b0 : (t210 == 5) = false := beq_eq_false_iff_ne.mpr c46
         have c46b1 : (t210 != 5) = true := bne_iff_ne.mpr c46
         have H' := Aside0.mk H
         clear H
         have hcz48_0 : wc.cell? ⟨gb209, 0, none⟩ = some (.int .i64 a0_0) := (blk_cell BK209.out 0).trans rfl
         have hcz48_1 : wc.cell? ⟨gb209, 1, none⟩ = some (.int .i64 a0_1) := (blk_cell BK209.out 1).trans rfl
         have hcz48_2 : wc.cell? ⟨gb209, 2, none⟩ = some (.int .i64 a0_2) := (blk_cell BK209.out 2).trans rfl
         have hcz48_3 : wc.cell? ⟨gb209, 3, none⟩ = some (.int .i64 a0_3) := (blk_cell BK209.out 3).trans rfl
         have hcz48_4 : wc.cell? ⟨gb209, 4, none⟩ = some (.int .i64 a0_4) := (blk_cell BK209.out 4).trans rfl
         have hcz48_5 : wc.cell? ⟨gb209, 5, none⟩ = some (.int .i64 a0_5) := (blk_cell BK209.out 5).trans rfl
         have hcz48_6 : wc.cell? ⟨gb209, 6, none⟩ = some (.int .u64 a0_6) := (blk_cell BK209.out 6).trans rfl
         have hcz48_7 : wc.cell? ⟨gb209, 7, none⟩ = some (.int .i64 a0_7) := (blk_cell BK209.out 7).trans rfl
         have hcz48_8 : wc.cell? ⟨gb209, 8, none⟩ = some (.int .i64 a0_8) := (blk_cell BK209.out 8).trans rfl
         have hcz48_9 : wc.cell? ⟨gb209, 9, none⟩ = some (.int .i64 a0_9) := (blk_cell BK209.out 9).trans rfl
         have hfz48_0 := blk_frozen BK209.out 0
         have hfz48_1 := blk_frozen BK209.out 1
         have hfz48_2 := blk_frozen BK209.out 2
         have hfz48_3 := blk_frozen BK209.out 3
         have hfz48_4 := blk_frozen BK209.out 4
         have hfz48_5 := blk_frozen BK209.out 5
         have hfz48_6 := blk_frozen BK209.out 6
         have hfz48_7 := blk_frozen BK209.out 7
         have hfz48_8 := blk_frozen BK209.out 8
         have hfz48_9 := blk_frozen BK209.out 9
         go_wp2
         go_meet
         case rel => exact ⟨_, (false), (by first | rfl | (simp; done) | (simp [*]; done)), H', ⟨by have := HJ2.out; first | omega | exact Nat.le_refl _⟩, ⟨by (with_reducible repeat (first | refine blk_drewN ?_ _ | refine blk_drew ?_ | refine blk_alloc ?_ _)); exact BK209.out⟩, ⟨by repeat (first | (with_reducible first | exact HB.out | apply below_alloc | apply pw_below_drewN | apply below_drew1 | refine below_set ?_ GE209.out) | exact HB.out)⟩⟩
      ·
       rw [if_neg c39] at H
       have c39b0 : (t210 == 4) = false := beq_eq_false_iff_ne.mpr c39
       have c39b1 : (t210 != 4) = true := bne_iff_ne.mpr c39
       by_cases c49 : t210 = 5
       ·
        rw [if_pos c49] at H
        have c49b0 : (t210 == 5) = true := beq_iff_eq.mpr c49
        have c49b1 : (t210 != 5) = false := bne_eq_false_iff_eq.mpr c49
        clear c49
        by_cases c50 : a0_7 ≥ 0
        ·
         rw [if_pos c50] at H
         have c50b0 : decide (0 ≤ a0_7) = true := decide_eq_true c50
         clear c50
         have H' := Aside0.mk H
         clear H
         have hcz51_0 : wc.cell? ⟨gb209, 0, none⟩ = some (.int .i64 a0_0) := (blk_cell BK209.out 0).trans rfl
         have hcz51_1 : wc.cell? ⟨gb209, 1, none⟩ = some (.int .i64 a0_1) := (blk_cell BK209.out 1).trans rfl
         have hcz51_2 : wc.cell? ⟨gb209, 2, none⟩ = some (.int .i64 a0_2) := (blk_cell BK209.out 2).trans rfl
         have hcz51_3 : wc.cell? ⟨gb209, 3, none⟩ = some (.int .i64 a0_3) := (blk_cell BK209.out 3).trans rfl
         have hcz51_4 : wc.cell? ⟨gb209, 4, none⟩ = some (.int .i64 a0_4) := (blk_cell BK209.out 4).trans rfl
         have hcz51_5 : wc.cell? ⟨gb209, 5, none⟩ = some (.int .i64 a0_5) := (blk_cell BK209.out 5).trans rfl
         have hcz51_6 : wc.cell? ⟨gb209, 6, none⟩ = some (.int .u64 a0_6) := (blk_cell BK209.out 6).trans rfl
         have hcz51_7 : wc.cell? ⟨gb209, 7, none⟩ = some (.int .i64 a0_7) := (blk_cell BK209.out 7).trans rfl
         have hcz51_8 : wc.cell? ⟨gb209, 8, none⟩ = some (.int .i64 a0_8) := (blk_cell BK209.out 8).trans rfl
         have hcz51_9 : wc.cell? ⟨gb209, 9, none⟩ = some (.int .i64 a0_9) := (blk_cell BK209.out 9).trans rfl
         have hfz51_0 := blk_frozen BK209.out 0
         have hfz51_1 := blk_frozen BK209.out 1
         have hfz51_2 := blk_frozen BK209.out 2
         have hfz51_3 := blk_frozen BK209.out 3
         have hfz51_4 := blk_frozen BK209.out 4
         have hfz51_5 := blk_frozen BK209.out 5
         have hfz51_6 := blk_frozen BK209.out 6
         have hfz51_7 := blk_frozen BK209.out 7
         have hfz51_8 := blk_frozen BK209.out 8
         have hfz51_9 := blk_frozen BK209.out 9
         go_wp2
         go_meet
         case rel => exact ⟨_, (decide (a0_7 ≤ 3)), (by first | rfl | (simp; done) | (simp [*]; done)), H', ⟨by have := HJ2.out; first | omega | exact Nat.le_refl _⟩, ⟨by (with_reducible repeat (first | refine blk_drewN ?_ _ | refine blk_drew ?_ | refine blk_alloc ?_ _)); exact BK209.out⟩, ⟨by repeat (first | (with_reducible first | exact HB.out | apply below_alloc | apply pw_below_drewN | apply below_drew1 | refine below_set ?_ GE209.out) | exact HB.out)⟩⟩
        ·
         rw [if_neg c50] at H
         have c50b0 : decide (0 ≤ a0_7) = false := decide_eq_false c50
         clear c50
         have H' := Aside0.mk H
         clear H
         have hcz52_0 : wc.cell? ⟨gb209, 0, none⟩ = some (.int .i64 a0_0) := (blk_cell BK209.out 0).trans rfl
         have hcz52_1 : wc.cell? ⟨gb209, 1, none⟩ = some (.int .i64 a0_1) := (blk_cell BK209.out 1).trans rfl
         have hcz52_2 : wc.cell? ⟨gb209, 2, none⟩ = some (.int .i64 a0_2) := (blk_cell BK209.out 2).trans rfl
         have hcz52_3 : wc.cell? ⟨gb209, 3, none⟩ = some (.int .i64 a0_3) := (blk_cell BK209.out 3).trans rfl
         have hcz52_4 : wc.cell? ⟨gb209, 4, none⟩ = some (.int .i64 a0_4) := (blk_cell BK209.out 4).trans rfl
         have hcz52_5 : wc.cell? ⟨gb209, 5, none⟩ = some (.int .i64 a0_5) := (blk_cell BK209.out 5).trans rfl
         have hcz52_6 : wc.cell? ⟨gb209, 6, none⟩ = some (.int .u64 a0_6) := (blk_cell BK209.out 6).trans rfl
         have hcz52_7 : wc.cell? ⟨gb209, 7, none⟩ = some (.int .i64 a0_7) := (blk_cell BK209.out 7).trans rfl
         have hcz52_8 : wc.cell? ⟨gb209, 8, none⟩ = some (.int .i64 a0_8) := (blk_cell BK209.out 8).trans rfl
         have hcz52_9 : wc.cell? ⟨gb209, 9, none⟩ = some (.int .i64 a0_9) := (blk_cell BK209.out 9).trans rfl
         have hfz52_0 := blk_frozen BK209.out 0
         have hfz52_1 := blk_frozen BK209.out 1
         have hfz52_2 := blk_frozen BK209.out 2
         have hfz52_3 := blk_frozen BK209.out 3
         have hfz52_4 := blk_frozen BK209.out 4
         have hfz52_5 := blk_frozen BK209.out 5
         have hfz52_6 := blk_frozen BK209.out 6
         have hfz52_7 := blk_frozen BK209.out 7
         have hfz52_8 := blk_frozen BK209.out 8
         have hfz52_9 := blk_frozen BK209.out 9
         go_wp2
         go_meet
         case rel => exact ⟨_, (false), (by first | rfl | (simp; done) | (simp [*]; done)), H', ⟨by have := HJ2.out; first | omega | exact Nat.le_refl _⟩, ⟨by (with_reducible repeat (first | refine blk_drewN ?_ _ | refine blk_drew ?_ | refine blk_alloc ?_ _)); exact BK209.out⟩, ⟨by repeat (first | (with_reducible first | exact HB.out | apply below_alloc | apply pw_below_drewN | apply below_drew1 | refine below_set ?_ GE209.out) | exact HB.out)⟩⟩
       ·
        rw [if_neg c49] at H
        have c49b0 : (t210 == 5) = false := beq_eq_false_iff_ne.mpr c49
        have c49b1 : (t210 != 5) = true := bne_iff_ne.mpr c49
        have H' := Aside0.mk H
        clear H
        have hcz53_0 : wc.cell? ⟨gb209, 0, none⟩ = some (.int .i64 a0_0) := (blk_cell BK209.out 0).trans rfl
        have hcz53_1 : wc.cell? ⟨gb209, 1, none⟩ = some (.int .i64 a0_1) := (blk_cell BK209.out 1).trans rfl
        have hcz53_2 : wc.cell? ⟨gb209, 2, none⟩ = some (.int .i64 a0_2) := (blk_cell BK209.out 2).trans rfl
        have hcz53_3 : wc.cell? ⟨gb209, 3, none⟩ = some (.int .i64 a0_3) := (blk_cell BK209.out 3).trans rfl
        have hcz53_4 : wc.cell? ⟨gb209, 4, none⟩ = some (.int .i64 a0_4) := (blk_cell BK209.out 4).trans rfl
        have hcz53_5 : wc.cell? ⟨gb209, 5, none⟩ = some (.int .i64 a0_5) := (blk_cell BK209.out 5).trans rfl
        have hcz53_6 : wc.cell? ⟨gb209, 6, none⟩ = some (.int .u64 a0_6) := (blk_cell BK209.out 6).trans rfl
        have hcz53_7 : wc.cell? ⟨gb209, 7, none⟩ = some (.int .i64 a0_7) := (blk_cell BK209.out 7).trans rfl
        have hcz53_8 : wc.cell? ⟨gb209, 8, none⟩ = some (.int .i64 a0_8) := (blk_cell BK209.out 8).trans rfl
        have hcz53_9 : wc.cell? ⟨gb209, 9, none⟩ = some (.int .i64 a0_9) := (blk_cell BK209.out 9).trans rfl
        have hfz53_0 := blk_frozen BK209.out 0
        have hfz53_1 := blk_frozen BK209.out 1
        have hfz53_2 := blk_frozen BK209.out 2
        have hfz53_3 := blk_frozen BK209.out 3
        have hfz53_4 := blk_frozen BK209.out 4
        have hfz53_5 := blk_frozen BK209.out 5
        have hfz53_6 := blk_frozen BK209.out 6
        have hfz53_7 := blk_frozen BK209.out 7
        have hfz53_8 := blk_frozen BK209.out 8
        have hfz53_9 := blk_frozen BK209.out 9
        go_wp2
        go_meet
        case rel => exact ⟨_, (false), (by first | rfl | (simp; done) | (simp [*]; done)), H', ⟨by have := HJ2.out; first | omega | exact Nat.le_refl _⟩, ⟨by (with_reducible repeat (first | refine blk_drewN ?_ _ | refine blk_drew ?_ | refine blk_alloc ?_ _)); exact BK209.out⟩, ⟨by repeat (first | (with_reducible first | exact HB.out | apply below_alloc | apply pw_below_drewN | apply below_drew1 | refine below_set ?_ GE209.out) | exact HB.out)⟩⟩
    case rest =>
     clear HC36
     try clear c1
     try clear p2
     try clear c3
     try clear c4
     try clear c5
     try clear c7
     try clear c7b0
     try clear c7b1
     try clear c9
     try clear c11
     try clear c13
     try clear c31
     try clear c35
     try clear c37
     try clear c37b0
     try clear c37b1
     try clear c39
     try clear c39b0
     try clear c39b1
     try clear c40
     try clear c40b0
     try clear c41
     try clear c41b0
     try clear c43
     try clear c43b0
     try clear c43b1
     try clear c46
     try clear c46b0
     try clear c46b1
     try clear c49
     try clear c49b0
     try clear c49b1
     try clear c50
     try clear c50b0
     try clear hcz15_0 hcz15_1 hcz15_2 hcz15_3 hcz15_4 hcz15_5 hcz15_6 hcz15_7 hcz15_8 hcz15_9
     try clear hcz17_0 hcz17_1 hcz17_2 hcz17_3 hcz17_4 hcz17_5 hcz17_6 hcz17_7 hcz17_8 hcz17_9
     try clear hcz19_0 hcz19_1 hcz19_2 hcz19_3 hcz19_4 hcz19_5 hcz19_6 hcz19_7 hcz19_8 hcz19_9
     try clear hcz21_0 hcz21_1 hcz21_2 hcz21_3 hcz21_4 hcz21_5 hcz21_6 hcz21_7 hcz21_8 hcz21_9
     try clear hcz23_0 hcz23_1 hcz23_2 hcz23_3 hcz23_4 hcz23_5 hcz23_6 hcz23_7 hcz23_8 hcz23_9
     try clear hcz25_0 hcz25_1 hcz25_2 hcz25_3 hcz25_4 hcz25_5 hcz25_6 hcz25_7 hcz25_8 hcz25_9
     try clear hcz27_0 hcz27_1 hcz27_2 hcz27_3 hcz27_4 hcz27_5 hcz27_6 hcz27_7 hcz27_8 hcz27_9
     try clear hcz29_0 hcz29_1 hcz29_2 hcz29_3 hcz29_4 hcz29_5 hcz29_6 hcz29_7 hcz29_8 hcz29_9
     try clear hcz31_0 hcz31_1 hcz31_2 hcz31_3 hcz31_4 hcz31_5 hcz31_6 hcz31_7 hcz31_8 hcz31_9
     try clear hcz33_0 hcz33_1 hcz33_2 hcz33_3 hcz33_4 hcz33_5 hcz33_6 hcz33_7 hcz33_8 hcz33_9
     try clear hcz38_0 hcz38_1 hcz38_2 hcz38_3 hcz38_4 hcz38_5 hcz38_6 hcz38_7 hcz38_8 hcz38_9
     try clear hcz42_0 hcz42_1 hcz42_2 hcz42_3 hcz42_4 hcz42_5 hcz42_6 hcz42_7 hcz42_8 hcz42_9
     try clear hcz44_0 hcz44_1 hcz44_2 hcz44_3 hcz44_4 hcz44_5 hcz44_6 hcz44_7 hcz44_8 hcz44_9
     try clear hcz45_0 hcz45_1 hcz45_2 hcz45_3 hcz45_4 hcz45_5 hcz45_6 hcz45_7 hcz45_8 hcz45_9
     try clear hcz47_0 hcz47_1 hcz47_2 hcz47_3 hcz47_4 hcz47_5 hcz47_6 hcz47_7 hcz47_8 hcz47_9
     try clear hcz48_0 hcz48_1 hcz48_2 hcz48_3 hcz48_4 hcz48_5 hcz48_6 hcz48_7 hcz48_8 hcz48_9
     try clear hcz51_0 hcz51_1 hcz51_2 hcz51_3 hcz51_4 hcz51_5 hcz51_6 hcz51_7 hcz51_8 hcz51_9
     try clear hcz52_0 hcz52_1 hcz52_2 hcz52_3 hcz52_4 hcz52_5 hcz52_6 hcz52_7 hcz52_8 hcz52_9
     try clear hcz53_0 hcz53_1 hcz53_2 hcz53_3 hcz53_4 hcz53_5 hcz53_6 hcz53_7 hcz53_8 hcz53_9
     try clear hcz5_0 hcz5_1 hcz5_2 hcz5_3 hcz5_4 hcz5_5 hcz5_6 hcz5_7 hcz5_8 hcz5_9
     try clear hfz15_0
     try clear hfz17_0
     try clear hfz19_0
     try clear hfz21_0
     try clear hfz23_0
     try clear hfz25_0
     try clear hfz27_0
     try clear hfz29_0
     try clear hfz31_0
     try clear hfz33_0
     try clear hfz38_0
     try clear hfz42_0
     try clear hfz44_0
     try clear hfz45_0
     try clear hfz47_0
     try clear hfz48_0
     try clear hfz51_0
     try clear hfz52_0
     try clear hfz53_0
     try clear hfz5_0
     try clear p2
     obtain ⟨kq, x4_35, rfl, HA, HJ35, BK209, HB⟩ := hcut
     cases kq with
     | zero => exact absurd HA.out (by simp [cleatref04_Is.j1])
     | succ kj35 =>
      have H := HA.out
      clear HA
      simp only [cleatref04_Is.j1] at H
      have HC54 := Aside0.mk H
      clear H
      go_upto_region 5 with (fail)
      go_cut [5] (fun v5 wc => ∃ (kq : Nat) (x5_53 : Bool), v5 = .bool x5_53 ∧ Aside0 (cleatref04_Is.j2 kq t210 x4_35 x5_53 a0_0 a0_1 a0_2 a0_3 a0_4 a0_5 a0_6 a0_7 a0_8 a0_9 = some r) ∧ Aside0 (kq ≤ kj35) ∧ Aside0 (wc.heap[gb209]? = some (.cells #[.int .i64 a0_0, .int .i64 a0_1, .int .i64 a0_2, .int .i64 a0_3, .int .i64 a0_4, .int .i64 a0_5, .int .u64 a0_6, .int .i64 a0_7, .int .i64 a0_8, .int .i64 a0_9] 37 (0, 0))) ∧ Aside0 (Below w.heap.size w wc))
      case first =>
       have H := HC54.out
       clear HC54
       by_cases c55 : a0_9 = 0
       ·
        rw [if_pos c55] at H
        have c55b0 : (a0_9 == 0) = true := beq_iff_eq.mpr c55
        have c55b1 : (a0_9 != 0) = false := bne_eq_false_iff_eq.mpr c55
        clear c55
        (first | rw [c55b0] | (simp only [i64_w, i32_w]; rw [c55b0]) | skip)
        have H' := Aside0.mk H
        clear H
        have hcz56_0 : wc.cell? ⟨gb209, 0, none⟩ = some (.int .i64 a0_0) := (blk_cell BK209.out 0).trans rfl
        have hcz56_1 : wc.cell? ⟨gb209, 1, none⟩ = some (.int .i64 a0_1) := (blk_cell BK209.out 1).trans rfl
        have hcz56_2 : wc.cell? ⟨gb209, 2, none⟩ = some (.int .i64 a0_2) := (blk_cell BK209.out 2).trans rfl
        have hcz56_3 : wc.cell? ⟨gb209, 3, none⟩ = some (.int .i64 a0_3) := (blk_cell BK209.out 3).trans rfl
        have hcz56_4 : wc.cell? ⟨gb209, 4, none⟩ = some (.int .i64 a0_4) := (blk_cell BK209.out 4).trans rfl
        have hcz56_5 : wc.cell? ⟨gb209, 5, none⟩ = some (.int .i64 a0_5) := (blk_cell BK209.out 5).trans rfl
        have hcz56_6 : wc.cell? ⟨gb209, 6, none⟩ = some (.int .u64 a0_6) := (blk_cell BK209.out 6).trans rfl
        have hcz56_7 : wc.cell? ⟨gb209, 7, none⟩ = some (.int .i64 a0_7) := (blk_cell BK209.out 7).trans rfl
        have hcz56_8 : wc.cell? ⟨gb209, 8, none⟩ = some (.int .i64 a0_8) := (blk_cell BK209.out 8).trans rfl
        have hcz56_9 : wc.cell? ⟨gb209, 9, none⟩ = some (.int .i64 a0_9) := (blk_cell BK209.out 9).trans rfl
        have hfz56_0 := blk_frozen BK209.out 0
        have hfz56_1 := blk_frozen BK209.out 1
        have hfz56_2 := blk_frozen BK209.out 2
        have hfz56_3 := blk_frozen BK209.out 3
        have hfz56_4 := blk_frozen BK209.out 4
        have hfz56_5 := blk_frozen BK209.out 5
        have hfz56_6 := blk_frozen BK209.out 6
        have hfz56_7 := blk_frozen BK209.out 7
        have hfz56_8 := blk_frozen BK209.out 8
        have hfz56_9 := blk_frozen BK209.out 9
        go_wp2
        go_meet
        case rel => exact ⟨_, (true), (by first | rfl | (simp; done) | (simp [*]; done)), H', ⟨by have := HJ2.out; have := HJ35.out; first | omega | exact Nat.le_refl _⟩, ⟨by (with_reducible repeat (first | refine blk_drewN ?_ _ | refine blk_drew ?_ | refine blk_alloc ?_ _)); exact BK209.out⟩, ⟨by repeat (first | (with_reducible first | exact HB.out | apply below_alloc | apply pw_below_drewN | apply below_drew1 | refine below_set ?_ GE209.out) | exact HB.out)⟩⟩
       ·
        rw [if_neg c55] at H
        have c55b0 : (a0_9 == 0) = false := beq_eq_false_iff_ne.mpr c55
        have c55b1 : (a0_9 != 0) = true := bne_iff_ne.mpr c55
        (first | rw [c55b0] | (simp only [i64_w, i32_w]; rw [c55b0]) | skip)
        replace H := Option.bind_eq_some_iff.mp H
        obtain ⟨t215, A570, H⟩ := H
        replace H : (if t215 = true then (if a0_9 ≥ 0 then (cleatref04_Is.j2 kj35 t210 x4_35 (decide (a0_9 ≤ 13)) a0_0 a0_1 a0_2 a0_3 a0_4 a0_5 a0_6 a0_7 a0_8 a0_9) else (cleatref04_Is.j2 kj35 t210 x4_35 false a0_0 a0_1 a0_2 a0_3 a0_4 a0_5 a0_6 a0_7 a0_8 a0_9)) else (cleatref04_Is.j2 kj35 t210 x4_35 false a0_0 a0_1 a0_2 a0_3 a0_4 a0_5 a0_6 a0_7 a0_8 a0_9)) = some r := H
        have A57 := Aside0.mk A570
        clear A570
        by_cases c58 : t215 = true
        ·
         subst c58
         have H1 : (if a0_9 ≥ 0 then (cleatref04_Is.j2 kj35 t210 x4_35 (decide (a0_9 ≤ 13)) a0_0 a0_1 a0_2 a0_3 a0_4 a0_5 a0_6 a0_7 a0_8 a0_9) else (cleatref04_Is.j2 kj35 t210 x4_35 false a0_0 a0_1 a0_2 a0_3 a0_4 a0_5 a0_6 a0_7 a0_8 a0_9)) = some r := by rw [if_pos rfl] at H; exact H
         clear H
         have H := H1
         clear H1
         by_cases c59 : a0_9 ≥ 0
         ·
          rw [if_pos c59] at H
          have c59b0 : decide (0 ≤ a0_9) = true := decide_eq_true c59
          clear c59
          have H' := Aside0.mk H
          clear H
          have hcz60_0 : wc.cell? ⟨gb209, 0, none⟩ = some (.int .i64 a0_0) := (blk_cell BK209.out 0).trans rfl
          have hcz60_1 : wc.cell? ⟨gb209, 1, none⟩ = some (.int .i64 a0_1) := (blk_cell BK209.out 1).trans rfl
          have hcz60_2 : wc.cell? ⟨gb209, 2, none⟩ = some (.int .i64 a0_2) := (blk_cell BK209.out 2).trans rfl
          have hcz60_3 : wc.cell? ⟨gb209, 3, none⟩ = some (.int .i64 a0_3) := (blk_cell BK209.out 3).trans rfl
          have hcz60_4 : wc.cell? ⟨gb209, 4, none⟩ = some (.int .i64 a0_4) := (blk_cell BK209.out 4).trans rfl
          have hcz60_5 : wc.cell? ⟨gb209, 5, none⟩ = some (.int .i64 a0_5) := (blk_cell BK209.out 5).trans rfl
          have hcz60_6 : wc.cell? ⟨gb209, 6, none⟩ = some (.int .u64 a0_6) := (blk_cell BK209.out 6).trans rfl
          have hcz60_7 : wc.cell? ⟨gb209, 7, none⟩ = some (.int .i64 a0_7) := (blk_cell BK209.out 7).trans rfl
          have hcz60_8 : wc.cell? ⟨gb209, 8, none⟩ = some (.int .i64 a0_8) := (blk_cell BK209.out 8).trans rfl
          have hcz60_9 : wc.cell? ⟨gb209, 9, none⟩ = some (.int .i64 a0_9) := (blk_cell BK209.out 9).trans rfl
          have hfz60_0 := blk_frozen BK209.out 0
          have hfz60_1 := blk_frozen BK209.out 1
          have hfz60_2 := blk_frozen BK209.out 2
          have hfz60_3 := blk_frozen BK209.out 3
          have hfz60_4 := blk_frozen BK209.out 4
          have hfz60_5 := blk_frozen BK209.out 5
          have hfz60_6 := blk_frozen BK209.out 6
          have hfz60_7 := blk_frozen BK209.out 7
          have hfz60_8 := blk_frozen BK209.out 8
          have hfz60_9 := blk_frozen BK209.out 9
          go_wp2_with (first | (go_at_call 58; (with_reducible refine (cleatref04_Has.calls kj35 t210 (⟨#[99]⟩ : ByteArray) true _ A57.out).mono ?_); rintro e w61 ⟨rfl, hb⟩; have n0_ := Aside0.mk (blk_below (g := gb209) (o := .cells #[.int .i64 a0_0, .int .i64 a0_1, .int .i64 a0_2, .int .i64 a0_3, .int .i64 a0_4, .int .i64 a0_5, .int .u64 a0_6, .int .i64 a0_7, .int .i64 a0_8, .int .i64 a0_9] 37 (0, 0)) (by (with_reducible repeat (first | refine blk_drewN ?_ _ | refine blk_drew ?_ | refine blk_alloc ?_ _)); exact BK209.out) hb); have n1_ := Aside0.mk (below_step (by repeat (first | (with_reducible first | exact HB.out | apply below_alloc | apply pw_below_drewN | apply below_drew1 | refine below_set ?_ GE209.out) | exact HB.out)) hb); clear BK209; clear HB; have BK209 := n0_; have HB := n1_; clear n0_ n1_; (try clear hb); (try clear hb2); (try clear hk); (try clear hi); obtain ⟨hcz62_0, hcz62_1, hcz62_2, hcz62_3, hcz62_4, hcz62_5, hcz62_6, hcz62_7, hcz62_8, hcz62_9⟩ := cells10_ BK209.out; have hfz62_0 := fun j => blk_frozen BK209.out j))
          go_meet
          case rel => exact ⟨_, (decide (a0_9 ≤ 13)), (by first | rfl | (simp; done) | (simp [*]; done)), H', ⟨by have := HJ2.out; have := HJ35.out; first | omega | exact Nat.le_refl _⟩, ⟨by (with_reducible repeat (first | refine blk_drewN ?_ _ | refine blk_drew ?_ | refine blk_alloc ?_ _)); exact BK209.out⟩, ⟨by repeat (first | (with_reducible first | exact HB.out | apply below_alloc | apply pw_below_drewN | apply below_drew1 | refine below_set ?_ GE209.out) | exact HB.out)⟩⟩
         ·
          rw [if_neg c59] at H
          have c59b0 : decide (0 ≤ a0_9) = false := decide_eq_false c59
          clear c59
          have H' := Aside0.mk H
          clear H
          have hcz63_0 : wc.cell? ⟨gb209, 0, none⟩ = some (.int .i64 a0_0) := (blk_cell BK209.out 0).trans rfl
          have hcz63_1 : wc.cell? ⟨gb209, 1, none⟩ = some (.int .i64 a0_1) := (blk_cell BK209.out 1).trans rfl
          have hcz63_2 : wc.cell? ⟨gb209, 2, none⟩ = some (.int .i64 a0_2) := (blk_cell BK209.out 2).trans rfl
          have hcz63_3 : wc.cell? ⟨gb209, 3, none⟩ = some (.int .i64 a0_3) := (blk_cell BK209.out 3).trans rfl
          have hcz63_4 : wc.cell? ⟨gb209, 4, none⟩ = some (.int .i64 a0_4) := (blk_cell BK209.out 4).trans rfl
          have hcz63_5 : wc.cell? ⟨gb209, 5, none⟩ = some (.int .i64 a0_5) := (blk_cell BK209.out 5).trans rfl
          have hcz63_6 : wc.cell? ⟨gb209, 6, none⟩ = some (.int .u64 a0_6) := (blk_cell BK209.out 6).trans rfl
          have hcz63_7 : wc.cell? ⟨gb209, 7, none⟩ = some (.int .i64 a0_7) := (blk_cell BK209.out 7).trans rfl
          have hcz63_8 : wc.cell? ⟨gb209, 8, none⟩ = some (.int .i64 a0_8) := (blk_cell BK209.out 8).trans rfl
          have hcz63_9 : wc.cell? ⟨gb209, 9, none⟩ = some (.int .i64 a0_9) := (blk_cell BK209.out 9).trans rfl
          have hfz63_0 := blk_frozen BK209.out 0
          have hfz63_1 := blk_frozen BK209.out 1
          have hfz63_2 := blk_frozen BK209.out 2
          have hfz63_3 := blk_frozen BK209.out 3
          have hfz63_4 := blk_frozen BK209.out 4
          have hfz63_5 := blk_frozen BK209.out 5
          have hfz63_6 := blk_frozen BK209.out 6
          have hfz63_7 := blk_frozen BK209.out 7
          have hfz63_8 := blk_frozen BK209.out 8
          have hfz63_9 := blk_frozen BK209.out 9
          go_wp2_with (first | (go_at_call 58; (with_reducible refine (cleatref04_Has.calls kj35 t210 (⟨#[99]⟩ : ByteArray) true _ A57.out).mono ?_); rintro e w64 ⟨rfl, hb⟩; have n0_ := Aside0.mk (blk_below (g := gb209) (o := .cells #[.int .i64 a0_0, .int .i64 a0_1, .int .i64 a0_2, .int .i64 a0_3, .int .i64 a0_4, .int .i64 a0_5, .int .u64 a0_6, .int .i64 a0_7, .int .i64 a0_8, .int .i64 a0_9] 37 (0, 0)) (by (with_reducible repeat (first | refine blk_drewN ?_ _ | refine blk_drew ?_ | refine blk_alloc ?_ _)); exact BK209.out) hb); have n1_ := Aside0.mk (below_step (by repeat (first | (with_reducible first | exact HB.out | apply below_alloc | apply pw_below_drewN | apply below_drew1 | refine below_set ?_ GE209.out) | exact HB.out)) hb); clear BK209; clear HB; have BK209 := n0_; have HB := n1_; clear n0_ n1_; (try clear hb); (try clear hb2); (try clear hk); (try clear hi); obtain ⟨hcz65_0, hcz65_1, hcz65_2, hcz65_3, hcz65_4, hcz65_5, hcz65_6, hcz65_7, hcz65_8, hcz65_9⟩ := cells10_ BK209.out; have hfz65_0 := fun j => blk_frozen BK209.out j))
          go_meet
          case rel => exact ⟨_, (false), (by first | rfl | (simp; done) | (simp [*]; done)), H', ⟨by have := HJ2.out; have := HJ35.out; first | omega | exact Nat.le_refl _⟩, ⟨by (with_reducible repeat (first | refine blk_drewN ?_ _ | refine blk_drew ?_ | refine blk_alloc ?_ _)); exact BK209.out⟩, ⟨by repeat (first | (with_reducible first | exact HB.out | apply below_alloc | apply pw_below_drewN | apply below_drew1 | refine below_set ?_ GE209.out) | exact HB.out)⟩⟩
        ·
         replace c58 := Bool.eq_false_iff.mpr c58
         subst c58
         have H1 : (cleatref04_Is.j2 kj35 t210 x4_35 false a0_0 a0_1 a0_2 a0_3 a0_4 a0_5 a0_6 a0_7 a0_8 a0_9) = some r := by rw [if_neg (show ¬ (false = true) by decide)] at H; exact H
         clear H
         have H := H1
         clear H1
         have H' := Aside0.mk H
         clear H
         have hcz66_0 : wc.cell? ⟨gb209, 0, none⟩ = some (.int .i64 a0_0) := (blk_cell BK209.out 0).trans rfl
         have hcz66_1 : wc.cell? ⟨gb209, 1, none⟩ = some (.int .i64 a0_1) := (blk_cell BK209.out 1).trans rfl
         have hcz66_2 : wc.cell? ⟨gb209, 2, none⟩ = some (.int .i64 a0_2) := (blk_cell BK209.out 2).trans rfl
         have hcz66_3 : wc.cell? ⟨gb209, 3, none⟩ = some (.int .i64 a0_3) := (blk_cell BK209.out 3).trans rfl
         have hcz66_4 : wc.cell? ⟨gb209, 4, none⟩ = some (.int .i64 a0_4) := (blk_cell BK209.out 4).trans rfl
         have hcz66_5 : wc.cell? ⟨gb209, 5, none⟩ = some (.int .i64 a0_5) := (blk_cell BK209.out 5).trans rfl
         have hcz66_6 : wc.cell? ⟨gb209, 6, none⟩ = some (.int .u64 a0_6) := (blk_cell BK209.out 6).trans rfl
         have hcz66_7 : wc.cell? ⟨gb209, 7, none⟩ = some (.int .i64 a0_7) := (blk_cell BK209.out 7).trans rfl
         have hcz66_8 : wc.cell? ⟨gb209, 8, none⟩ = some (.int .i64 a0_8) := (blk_cell BK209.out 8).trans rfl
         have hcz66_9 : wc.cell? ⟨gb209, 9, none⟩ = some (.int .i64 a0_9) := (blk_cell BK209.out 9).trans rfl
         have hfz66_0 := blk_frozen BK209.out 0
         have hfz66_1 := blk_frozen BK209.out 1
         have hfz66_2 := blk_frozen BK209.out 2
         have hfz66_3 := blk_frozen BK209.out 3
         have hfz66_4 := blk_frozen BK209.out 4
         have hfz66_5 := blk_frozen BK209.out 5
         have hfz66_6 := blk_frozen BK209.out 6
         have hfz66_7 := blk_frozen BK209.out 7
         have hfz66_8 := blk_frozen BK209.out 8
         have hfz66_9 := blk_frozen BK209.out 9
         go_wp2_with (first | (go_at_call 58; (with_reducible refine (cleatref04_Has.calls kj35 t210 (⟨#[99]⟩ : ByteArray) false _ A57.out).mono ?_); rintro e w67 ⟨rfl, hb⟩; have n0_ := Aside0.mk (blk_below (g := gb209) (o := .cells #[.int .i64 a0_0, .int .i64 a0_1, .int .i64 a0_2, .int .i64 a0_3, .int .i64 a0_4, .int .i64 a0_5, .int .u64 a0_6, .int .i64 a0_7, .int .i64 a0_8, .int .i64 a0_9] 37 (0, 0)) (by (with_reducible repeat (first | refine blk_drewN ?_ _ | refine blk_drew ?_ | refine blk_alloc ?_ _)); exact BK209.out) hb); have n1_ := Aside0.mk (below_step (by repeat (first | (with_reducible first | exact HB.out | apply below_alloc | apply pw_below_drewN | apply below_drew1 | refine below_set ?_ GE209.out) | exact HB.out)) hb); clear BK209; clear HB; have BK209 := n0_; have HB := n1_; clear n0_ n1_; (try clear hb); (try clear hb2); (try clear hk); (try clear hi)))
         go_meet
         case rel => exact ⟨_, (false), (by first | rfl | (simp; done) | (simp [*]; done)), H', ⟨by have := HJ2.out; have := HJ35.out; first | omega | exact Nat.le_refl _⟩, ⟨by (with_reducible repeat (first | refine blk_drewN ?_ _ | refine blk_drew ?_ | refine blk_alloc ?_ _)); exact BK209.out⟩, ⟨by repeat (first | (with_reducible first | exact HB.out | apply below_alloc | apply pw_below_drewN | apply below_drew1 | refine below_set ?_ GE209.out) | exact HB.out)⟩⟩
      case rest =>
       clear HC54
       try clear c1
       try clear p2
       try clear c3
       try clear c4
       try clear c5
       try clear c7
       try clear c7b0
       try clear c7b1
       try clear c9
       try clear c11
       try clear c13
       try clear c31
       try clear c35
       try clear c37
       try clear c37b0
       try clear c37b1
       try clear c39
       try clear c39b0
       try clear c39b1
       try clear c40
       try clear c40b0
       try clear c41
       try clear c41b0
       try clear c43
       try clear c43b0
       try clear c43b1
       try clear c46
       try clear c46b0
       try clear c46b1
       try clear c49
       try clear c49b0
       try clear c49b1
       try clear c50
       try clear c50b0
       try clear c55
       try clear c55b0
       try clear c55b1
       try clear c58
       try clear c59
       try clear c59b0
       try clear hcz15_0 hcz15_1 hcz15_2 hcz15_3 hcz15_4 hcz15_5 hcz15_6 hcz15_7 hcz15_8 hcz15_9
       try clear hcz17_0 hcz17_1 hcz17_2 hcz17_3 hcz17_4 hcz17_5 hcz17_6 hcz17_7 hcz17_8 hcz17_9
       try clear hcz19_0 hcz19_1 hcz19_2 hcz19_3 hcz19_4 hcz19_5 hcz19_6 hcz19_7 hcz19_8 hcz19_9
       try clear hcz21_0 hcz21_1 hcz21_2 hcz21_3 hcz21_4 hcz21_5 hcz21_6 hcz21_7 hcz21_8 hcz21_9
       try clear hcz23_0 hcz23_1 hcz23_2 hcz23_3 hcz23_4 hcz23_5 hcz23_6 hcz23_7 hcz23_8 hcz23_9
       try clear hcz25_0 hcz25_1 hcz25_2 hcz25_3 hcz25_4 hcz25_5 hcz25_6 hcz25_7 hcz25_8 hcz25_9
       try clear hcz27_0 hcz27_1 hcz27_2 hcz27_3 hcz27_4 hcz27_5 hcz27_6 hcz27_7 hcz27_8 hcz27_9
       try clear hcz29_0 hcz29_1 hcz29_2 hcz29_3 hcz29_4 hcz29_5 hcz29_6 hcz29_7 hcz29_8 hcz29_9
       try clear hcz31_0 hcz31_1 hcz31_2 hcz31_3 hcz31_4 hcz31_5 hcz31_6 hcz31_7 hcz31_8 hcz31_9
       try clear hcz33_0 hcz33_1 hcz33_2 hcz33_3 hcz33_4 hcz33_5 hcz33_6 hcz33_7 hcz33_8 hcz33_9
       try clear hcz38_0 hcz38_1 hcz38_2 hcz38_3 hcz38_4 hcz38_5 hcz38_6 hcz38_7 hcz38_8 hcz38_9
       try clear hcz42_0 hcz42_1 hcz42_2 hcz42_3 hcz42_4 hcz42_5 hcz42_6 hcz42_7 hcz42_8 hcz42_9
       try clear hcz44_0 hcz44_1 hcz44_2 hcz44_3 hcz44_4 hcz44_5 hcz44_6 hcz44_7 hcz44_8 hcz44_9
       try clear hcz45_0 hcz45_1 hcz45_2 hcz45_3 hcz45_4 hcz45_5 hcz45_6 hcz45_7 hcz45_8 hcz45_9
       try clear hcz47_0 hcz47_1 hcz47_2 hcz47_3 hcz47_4 hcz47_5 hcz47_6 hcz47_7 hcz47_8 hcz47_9
       try clear hcz48_0 hcz48_1 hcz48_2 hcz48_3 hcz48_4 hcz48_5 hcz48_6 hcz48_7 hcz48_8 hcz48_9
       try clear hcz51_0 hcz51_1 hcz51_2 hcz51_3 hcz51_4 hcz51_5 hcz51_6 hcz51_7 hcz51_8 hcz51_9
       try clear hcz52_0 hcz52_1 hcz52_2 hcz52_3 hcz52_4 hcz52_5 hcz52_6 hcz52_7 hcz52_8 hcz52_9
       try clear hcz53_0 hcz53_1 hcz53_2 hcz53_3 hcz53_4 hcz53_5 hcz53_6 hcz53_7 hcz53_8 hcz53_9
       try clear hcz56_0 hcz56_1 hcz56_2 hcz56_3 hcz56_4 hcz56_5 hcz56_6 hcz56_7 hcz56_8 hcz56_9
       try clear hcz5_0 hcz5_1 hcz5_2 hcz5_3 hcz5_4 hcz5_5 hcz5_6 hcz5_7 hcz5_8 hcz5_9
       try clear hcz60_0 hcz60_1 hcz60_2 hcz60_3 hcz60_4 hcz60_5 hcz60_6 hcz60_7 hcz60_8 hcz60_9
       try clear hcz62_0 hcz62_1 hcz62_2 hcz62_3 hcz62_4 hcz62_5 hcz62_6 hcz62_7 hcz62_8 hcz62_9
       try clear hcz63_0 hcz63_1 hcz63_2 hcz63_3 hcz63_4 hcz63_5 hcz63_6 hcz63_7 hcz63_8 hcz63_9
       try clear hcz65_0 hcz65_1 hcz65_2 hcz65_3 hcz65_4 hcz65_5 hcz65_6 hcz65_7 hcz65_8 hcz65_9
       try clear hcz66_0 hcz66_1 hcz66_2 hcz66_3 hcz66_4 hcz66_5 hcz66_6 hcz66_7 hcz66_8 hcz66_9
       try clear hfz15_0
       try clear hfz17_0
       try clear hfz19_0
       try clear hfz21_0
       try clear hfz23_0
       try clear hfz25_0
       try clear hfz27_0
       try clear hfz29_0
       try clear hfz31_0
       try clear hfz33_0
       try clear hfz38_0
       try clear hfz42_0
       try clear hfz44_0
       try clear hfz45_0
       try clear hfz47_0
       try clear hfz48_0
       try clear hfz51_0
       try clear hfz52_0
       try clear hfz53_0
       try clear hfz56_0
       try clear hfz5_0
       try clear hfz60_0
       try clear hfz62_0
       try clear hfz63_0
       try clear hfz65_0
       try clear hfz66_0
       try clear p2
       obtain ⟨kq, x5_53, rfl, HA, HJ53, BK209, HB⟩ := hcut
       cases kq with
       | zero => exact absurd HA.out (by simp [cleatref04_Is.j2])
       | succ kj53 =>
        have H := HA.out
        clear HA
        simp only [cleatref04_Is.j2] at H
        have HC68 := Aside0.mk H
        clear H
        go_upto_region 6 with (fail)
        go_cut [6] (fun v6 wc => ∃ (kq : Nat) (x6_67 : Bool), v6 = .bool x6_67 ∧ Aside0 (cleatref04_Is.j3 kq t210 x4_35 x5_53 x6_67 a0_0 a0_1 a0_2 a0_3 a0_4 a0_5 a0_6 a0_7 a0_8 a0_9 = some r) ∧ Aside0 (kq ≤ kj53) ∧ Aside0 (wc.heap[gb209]? = some (.cells #[.int .i64 a0_0, .int .i64 a0_1, .int .i64 a0_2, .int .i64 a0_3, .int .i64 a0_4, .int .i64 a0_5, .int .u64 a0_6, .int .i64 a0_7, .int .i64 a0_8, .int .i64 a0_9] 37 (0, 0))) ∧ Aside0 (Below w.heap.size w wc))
        case first =>
         have H := HC68.out
         clear HC68
         by_cases c69 : t210 = 3
         ·
          rw [if_pos c69] at H
          have c69b0 : (t210 == 3) = true := beq_iff_eq.mpr c69
          have c69b1 : (t210 != 3) = false := bne_eq_false_iff_eq.mpr c69
          clear c69
          (first | rw [c69b0] | (simp only [i64_w, i32_w]; rw [c69b0]) | skip)
          replace H := Option.bind_eq_some_iff.mp H
          obtain ⟨t216, A700, H⟩ := H
          replace H : (if t216 = true then (cleatref04_Is.j3 kj53 t210 x4_35 x5_53 true a0_0 a0_1 a0_2 a0_3 a0_4 a0_5 a0_6 a0_7 a0_8 a0_9) else (cleatref04_Is.j3 kj53 t210 x4_35 x5_53 false a0_0 a0_1 a0_2 a0_3 a0_4 a0_5 a0_6 a0_7 a0_8 a0_9)) = some r := H
          have A70 := Aside0.mk A700
          clear A700
          by_cases c71 : t216 = true
          ·
           subst c71
           have H1 : (cleatref04_Is.j3 kj53 t210 x4_35 x5_53 true a0_0 a0_1 a0_2 a0_3 a0_4 a0_5 a0_6 a0_7 a0_8 a0_9) = some r := by rw [if_pos rfl] at H; exact H
           clear H
           have H := H1
           clear H1
           have H' := Aside0.mk H
           clear H
           have hcz72_0 : wc.cell? ⟨gb209, 0, none⟩ = some (.int .i64 a0_0) := (blk_cell BK209.out 0).trans rfl
           have hcz72_1 : wc.cell? ⟨gb209, 1, none⟩ = some (.int .i64 a0_1) := (blk_cell BK209.out 1).trans rfl
           have hcz72_2 : wc.cell? ⟨gb209, 2, none⟩ = some (.int .i64 a0_2) := (blk_cell BK209.out 2).trans rfl
           have hcz72_3 : wc.cell? ⟨gb209, 3, none⟩ = some (.int .i64 a0_3) := (blk_cell BK209.out 3).trans rfl
           have hcz72_4 : wc.cell? ⟨gb209, 4, none⟩ = some (.int .i64 a0_4) := (blk_cell BK209.out 4).trans rfl
           have hcz72_5 : wc.cell? ⟨gb209, 5, none⟩ = some (.int .i64 a0_5) := (blk_cell BK209.out 5).trans rfl
           have hcz72_6 : wc.cell? ⟨gb209, 6, none⟩ = some (.int .u64 a0_6) := (blk_cell BK209.out 6).trans rfl
           have hcz72_7 : wc.cell? ⟨gb209, 7, none⟩ = some (.int .i64 a0_7) := (blk_cell BK209.out 7).trans rfl
           have hcz72_8 : wc.cell? ⟨gb209, 8, none⟩ = some (.int .i64 a0_8) := (blk_cell BK209.out 8).trans rfl
           have hcz72_9 : wc.cell? ⟨gb209, 9, none⟩ = some (.int .i64 a0_9) := (blk_cell BK209.out 9).trans rfl
           have hfz72_0 := blk_frozen BK209.out 0
           have hfz72_1 := blk_frozen BK209.out 1
           have hfz72_2 := blk_frozen BK209.out 2
           have hfz72_3 := blk_frozen BK209.out 3
           have hfz72_4 := blk_frozen BK209.out 4
           have hfz72_5 := blk_frozen BK209.out 5
           have hfz72_6 := blk_frozen BK209.out 6
           have hfz72_7 := blk_frozen BK209.out 7
           have hfz72_8 := blk_frozen BK209.out 8
           have hfz72_9 := blk_frozen BK209.out 9
           go_wp2_with (first | (go_at_call 20; (with_reducible refine (cleatref02_Is.calls kj53 a0_6 true _ A70.out).mono ?_); rintro e w' ⟨rfl, ⟨nd, rfl⟩⟩))
           go_meet
           case rel => exact ⟨_, (true), (by first | rfl | (simp; done) | (simp [*]; done)), H', ⟨by have := HJ2.out; have := HJ35.out; have := HJ53.out; first | omega | exact Nat.le_refl _⟩, ⟨by (with_reducible repeat (first | refine blk_drewN ?_ _ | refine blk_drew ?_ | refine blk_alloc ?_ _)); exact BK209.out⟩, ⟨by repeat (first | (with_reducible first | exact HB.out | apply below_alloc | apply pw_below_drewN | apply below_drew1 | refine below_set ?_ GE209.out) | exact HB.out)⟩⟩
          ·
           replace c71 := Bool.eq_false_iff.mpr c71
           subst c71
           have H1 : (cleatref04_Is.j3 kj53 t210 x4_35 x5_53 false a0_0 a0_1 a0_2 a0_3 a0_4 a0_5 a0_6 a0_7 a0_8 a0_9) = some r := by rw [if_neg (show ¬ (false = true) by decide)] at H; exact H
           clear H
           have H := H1
           clear H1
           have H' := Aside0.mk H
           clear H
           have hcz73_0 : wc.cell? ⟨gb209, 0, none⟩ = some (.int .i64 a0_0) := (blk_cell BK209.out 0).trans rfl
           have hcz73_1 : wc.cell? ⟨gb209, 1, none⟩ = some (.int .i64 a0_1) := (blk_cell BK209.out 1).trans rfl
           have hcz73_2 : wc.cell? ⟨gb209, 2, none⟩ = some (.int .i64 a0_2) := (blk_cell BK209.out 2).trans rfl
           have hcz73_3 : wc.cell? ⟨gb209, 3, none⟩ = some (.int .i64 a0_3) := (blk_cell BK209.out 3).trans rfl
           have hcz73_4 : wc.cell? ⟨gb209, 4, none⟩ = some (.int .i64 a0_4) := (blk_cell BK209.out 4).trans rfl
           have hcz73_5 : wc.cell? ⟨gb209, 5, none⟩ = some (.int .i64 a0_5) := (blk_cell BK209.out 5).trans rfl
           have hcz73_6 : wc.cell? ⟨gb209, 6, none⟩ = some (.int .u64 a0_6) := (blk_cell BK209.out 6).trans rfl
           have hcz73_7 : wc.cell? ⟨gb209, 7, none⟩ = some (.int .i64 a0_7) := (blk_cell BK209.out 7).trans rfl
           have hcz73_8 : wc.cell? ⟨gb209, 8, none⟩ = some (.int .i64 a0_8) := (blk_cell BK209.out 8).trans rfl
           have hcz73_9 : wc.cell? ⟨gb209, 9, none⟩ = some (.int .i64 a0_9) := (blk_cell BK209.out 9).trans rfl
           have hfz73_0 := blk_frozen BK209.out 0
           have hfz73_1 := blk_frozen BK209.out 1
           have hfz73_2 := blk_frozen BK209.out 2
           have hfz73_3 := blk_frozen BK209.out 3
           have hfz73_4 := blk_frozen BK209.out 4
           have hfz73_5 := blk_frozen BK209.out 5
           have hfz73_6 := blk_frozen BK209.out 6
           have hfz73_7 := blk_frozen BK209.out 7
           have hfz73_8 := blk_frozen BK209.out 8
           have hfz73_9 := blk_frozen BK209.out 9
           go_wp2_with (first | (go_at_call 20; (with_reducible refine (cleatref02_Is.calls kj53 a0_6 false _ A70.out).mono ?_); rintro e w' ⟨rfl, ⟨nd, rfl⟩⟩))
           go_meet
           case rel => exact ⟨_, (false), (by first | rfl | (simp; done) | (simp [*]; done)), H', ⟨by have := HJ2.out; have := HJ35.out; have := HJ53.out; first | omega | exact Nat.le_refl _⟩, ⟨by (with_reducible repeat (first | refine blk_drewN ?_ _ | refine blk_drew ?_ | refine blk_alloc ?_ _)); exact BK209.out⟩, ⟨by repeat (first | (with_reducible first | exact HB.out | apply below_alloc | apply pw_below_drewN | apply below_drew1 | refine below_set ?_ GE209.out) | exact HB.out)⟩⟩
         ·
          rw [if_neg c69] at H
          have c69b0 : (t210 == 3) = false := beq_eq_false_iff_ne.mpr c69
          have c69b1 : (t210 != 3) = true := bne_iff_ne.mpr c69
          (first | rw [c69b0] | (simp only [i64_w, i32_w]; rw [c69b0]) | skip)
          have H' := Aside0.mk H
          clear H
          have hcz74_0 : wc.cell? ⟨gb209, 0, none⟩ = some (.int .i64 a0_0) := (blk_cell BK209.out 0).trans rfl
          have hcz74_1 : wc.cell? ⟨gb209, 1, none⟩ = some (.int .i64 a0_1) := (blk_cell BK209.out 1).trans rfl
          have hcz74_2 : wc.cell? ⟨gb209, 2, none⟩ = some (.int .i64 a0_2) := (blk_cell BK209.out 2).trans rfl
          have hcz74_3 : wc.cell? ⟨gb209, 3, none⟩ = some (.int .i64 a0_3) := (blk_cell BK209.out 3).trans rfl
          have hcz74_4 : wc.cell? ⟨gb209, 4, none⟩ = some (.int .i64 a0_4) := (blk_cell BK209.out 4).trans rfl
          have hcz74_5 : wc.cell? ⟨gb209, 5, none⟩ = some (.int .i64 a0_5) := (blk_cell BK209.out 5).trans rfl
          have hcz74_6 : wc.cell? ⟨gb209, 6, none⟩ = some (.int .u64 a0_6) := (blk_cell BK209.out 6).trans rfl
          have hcz74_7 : wc.cell? ⟨gb209, 7, none⟩ = some (.int .i64 a0_7) := (blk_cell BK209.out 7).trans rfl
          have hcz74_8 : wc.cell? ⟨gb209, 8, none⟩ = some (.int .i64 a0_8) := (blk_cell BK209.out 8).trans rfl
          have hcz74_9 : wc.cell? ⟨gb209, 9, none⟩ = some (.int .i64 a0_9) := (blk_cell BK209.out 9).trans rfl
          have hfz74_0 := blk_frozen BK209.out 0
          have hfz74_1 := blk_frozen BK209.out 1
          have hfz74_2 := blk_frozen BK209.out 2
          have hfz74_3 := blk_frozen BK209.out 3
          have hfz74_4 := blk_frozen BK209.out 4
          have hfz74_5 := blk_frozen BK209.out 5
          have hfz74_6 := blk_frozen BK209.out 6
          have hfz74_7 := blk_frozen BK209.out 7
          have hfz74_8 := blk_frozen BK209.out 8
          have hfz74_9 := blk_frozen BK209.out 9
          go_wp2
          go_meet
          case rel => exact ⟨_, ((a0_6 == 0)), (by first | rfl | (simp; done) | (simp [*]; done)), H', ⟨by have := HJ2.out; have := HJ35.out; have := HJ53.out; first | omega | exact Nat.le_refl _⟩, ⟨by (with_reducible repeat (first | refine blk_drewN ?_ _ | refine blk_drew ?_ | refine blk_alloc ?_ _)); exact BK209.out⟩, ⟨by repeat (first | (with_reducible first | exact HB.out | apply below_alloc | apply pw_below_drewN | apply below_drew1 | refine below_set ?_ GE209.out) | exact HB.out)⟩⟩
        case rest =>
         clear HC68
         try clear p2
         try clear c6
         try clear c7
         try clear c69
         try clear c69b0
         try clear c69b1
         try clear c71
         try clear hcz21_9
         try clear hcz23_0 hcz23_1 hcz23_2 hcz23_3 hcz23_4 hcz23_5 hcz23_6 hcz23_7 hcz23_8 hcz23_9
         try clear hcz25_0 hcz25_1 hcz25_2 hcz25_3 hcz25_4 hcz25_5 hcz25_6 hcz25_7 hcz25_8 hcz25_9
         try clear hcz27_0 hcz27_1 hcz27_2 hcz27_3 hcz27_4 hcz27_5 hcz27_6 hcz27_7 hcz27_8 hcz27_9
         try clear hcz29_0 hcz29_1 hcz29_2 hcz29_3 hcz29_4 hcz29_5 hcz29_6 hcz29_7 hcz29_8 hcz29_9
         try clear hcz31_0 hcz31_1 hcz31_2 hcz31_3 hcz31_4 hcz31_5 hcz31_6 hcz31_7 hcz31_8 hcz31_9
         try clear hcz33_0 hcz33_1 hcz33_2 hcz33_3 hcz33_4 hcz33_5 hcz33_6 hcz33_7 hcz33_8 hcz33_9
         try clear hcz38_0 hcz38_1 hcz38_2 hcz38_3 hcz38_4 hcz38_5 hcz38_6 hcz38_7 hcz38_8 hcz38_9
         try clear hcz42_0 hcz42_1 hcz42_2 hcz42_3 hcz42_4 hcz42_5 hcz42_6 hcz42_7 hcz42_8 hcz42_9
         try clear hcz44_0 hcz44_1 hcz44_2 hcz44_3 hcz44_4 hcz44_5 hcz44_6 hcz44_7 hcz44_8 hcz44_9
         try clear hcz45_0 hcz45_1 hcz45_2 hcz45_3 hcz45_4 hcz45_5 hcz45_6 hcz45_7 hcz45_8 hcz45_9
         try clear hcz47_0 hcz47_1 hcz47_2 hcz47_3 hcz47_4 hcz47_5 hcz47_6 hcz47_7 hcz47_8 hcz47_9
         try clear hcz48_0 hcz48_1 hcz48_2 hcz48_3 hcz48_4 hcz48_5 hcz48_6 hcz48_7 hcz48_8 hcz48_9
         try clear hcz51_0 hcz51_1 hcz51_2 hcz51_3 hcz51_4 hcz51_5 hcz51_6 hcz51_7 hcz51_8 hcz51_9
         try clear hcz52_0 hcz52_1 hcz52_2 hcz52_3 hcz52_4 hcz52_5 hcz52_6 hcz52_7 hcz52_8 hcz52_9
         try clear hcz53_0 hcz53_1 hcz53_2 hcz53_3 hcz53_4 hcz53_5 hcz53_6 hcz53_7 hcz53_8 hcz53_9
         try clear hcz56_0 hcz56_1 hcz56_2 hcz56_3 hcz56_4 hcz56_5 hcz56_6 hcz56_7 hcz56_8 hcz56_9
         try clear hcz5_0 hcz5_1 hcz5_2 hcz5_3 hcz5_4 hcz5_5 hcz5_6 hcz5_7 hcz5_8 hcz5_9
         try clear hcz60_0 hcz60_1 hcz60_2 hcz60_3 hcz60_4 hcz60_5 hcz60_6 hcz60_7 hcz60_8 hcz60_9
         try clear hcz62_0 hcz62_1 hcz62_2 hcz62_3 hcz62_4 hcz62_5 hcz62_6 hcz62_7 hcz62_8 hcz62_9
         try clear hcz63_0 hcz63_1 hcz63_2 hcz63_3 hcz63_4 hcz63_5 hcz63_6 hcz63_7 hcz63_8 hcz63_9
         try clear hcz65_0 hcz65_1 hcz65_2 hcz65_3 hcz65_4 hcz65_5 hcz65_6 hcz65_7 hcz65_8 hcz65_9
         try clear hcz66_0 hcz66_1 hcz66_2 hcz66_3 hcz66_4 hcz66_5 hcz66_6 hcz66_7 hcz66_8 hcz66_9
         try clear hcz72_0 hcz72_1 hcz72_2 hcz72_3 hcz72_4 hcz72_5 hcz72_6 hcz72_7 hcz72_8 hcz72_9
         try clear hcz73_0 hcz73_1 hcz73_2 hcz73_3 hcz73_4 hcz73_5 hcz73_6 hcz73_7 hcz73_8 hcz73_9
         try clear hcz74_0 hcz74_1 hcz74_2 hcz74_3 hcz74_4 hcz74_5 hcz74_6 hcz74_7 hcz74_8 hcz74_9
         try clear hfz15_0
         try clear hfz17_0
         try clear hfz19_0
         try clear hfz21_0
         try clear hfz23_0
         try clear hfz25_0
         try clear hfz27_0
         try clear hfz29_0
         try clear hfz31_0
         try clear hfz33_0
         try clear hfz38_0
         try clear hfz42_0
         try clear hfz44_0
         try clear hfz45_0
         try clear hfz47_0
         try clear hfz48_0
         try clear hfz51_0
         try clear hfz52_0
         try clear hfz53_0
         try clear hfz56_0
         try clear hfz5_0
         try clear hfz60_0
         try clear hfz62_0
         try clear hfz63_0
         try clear hfz65_0
         try clear hfz66_0
         try clear hfz72_0
         try clear hfz73_0
         try clear hfz74_0
         try clear p2
         obtain ⟨kq, x6_67, rfl, HA, HJ67, BK209, HB⟩ := hcut
         cases kq with
         | zero => exact absurd HA.out (by simp [cleatref04_Is.j3])
         | succ kj67 =>
          have H := HA.out
          clear HA
          simp only [cleatref04_Is.j3] at H
          replace H := Option.bind_eq_some_iff.mp H
          obtain ⟨t217, A750, H⟩ := H
          replace H : (if t217 = true then ((cleatref04_amount.f kj67 t210 a0_8).bind fun t218 => (if t218 = true then (if x4_35 = true then (if x5_53 = true then (some x6_67) else (some false)) else (some false)) else (some false))) else (some false)) = some r := H
          have A75 := Aside0.mk A750
          clear A750
          by_cases c76 : t217 = true
          ·
           subst c76
           have H1 : ((cleatref04_amount.f kj67 t210 a0_8).bind fun t218 => (if t218 = true then (if x4_35 = true then (if x5_53 = true then (some x6_67) else (some false)) else (some false)) else (some false))) = some r := by rw [if_pos rfl] at H; exact H
           clear H
           have H := H1
           clear H1
           replace H := Option.bind_eq_some_iff.mp H
           obtain ⟨t218, A770, H⟩ := H
           replace H : (if t218 = true then (if x4_35 = true then (if x5_53 = true then (some x6_67) else (some false)) else (some false)) else (some false)) = some r := H
           have A77 := Aside0.mk A770
           clear A770
           by_cases c78 : t218 = true
           ·
            subst c78
            have H1 : (if x4_35 = true then (if x5_53 = true then (some x6_67) else (some false)) else (some false)) = some r := by rw [if_pos rfl] at H; exact H
            clear H
            have H := H1
            clear H1
            by_cases c79 : x4_35 = true
            ·
             subst c79
             have H1 : (if x5_53 = true then (some x6_67) else (some false)) = some r := by rw [if_pos rfl] at H; exact H
             clear H
             have H := H1
             clear H1
             by_cases c80 : x5_53 = true
             ·
              subst c80
              have H1 : (some x6_67) = some r := by rw [if_pos rfl] at H; exact H
              clear H
              have H := H1
              clear H1
              obtain rfl := Option.some.inj H
              have hcz81_0 : wc.cell? ⟨gb209, 0, none⟩ = some (.int .i64 a0_0) := (blk_cell BK209.out 0).trans rfl
              have hcz81_1 : wc.cell? ⟨gb209, 1, none⟩ = some (.int .i64 a0_1) := (blk_cell BK209.out 1).trans rfl
              have hcz81_2 : wc.cell? ⟨gb209, 2, none⟩ = some (.int .i64 a0_2) := (blk_cell BK209.out 2).trans rfl
              have hcz81_3 : wc.cell? ⟨gb209, 3, none⟩ = some (.int .i64 a0_3) := (blk_cell BK209.out 3).trans rfl
              have hcz81_4 : wc.cell? ⟨gb209, 4, none⟩ = some (.int .i64 a0_4) := (blk_cell BK209.out 4).trans rfl
              have hcz81_5 : wc.cell? ⟨gb209, 5, none⟩ = some (.int .i64 a0_5) := (blk_cell BK209.out 5).trans rfl
              have hcz81_6 : wc.cell? ⟨gb209, 6, none⟩ = some (.int .u64 a0_6) := (blk_cell BK209.out 6).trans rfl
              have hcz81_7 : wc.cell? ⟨gb209, 7, none⟩ = some (.int .i64 a0_7) := (blk_cell BK209.out 7).trans rfl
              have hcz81_8 : wc.cell? ⟨gb209, 8, none⟩ = some (.int .i64 a0_8) := (blk_cell BK209.out 8).trans rfl
              have hcz81_9 : wc.cell? ⟨gb209, 9, none⟩ = some (.int .i64 a0_9) := (blk_cell BK209.out 9).trans rfl
              have hfz81_0 := blk_frozen BK209.out 0
              have hfz81_1 := blk_frozen BK209.out 1
              have hfz81_2 := blk_frozen BK209.out 2
              have hfz81_3 := blk_frozen BK209.out 3
              have hfz81_4 := blk_frozen BK209.out 4
              have hfz81_5 := blk_frozen BK209.out 5
              have hfz81_6 := blk_frozen BK209.out 6
              have hfz81_7 := blk_frozen BK209.out 7
              have hfz81_8 := blk_frozen BK209.out 8
              have hfz81_9 := blk_frozen BK209.out 9
              go_wp2_with (first | ((with_reducible refine gate_callee (f := 62) rfl ?_); refine goesL_ (some 107) rfl rfl Tryd.func62 (by kernel_rfl) rfl #[.int .i64 t210, .int .i64 a0_5] rfl (by (try simp only [List.map_toArray, List.map_cons, List.map_nil]); first | done | rfl | (simp only [List.length_drop, List.length_take]; rfl)) ?_; (with_reducible refine (cleatref04_imm.calls kj67 t210 a0_5 true _ A75.out).mono ?_); rintro e w' ⟨rfl, ⟨nd, rfl⟩⟩; refine ⟨_, rfl, ?_⟩) | (go_at_call 63; (with_reducible refine (cleatref04_amount.calls kj67 t210 a0_8 true _ A77.out).mono ?_); rintro e w' ⟨rfl, ⟨nd, rfl⟩⟩))
              go_ret
              exact ⟨by first | rfl | (simp [errW_none, errW_some] <;> rfl) | (simp [*, errW_none, errW_some] <;> rfl), by repeat (first | (with_reducible first | exact HB.out | apply below_alloc | apply pw_below_drewN | apply below_drew1 | refine below_set ?_ GE209.out) | exact HB.out)⟩
             ·
              replace c80 := Bool.eq_false_iff.mpr c80
              subst c80
              have H1 : (some false) = some r := by rw [if_neg (show ¬ (false = true) by decide)] at H; exact H
              clear H
              have H := H1
              clear H1
              obtain rfl := Option.some.inj H
              have hcz82_0 : wc.cell? ⟨gb209, 0, none⟩ = some (.int .i64 a0_0) := (blk_cell BK209.out 0).trans rfl
              have hcz82_1 : wc.cell? ⟨gb209, 1, none⟩ = some (.int .i64 a0_1) := (blk_cell BK209.out 1).trans rfl
              have hcz82_2 : wc.cell? ⟨gb209, 2, none⟩ = some (.int .i64 a0_2) := (blk_cell BK209.out 2).trans rfl
              have hcz82_3 : wc.cell? ⟨gb209, 3, none⟩ = some (.int .i64 a0_3) := (blk_cell BK209.out 3).trans rfl
              have hcz82_4 : wc.cell? ⟨gb209, 4, none⟩ = some (.int .i64 a0_4) := (blk_cell BK209.out 4).trans rfl
              have hcz82_5 : wc.cell? ⟨gb209, 5, none⟩ = some (.int .i64 a0_5) := (blk_cell BK209.out 5).trans rfl
              have hcz82_6 : wc.cell? ⟨gb209, 6, none⟩ = some (.int .u64 a0_6) := (blk_cell BK209.out 6).trans rfl
              have hcz82_7 : wc.cell? ⟨gb209, 7, none⟩ = some (.int .i64 a0_7) := (blk_cell BK209.out 7).trans rfl
              have hcz82_8 : wc.cell? ⟨gb209, 8, none⟩ = some (.int .i64 a0_8) := (blk_cell BK209.out 8).trans rfl
              have hcz82_9 : wc.cell? ⟨gb209, 9, none⟩ = some (.int .i64 a0_9) := (blk_cell BK209.out 9).trans rfl
              have hfz82_0 := blk_frozen BK209.out 0
              have hfz82_1 := blk_frozen BK209.out 1
              have hfz82_2 := blk_frozen BK209.out 2
              have hfz82_3 := blk_frozen BK209.out 3
              have hfz82_4 := blk_frozen BK209.out 4
              have hfz82_5 := blk_frozen BK209.out 5
              have hfz82_6 := blk_frozen BK209.out 6
              have hfz82_7 := blk_frozen BK209.out 7
              have hfz82_8 := blk_frozen BK209.out 8
              have hfz82_9 := blk_frozen BK209.out 9
              go_wp2_with (first | ((with_reducible refine gate_callee (f := 62) rfl ?_); refine goesL_ (some 107) rfl rfl Tryd.func62 (by kernel_rfl) rfl #[.int .i64 t210, .int .i64 a0_5] rfl (by (try simp only [List.map_toArray, List.map_cons, List.map_nil]); first | done | rfl | (simp only [List.length_drop, List.length_take]; rfl)) ?_; (with_reducible refine (cleatref04_imm.calls kj67 t210 a0_5 true _ A75.out).mono ?_); rintro e w' ⟨rfl, ⟨nd, rfl⟩⟩; refine ⟨_, rfl, ?_⟩) | (go_at_call 63; (with_reducible refine (cleatref04_amount.calls kj67 t210 a0_8 true _ A77.out).mono ?_); rintro e w' ⟨rfl, ⟨nd, rfl⟩⟩))
              go_ret
              exact ⟨by first | rfl | (simp [errW_none, errW_some] <;> rfl) | (simp [*, errW_none, errW_some] <;> rfl), by repeat (first | (with_reducible first | exact HB.out | apply below_alloc | apply pw_below_drewN | apply below_drew1 | refine below_set ?_ GE209.out) | exact HB.out)⟩
            ·
             replace c79 := Bool.eq_false_iff.mpr c79
             subst c79
             have H1 : (some false) = some r := by rw [if_neg (show ¬ (false = true) by decide)] at H; exact H
             clear H
             have H := H1
             clear H1
             obtain rfl := Option.some.inj H
             have hcz83_0 : wc.cell? ⟨gb209, 0, none⟩ = some (.int .i64 a0_0) := (blk_cell BK209.out 0).trans rfl
             have hcz83_1 : wc.cell? ⟨gb209, 1, none⟩ = some (.int .i64 a0_1) := (blk_cell BK209.out 1).trans rfl
             have hcz83_2 : wc.cell? ⟨gb209, 2, none⟩ = some (.int .i64 a0_2) := (blk_cell BK209.out 2).trans rfl
             have hcz83_3 : wc.cell? ⟨gb209, 3, none⟩ = some (.int .i64 a0_3) := (blk_cell BK209.out 3).trans rfl
             have hcz83_4 : wc.cell? ⟨gb209, 4, none⟩ = some (.int .i64 a0_4) := (blk_cell BK209.out 4).trans rfl
             have hcz83_5 : wc.cell? ⟨gb209, 5, none⟩ = some (.int .i64 a0_5) := (blk_cell BK209.out 5).trans rfl
             have hcz83_6 : wc.cell? ⟨gb209, 6, none⟩ = some (.int .u64 a0_6) := (blk_cell BK209.out 6).trans rfl
             have hcz83_7 : wc.cell? ⟨gb209, 7, none⟩ = some (.int .i64 a0_7) := (blk_cell BK209.out 7).trans rfl
             have hcz83_8 : wc.cell? ⟨gb209, 8, none⟩ = some (.int .i64 a0_8) := (blk_cell BK209.out 8).trans rfl
             have hcz83_9 : wc.cell? ⟨gb209, 9, none⟩ = some (.int .i64 a0_9) := (blk_cell BK209.out 9).trans rfl
             have hfz83_0 := blk_frozen BK209.out 0
             have hfz83_1 := blk_frozen BK209.out 1
             have hfz83_2 := blk_frozen BK209.out 2
             have hfz83_3 := blk_frozen BK209.out 3
             have hfz83_4 := blk_frozen BK209.out 4
             have hfz83_5 := blk_frozen BK209.out 5
             have hfz83_6 := blk_frozen BK209.out 6
             have hfz83_7 := blk_frozen BK209.out 7
             have hfz83_8 := blk_frozen BK209.out 8
             have hfz83_9 := blk_frozen BK209.out 9
             go_wp2_with (first | ((with_reducible refine gate_callee (f := 62) rfl ?_); refine goesL_ (some 107) rfl rfl Tryd.func62 (by kernel_rfl) rfl #[.int .i64 t210, .int .i64 a0_5] rfl (by (try simp only [List.map_toArray, List.map_cons, List.map_nil]); first | done | rfl | (simp only [List.length_drop, List.length_take]; rfl)) ?_; (with_reducible refine (cleatref04_imm.calls kj67 t210 a0_5 true _ A75.out).mono ?_); rintro e w' ⟨rfl, ⟨nd, rfl⟩⟩; refine ⟨_, rfl, ?_⟩) | (go_at_call 63; (with_reducible refine (cleatref04_amount.calls kj67 t210 a0_8 true _ A77.out).mono ?_); rintro e w' ⟨rfl, ⟨nd, rfl⟩⟩))
             go_ret
             exact ⟨by first | rfl | (simp [errW_none, errW_some] <;> rfl) | (simp [*, errW_none, errW_some] <;> rfl), by repeat (first | (with_reducible first | exact HB.out | apply below_alloc | apply pw_below_drewN | apply below_drew1 | refine below_set ?_ GE209.out) | exact HB.out)⟩
           ·
            replace c78 := Bool.eq_false_iff.mpr c78
            subst c78
            have H1 : (some false) = some r := by rw [if_neg (show ¬ (false = true) by decide)] at H; exact H
            clear H
            have H := H1
            clear H1
            obtain rfl := Option.some.inj H
            have hcz84_0 : wc.cell? ⟨gb209, 0, none⟩ = some (.int .i64 a0_0) := (blk_cell BK209.out 0).trans rfl
            have hcz84_1 : wc.cell? ⟨gb209, 1, none⟩ = some (.int .i64 a0_1) := (blk_cell BK209.out 1).trans rfl
            have hcz84_2 : wc.cell? ⟨gb209, 2, none⟩ = some (.int .i64 a0_2) := (blk_cell BK209.out 2).trans rfl
            have hcz84_3 : wc.cell? ⟨gb209, 3, none⟩ = some (.int .i64 a0_3) := (blk_cell BK209.out 3).trans rfl
            have hcz84_4 : wc.cell? ⟨gb209, 4, none⟩ = some (.int .i64 a0_4) := (blk_cell BK209.out 4).trans rfl
            have hcz84_5 : wc.cell? ⟨gb209, 5, none⟩ = some (.int .i64 a0_5) := (blk_cell BK209.out 5).trans rfl
            have hcz84_6 : wc.cell? ⟨gb209, 6, none⟩ = some (.int .u64 a0_6) := (blk_cell BK209.out 6).trans rfl
            have hcz84_7 : wc.cell? ⟨gb209, 7, none⟩ = some (.int .i64 a0_7) := (blk_cell BK209.out 7).trans rfl
            have hcz84_8 : wc.cell? ⟨gb209, 8, none⟩ = some (.int .i64 a0_8) := (blk_cell BK209.out 8).trans rfl
            have hcz84_9 : wc.cell? ⟨gb209, 9, none⟩ = some (.int .i64 a0_9) := (blk_cell BK209.out 9).trans rfl
            have hfz84_0 := blk_frozen BK209.out 0
            have hfz84_1 := blk_frozen BK209.out 1
            have hfz84_2 := blk_frozen BK209.out 2
            have hfz84_3 := blk_frozen BK209.out 3
            have hfz84_4 := blk_frozen BK209.out 4
            have hfz84_5 := blk_frozen BK209.out 5
            have hfz84_6 := blk_frozen BK209.out 6
            have hfz84_7 := blk_frozen BK209.out 7
            have hfz84_8 := blk_frozen BK209.out 8
            have hfz84_9 := blk_frozen BK209.out 9
            go_wp2_with (first | ((with_reducible refine gate_callee (f := 62) rfl ?_); refine goesL_ (some 107) rfl rfl Tryd.func62 (by kernel_rfl) rfl #[.int .i64 t210, .int .i64 a0_5] rfl (by (try simp only [List.map_toArray, List.map_cons, List.map_nil]); first | done | rfl | (simp only [List.length_drop, List.length_take]; rfl)) ?_; (with_reducible refine (cleatref04_imm.calls kj67 t210 a0_5 true _ A75.out).mono ?_); rintro e w' ⟨rfl, ⟨nd, rfl⟩⟩; refine ⟨_, rfl, ?_⟩) | (go_at_call 63; (with_reducible refine (cleatref04_amount.calls kj67 t210 a0_8 false _ A77.out).mono ?_); rintro e w' ⟨rfl, ⟨nd, rfl⟩⟩))
            go_ret
            exact ⟨by first | rfl | (simp [errW_none, errW_some] <;> rfl) | (simp [*, errW_none, errW_some] <;> rfl), by repeat (first | (with_reducible first | exact HB.out | apply below_alloc | apply pw_below_drewN | apply below_drew1 | refine below_set ?_ GE209.out) | exact HB.out)⟩
          ·
           replace c76 := Bool.eq_false_iff.mpr c76
           subst c76
           have H1 : (some false) = some r := by rw [if_neg (show ¬ (false = true) by decide)] at H; exact H
           clear H
           have H := H1
           clear H1
           obtain rfl := Option.some.inj H
           have hcz85_0 : wc.cell? ⟨gb209, 0, none⟩ = some (.int .i64 a0_0) := (blk_cell BK209.out 0).trans rfl
           have hcz85_1 : wc.cell? ⟨gb209, 1, none⟩ = some (.int .i64 a0_1) := (blk_cell BK209.out 1).trans rfl
           have hcz85_2 : wc.cell? ⟨gb209, 2, none⟩ = some (.int .i64 a0_2) := (blk_cell BK209.out 2).trans rfl
           have hcz85_3 : wc.cell? ⟨gb209, 3, none⟩ = some (.int .i64 a0_3) := (blk_cell BK209.out 3).trans rfl
           have hcz85_4 : wc.cell? ⟨gb209, 4, none⟩ = some (.int .i64 a0_4) := (blk_cell BK209.out 4).trans rfl
           have hcz85_5 : wc.cell? ⟨gb209, 5, none⟩ = some (.int .i64 a0_5) := (blk_cell BK209.out 5).trans rfl
           have hcz85_6 : wc.cell? ⟨gb209, 6, none⟩ = some (.int .u64 a0_6) := (blk_cell BK209.out 6).trans rfl
           have hcz85_7 : wc.cell? ⟨gb209, 7, none⟩ = some (.int .i64 a0_7) := (blk_cell BK209.out 7).trans rfl
           have hcz85_8 : wc.cell? ⟨gb209, 8, none⟩ = some (.int .i64 a0_8) := (blk_cell BK209.out 8).trans rfl
           have hcz85_9 : wc.cell? ⟨gb209, 9, none⟩ = some (.int .i64 a0_9) := (blk_cell BK209.out 9).trans rfl
           have hfz85_0 := blk_frozen BK209.out 0
           have hfz85_1 := blk_frozen BK209.out 1
           have hfz85_2 := blk_frozen BK209.out 2
           have hfz85_3 := blk_frozen BK209.out 3
           have hfz85_4 := blk_frozen BK209.out 4
           have hfz85_5 := blk_frozen BK209.out 5
           have hfz85_6 := blk_frozen BK209.out 6
           have hfz85_7 := blk_frozen BK209.out 7
           have hfz85_8 := blk_frozen BK209.out 8
           have hfz85_9 := blk_frozen BK209.out 9
           go_wp2_with (first | ((with_reducible refine gate_callee (f := 62) rfl ?_); refine goesL_ (some 107) rfl rfl Tryd.func62 (by kernel_rfl) rfl #[.int .i64 t210, .int .i64 a0_5] rfl (by (try simp only [List.map_toArray, List.map_cons, List.map_nil]); first | done | rfl | (simp only [List.length_drop, List.length_take]; rfl)) ?_; (with_reducible refine (cleatref04_imm.calls kj67 t210 a0_5 false _ A75.out).mono ?_); rintro e w' ⟨rfl, ⟨nd, rfl⟩⟩; refine ⟨_, rfl, ?_⟩))
           go_ret
           exact ⟨by first | rfl | (simp [errW_none, errW_some] <;> rfl) | (simp [*, errW_none, errW_some] <;> rfl), by repeat (first | (with_reducible first | exact HB.out | apply below_alloc | apply pw_below_drewN | apply below_drew1 | refine below_set ?_ GE209.out) | exact HB.out)⟩
end Go.Proofs.YtbklmlbmbnnjkaaDoor.R
