/- Written for this claim by a program of this session: what the claim uses of lemmas and proved contracts of Go functions. -/
import Derived.Test.YtblnfngigdipcaaDoorZRenPx0
import Derived.Test.YtblnfngigdipcaaDoorZRenPx2
import Derived.Test.YtblnfngigdipcaaDoorZRenPx4
namespace Go.Proofs.YtblnfngigdipcaaDoor.P
open Go.RowKit Go.Proofs.YtblnfngigdipcaaDoorW.PrintWords Go.Proofs.YtblnfngigdipcaaDoorW.PrintLast Go.Proofs.YtblnfngigdipcaaDoorW.PrintMore
attribute [local go_sem] max2_int min2_int max_two min_two max_three min_three max_four min_four   -- for this text's walks alone
set_option linter.unusedVariables false
set_option linter.unusedSimpArgs false
mutual
def inst_Is.j0 : Nat → Int → Bool → Int → Int → Int → Int → Int → Int → Int → Int → Int → Int → Bool → Bool → Bool → Bool → Int → Int → Int → Int → Int → Int → Int → Bool → Option (Bool)
 | 0, _, _, _, _, _, _, _, _, _, _, _, _, _, _, _, _, _, _, _, _, _, _, _, _ => none
 | k + 1, x3, x5, x121000, x121001, x121002, x121003, x121004, x121005, x121006, x121007, x121008, x121009, x135000, x135001, x135002, x135003, x135004, x135005, x135006, x135007, x135008, x135009, x135010, x135011 => (inst_step.f x121005 x135004 x135005 x135006).bind fun t139 => (if t139 = true then ((inst_step.f x121008 0 x135007 x135008).bind fun t140 => (if t140 = true then (if x121007 ≥ 0 then (if x121007 ≤ x135009 then (if x121009 ≥ 0 then (inst_Is.j1 k x3 x5 (decide (x121009 ≤ x135010)) x121000 x121001 x121002 x121003 x121004 x121005 x121006 x121007 x121008 x121009) else (inst_Is.j1 k x3 x5 false x121000 x121001 x121002 x121003 x121004 x121005 x121006 x121007 x121008 x121009)) else (inst_Is.j1 k x3 x5 false x121000 x121001 x121002 x121003 x121004 x121005 x121006 x121007 x121008 x121009)) else (inst_Is.j1 k x3 x5 false x121000 x121001 x121002 x121003 x121004 x121005 x121006 x121007 x121008 x121009)) else (inst_Is.j1 k x3 x5 false x121000 x121001 x121002 x121003 x121004 x121005 x121006 x121007 x121008 x121009))) else (inst_Is.j1 k x3 x5 false x121000 x121001 x121002 x121003 x121004 x121005 x121006 x121007 x121008 x121009))
def inst_Is.j1 : Nat → Int → Bool → Bool → Int → Int → Int → Int → Int → Int → Int → Int → Int → Int → Option (Bool)
 | 0, _, _, _, _, _, _, _, _, _, _, _, _, _ => none
 | k + 1, x3, x5, x6, x121000, x121001, x121002, x121003, x121004, x121005, x121006, x121007, x121008, x121009 => if x3 = 3 then (if x5 = true then (if x6 = true then ((mask_Is.f k x121006).bind fun t141 => (some t141)) else (some false)) else (some false)) else (if x5 = true then (if x6 = true then (some (x121006 == 0)) else (some false)) else (some false))
end
def inst_Is.f (k : Nat) (a0_0 : Int) (a0_1 : Int) (a0_2 : Int) (a0_3 : Int) (a0_4 : Int) (a0_5 : Int) (a0_6 : Int) (a0_7 : Int) (a0_8 : Int) (a0_9 : Int) : Option (Bool) := (inst_Shape.f a0_0).bind fun t121 => (if t121 = 0 then (some false) else ((inst_shapeOf.f t121).bind fun bt122 => ((inst_register.f bt122.1 a0_1).bind fun t135 => (if t135 = true then ((inst_register.f bt122.2.1 a0_2).bind fun t136 => (if t136 = true then ((inst_register.f bt122.2.2.1 a0_3).bind fun t137 => (if t137 = true then ((inst_register.f bt122.2.2.2.1 a0_4).bind fun t138 => (inst_Is.j0 k t121 t138 a0_0 a0_1 a0_2 a0_3 a0_4 a0_5 a0_6 a0_7 a0_8 a0_9 bt122.1 bt122.2.1 bt122.2.2.1 bt122.2.2.2.1 bt122.2.2.2.2.1 bt122.2.2.2.2.2.1 bt122.2.2.2.2.2.2.1 bt122.2.2.2.2.2.2.2.1 bt122.2.2.2.2.2.2.2.2.1 bt122.2.2.2.2.2.2.2.2.2.1 bt122.2.2.2.2.2.2.2.2.2.2.1 bt122.2.2.2.2.2.2.2.2.2.2.2)) else (inst_Is.j0 k t121 false a0_0 a0_1 a0_2 a0_3 a0_4 a0_5 a0_6 a0_7 a0_8 a0_9 bt122.1 bt122.2.1 bt122.2.2.1 bt122.2.2.2.1 bt122.2.2.2.2.1 bt122.2.2.2.2.2.1 bt122.2.2.2.2.2.2.1 bt122.2.2.2.2.2.2.2.1 bt122.2.2.2.2.2.2.2.2.1 bt122.2.2.2.2.2.2.2.2.2.1 bt122.2.2.2.2.2.2.2.2.2.2.1 bt122.2.2.2.2.2.2.2.2.2.2.2))) else (inst_Is.j0 k t121 false a0_0 a0_1 a0_2 a0_3 a0_4 a0_5 a0_6 a0_7 a0_8 a0_9 bt122.1 bt122.2.1 bt122.2.2.1 bt122.2.2.2.1 bt122.2.2.2.2.1 bt122.2.2.2.2.2.1 bt122.2.2.2.2.2.2.1 bt122.2.2.2.2.2.2.2.1 bt122.2.2.2.2.2.2.2.2.1 bt122.2.2.2.2.2.2.2.2.2.1 bt122.2.2.2.2.2.2.2.2.2.2.1 bt122.2.2.2.2.2.2.2.2.2.2.2))) else (inst_Is.j0 k t121 false a0_0 a0_1 a0_2 a0_3 a0_4 a0_5 a0_6 a0_7 a0_8 a0_9 bt122.1 bt122.2.1 bt122.2.2.1 bt122.2.2.2.1 bt122.2.2.2.2.1 bt122.2.2.2.2.2.1 bt122.2.2.2.2.2.2.1 bt122.2.2.2.2.2.2.2.1 bt122.2.2.2.2.2.2.2.2.1 bt122.2.2.2.2.2.2.2.2.2.1 bt122.2.2.2.2.2.2.2.2.2.2.1 bt122.2.2.2.2.2.2.2.2.2.2.2)))))
theorem inst_Is.mono_l : ∀ k, (∀ y0 y1 y2 y3 y4 y5 y6 y7 y8 y9 y10 y11 y12 y13 y14 y15 y16 y17 y18 y19 y20 y21 y22 y23, LeO (inst_Is.j0 k y0 y1 y2 y3 y4 y5 y6 y7 y8 y9 y10 y11 y12 y13 y14 y15 y16 y17 y18 y19 y20 y21 y22 y23) (inst_Is.j0 (k + 1) y0 y1 y2 y3 y4 y5 y6 y7 y8 y9 y10 y11 y12 y13 y14 y15 y16 y17 y18 y19 y20 y21 y22 y23)) ∧ (∀ y0 y1 y2 y3 y4 y5 y6 y7 y8 y9 y10 y11 y12, LeO (inst_Is.j1 k y0 y1 y2 y3 y4 y5 y6 y7 y8 y9 y10 y11 y12) (inst_Is.j1 (k + 1) y0 y1 y2 y3 y4 y5 y6 y7 y8 y9 y10 y11 y12))
 | 0 => ⟨fun _ _ _ _ _ _ _ _ _ _ _ _ _ _ _ _ _ _ _ _ _ _ _ _ r h => by simp [inst_Is.j0] at h, fun _ _ _ _ _ _ _ _ _ _ _ _ _ r h => by simp [inst_Is.j1] at h⟩
 | k + 1 => by
  obtain ⟨ih0, ih1⟩ := inst_Is.mono_l k
  refine ⟨?_, ?_⟩
  ·
   intro y0 y1 y2 y3 y4 y5 y6 y7 y8 y9 y10 y11 y12 y13 y14 y15 y16 y17 y18 y19 y20 y21 y22 y23
   unfold inst_Is.j0
   repeat' first
   | (with_reducible exact ih0 _ _ _ _ _ _ _ _ _ _ _ _ _ _ _ _ _ _ _ _ _ _ _ _)
   | (with_reducible exact ih1 _ _ _ _ _ _ _ _ _ _ _ _ _)
   | (with_reducible exact mask_Is.mono _ _)
   | (with_reducible exact LeO.refl _)
   | (with_reducible exact LeO.none _)
   | (with_reducible refine LeO.ite ?_ ?_)
   | (with_reducible refine LeO.bind ?_ (fun _ => ?_))
   | exact ih0 _ _ _ _ _ _ _ _ _ _ _ _ _ _ _ _ _ _ _ _ _ _ _ _
   | exact ih1 _ _ _ _ _ _ _ _ _ _ _ _ _
   | exact mask_Is.mono _ _
   | exact LeO.none _
   | refine LeO.ite ?_ ?_
   | refine LeO.bind ?_ (fun _ => ?_)
  ·
   intro y0 y1 y2 y3 y4 y5 y6 y7 y8 y9 y10 y11 y12
   unfold inst_Is.j1
   repeat' first
   | (with_reducible exact ih0 _ _ _ _ _ _ _ _ _ _ _ _ _ _ _ _ _ _ _ _ _ _ _ _)
   | (with_reducible exact ih1 _ _ _ _ _ _ _ _ _ _ _ _ _)
   | (with_reducible exact mask_Is.mono _ _)
   | (with_reducible exact LeO.refl _)
   | (with_reducible exact LeO.none _)
   | (with_reducible refine LeO.ite ?_ ?_)
   | (with_reducible refine LeO.bind ?_ (fun _ => ?_))
   | exact ih0 _ _ _ _ _ _ _ _ _ _ _ _ _ _ _ _ _ _ _ _ _ _ _ _
   | exact ih1 _ _ _ _ _ _ _ _ _ _ _ _ _
   | exact mask_Is.mono _ _
   | exact LeO.none _
   | refine LeO.ite ?_ ?_
   | refine LeO.bind ?_ (fun _ => ?_)
theorem inst_Is.mono : ∀ a0 a1 a2 a3 a4 a5 a6 a7 a8 a9 k, LeO (inst_Is.f k a0 a1 a2 a3 a4 a5 a6 a7 a8 a9) (inst_Is.f (k + 1) a0 a1 a2 a3 a4 a5 a6 a7 a8 a9) := by
 intro a0 a1 a2 a3 a4 a5 a6 a7 a8 a9 k
 obtain ⟨ih0, ih1⟩ := inst_Is.mono_l k
 unfold inst_Is.f
 repeat' first
   | (with_reducible exact ih0 _ _ _ _ _ _ _ _ _ _ _ _ _ _ _ _ _ _ _ _ _ _ _ _)
   | (with_reducible exact ih1 _ _ _ _ _ _ _ _ _ _ _ _ _)
   | (with_reducible exact mask_Is.mono _ _)
   | (with_reducible exact LeO.refl _)
   | (with_reducible exact LeO.none _)
   | (with_reducible refine LeO.ite ?_ ?_)
   | (with_reducible refine LeO.bind ?_ (fun _ => ?_))
   | exact ih0 _ _ _ _ _ _ _ _ _ _ _ _ _ _ _ _ _ _ _ _ _ _ _ _
   | exact ih1 _ _ _ _ _ _ _ _ _ _ _ _ _
   | exact mask_Is.mono _ _
   | exact LeO.none _
   | refine LeO.ite ?_ ?_
   | refine LeO.bind ?_ (fun _ => ?_)
set_option maxHeartbeats 8000000 in
set_option maxRecDepth 100000 in
theorem inst_Is.calls (k : Nat) (a0_0 : Int) (a0_1 : Int) (a0_2 : Int) (a0_3 : Int) (a0_4 : Int) (a0_5 : Int) (a0_6 : Int) (a0_7 : Int) (a0_8 : Int) (a0_9 : Int) (r : Bool) (w : World) (h : inst_Is.f k a0_0 a0_1 a0_2 a0_3 a0_4 a0_5 a0_6 a0_7 a0_8 a0_9 = some r) (hTab : TabW w := by first | exact hTab | exact TabW.drew hTab | exact TabW.drewN hTab _ | exact TabW.below hTab (by repeat (first | (with_reducible first | exact HB.out | apply below_alloc | apply pw_below_drewN | apply below_drew1) | refine Below.setCell ?_ (Aside0.out (by assumption)) _ | exact HB.out | exact Below.refl _ _))) :
    Calls Tryd.prog 5 #[.agg #[.int .i64 a0_0, .int .i64 a0_1, .int .i64 a0_2, .int .i64 a0_3, .int .i64 a0_4, .int .i64 a0_5, .int .u64 a0_6, .int .i64 a0_7, .int .i64 a0_8, .int .i64 a0_9]] w fun e w' => e = .returned (.bool r) ∧ Below w.heap.size w w' := by
 have hu24 := Tryd.underlying24
 have hu39 := Tryd.underlying39
 have HB := Aside0.mk (Below.refl w.heap.size w)
 have H : ((inst_Shape.f a0_0).bind fun t121 => (if t121 = 0 then (some false) else ((inst_shapeOf.f t121).bind fun bt122 => ((inst_register.f bt122.1 a0_1).bind fun t135 => (if t135 = true then ((inst_register.f bt122.2.1 a0_2).bind fun t136 => (if t136 = true then ((inst_register.f bt122.2.2.1 a0_3).bind fun t137 => (if t137 = true then ((inst_register.f bt122.2.2.2.1 a0_4).bind fun t138 => (inst_Is.j0 k t121 t138 a0_0 a0_1 a0_2 a0_3 a0_4 a0_5 a0_6 a0_7 a0_8 a0_9 bt122.1 bt122.2.1 bt122.2.2.1 bt122.2.2.2.1 bt122.2.2.2.2.1 bt122.2.2.2.2.2.1 bt122.2.2.2.2.2.2.1 bt122.2.2.2.2.2.2.2.1 bt122.2.2.2.2.2.2.2.2.1 bt122.2.2.2.2.2.2.2.2.2.1 bt122.2.2.2.2.2.2.2.2.2.2.1 bt122.2.2.2.2.2.2.2.2.2.2.2)) else (inst_Is.j0 k t121 false a0_0 a0_1 a0_2 a0_3 a0_4 a0_5 a0_6 a0_7 a0_8 a0_9 bt122.1 bt122.2.1 bt122.2.2.1 bt122.2.2.2.1 bt122.2.2.2.2.1 bt122.2.2.2.2.2.1 bt122.2.2.2.2.2.2.1 bt122.2.2.2.2.2.2.2.1 bt122.2.2.2.2.2.2.2.2.1 bt122.2.2.2.2.2.2.2.2.2.1 bt122.2.2.2.2.2.2.2.2.2.2.1 bt122.2.2.2.2.2.2.2.2.2.2.2))) else (inst_Is.j0 k t121 false a0_0 a0_1 a0_2 a0_3 a0_4 a0_5 a0_6 a0_7 a0_8 a0_9 bt122.1 bt122.2.1 bt122.2.2.1 bt122.2.2.2.1 bt122.2.2.2.2.1 bt122.2.2.2.2.2.1 bt122.2.2.2.2.2.2.1 bt122.2.2.2.2.2.2.2.1 bt122.2.2.2.2.2.2.2.2.1 bt122.2.2.2.2.2.2.2.2.2.1 bt122.2.2.2.2.2.2.2.2.2.2.1 bt122.2.2.2.2.2.2.2.2.2.2.2))) else (inst_Is.j0 k t121 false a0_0 a0_1 a0_2 a0_3 a0_4 a0_5 a0_6 a0_7 a0_8 a0_9 bt122.1 bt122.2.1 bt122.2.2.1 bt122.2.2.2.1 bt122.2.2.2.2.1 bt122.2.2.2.2.2.1 bt122.2.2.2.2.2.2.1 bt122.2.2.2.2.2.2.2.1 bt122.2.2.2.2.2.2.2.2.1 bt122.2.2.2.2.2.2.2.2.2.1 bt122.2.2.2.2.2.2.2.2.2.2.1 bt122.2.2.2.2.2.2.2.2.2.2.2)))))) = some r := h
 clear h
 replace H := Option.bind_eq_some_iff.mp H
 obtain ⟨t121, A20, H⟩ := H
 replace H : (if t121 = 0 then (some false) else ((inst_shapeOf.f t121).bind fun bt122 => ((inst_register.f bt122.1 a0_1).bind fun t135 => (if t135 = true then ((inst_register.f bt122.2.1 a0_2).bind fun t136 => (if t136 = true then ((inst_register.f bt122.2.2.1 a0_3).bind fun t137 => (if t137 = true then ((inst_register.f bt122.2.2.2.1 a0_4).bind fun t138 => (inst_Is.j0 k t121 t138 a0_0 a0_1 a0_2 a0_3 a0_4 a0_5 a0_6 a0_7 a0_8 a0_9 bt122.1 bt122.2.1 bt122.2.2.1 bt122.2.2.2.1 bt122.2.2.2.2.1 bt122.2.2.2.2.2.1 bt122.2.2.2.2.2.2.1 bt122.2.2.2.2.2.2.2.1 bt122.2.2.2.2.2.2.2.2.1 bt122.2.2.2.2.2.2.2.2.2.1 bt122.2.2.2.2.2.2.2.2.2.2.1 bt122.2.2.2.2.2.2.2.2.2.2.2)) else (inst_Is.j0 k t121 false a0_0 a0_1 a0_2 a0_3 a0_4 a0_5 a0_6 a0_7 a0_8 a0_9 bt122.1 bt122.2.1 bt122.2.2.1 bt122.2.2.2.1 bt122.2.2.2.2.1 bt122.2.2.2.2.2.1 bt122.2.2.2.2.2.2.1 bt122.2.2.2.2.2.2.2.1 bt122.2.2.2.2.2.2.2.2.1 bt122.2.2.2.2.2.2.2.2.2.1 bt122.2.2.2.2.2.2.2.2.2.2.1 bt122.2.2.2.2.2.2.2.2.2.2.2))) else (inst_Is.j0 k t121 false a0_0 a0_1 a0_2 a0_3 a0_4 a0_5 a0_6 a0_7 a0_8 a0_9 bt122.1 bt122.2.1 bt122.2.2.1 bt122.2.2.2.1 bt122.2.2.2.2.1 bt122.2.2.2.2.2.1 bt122.2.2.2.2.2.2.1 bt122.2.2.2.2.2.2.2.1 bt122.2.2.2.2.2.2.2.2.1 bt122.2.2.2.2.2.2.2.2.2.1 bt122.2.2.2.2.2.2.2.2.2.2.1 bt122.2.2.2.2.2.2.2.2.2.2.2))) else (inst_Is.j0 k t121 false a0_0 a0_1 a0_2 a0_3 a0_4 a0_5 a0_6 a0_7 a0_8 a0_9 bt122.1 bt122.2.1 bt122.2.2.1 bt122.2.2.2.1 bt122.2.2.2.2.1 bt122.2.2.2.2.2.1 bt122.2.2.2.2.2.2.1 bt122.2.2.2.2.2.2.2.1 bt122.2.2.2.2.2.2.2.2.1 bt122.2.2.2.2.2.2.2.2.2.1 bt122.2.2.2.2.2.2.2.2.2.2.1 bt122.2.2.2.2.2.2.2.2.2.2.2))))) = some r := H
 have A2 := Aside0.mk A20
 clear A20
 by_cases c3 : t121 = 0
 ·
  rw [if_pos c3] at H
  have c3b0 : (t121 == 0) = true := beq_iff_eq.mpr c3
  have c3b1 : (t121 != 0) = false := bne_eq_false_iff_eq.mpr c3
  clear c3
  obtain rfl := Option.some.inj H
  go_enter Tryd.func5, Tryd.ntmps5
  go_wp2_with (first | ((with_reducible refine gate_dst (N := 1) rfl ?_); refine box_event ?hg (N := 1) ?hd (cs := #[.int .i64 a0_0, .int .i64 a0_1, .int .i64 a0_2, .int .i64 a0_3, .int .i64 a0_4, .int .i64 a0_5, .int .u64 a0_6, .int .i64 a0_7, .int .i64 a0_8, .int .i64 a0_9]) (t := 24) ?hr ?_; (case hd => rfl); (case hg => rfl); (case hr => first | (go_simp; done) | (go_simp; rfl)); intro gb120 hg w4 hbox hb; have n0_ := Aside0.mk (below_step (by repeat (first | (with_reducible first | exact HB.out | apply below_alloc | apply pw_below_drewN | apply below_drew1) | exact HB.out)) hb); have n1_ := Aside0.mk (hbox); have n2_ := Aside0.mk ((by rw [hg]; exact (below_size (by repeat (first | (with_reducible first | exact HB.out | apply below_alloc | apply pw_below_drewN | apply below_drew1) | exact HB.out))) : w.heap.size ≤ gb120)); have n3_ := Aside0.mk ((by rw [hg]; exact (below_size (by repeat (first | (with_reducible first | exact HB.out | apply below_alloc | apply pw_below_drewN | apply below_drew1) | exact HB.out))) : w.heap.size ≤ gb120)); clear HB; have HB := n0_; have BK120 := n1_; have GW120 := n2_; have GE120 := n3_; clear n0_ n1_ n2_ n3_; clear hb hbox hg; obtain ⟨hcz5_0, hcz5_1, hcz5_2, hcz5_3, hcz5_4, hcz5_5, hcz5_6, hcz5_7, hcz5_8, hcz5_9⟩ := cells10_ BK120.out; have hfz5_0 := fun j => blk_frozen BK120.out j) | ((with_reducible refine gate_callee (f := 4) rfl ?_); refine goesL_ (some 9) rfl rfl Tryd.func4 (by kernel_rfl) rfl #[.int .i64 a0_0] rfl (by (try simp only [List.map_toArray, List.map_cons, List.map_nil]); first | done | rfl | (simp only [List.length_drop, List.length_take]; rfl)) ?_; (with_reducible refine (inst_Shape.calls a0_0 t121 _ A2.out).mono ?_); rintro e w6 ⟨rfl, hb⟩; refine ⟨_, rfl, ?_⟩; have n0_ := Aside0.mk (blk_below (g := gb120) (o := .cells #[.int .i64 a0_0, .int .i64 a0_1, .int .i64 a0_2, .int .i64 a0_3, .int .i64 a0_4, .int .i64 a0_5, .int .u64 a0_6, .int .i64 a0_7, .int .i64 a0_8, .int .i64 a0_9] 24 (0, 0)) (by (with_reducible repeat (first | refine blk_drewN ?_ _ | refine blk_drew ?_ | refine blk_alloc ?_ _)); exact BK120.out) hb); have n1_ := Aside0.mk (below_step (by repeat (first | (with_reducible first | exact HB.out | apply below_alloc | apply pw_below_drewN | apply below_drew1 | refine below_set ?_ GE120.out) | exact HB.out)) hb); clear BK120; clear HB; have BK120 := n0_; have HB := n1_; clear n0_ n1_; (try clear hb); (try clear hb2); (try clear hk); (try clear hi)))
  go_ret
  exact ⟨by first | rfl | (simp [errW_none, errW_some] <;> rfl) | (simp [*, errW_none, errW_some] <;> rfl), by repeat (first | (with_reducible first | exact HB.out | apply below_alloc | apply pw_below_drewN | apply below_drew1 | refine below_set ?_ GE120.out) | exact HB.out)⟩
 ·
  rw [if_neg c3] at H
  have c3b0 : (t121 == 0) = false := beq_eq_false_iff_ne.mpr c3
  have c3b1 : (t121 != 0) = true := bne_iff_ne.mpr c3
  replace H := Option.bind_eq_some_iff.mp H
  obtain ⟨⟨t122, t123, t124, t125, t126, t127, t128, t129, t130, t131, t132, t133⟩, A70, H⟩ := H
  replace H : ((inst_register.f t122 a0_1).bind fun t135 => (if t135 = true then ((inst_register.f t123 a0_2).bind fun t136 => (if t136 = true then ((inst_register.f t124 a0_3).bind fun t137 => (if t137 = true then ((inst_register.f t125 a0_4).bind fun t138 => (inst_Is.j0 k t121 t138 a0_0 a0_1 a0_2 a0_3 a0_4 a0_5 a0_6 a0_7 a0_8 a0_9 t122 t123 t124 t125 t126 t127 t128 t129 t130 t131 t132 t133)) else (inst_Is.j0 k t121 false a0_0 a0_1 a0_2 a0_3 a0_4 a0_5 a0_6 a0_7 a0_8 a0_9 t122 t123 t124 t125 t126 t127 t128 t129 t130 t131 t132 t133))) else (inst_Is.j0 k t121 false a0_0 a0_1 a0_2 a0_3 a0_4 a0_5 a0_6 a0_7 a0_8 a0_9 t122 t123 t124 t125 t126 t127 t128 t129 t130 t131 t132 t133))) else (inst_Is.j0 k t121 false a0_0 a0_1 a0_2 a0_3 a0_4 a0_5 a0_6 a0_7 a0_8 a0_9 t122 t123 t124 t125 t126 t127 t128 t129 t130 t131 t132 t133))) = some r := H
  have A7 := Aside0.mk A70
  clear A70
  have HC8 := Aside0.mk H
  clear H
  go_enter Tryd.func5, Tryd.ntmps5
  go_upto_region 5 with (first | ((with_reducible refine gate_dst (N := 1) rfl ?_); refine box_event ?hg (N := 1) ?hd (cs := #[.int .i64 a0_0, .int .i64 a0_1, .int .i64 a0_2, .int .i64 a0_3, .int .i64 a0_4, .int .i64 a0_5, .int .u64 a0_6, .int .i64 a0_7, .int .i64 a0_8, .int .i64 a0_9]) (t := 24) ?hr ?_; (case hd => rfl); (case hg => rfl); (case hr => first | (go_simp; done) | (go_simp; rfl)); intro gb120 hg w9 hbox hb; have n0_ := Aside0.mk (below_step (by repeat (first | (with_reducible first | exact HB.out | apply below_alloc | apply pw_below_drewN | apply below_drew1) | exact HB.out)) hb); have n1_ := Aside0.mk (hbox); have n2_ := Aside0.mk ((by rw [hg]; exact (below_size (by repeat (first | (with_reducible first | exact HB.out | apply below_alloc | apply pw_below_drewN | apply below_drew1) | exact HB.out))) : w.heap.size ≤ gb120)); have n3_ := Aside0.mk ((by rw [hg]; exact (below_size (by repeat (first | (with_reducible first | exact HB.out | apply below_alloc | apply pw_below_drewN | apply below_drew1) | exact HB.out))) : w.heap.size ≤ gb120)); clear HB; have HB := n0_; have BK120 := n1_; have GW120 := n2_; have GE120 := n3_; clear n0_ n1_ n2_ n3_; clear hb hbox hg; obtain ⟨hcz10_0, hcz10_1, hcz10_2, hcz10_3, hcz10_4, hcz10_5, hcz10_6, hcz10_7, hcz10_8, hcz10_9⟩ := cells10_ BK120.out; have hfz10_0 := fun j => blk_frozen BK120.out j) | ((with_reducible refine gate_callee (f := 4) rfl ?_); refine goesL_ (some 9) rfl rfl Tryd.func4 (by kernel_rfl) rfl #[.int .i64 a0_0] rfl (by (try simp only [List.map_toArray, List.map_cons, List.map_nil]); first | done | rfl | (simp only [List.length_drop, List.length_take]; rfl)) ?_; (with_reducible refine (inst_Shape.calls a0_0 t121 _ A2.out).mono ?_); rintro e w11 ⟨rfl, hb⟩; refine ⟨_, rfl, ?_⟩; have n0_ := Aside0.mk (blk_below (g := gb120) (o := .cells #[.int .i64 a0_0, .int .i64 a0_1, .int .i64 a0_2, .int .i64 a0_3, .int .i64 a0_4, .int .i64 a0_5, .int .u64 a0_6, .int .i64 a0_7, .int .i64 a0_8, .int .i64 a0_9] 24 (0, 0)) (by (with_reducible repeat (first | refine blk_drewN ?_ _ | refine blk_drew ?_ | refine blk_alloc ?_ _)); exact BK120.out) hb); have n1_ := Aside0.mk (below_step (by repeat (first | (with_reducible first | exact HB.out | apply below_alloc | apply pw_below_drewN | apply below_drew1 | refine below_set ?_ GE120.out) | exact HB.out)) hb); clear BK120; clear HB; have BK120 := n0_; have HB := n1_; clear n0_ n1_; (try clear hb); (try clear hb2); (try clear hk); (try clear hi)) | ((with_reducible refine gate_callee (f := 12) rfl ?_); refine goesL_ (some 13) rfl rfl Tryd.func12 (by kernel_rfl) rfl #[.int .i64 t121] rfl (by (try simp only [List.map_toArray, List.map_cons, List.map_nil]); first | done | rfl | (simp only [List.length_drop, List.length_take]; rfl)) ?_; (with_reducible refine (inst_shapeOf.calls t121 t122 t123 t124 t125 t126 t127 t128 t129 t130 t131 t132 t133 _ A7.out).mono ?_); rintro e w12 ⟨rfl, hb⟩; refine ⟨_, rfl, ?_⟩; have n0_ := Aside0.mk (blk_below (g := gb120) (o := .cells #[.int .i64 a0_0, .int .i64 a0_1, .int .i64 a0_2, .int .i64 a0_3, .int .i64 a0_4, .int .i64 a0_5, .int .u64 a0_6, .int .i64 a0_7, .int .i64 a0_8, .int .i64 a0_9] 24 (0, 0)) (by (with_reducible repeat (first | refine blk_drewN ?_ _ | refine blk_drew ?_ | refine blk_alloc ?_ _)); exact BK120.out) hb); have n1_ := Aside0.mk (below_step (by repeat (first | (with_reducible first | exact HB.out | apply below_alloc | apply pw_below_drewN | apply below_drew1 | refine below_set ?_ GE120.out) | exact HB.out)) hb); clear BK120; clear HB; have BK120 := n0_; have HB := n1_; clear n0_ n1_; (try clear hb); (try clear hb2); (try clear hk); (try clear hi)) | ((with_reducible refine gate_dst (N := 4) rfl ?_); refine box_event ?hg (N := 4) ?hd (cs := #[.bool false, .bool false, .bool false, .bool false, .int .i64 0, .int .i64 0, .int .i64 0, .int .i64 0, .int .i64 0, .int .i64 0, .int .i64 0, .bool false]) (t := 39) ?hr ?_; (case hd => rfl); (case hg => rfl); (case hr => first | (go_simp; done) | (go_simp; rfl)); intro gb134 hg w13 hbox hb; have n0_ := Aside0.mk (blk_below (g := gb120) (o := .cells #[.int .i64 a0_0, .int .i64 a0_1, .int .i64 a0_2, .int .i64 a0_3, .int .i64 a0_4, .int .i64 a0_5, .int .u64 a0_6, .int .i64 a0_7, .int .i64 a0_8, .int .i64 a0_9] 24 (0, 0)) (by (with_reducible repeat (first | refine blk_drewN ?_ _ | refine blk_drew ?_ | refine blk_alloc ?_ _)); exact BK120.out) hb); have n1_ := Aside0.mk (below_step (by repeat (first | (with_reducible first | exact HB.out | apply below_alloc | apply pw_below_drewN | apply below_drew1 | refine below_set ?_ GE120.out) | exact HB.out)) hb); have n2_ := Aside0.mk (hbox); have n3_ := Aside0.mk ((by rw [hg]; exact (below_size (by repeat (first | (with_reducible first | exact HB.out | apply below_alloc | apply pw_below_drewN | apply below_drew1 | refine below_set ?_ GE120.out) | exact HB.out))) : w.heap.size ≤ gb134)); have n4_ := Aside0.mk ((by rw [hg]; exact (below_size (by repeat (first | (with_reducible first | exact HB.out | apply below_alloc | apply pw_below_drewN | apply below_drew1 | refine below_set ?_ GE120.out) | exact HB.out))) : w.heap.size ≤ gb134)); have n5_ := Aside0.mk ((by rw [hg]; exact Nat.ne_of_lt (blk_lt (g := gb120) (o := .cells #[.int .i64 a0_0, .int .i64 a0_1, .int .i64 a0_2, .int .i64 a0_3, .int .i64 a0_4, .int .i64 a0_5, .int .u64 a0_6, .int .i64 a0_7, .int .i64 a0_8, .int .i64 a0_9] 24 (0, 0)) (by (with_reducible repeat (first | refine blk_drewN ?_ _ | refine blk_drew ?_ | refine blk_alloc ?_ _)); exact BK120.out)) : gb120 ≠ gb134)); have n6_ := Aside0.mk ((by rw [hg]; exact Nat.ne_of_gt (blk_lt (g := gb120) (o := .cells #[.int .i64 a0_0, .int .i64 a0_1, .int .i64 a0_2, .int .i64 a0_3, .int .i64 a0_4, .int .i64 a0_5, .int .u64 a0_6, .int .i64 a0_7, .int .i64 a0_8, .int .i64 a0_9] 24 (0, 0)) (by (with_reducible repeat (first | refine blk_drewN ?_ _ | refine blk_drew ?_ | refine blk_alloc ?_ _)); exact BK120.out)) : gb134 ≠ gb120)); clear BK120; clear HB; have BK120 := n0_; have HB := n1_; have BK134 := n2_; have GW134 := n3_; have GE134 := n4_; have NB120_134 := n5_; have NB134_120 := n6_; clear n0_ n1_ n2_ n3_ n4_ n5_ n6_; clear hb hbox hg; have hnb14 := NB134_120.out; have hnc14 := NB120_134.out; obtain ⟨hcz15_0, hcz15_1, hcz15_2, hcz15_3, hcz15_4, hcz15_5, hcz15_6, hcz15_7, hcz15_8, hcz15_9, hcz15_10, hcz15_11⟩ := cells12_ BK134.out; have hfz15_0 := fun j => blk_frozen BK134.out j))
  (try simp only [Act.put, List.setIfInBounds_toArray, List.set_cons_zero, List.set_cons_succ])
  go_cut [5] (fun v5 wc => ∃ (kq : Nat) (x5_7 : Bool), v5 = .bool x5_7 ∧ Aside0 (inst_Is.j0 kq t121 x5_7 a0_0 a0_1 a0_2 a0_3 a0_4 a0_5 a0_6 a0_7 a0_8 a0_9 t122 t123 t124 t125 t126 t127 t128 t129 t130 t131 t132 t133 = some r) ∧ Aside0 (kq ≤ k) ∧ Aside0 (wc.heap[gb120]? = some (.cells #[.int .i64 a0_0, .int .i64 a0_1, .int .i64 a0_2, .int .i64 a0_3, .int .i64 a0_4, .int .i64 a0_5, .int .u64 a0_6, .int .i64 a0_7, .int .i64 a0_8, .int .i64 a0_9] 24 (0, 0))) ∧ Aside0 (wc.heap[gb134]? = some (.cells #[.bool t122, .bool t123, .bool t124, .bool t125, .int .i64 t126, .int .i64 t127, .int .i64 t128, .int .i64 t129, .int .i64 t130, .int .i64 t131, .int .i64 t132, .bool t133] 39 (0, 0))) ∧ Aside0 (Below w.heap.size w wc))
  case first =>
   have H := HC8.out
   clear HC8
   replace H := Option.bind_eq_some_iff.mp H
   obtain ⟨t135, A160, H⟩ := H
   replace H : (if t135 = true then ((inst_register.f t123 a0_2).bind fun t136 => (if t136 = true then ((inst_register.f t124 a0_3).bind fun t137 => (if t137 = true then ((inst_register.f t125 a0_4).bind fun t138 => (inst_Is.j0 k t121 t138 a0_0 a0_1 a0_2 a0_3 a0_4 a0_5 a0_6 a0_7 a0_8 a0_9 t122 t123 t124 t125 t126 t127 t128 t129 t130 t131 t132 t133)) else (inst_Is.j0 k t121 false a0_0 a0_1 a0_2 a0_3 a0_4 a0_5 a0_6 a0_7 a0_8 a0_9 t122 t123 t124 t125 t126 t127 t128 t129 t130 t131 t132 t133))) else (inst_Is.j0 k t121 false a0_0 a0_1 a0_2 a0_3 a0_4 a0_5 a0_6 a0_7 a0_8 a0_9 t122 t123 t124 t125 t126 t127 t128 t129 t130 t131 t132 t133))) else (inst_Is.j0 k t121 false a0_0 a0_1 a0_2 a0_3 a0_4 a0_5 a0_6 a0_7 a0_8 a0_9 t122 t123 t124 t125 t126 t127 t128 t129 t130 t131 t132 t133)) = some r := H
   have A16 := Aside0.mk A160
   clear A160
   by_cases c17 : t135 = true
   ·
    subst c17
    have H1 : ((inst_register.f t123 a0_2).bind fun t136 => (if t136 = true then ((inst_register.f t124 a0_3).bind fun t137 => (if t137 = true then ((inst_register.f t125 a0_4).bind fun t138 => (inst_Is.j0 k t121 t138 a0_0 a0_1 a0_2 a0_3 a0_4 a0_5 a0_6 a0_7 a0_8 a0_9 t122 t123 t124 t125 t126 t127 t128 t129 t130 t131 t132 t133)) else (inst_Is.j0 k t121 false a0_0 a0_1 a0_2 a0_3 a0_4 a0_5 a0_6 a0_7 a0_8 a0_9 t122 t123 t124 t125 t126 t127 t128 t129 t130 t131 t132 t133))) else (inst_Is.j0 k t121 false a0_0 a0_1 a0_2 a0_3 a0_4 a0_5 a0_6 a0_7 a0_8 a0_9 t122 t123 t124 t125 t126 t127 t128 t129 t130 t131 t132 t133))) = some r := by rw [if_pos rfl] at H; exact H
    clear H
    have H := H1
    clear H1
    replace H := Option.bind_eq_some_iff.mp H
    obtain ⟨t136, A180, H⟩ := H
    replace H : (if t136 = true then ((inst_register.f t124 a0_3).bind fun t137 => (if t137 = true then ((inst_register.f t125 a0_4).bind fun t138 => (inst_Is.j0 k t121 t138 a0_0 a0_1 a0_2 a0_3 a0_4 a0_5 a0_6 a0_7 a0_8 a0_9 t122 t123 t124 t125 t126 t127 t128 t129 t130 t131 t132 t133)) else (inst_Is.j0 k t121 false a0_0 a0_1 a0_2 a0_3 a0_4 a0_5 a0_6 a0_7 a0_8 a0_9 t122 t123 t124 t125 t126 t127 t128 t129 t130 t131 t132 t133))) else (inst_Is.j0 k t121 false a0_0 a0_1 a0_2 a0_3 a0_4 a0_5 a0_6 a0_7 a0_8 a0_9 t122 t123 t124 t125 t126 t127 t128 t129 t130 t131 t132 t133)) = some r := H
    have A18 := Aside0.mk A180
    clear A180
    by_cases c19 : t136 = true
    ·
     subst c19
     have H1 : ((inst_register.f t124 a0_3).bind fun t137 => (if t137 = true then ((inst_register.f t125 a0_4).bind fun t138 => (inst_Is.j0 k t121 t138 a0_0 a0_1 a0_2 a0_3 a0_4 a0_5 a0_6 a0_7 a0_8 a0_9 t122 t123 t124 t125 t126 t127 t128 t129 t130 t131 t132 t133)) else (inst_Is.j0 k t121 false a0_0 a0_1 a0_2 a0_3 a0_4 a0_5 a0_6 a0_7 a0_8 a0_9 t122 t123 t124 t125 t126 t127 t128 t129 t130 t131 t132 t133))) = some r := by rw [if_pos rfl] at H; exact H
     clear H
     have H := H1
     clear H1
     replace H := Option.bind_eq_some_iff.mp H
     obtain ⟨t137, A200, H⟩ := H
     replace H : (if t137 = true then ((inst_register.f t125 a0_4).bind fun t138 => (inst_Is.j0 k t121 t138 a0_0 a0_1 a0_2 a0_3 a0_4 a0_5 a0_6 a0_7 a0_8 a0_9 t122 t123 t124 t125 t126 t127 t128 t129 t130 t131 t132 t133)) else (inst_Is.j0 k t121 false a0_0 a0_1 a0_2 a0_3 a0_4 a0_5 a0_6 a0_7 a0_8 a0_9 t122 t123 t124 t125 t126 t127 t128 t129 t130 t131 t132 t133)) = some r := H
     have A20 := Aside0.mk A200
     clear A200
     by_cases c21 : t137 = true
     ·
      subst c21
      have H1 : ((inst_register.f t125 a0_4).bind fun t138 => (inst_Is.j0 k t121 t138 a0_0 a0_1 a0_2 a0_3 a0_4 a0_5 a0_6 a0_7 a0_8 a0_9 t122 t123 t124 t125 t126 t127 t128 t129 t130 t131 t132 t133)) = some r := by rw [if_pos rfl] at H; exact H
      clear H
      have H := H1
      clear H1
      replace H := Option.bind_eq_some_iff.mp H
      obtain ⟨t138, A220, H⟩ := H
      replace H : (inst_Is.j0 k t121 t138 a0_0 a0_1 a0_2 a0_3 a0_4 a0_5 a0_6 a0_7 a0_8 a0_9 t122 t123 t124 t125 t126 t127 t128 t129 t130 t131 t132 t133) = some r := H
      have A22 := Aside0.mk A220
      clear A220
      have H' := Aside0.mk H
      clear H
      have hnb23 := NB134_120.out
      have hnc23 := NB120_134.out
      have hcz24_0 : w13.cell? ⟨gb134, 0, none⟩ = some (.bool false) := (blk_cell BK134.out 0).trans rfl
      have hcz24_1 : w13.cell? ⟨gb134, 1, none⟩ = some (.bool false) := (blk_cell BK134.out 1).trans rfl
      have hcz24_2 : w13.cell? ⟨gb134, 2, none⟩ = some (.bool false) := (blk_cell BK134.out 2).trans rfl
      have hcz24_3 : w13.cell? ⟨gb134, 3, none⟩ = some (.bool false) := (blk_cell BK134.out 3).trans rfl
      have hcz24_4 : w13.cell? ⟨gb134, 4, none⟩ = some (.int .i64 0) := (blk_cell BK134.out 4).trans rfl
      have hcz24_5 : w13.cell? ⟨gb134, 5, none⟩ = some (.int .i64 0) := (blk_cell BK134.out 5).trans rfl
      have hcz24_6 : w13.cell? ⟨gb134, 6, none⟩ = some (.int .i64 0) := (blk_cell BK134.out 6).trans rfl
      have hcz24_7 : w13.cell? ⟨gb134, 7, none⟩ = some (.int .i64 0) := (blk_cell BK134.out 7).trans rfl
      have hcz24_8 : w13.cell? ⟨gb134, 8, none⟩ = some (.int .i64 0) := (blk_cell BK134.out 8).trans rfl
      have hcz24_9 : w13.cell? ⟨gb134, 9, none⟩ = some (.int .i64 0) := (blk_cell BK134.out 9).trans rfl
      have hcz24_10 : w13.cell? ⟨gb134, 10, none⟩ = some (.int .i64 0) := (blk_cell BK134.out 10).trans rfl
      have hcz24_11 : w13.cell? ⟨gb134, 11, none⟩ = some (.bool false) := (blk_cell BK134.out 11).trans rfl
      have hfz24_0 := blk_frozen BK134.out 0
      have hfz24_1 := blk_frozen BK134.out 1
      have hfz24_2 := blk_frozen BK134.out 2
      have hfz24_3 := blk_frozen BK134.out 3
      have hfz24_4 := blk_frozen BK134.out 4
      have hfz24_5 := blk_frozen BK134.out 5
      have hfz24_6 := blk_frozen BK134.out 6
      have hfz24_7 := blk_frozen BK134.out 7
      have hfz24_8 := blk_frozen BK134.out 8
      have hfz24_9 := blk_frozen BK134.out 9
      have hfz24_10 := blk_frozen BK134.out 10
      have hfz24_11 := blk_frozen BK134.out 11
      have hcz25_0 : w13.cell? ⟨gb120, 0, none⟩ = some (.int .i64 a0_0) := (blk_cell BK120.out 0).trans rfl
      have hcz25_1 : w13.cell? ⟨gb120, 1, none⟩ = some (.int .i64 a0_1) := (blk_cell BK120.out 1).trans rfl
      have hcz25_2 : w13.cell? ⟨gb120, 2, none⟩ = some (.int .i64 a0_2) := (blk_cell BK120.out 2).trans rfl
      have hcz25_3 : w13.cell? ⟨gb120, 3, none⟩ = some (.int .i64 a0_3) := (blk_cell BK120.out 3).trans rfl
      have hcz25_4 : w13.cell? ⟨gb120, 4, none⟩ = some (.int .i64 a0_4) := (blk_cell BK120.out 4).trans rfl
      have hcz25_5 : w13.cell? ⟨gb120, 5, none⟩ = some (.int .i64 a0_5) := (blk_cell BK120.out 5).trans rfl
      have hcz25_6 : w13.cell? ⟨gb120, 6, none⟩ = some (.int .u64 a0_6) := (blk_cell BK120.out 6).trans rfl
      have hcz25_7 : w13.cell? ⟨gb120, 7, none⟩ = some (.int .i64 a0_7) := (blk_cell BK120.out 7).trans rfl
      have hcz25_8 : w13.cell? ⟨gb120, 8, none⟩ = some (.int .i64 a0_8) := (blk_cell BK120.out 8).trans rfl
      have hcz25_9 : w13.cell? ⟨gb120, 9, none⟩ = some (.int .i64 a0_9) := (blk_cell BK120.out 9).trans rfl
      have hfz25_0 := blk_frozen BK120.out 0
      have hfz25_1 := blk_frozen BK120.out 1
      have hfz25_2 := blk_frozen BK120.out 2
      have hfz25_3 := blk_frozen BK120.out 3
      have hfz25_4 := blk_frozen BK120.out 4
      have hfz25_5 := blk_frozen BK120.out 5
      have hfz25_6 := blk_frozen BK120.out 6
      have hfz25_7 := blk_frozen BK120.out 7
      have hfz25_8 := blk_frozen BK120.out 8
      have hfz25_9 := blk_frozen BK120.out 9
      go_wp2_with (first | ((with_reducible refine gate_callee (f := 13) rfl ?_); refine goesL_ (some 18) rfl rfl Tryd.func13 (by kernel_rfl) rfl #[.bool t122, .int .i64 a0_1] rfl (by (try simp only [List.map_toArray, List.map_cons, List.map_nil]); first | done | rfl | (simp only [List.length_drop, List.length_take]; rfl)) ?_; (with_reducible refine (inst_register.calls t122 a0_1 true _ A16.out).mono ?_); rintro e w' ⟨rfl, ⟨nd, rfl⟩⟩; refine ⟨_, rfl, ?_⟩) | (go_at_call 13; (with_reducible refine (inst_register.calls t123 a0_2 true _ A18.out).mono ?_); rintro e w' ⟨rfl, ⟨nd, rfl⟩⟩) | (go_at_call 13; (with_reducible refine (inst_register.calls t124 a0_3 true _ A20.out).mono ?_); rintro e w' ⟨rfl, ⟨nd, rfl⟩⟩) | (go_at_call 13; (with_reducible refine (inst_register.calls t125 a0_4 t138 _ A22.out).mono ?_); rintro e w' ⟨rfl, ⟨nd, rfl⟩⟩))
      go_meet
      case rel => exact ⟨_, (t138), (by first | rfl | (simp; done) | (simp [*]; done)), H', ⟨by first | omega | exact Nat.le_refl _⟩, ⟨by (with_reducible repeat (first | refine blk_drewN ?_ _ | refine blk_drew ?_ | refine blk_alloc ?_ _)); refine blk_far ?_ NB120_134.out _; (with_reducible repeat (first | refine blk_drewN ?_ _ | refine blk_drew ?_ | refine blk_alloc ?_ _)); refine blk_far ?_ NB120_134.out _; (with_reducible repeat (first | refine blk_drewN ?_ _ | refine blk_drew ?_ | refine blk_alloc ?_ _)); refine blk_far ?_ NB120_134.out _; (with_reducible repeat (first | refine blk_drewN ?_ _ | refine blk_drew ?_ | refine blk_alloc ?_ _)); refine blk_far ?_ NB120_134.out _; (with_reducible repeat (first | refine blk_drewN ?_ _ | refine blk_drew ?_ | refine blk_alloc ?_ _)); refine blk_far ?_ NB120_134.out _; (with_reducible repeat (first | refine blk_drewN ?_ _ | refine blk_drew ?_ | refine blk_alloc ?_ _)); refine blk_far ?_ NB120_134.out _; (with_reducible repeat (first | refine blk_drewN ?_ _ | refine blk_drew ?_ | refine blk_alloc ?_ _)); refine blk_far ?_ NB120_134.out _; (with_reducible repeat (first | refine blk_drewN ?_ _ | refine blk_drew ?_ | refine blk_alloc ?_ _)); refine blk_far ?_ NB120_134.out _; (with_reducible repeat (first | refine blk_drewN ?_ _ | refine blk_drew ?_ | refine blk_alloc ?_ _)); refine blk_far ?_ NB120_134.out _; (with_reducible repeat (first | refine blk_drewN ?_ _ | refine blk_drew ?_ | refine blk_alloc ?_ _)); refine blk_far ?_ NB120_134.out _; (with_reducible repeat (first | refine blk_drewN ?_ _ | refine blk_drew ?_ | refine blk_alloc ?_ _)); refine blk_far ?_ NB120_134.out _; (with_reducible repeat (first | refine blk_drewN ?_ _ | refine blk_drew ?_ | refine blk_alloc ?_ _)); refine blk_far ?_ NB120_134.out _; (with_reducible repeat (first | refine blk_drewN ?_ _ | refine blk_drew ?_ | refine blk_alloc ?_ _)); exact BK120.out⟩, ⟨by (with_reducible repeat (first | refine blk_drewN ?_ _ | refine blk_drew ?_ | refine blk_alloc ?_ _)); refine blk_put (cs := #[.bool t122, .bool t123, .bool t124, .bool t125, .int .i64 t126, .int .i64 t127, .int .i64 t128, .int .i64 t129, .int .i64 t130, .int .i64 t131, .int .i64 t132, .bool false]) ?_ 11 _ rfl; (with_reducible repeat (first | refine blk_drewN ?_ _ | refine blk_drew ?_ | refine blk_alloc ?_ _)); refine blk_put (cs := #[.bool t122, .bool t123, .bool t124, .bool t125, .int .i64 t126, .int .i64 t127, .int .i64 t128, .int .i64 t129, .int .i64 t130, .int .i64 t131, .int .i64 0, .bool false]) ?_ 10 _ rfl; (with_reducible repeat (first | refine blk_drewN ?_ _ | refine blk_drew ?_ | refine blk_alloc ?_ _)); refine blk_put (cs := #[.bool t122, .bool t123, .bool t124, .bool t125, .int .i64 t126, .int .i64 t127, .int .i64 t128, .int .i64 t129, .int .i64 t130, .int .i64 0, .int .i64 0, .bool false]) ?_ 9 _ rfl; (with_reducible repeat (first | refine blk_drewN ?_ _ | refine blk_drew ?_ | refine blk_alloc ?_ _)); refine blk_put (cs := #[.bool t122, .bool t123, .bool t124, .bool t125, .int .i64 t126, .int .i64 t127, .int .i64 t128, .int .i64 t129, .int .i64 0, .int .i64 0, .int .i64 0, .bool false]) ?_ 8 _ rfl; (with_reducible repeat (first | refine blk_drewN ?_ _ | refine blk_drew ?_ | refine blk_alloc ?_ _)); refine blk_put (cs := #[.bool t122, .bool t123, .bool t124, .bool t125, .int .i64 t126, .int .i64 t127, .int .i64 t128, .int .i64 0, .int .i64 0, .int .i64 0, .int .i64 0, .bool false]) ?_ 7 _ rfl; (with_reducible repeat (first | refine blk_drewN ?_ _ | refine blk_drew ?_ | refine blk_alloc ?_ _)); refine blk_put (cs := #[.bool t122, .bool t123, .bool t124, .bool t125, .int .i64 t126, .int .i64 t127, .int .i64 0, .int .i64 0, .int .i64 0, .int .i64 0, .int .i64 0, .bool false]) ?_ 6 _ rfl; (with_reducible repeat (first | refine blk_drewN ?_ _ | refine blk_drew ?_ | refine blk_alloc ?_ _)); refine blk_put (cs := #[.bool t122, .bool t123, .bool t124, .bool t125, .int .i64 t126, .int .i64 0, .int .i64 0, .int .i64 0, .int .i64 0, .int .i64 0, .int .i64 0, .bool false]) ?_ 5 _ rfl; (with_reducible repeat (first | refine blk_drewN ?_ _ | refine blk_drew ?_ | refine blk_alloc ?_ _)); refine blk_put (cs := #[.bool t122, .bool t123, .bool t124, .bool t125, .int .i64 0, .int .i64 0, .int .i64 0, .int .i64 0, .int .i64 0, .int .i64 0, .int .i64 0, .bool false]) ?_ 4 _ rfl; (with_reducible repeat (first | refine blk_drewN ?_ _ | refine blk_drew ?_ | refine blk_alloc ?_ _)); refine blk_put (cs := #[.bool t122, .bool t123, .bool t124, .bool false, .int .i64 0, .int .i64 0, .int .i64 0, .int .i64 0, .int .i64 0, .int .i64 0, .int .i64 0, .bool false]) ?_ 3 _ rfl; (with_reducible repeat (first | refine blk_drewN ?_ _ | refine blk_drew ?_ | refine blk_alloc ?_ _)); refine blk_put (cs := #[.bool t122, .bool t123, .bool false, .bool false, .int .i64 0, .int .i64 0, .int .i64 0, .int .i64 0, .int .i64 0, .int .i64 0, .int .i64 0, .bool false]) ?_ 2 _ rfl; (with_reducible repeat (first | refine blk_drewN ?_ _ | refine blk_drew ?_ | refine blk_alloc ?_ _)); refine blk_put (cs := #[.bool t122, .bool false, .bool false, .bool false, .int .i64 0, .int .i64 0, .int .i64 0, .int .i64 0, .int .i64 0, .int .i64 0, .int .i64 0, .bool false]) ?_ 1 _ rfl; (with_reducible repeat (first | refine blk_drewN ?_ _ | refine blk_drew ?_ | refine blk_alloc ?_ _)); refine blk_put (cs := #[.bool false, .bool false, .bool false, .bool false, .int .i64 0, .int .i64 0, .int .i64 0, .int .i64 0, .int .i64 0, .int .i64 0, .int .i64 0, .bool false]) ?_ 0 _ rfl; (with_reducible repeat (first | refine blk_drewN ?_ _ | refine blk_drew ?_ | refine blk_alloc ?_ _)); exact BK134.out⟩, ⟨by repeat (first | (with_reducible first | exact HB.out | apply below_alloc | apply pw_below_drewN | apply below_drew1 | refine below_set ?_ GE120.out | refine below_set ?_ GE134.out) | exact HB.out)⟩⟩
     ·
      replace c21 := Bool.eq_false_iff.mpr c21
      subst c21
      have H1 : (inst_Is.j0 k t121 false a0_0 a0_1 a0_2 a0_3 a0_4 a0_5 a0_6 a0_7 a0_8 a0_9 t122 t123 t124 t125 t126 t127 t128 t129 t130 t131 t132 t133) = some r := by rw [if_neg (show ¬ (false = true) by decide)] at H; exact H
      clear H
      have H := H1
      clear H1
      have H' := Aside0.mk H
      clear H
      have hnb26 := NB134_120.out
      have hnc26 := NB120_134.out
      have hcz27_0 : w13.cell? ⟨gb134, 0, none⟩ = some (.bool false) := (blk_cell BK134.out 0).trans rfl
      have hcz27_1 : w13.cell? ⟨gb134, 1, none⟩ = some (.bool false) := (blk_cell BK134.out 1).trans rfl
      have hcz27_2 : w13.cell? ⟨gb134, 2, none⟩ = some (.bool false) := (blk_cell BK134.out 2).trans rfl
      have hcz27_3 : w13.cell? ⟨gb134, 3, none⟩ = some (.bool false) := (blk_cell BK134.out 3).trans rfl
      have hcz27_4 : w13.cell? ⟨gb134, 4, none⟩ = some (.int .i64 0) := (blk_cell BK134.out 4).trans rfl
      have hcz27_5 : w13.cell? ⟨gb134, 5, none⟩ = some (.int .i64 0) := (blk_cell BK134.out 5).trans rfl
      have hcz27_6 : w13.cell? ⟨gb134, 6, none⟩ = some (.int .i64 0) := (blk_cell BK134.out 6).trans rfl
      have hcz27_7 : w13.cell? ⟨gb134, 7, none⟩ = some (.int .i64 0) := (blk_cell BK134.out 7).trans rfl
      have hcz27_8 : w13.cell? ⟨gb134, 8, none⟩ = some (.int .i64 0) := (blk_cell BK134.out 8).trans rfl
      have hcz27_9 : w13.cell? ⟨gb134, 9, none⟩ = some (.int .i64 0) := (blk_cell BK134.out 9).trans rfl
      have hcz27_10 : w13.cell? ⟨gb134, 10, none⟩ = some (.int .i64 0) := (blk_cell BK134.out 10).trans rfl
      have hcz27_11 : w13.cell? ⟨gb134, 11, none⟩ = some (.bool false) := (blk_cell BK134.out 11).trans rfl
      have hfz27_0 := blk_frozen BK134.out 0
      have hfz27_1 := blk_frozen BK134.out 1
      have hfz27_2 := blk_frozen BK134.out 2
      have hfz27_3 := blk_frozen BK134.out 3
      have hfz27_4 := blk_frozen BK134.out 4
      have hfz27_5 := blk_frozen BK134.out 5
      have hfz27_6 := blk_frozen BK134.out 6
      have hfz27_7 := blk_frozen BK134.out 7
      have hfz27_8 := blk_frozen BK134.out 8
      have hfz27_9 := blk_frozen BK134.out 9
      have hfz27_10 := blk_frozen BK134.out 10
      have hfz27_11 := blk_frozen BK134.out 11
      have hcz28_0 : w13.cell? ⟨gb120, 0, none⟩ = some (.int .i64 a0_0) := (blk_cell BK120.out 0).trans rfl
      have hcz28_1 : w13.cell? ⟨gb120, 1, none⟩ = some (.int .i64 a0_1) := (blk_cell BK120.out 1).trans rfl
      have hcz28_2 : w13.cell? ⟨gb120, 2, none⟩ = some (.int .i64 a0_2) := (blk_cell BK120.out 2).trans rfl
      have hcz28_3 : w13.cell? ⟨gb120, 3, none⟩ = some (.int .i64 a0_3) := (blk_cell BK120.out 3).trans rfl
      have hcz28_4 : w13.cell? ⟨gb120, 4, none⟩ = some (.int .i64 a0_4) := (blk_cell BK120.out 4).trans rfl
      have hcz28_5 : w13.cell? ⟨gb120, 5, none⟩ = some (.int .i64 a0_5) := (blk_cell BK120.out 5).trans rfl
      have hcz28_6 : w13.cell? ⟨gb120, 6, none⟩ = some (.int .u64 a0_6) := (blk_cell BK120.out 6).trans rfl
      have hcz28_7 : w13.cell? ⟨gb120, 7, none⟩ = some (.int .i64 a0_7) := (blk_cell BK120.out 7).trans rfl
      have hcz28_8 : w13.cell? ⟨gb120, 8, none⟩ = some (.int .i64 a0_8) := (blk_cell BK120.out 8).trans rfl
      have hcz28_9 : w13.cell? ⟨gb120, 9, none⟩ = some (.int .i64 a0_9) := (blk_cell BK120.out 9).trans rfl
      have hfz28_0 := blk_frozen BK120.out 0
      have hfz28_1 := blk_frozen BK120.out 1
      have hfz28_2 := blk_frozen BK120.out 2
      have hfz28_3 := blk_frozen BK120.out 3
      have hfz28_4 := blk_frozen BK120.out 4
      have hfz28_5 := blk_frozen BK120.out 5
      have hfz28_6 := blk_frozen BK120.out 6
      have hfz28_7 := blk_frozen BK120.out 7
      have hfz28_8 := blk_frozen BK120.out 8
      have hfz28_9 := blk_frozen BK120.out 9
      go_wp2_with (first | ((with_reducible refine gate_callee (f := 13) rfl ?_); refine goesL_ (some 18) rfl rfl Tryd.func13 (by kernel_rfl) rfl #[.bool t122, .int .i64 a0_1] rfl (by (try simp only [List.map_toArray, List.map_cons, List.map_nil]); first | done | rfl | (simp only [List.length_drop, List.length_take]; rfl)) ?_; (with_reducible refine (inst_register.calls t122 a0_1 true _ A16.out).mono ?_); rintro e w' ⟨rfl, ⟨nd, rfl⟩⟩; refine ⟨_, rfl, ?_⟩) | (go_at_call 13; (with_reducible refine (inst_register.calls t123 a0_2 true _ A18.out).mono ?_); rintro e w' ⟨rfl, ⟨nd, rfl⟩⟩) | (go_at_call 13; (with_reducible refine (inst_register.calls t124 a0_3 false _ A20.out).mono ?_); rintro e w' ⟨rfl, ⟨nd, rfl⟩⟩))
      go_meet
      case rel => exact ⟨_, (false), (by first | rfl | (simp; done) | (simp [*]; done)), H', ⟨by first | omega | exact Nat.le_refl _⟩, ⟨by (with_reducible repeat (first | refine blk_drewN ?_ _ | refine blk_drew ?_ | refine blk_alloc ?_ _)); refine blk_far ?_ NB120_134.out _; (with_reducible repeat (first | refine blk_drewN ?_ _ | refine blk_drew ?_ | refine blk_alloc ?_ _)); refine blk_far ?_ NB120_134.out _; (with_reducible repeat (first | refine blk_drewN ?_ _ | refine blk_drew ?_ | refine blk_alloc ?_ _)); refine blk_far ?_ NB120_134.out _; (with_reducible repeat (first | refine blk_drewN ?_ _ | refine blk_drew ?_ | refine blk_alloc ?_ _)); refine blk_far ?_ NB120_134.out _; (with_reducible repeat (first | refine blk_drewN ?_ _ | refine blk_drew ?_ | refine blk_alloc ?_ _)); refine blk_far ?_ NB120_134.out _; (with_reducible repeat (first | refine blk_drewN ?_ _ | refine blk_drew ?_ | refine blk_alloc ?_ _)); refine blk_far ?_ NB120_134.out _; (with_reducible repeat (first | refine blk_drewN ?_ _ | refine blk_drew ?_ | refine blk_alloc ?_ _)); refine blk_far ?_ NB120_134.out _; (with_reducible repeat (first | refine blk_drewN ?_ _ | refine blk_drew ?_ | refine blk_alloc ?_ _)); refine blk_far ?_ NB120_134.out _; (with_reducible repeat (first | refine blk_drewN ?_ _ | refine blk_drew ?_ | refine blk_alloc ?_ _)); refine blk_far ?_ NB120_134.out _; (with_reducible repeat (first | refine blk_drewN ?_ _ | refine blk_drew ?_ | refine blk_alloc ?_ _)); refine blk_far ?_ NB120_134.out _; (with_reducible repeat (first | refine blk_drewN ?_ _ | refine blk_drew ?_ | refine blk_alloc ?_ _)); refine blk_far ?_ NB120_134.out _; (with_reducible repeat (first | refine blk_drewN ?_ _ | refine blk_drew ?_ | refine blk_alloc ?_ _)); refine blk_far ?_ NB120_134.out _; (with_reducible repeat (first | refine blk_drewN ?_ _ | refine blk_drew ?_ | refine blk_alloc ?_ _)); exact BK120.out⟩, ⟨by (with_reducible repeat (first | refine blk_drewN ?_ _ | refine blk_drew ?_ | refine blk_alloc ?_ _)); refine blk_put (cs := #[.bool t122, .bool t123, .bool t124, .bool t125, .int .i64 t126, .int .i64 t127, .int .i64 t128, .int .i64 t129, .int .i64 t130, .int .i64 t131, .int .i64 t132, .bool false]) ?_ 11 _ rfl; (with_reducible repeat (first | refine blk_drewN ?_ _ | refine blk_drew ?_ | refine blk_alloc ?_ _)); refine blk_put (cs := #[.bool t122, .bool t123, .bool t124, .bool t125, .int .i64 t126, .int .i64 t127, .int .i64 t128, .int .i64 t129, .int .i64 t130, .int .i64 t131, .int .i64 0, .bool false]) ?_ 10 _ rfl; (with_reducible repeat (first | refine blk_drewN ?_ _ | refine blk_drew ?_ | refine blk_alloc ?_ _)); refine blk_put (cs := #[.bool t122, .bool t123, .bool t124, .bool t125, .int .i64 t126, .int .i64 t127, .int .i64 t128, .int .i64 t129, .int .i64 t130, .int .i64 0, .int .i64 0, .bool false]) ?_ 9 _ rfl; (with_reducible repeat (first | refine blk_drewN ?_ _ | refine blk_drew ?_ | refine blk_alloc ?_ _)); refine blk_put (cs := #[.bool t122, .bool t123, .bool t124, .bool t125, .int .i64 t126, .int .i64 t127, .int .i64 t128, .int .i64 t129, .int .i64 0, .int .i64 0, .int .i64 0, .bool false]) ?_ 8 _ rfl; (with_reducible repeat (first | refine blk_drewN ?_ _ | refine blk_drew ?_ | refine blk_alloc ?_ _)); refine blk_put (cs := #[.bool t122, .bool t123, .bool t124, .bool t125, .int .i64 t126, .int .i64 t127, .int .i64 t128, .int .i64 0, .int .i64 0, .int .i64 0, .int .i64 0, .bool false]) ?_ 7 _ rfl; (with_reducible repeat (first | refine blk_drewN ?_ _ | refine blk_drew ?_ | refine blk_alloc ?_ _)); refine blk_put (cs := #[.bool t122, .bool t123, .bool t124, .bool t125, .int .i64 t126, .int .i64 t127, .int .i64 0, .int .i64 0, .int .i64 0, .int .i64 0, .int .i64 0, .bool false]) ?_ 6 _ rfl; (with_reducible repeat (first | refine blk_drewN ?_ _ | refine blk_drew ?_ | refine blk_alloc ?_ _)); refine blk_put (cs := #[.bool t122, .bool t123, .bool t124, .bool t125, .int .i64 t126, .int .i64 0, .int .i64 0, .int .i64 0, .int .i64 0, .int .i64 0, .int .i64 0, .bool false]) ?_ 5 _ rfl; (with_reducible repeat (first | refine blk_drewN ?_ _ | refine blk_drew ?_ | refine blk_alloc ?_ _)); refine blk_put (cs := #[.bool t122, .bool t123, .bool t124, .bool t125, .int .i64 0, .int .i64 0, .int .i64 0, .int .i64 0, .int .i64 0, .int .i64 0, .int .i64 0, .bool false]) ?_ 4 _ rfl; (with_reducible repeat (first | refine blk_drewN ?_ _ | refine blk_drew ?_ | refine blk_alloc ?_ _)); refine blk_put (cs := #[.bool t122, .bool t123, .bool t124, .bool false, .int .i64 0, .int .i64 0, .int .i64 0, .int .i64 0, .int .i64 0, .int .i64 0, .int .i64 0, .bool false]) ?_ 3 _ rfl; (with_reducible repeat (first | refine blk_drewN ?_ _ | refine blk_drew ?_ | refine blk_alloc ?_ _)); refine blk_put (cs := #[.bool t122, .bool t123, .bool false, .bool false, .int .i64 0, .int .i64 0, .int .i64 0, .int .i64 0, .int .i64 0, .int .i64 0, .int .i64 0, .bool false]) ?_ 2 _ rfl; (with_reducible repeat (first | refine blk_drewN ?_ _ | refine blk_drew ?_ | refine blk_alloc ?_ _)); refine blk_put (cs := #[.bool t122, .bool false, .bool false, .bool false, .int .i64 0, .int .i64 0, .int .i64 0, .int .i64 0, .int .i64 0, .int .i64 0, .int .i64 0, .bool false]) ?_ 1 _ rfl; (with_reducible repeat (first | refine blk_drewN ?_ _ | refine blk_drew ?_ | refine blk_alloc ?_ _)); refine blk_put (cs := #[.bool false, .bool false, .bool false, .bool false, .int .i64 0, .int .i64 0, .int .i64 0, .int .i64 0, .int .i64 0, .int .i64 0, .int .i64 0, .bool false]) ?_ 0 _ rfl; (with_reducible repeat (first | refine blk_drewN ?_ _ | refine blk_drew ?_ | refine blk_alloc ?_ _)); exact BK134.out⟩, ⟨by repeat (first | (with_reducible first | exact HB.out | apply below_alloc | apply pw_below_drewN | apply below_drew1 | refine below_set ?_ GE120.out | refine below_set ?_ GE134.out) | exact HB.out)⟩⟩
    ·
     replace c19 := Bool.eq_false_iff.mpr c19
     subst c19
     have H1 : (inst_Is.j0 k t121 false a0_0 a0_1 a0_2 a0_3 a0_4 a0_5 a0_6 a0_7 a0_8 a0_9 t122 t123 t124 t125 t126 t127 t128 t129 t130 t131 t132 t133) = some r := by rw [if_neg (show ¬ (false = true) by decide)] at H; exact H
     clear H
     have H := H1
     clear H1
     have H' := Aside0.mk H
     clear H
     have hnb29 := NB134_120.out
     have hnc29 := NB120_134.out
     have hcz30_0 : w13.cell? ⟨gb134, 0, none⟩ = some (.bool false) := (blk_cell BK134.out 0).trans rfl
     have hcz30_1 : w13.cell? ⟨gb134, 1, none⟩ = some (.bool false) := (blk_cell BK134.out 1).trans rfl
     have hcz30_2 : w13.cell? ⟨gb134, 2, none⟩ = some (.bool false) := (blk_cell BK134.out 2).trans rfl
     have hcz30_3 : w13.cell? ⟨gb134, 3, none⟩ = some (.bool false) := (blk_cell BK134.out 3).trans rfl
     have hcz30_4 : w13.cell? ⟨gb134, 4, none⟩ = some (.int .i64 0) := (blk_cell BK134.out 4).trans rfl
     have hcz30_5 : w13.cell? ⟨gb134, 5, none⟩ = some (.int .i64 0) := (blk_cell BK134.out 5).trans rfl
     have hcz30_6 : w13.cell? ⟨gb134, 6, none⟩ = some (.int .i64 0) := (blk_cell BK134.out 6).trans rfl
     have hcz30_7 : w13.cell? ⟨gb134, 7, none⟩ = some (.int .i64 0) := (blk_cell BK134.out 7).trans rfl
     have hcz30_8 : w13.cell? ⟨gb134, 8, none⟩ = some (.int .i64 0) := (blk_cell BK134.out 8).trans rfl
     have hcz30_9 : w13.cell? ⟨gb134, 9, none⟩ = some (.int .i64 0) := (blk_cell BK134.out 9).trans rfl
     have hcz30_10 : w13.cell? ⟨gb134, 10, none⟩ = some (.int .i64 0) := (blk_cell BK134.out 10).trans rfl
     have hcz30_11 : w13.cell? ⟨gb134, 11, none⟩ = some (.bool false) := (blk_cell BK134.out 11).trans rfl
     have hfz30_0 := blk_frozen BK134.out 0
     have hfz30_1 := blk_frozen BK134.out 1
     have hfz30_2 := blk_frozen BK134.out 2
     have hfz30_3 := blk_frozen BK134.out 3
     have hfz30_4 := blk_frozen BK134.out 4
     have hfz30_5 := blk_frozen BK134.out 5
     have hfz30_6 := blk_frozen BK134.out 6
     have hfz30_7 := blk_frozen BK134.out 7
     have hfz30_8 := blk_frozen BK134.out 8
     have hfz30_9 := blk_frozen BK134.out 9
     have hfz30_10 := blk_frozen BK134.out 10
     have hfz30_11 := blk_frozen BK134.out 11
     have hcz31_0 : w13.cell? ⟨gb120, 0, none⟩ = some (.int .i64 a0_0) := (blk_cell BK120.out 0).trans rfl
     have hcz31_1 : w13.cell? ⟨gb120, 1, none⟩ = some (.int .i64 a0_1) := (blk_cell BK120.out 1).trans rfl
     have hcz31_2 : w13.cell? ⟨gb120, 2, none⟩ = some (.int .i64 a0_2) := (blk_cell BK120.out 2).trans rfl
     have hcz31_3 : w13.cell? ⟨gb120, 3, none⟩ = some (.int .i64 a0_3) := (blk_cell BK120.out 3).trans rfl
     have hcz31_4 : w13.cell? ⟨gb120, 4, none⟩ = some (.int .i64 a0_4) := (blk_cell BK120.out 4).trans rfl
     have hcz31_5 : w13.cell? ⟨gb120, 5, none⟩ = some (.int .i64 a0_5) := (blk_cell BK120.out 5).trans rfl
     have hcz31_6 : w13.cell? ⟨gb120, 6, none⟩ = some (.int .u64 a0_6) := (blk_cell BK120.out 6).trans rfl
     have hcz31_7 : w13.cell? ⟨gb120, 7, none⟩ = some (.int .i64 a0_7) := (blk_cell BK120.out 7).trans rfl
     have hcz31_8 : w13.cell? ⟨gb120, 8, none⟩ = some (.int .i64 a0_8) := (blk_cell BK120.out 8).trans rfl
     have hcz31_9 : w13.cell? ⟨gb120, 9, none⟩ = some (.int .i64 a0_9) := (blk_cell BK120.out 9).trans rfl
     have hfz31_0 := blk_frozen BK120.out 0
     have hfz31_1 := blk_frozen BK120.out 1
     have hfz31_2 := blk_frozen BK120.out 2
     have hfz31_3 := blk_frozen BK120.out 3
     have hfz31_4 := blk_frozen BK120.out 4
     have hfz31_5 := blk_frozen BK120.out 5
     have hfz31_6 := blk_frozen BK120.out 6
     have hfz31_7 := blk_frozen BK120.out 7
     have hfz31_8 := blk_frozen BK120.out 8
     have hfz31_9 := blk_frozen BK120.out 9
     go_wp2_with (first | ((with_reducible refine gate_callee (f := 13) rfl ?_); refine goesL_ (some 18) rfl rfl Tryd.func13 (by kernel_rfl) rfl #[.bool t122, .int .i64 a0_1] rfl (by (try simp only [List.map_toArray, List.map_cons, List.map_nil]); first | done | rfl | (simp only [List.length_drop, List.length_take]; rfl)) ?_; (with_reducible refine (inst_register.calls t122 a0_1 true _ A16.out).mono ?_); rintro e w' ⟨rfl, ⟨nd, rfl⟩⟩; refine ⟨_, rfl, ?_⟩) | (go_at_call 13; (with_reducible refine (inst_register.calls t123 a0_2 false _ A18.out).mono ?_); rintro e w' ⟨rfl, ⟨nd, rfl⟩⟩))
     go_meet
     case rel => exact ⟨_, (false), (by first | rfl | (simp; done) | (simp [*]; done)), H', ⟨by first | omega | exact Nat.le_refl _⟩, ⟨by (with_reducible repeat (first | refine blk_drewN ?_ _ | refine blk_drew ?_ | refine blk_alloc ?_ _)); refine blk_far ?_ NB120_134.out _; (with_reducible repeat (first | refine blk_drewN ?_ _ | refine blk_drew ?_ | refine blk_alloc ?_ _)); refine blk_far ?_ NB120_134.out _; (with_reducible repeat (first | refine blk_drewN ?_ _ | refine blk_drew ?_ | refine blk_alloc ?_ _)); refine blk_far ?_ NB120_134.out _; (with_reducible repeat (first | refine blk_drewN ?_ _ | refine blk_drew ?_ | refine blk_alloc ?_ _)); refine blk_far ?_ NB120_134.out _; (with_reducible repeat (first | refine blk_drewN ?_ _ | refine blk_drew ?_ | refine blk_alloc ?_ _)); refine blk_far ?_ NB120_134.out _; (with_reducible repeat (first | refine blk_drewN ?_ _ | refine blk_drew ?_ | refine blk_alloc ?_ _)); refine blk_far ?_ NB120_134.out _; (with_reducible repeat (first | refine blk_drewN ?_ _ | refine blk_drew ?_ | refine blk_alloc ?_ _)); refine blk_far ?_ NB120_134.out _; (with_reducible repeat (first | refine blk_drewN ?_ _ | refine blk_drew ?_ | refine blk_alloc ?_ _)); refine blk_far ?_ NB120_134.out _; (with_reducible repeat (first | refine blk_drewN ?_ _ | refine blk_drew ?_ | refine blk_alloc ?_ _)); refine blk_far ?_ NB120_134.out _; (with_reducible repeat (first | refine blk_drewN ?_ _ | refine blk_drew ?_ | refine blk_alloc ?_ _)); refine blk_far ?_ NB120_134.out _; (with_reducible repeat (first | refine blk_drewN ?_ _ | refine blk_drew ?_ | refine blk_alloc ?_ _)); refine blk_far ?_ NB120_134.out _; (with_reducible repeat (first | refine blk_drewN ?_ _ | refine blk_drew ?_ | refine blk_alloc ?_ _)); refine blk_far ?_ NB120_134.out _; (with_reducible repeat (first | refine blk_drewN ?_ _ | refine blk_drew ?_ | refine blk_alloc ?_ _)); exact BK120.out⟩, ⟨by (with_reducible repeat (first | refine blk_drewN ?_ _ | refine blk_drew ?_ | refine blk_alloc ?_ _)); refine blk_put (cs := #[.bool t122, .bool t123, .bool t124, .bool t125, .int .i64 t126, .int .i64 t127, .int .i64 t128, .int .i64 t129, .int .i64 t130, .int .i64 t131, .int .i64 t132, .bool false]) ?_ 11 _ rfl; (with_reducible repeat (first | refine blk_drewN ?_ _ | refine blk_drew ?_ | refine blk_alloc ?_ _)); refine blk_put (cs := #[.bool t122, .bool t123, .bool t124, .bool t125, .int .i64 t126, .int .i64 t127, .int .i64 t128, .int .i64 t129, .int .i64 t130, .int .i64 t131, .int .i64 0, .bool false]) ?_ 10 _ rfl; (with_reducible repeat (first | refine blk_drewN ?_ _ | refine blk_drew ?_ | refine blk_alloc ?_ _)); refine blk_put (cs := #[.bool t122, .bool t123, .bool t124, .bool t125, .int .i64 t126, .int .i64 t127, .int .i64 t128, .int .i64 t129, .int .i64 t130, .int .i64 0, .int .i64 0, .bool false]) ?_ 9 _ rfl; (with_reducible repeat (first | refine blk_drewN ?_ _ | refine blk_drew ?_ | refine blk_alloc ?_ _)); refine blk_put (cs := #[.bool t122, .bool t123, .bool t124, .bool t125, .int .i64 t126, .int .i64 t127, .int .i64 t128, .int .i64 t129, .int .i64 0, .int .i64 0, .int .i64 0, .bool false]) ?_ 8 _ rfl; (with_reducible repeat (first | refine blk_drewN ?_ _ | refine blk_drew ?_ | refine blk_alloc ?_ _)); refine blk_put (cs := #[.bool t122, .bool t123, .bool t124, .bool t125, .int .i64 t126, .int .i64 t127, .int .i64 t128, .int .i64 0, .int .i64 0, .int .i64 0, .int .i64 0, .bool false]) ?_ 7 _ rfl; (with_reducible repeat (first | refine blk_drewN ?_ _ | refine blk_drew ?_ | refine blk_alloc ?_ _)); refine blk_put (cs := #[.bool t122, .bool t123, .bool t124, .bool t125, .int .i64 t126, .int .i64 t127, .int .i64 0, .int .i64 0, .int .i64 0, .int .i64 0, .int .i64 0, .bool false]) ?_ 6 _ rfl; (with_reducible repeat (first | refine blk_drewN ?_ _ | refine blk_drew ?_ | refine blk_alloc ?_ _)); refine blk_put (cs := #[.bool t122, .bool t123, .bool t124, .bool t125, .int .i64 t126, .int .i64 0, .int .i64 0, .int .i64 0, .int .i64 0, .int .i64 0, .int .i64 0, .bool false]) ?_ 5 _ rfl; (with_reducible repeat (first | refine blk_drewN ?_ _ | refine blk_drew ?_ | refine blk_alloc ?_ _)); refine blk_put (cs := #[.bool t122, .bool t123, .bool t124, .bool t125, .int .i64 0, .int .i64 0, .int .i64 0, .int .i64 0, .int .i64 0, .int .i64 0, .int .i64 0, .bool false]) ?_ 4 _ rfl; (with_reducible repeat (first | refine blk_drewN ?_ _ | refine blk_drew ?_ | refine blk_alloc ?_ _)); refine blk_put (cs := #[.bool t122, .bool t123, .bool t124, .bool false, .int .i64 0, .int .i64 0, .int .i64 0, .int .i64 0, .int .i64 0, .int .i64 0, .int .i64 0, .bool false]) ?_ 3 _ rfl; (with_reducible repeat (first | refine blk_drewN ?_ _ | refine blk_drew ?_ | refine blk_alloc ?_ _)); refine blk_put (cs := #[.bool t122, .bool t123, .bool false, .bool false, .int .i64 0, .int .i64 0, .int .i64 0, .int .i64 0, .int .i64 0, .int .i64 0, .int .i64 0, .bool false]) ?_ 2 _ rfl; (with_reducible repeat (first | refine blk_drewN ?_ _ | refine blk_drew ?_ | refine blk_alloc ?_ _)); refine blk_put (cs := #[.bool t122, .bool false, .bool false, .bool false, .int .i64 0, .int .i64 0, .int .i64 0, .int .i64 0, .int .i64 0, .int .i64 0, .int .i64 0, .bool false]) ?_ 1 _ rfl; (with_reducible repeat (first | refine blk_drewN ?_ _ | refine blk_drew ?_ | refine blk_alloc ?_ _)); refine blk_put (cs := #[.bool false, .bool false, .bool false, .bool false, .int .i64 0, .int .i64 0, .int .i64 0, .int .i64 0, .int .i64 0, .int .i64 0, .int .i64 0, .bool false]) ?_ 0 _ rfl; (with_reducible repeat (first | refine blk_drewN ?_ _ | refine blk_drew ?_ | refine blk_alloc ?_ _)); exact BK134.out⟩, ⟨by repeat (first | (with_reducible first | exact HB.out | apply below_alloc | apply pw_below_drewN | apply below_drew1 | refine below_set ?_ GE120.out | refine below_set ?_ GE134.out) | exact HB.out)⟩⟩
   ·
    replace c17 := Bool.eq_false_iff.mpr c17
    subst c17
    have H1 : (inst_Is.j0 k t121 false a0_0 a0_1 a0_2 a0_3 a0_4 a0_5 a0_6 a0_7 a0_8 a0_9 t122 t123 t124 t125 t126 t127 t128 t129 t130 t131 t132 t133) = some r := by rw [if_neg (show ¬ (false = true) by decide)] at H; exact H
    clear H
    have H := H1
    clear H1
    have H' := Aside0.mk H
    clear H
    have hnb32 := NB134_120.out
    have hnc32 := NB120_134.out
    have hcz33_0 : w13.cell? ⟨gb134, 0, none⟩ = some (.bool false) := (blk_cell BK134.out 0).trans rfl
    have hcz33_1 : w13.cell? ⟨gb134, 1, none⟩ = some (.bool false) := (blk_cell BK134.out 1).trans rfl
    have hcz33_2 : w13.cell? ⟨gb134, 2, none⟩ = some (.bool false) := (blk_cell BK134.out 2).trans rfl
    have hcz33_3 : w13.cell? ⟨gb134, 3, none⟩ = some (.bool false) := (blk_cell BK134.out 3).trans rfl
    have hcz33_4 : w13.cell? ⟨gb134, 4, none⟩ = some (.int .i64 0) := (blk_cell BK134.out 4).trans rfl
    have hcz33_5 : w13.cell? ⟨gb134, 5, none⟩ = some (.int .i64 0) := (blk_cell BK134.out 5).trans rfl
    have hcz33_6 : w13.cell? ⟨gb134, 6, none⟩ = some (.int .i64 0) := (blk_cell BK134.out 6).trans rfl
    have hcz33_7 : w13.cell? ⟨gb134, 7, none⟩ = some (.int .i64 0) := (blk_cell BK134.out 7).trans rfl
    have hcz33_8 : w13.cell? ⟨gb134, 8, none⟩ = some (.int .i64 0) := (blk_cell BK134.out 8).trans rfl
    have hcz33_9 : w13.cell? ⟨gb134, 9, none⟩ = some (.int .i64 0) := (blk_cell BK134.out 9).trans rfl
    have hcz33_10 : w13.cell? ⟨gb134, 10, none⟩ = some (.int .i64 0) := (blk_cell BK134.out 10).trans rfl
    have hcz33_11 : w13.cell? ⟨gb134, 11, none⟩ = some (.bool false) := (blk_cell BK134.out 11).trans rfl
    have hfz33_0 := blk_frozen BK134.out 0
    have hfz33_1 := blk_frozen BK134.out 1
    have hfz33_2 := blk_frozen BK134.out 2
    have hfz33_3 := blk_frozen BK134.out 3
    have hfz33_4 := blk_frozen BK134.out 4
    have hfz33_5 := blk_frozen BK134.out 5
    have hfz33_6 := blk_frozen BK134.out 6
    have hfz33_7 := blk_frozen BK134.out 7
    have hfz33_8 := blk_frozen BK134.out 8
    have hfz33_9 := blk_frozen BK134.out 9
    have hfz33_10 := blk_frozen BK134.out 10
    have hfz33_11 := blk_frozen BK134.out 11
    have hcz34_0 : w13.cell? ⟨gb120, 0, none⟩ = some (.int .i64 a0_0) := (blk_cell BK120.out 0).trans rfl
    have hcz34_1 : w13.cell? ⟨gb120, 1, none⟩ = some (.int .i64 a0_1) := (blk_cell BK120.out 1).trans rfl
    have hcz34_2 : w13.cell? ⟨gb120, 2, none⟩ = some (.int .i64 a0_2) := (blk_cell BK120.out 2).trans rfl
    have hcz34_3 : w13.cell? ⟨gb120, 3, none⟩ = some (.int .i64 a0_3) := (blk_cell BK120.out 3).trans rfl
    have hcz34_4 : w13.cell? ⟨gb120, 4, none⟩ = some (.int .i64 a0_4) := (blk_cell BK120.out 4).trans rfl
    have hcz34_5 : w13.cell? ⟨gb120, 5, none⟩ = some (.int .i64 a0_5) := (blk_cell BK120.out 5).trans rfl
    have hcz34_6 : w13.cell? ⟨gb120, 6, none⟩ = some (.int .u64 a0_6) := (blk_cell BK120.out 6).trans rfl
    have hcz34_7 : w13.cell? ⟨gb120, 7, none⟩ = some (.int .i64 a0_7) := (blk_cell BK120.out 7).trans rfl
    have hcz34_8 : w13.cell? ⟨gb120, 8, none⟩ = some (.int .i64 a0_8) := (blk_cell BK120.out 8).trans rfl
    have hcz34_9 : w13.cell? ⟨gb120, 9, none⟩ = some (.int .i64 a0_9) := (blk_cell BK120.out 9).trans rfl
    have hfz34_0 := blk_frozen BK120.out 0
    have hfz34_1 := blk_frozen BK120.out 1
    have hfz34_2 := blk_frozen BK120.out 2
    have hfz34_3 := blk_frozen BK120.out 3
    have hfz34_4 := blk_frozen BK120.out 4
    have hfz34_5 := blk_frozen BK120.out 5
    have hfz34_6 := blk_frozen BK120.out 6
    have hfz34_7 := blk_frozen BK120.out 7
    have hfz34_8 := blk_frozen BK120.out 8
    have hfz34_9 := blk_frozen BK120.out 9
    go_wp2_with (first | ((with_reducible refine gate_callee (f := 13) rfl ?_); refine goesL_ (some 18) rfl rfl Tryd.func13 (by kernel_rfl) rfl #[.bool t122, .int .i64 a0_1] rfl (by (try simp only [List.map_toArray, List.map_cons, List.map_nil]); first | done | rfl | (simp only [List.length_drop, List.length_take]; rfl)) ?_; (with_reducible refine (inst_register.calls t122 a0_1 false _ A16.out).mono ?_); rintro e w' ⟨rfl, ⟨nd, rfl⟩⟩; refine ⟨_, rfl, ?_⟩))
    go_meet
    case rel => exact ⟨_, (false), (by first | rfl | (simp; done) | (simp [*]; done)), H', ⟨by first | omega | exact Nat.le_refl _⟩, ⟨by (with_reducible repeat (first | refine blk_drewN ?_ _ | refine blk_drew ?_ | refine blk_alloc ?_ _)); refine blk_far ?_ NB120_134.out _; (with_reducible repeat (first | refine blk_drewN ?_ _ | refine blk_drew ?_ | refine blk_alloc ?_ _)); refine blk_far ?_ NB120_134.out _; (with_reducible repeat (first | refine blk_drewN ?_ _ | refine blk_drew ?_ | refine blk_alloc ?_ _)); refine blk_far ?_ NB120_134.out _; (with_reducible repeat (first | refine blk_drewN ?_ _ | refine blk_drew ?_ | refine blk_alloc ?_ _)); refine blk_far ?_ NB120_134.out _; (with_reducible repeat (first | refine blk_drewN ?_ _ | refine blk_drew ?_ | refine blk_alloc ?_ _)); refine blk_far ?_ NB120_134.out _; (with_reducible repeat (first | refine blk_drewN ?_ _ | refine blk_drew ?_ | refine blk_alloc ?_ _)); refine blk_far ?_ NB120_134.out _; (with_reducible repeat (first | refine blk_drewN ?_ _ | refine blk_drew ?_ | refine blk_alloc ?_ _)); refine blk_far ?_ NB120_134.out _; (with_reducible repeat (first | refine blk_drewN ?_ _ | refine blk_drew ?_ | refine blk_alloc ?_ _)); refine blk_far ?_ NB120_134.out _; (with_reducible repeat (first | refine blk_drewN ?_ _ | refine blk_drew ?_ | refine blk_alloc ?_ _)); refine blk_far ?_ NB120_134.out _; (with_reducible repeat (first | refine blk_drewN ?_ _ | refine blk_drew ?_ | refine blk_alloc ?_ _)); refine blk_far ?_ NB120_134.out _; (with_reducible repeat (first | refine blk_drewN ?_ _ | refine blk_drew ?_ | refine blk_alloc ?_ _)); refine blk_far ?_ NB120_134.out _; (with_reducible repeat (first | refine blk_drewN ?_ _ | refine blk_drew ?_ | refine blk_alloc ?_ _)); refine blk_far ?_ NB120_134.out _; (with_reducible repeat (first | refine blk_drewN ?_ _ | refine blk_drew ?_ | refine blk_alloc ?_ _)); exact BK120.out⟩, ⟨by (with_reducible repeat (first | refine blk_drewN ?_ _ | refine blk_drew ?_ | refine blk_alloc ?_ _)); refine blk_put (cs := #[.bool t122, .bool t123, .bool t124, .bool t125, .int .i64 t126, .int .i64 t127, .int .i64 t128, .int .i64 t129, .int .i64 t130, .int .i64 t131, .int .i64 t132, .bool false]) ?_ 11 _ rfl; (with_reducible repeat (first | refine blk_drewN ?_ _ | refine blk_drew ?_ | refine blk_alloc ?_ _)); refine blk_put (cs := #[.bool t122, .bool t123, .bool t124, .bool t125, .int .i64 t126, .int .i64 t127, .int .i64 t128, .int .i64 t129, .int .i64 t130, .int .i64 t131, .int .i64 0, .bool false]) ?_ 10 _ rfl; (with_reducible repeat (first | refine blk_drewN ?_ _ | refine blk_drew ?_ | refine blk_alloc ?_ _)); refine blk_put (cs := #[.bool t122, .bool t123, .bool t124, .bool t125, .int .i64 t126, .int .i64 t127, .int .i64 t128, .int .i64 t129, .int .i64 t130, .int .i64 0, .int .i64 0, .bool false]) ?_ 9 _ rfl; (with_reducible repeat (first | refine blk_drewN ?_ _ | refine blk_drew ?_ | refine blk_alloc ?_ _)); refine blk_put (cs := #[.bool t122, .bool t123, .bool t124, .bool t125, .int .i64 t126, .int .i64 t127, .int .i64 t128, .int .i64 t129, .int .i64 0, .int .i64 0, .int .i64 0, .bool false]) ?_ 8 _ rfl; (with_reducible repeat (first | refine blk_drewN ?_ _ | refine blk_drew ?_ | refine blk_alloc ?_ _)); refine blk_put (cs := #[.bool t122, .bool t123, .bool t124, .bool t125, .int .i64 t126, .int .i64 t127, .int .i64 t128, .int .i64 0, .int .i64 0, .int .i64 0, .int .i64 0, .bool false]) ?_ 7 _ rfl; (with_reducible repeat (first | refine blk_drewN ?_ _ | refine blk_drew ?_ | refine blk_alloc ?_ _)); refine blk_put (cs := #[.bool t122, .bool t123, .bool t124, .bool t125, .int .i64 t126, .int .i64 t127, .int .i64 0, .int .i64 0, .int .i64 0, .int .i64 0, .int .i64 0, .bool false]) ?_ 6 _ rfl; (with_reducible repeat (first | refine blk_drewN ?_ _ | refine blk_drew ?_ | refine blk_alloc ?_ _)); refine blk_put (cs := #[.bool t122, .bool t123, .bool t124, .bool t125, .int .i64 t126, .int .i64 0, .int .i64 0, .int .i64 0, .int .i64 0, .int .i64 0, .int .i64 0, .bool false]) ?_ 5 _ rfl; (with_reducible repeat (first | refine blk_drewN ?_ _ | refine blk_drew ?_ | refine blk_alloc ?_ _)); refine blk_put (cs := #[.bool t122, .bool t123, .bool t124, .bool t125, .int .i64 0, .int .i64 0, .int .i64 0, .int .i64 0, .int .i64 0, .int .i64 0, .int .i64 0, .bool false]) ?_ 4 _ rfl; (with_reducible repeat (first | refine blk_drewN ?_ _ | refine blk_drew ?_ | refine blk_alloc ?_ _)); refine blk_put (cs := #[.bool t122, .bool t123, .bool t124, .bool false, .int .i64 0, .int .i64 0, .int .i64 0, .int .i64 0, .int .i64 0, .int .i64 0, .int .i64 0, .bool false]) ?_ 3 _ rfl; (with_reducible repeat (first | refine blk_drewN ?_ _ | refine blk_drew ?_ | refine blk_alloc ?_ _)); refine blk_put (cs := #[.bool t122, .bool t123, .bool false, .bool false, .int .i64 0, .int .i64 0, .int .i64 0, .int .i64 0, .int .i64 0, .int .i64 0, .int .i64 0, .bool false]) ?_ 2 _ rfl; (with_reducible repeat (first | refine blk_drewN ?_ _ | refine blk_drew ?_ | refine blk_alloc ?_ _)); refine blk_put (cs := #[.bool t122, .bool false, .bool false, .bool false, .int .i64 0, .int .i64 0, .int .i64 0, .int .i64 0, .int .i64 0, .int .i64 0, .int .i64 0, .bool false]) ?_ 1 _ rfl; (with_reducible repeat (first | refine blk_drewN ?_ _ | refine blk_drew ?_ | refine blk_alloc ?_ _)); refine blk_put (cs := #[.bool false, .bool false, .bool false, .bool false, .int .i64 0, .int .i64 0, .int .i64 0, .int .i64 0, .int .i64 0, .int .i64 0, .int .i64 0, .bool false]) ?_ 0 _ rfl; (with_reducible repeat (first | refine blk_drewN ?_ _ | refine blk_drew ?_ | refine blk_alloc ?_ _)); exact BK134.out⟩, ⟨by repeat (first | (with_reducible first | exact HB.out | apply below_alloc | apply pw_below_drewN | apply below_drew1 | refine below_set ?_ GE120.out | refine below_set ?_ GE134.out) | exact HB.out)⟩⟩
  case rest =>
   clear HC8
   try clear c1
   try clear c2
   try clear p2
   try clear c3
   try clear c3b0
   try clear c3b1
   try clear c4
   try clear c5
   try clear c12
   try clear c13
   try clear c14
   try clear c17
   try clear c19
   try clear c21
   try clear c23
   try clear c26
   try clear c29
   try clear c32
   try clear hcz10_0 hcz10_1 hcz10_2 hcz10_3 hcz10_4 hcz10_5 hcz10_6 hcz10_7 hcz10_8 hcz10_9
   try clear hcz15_0 hcz15_1 hcz15_10 hcz15_11 hcz15_2 hcz15_3 hcz15_4 hcz15_5 hcz15_6 hcz15_7 hcz15_8 hcz15_9
   try clear hcz24_0 hcz24_1 hcz24_10 hcz24_11 hcz24_2 hcz24_3 hcz24_4 hcz24_5 hcz24_6 hcz24_7 hcz24_8 hcz24_9
   try clear hcz25_0 hcz25_1 hcz25_2 hcz25_3 hcz25_4 hcz25_5 hcz25_6 hcz25_7 hcz25_8 hcz25_9
   try clear hcz27_0 hcz27_1 hcz27_10 hcz27_11 hcz27_2 hcz27_3 hcz27_4 hcz27_5 hcz27_6 hcz27_7 hcz27_8 hcz27_9
   try clear hcz28_0 hcz28_1 hcz28_2 hcz28_3 hcz28_4 hcz28_5 hcz28_6 hcz28_7 hcz28_8 hcz28_9
   try clear hcz30_0 hcz30_1 hcz30_10 hcz30_11 hcz30_2 hcz30_3 hcz30_4 hcz30_5 hcz30_6 hcz30_7 hcz30_8 hcz30_9
   try clear hcz31_0 hcz31_1 hcz31_2 hcz31_3 hcz31_4 hcz31_5 hcz31_6 hcz31_7 hcz31_8 hcz31_9
   try clear hcz33_0 hcz33_1 hcz33_10 hcz33_11 hcz33_2 hcz33_3 hcz33_4 hcz33_5 hcz33_6 hcz33_7 hcz33_8 hcz33_9
   try clear hcz34_0 hcz34_1 hcz34_2 hcz34_3 hcz34_4 hcz34_5 hcz34_6 hcz34_7 hcz34_8 hcz34_9
   try clear hcz5_0 hcz5_1 hcz5_2 hcz5_3 hcz5_4 hcz5_5 hcz5_6 hcz5_7 hcz5_8 hcz5_9
   try clear hfz10_0
   try clear hfz15_0
   try clear hfz24_0
   try clear hfz25_0
   try clear hfz27_0
   try clear hfz28_0
   try clear hfz30_0
   try clear hfz31_0
   try clear hfz33_0
   try clear hfz34_0
   try clear hfz5_0
   obtain ⟨kq, x5_7, rfl, HA, HJ7, BK120, BK134, HB⟩ := hcut
   cases kq with
   | zero => exact absurd HA.out (by simp [inst_Is.j0])
   | succ kj7 =>
    have H := HA.out
    clear HA
    simp only [inst_Is.j0] at H
    have HC35 := Aside0.mk H
    clear H
    go_upto_region 6 with (fail)
    go_cut [6] (fun v6 wc => ∃ (kq : Nat) (x6_34 : Bool), v6 = .bool x6_34 ∧ Aside0 (inst_Is.j1 kq t121 x5_7 x6_34 a0_0 a0_1 a0_2 a0_3 a0_4 a0_5 a0_6 a0_7 a0_8 a0_9 = some r) ∧ Aside0 (kq ≤ kj7) ∧ Aside0 (wc.heap[gb120]? = some (.cells #[.int .i64 a0_0, .int .i64 a0_1, .int .i64 a0_2, .int .i64 a0_3, .int .i64 a0_4, .int .i64 a0_5, .int .u64 a0_6, .int .i64 a0_7, .int .i64 a0_8, .int .i64 a0_9] 24 (0, 0))) ∧ Aside0 (wc.heap[gb134]? = some (.cells #[.bool t122, .bool t123, .bool t124, .bool t125, .int .i64 t126, .int .i64 t127, .int .i64 t128, .int .i64 t129, .int .i64 t130, .int .i64 t131, .int .i64 t132, .bool t133] 39 (0, 0))) ∧ Aside0 (Below w.heap.size w wc))
    case first =>
     have H := HC35.out
     clear HC35
     replace H := Option.bind_eq_some_iff.mp H
     obtain ⟨t139, A360, H⟩ := H
     replace H : (if t139 = true then ((inst_step.f a0_8 0 t129 t130).bind fun t140 => (if t140 = true then (if a0_7 ≥ 0 then (if a0_7 ≤ t131 then (if a0_9 ≥ 0 then (inst_Is.j1 kj7 t121 x5_7 (decide (a0_9 ≤ t132)) a0_0 a0_1 a0_2 a0_3 a0_4 a0_5 a0_6 a0_7 a0_8 a0_9) else (inst_Is.j1 kj7 t121 x5_7 false a0_0 a0_1 a0_2 a0_3 a0_4 a0_5 a0_6 a0_7 a0_8 a0_9)) else (inst_Is.j1 kj7 t121 x5_7 false a0_0 a0_1 a0_2 a0_3 a0_4 a0_5 a0_6 a0_7 a0_8 a0_9)) else (inst_Is.j1 kj7 t121 x5_7 false a0_0 a0_1 a0_2 a0_3 a0_4 a0_5 a0_6 a0_7 a0_8 a0_9)) else (inst_Is.j1 kj7 t121 x5_7 false a0_0 a0_1 a0_2 a0_3 a0_4 a0_5 a0_6 a0_7 a0_8 a0_9))) else (inst_Is.j1 kj7 t121 x5_7 false a0_0 a0_1 a0_2 a0_3 a0_4 a0_5 a0_6 a0_7 a0_8 a0_9)) = some r := H
     have A36 := Aside0.mk A360
     clear A360
     by_cases c37 : t139 = true
     ·
      subst c37
      have H1 : ((inst_step.f a0_8 0 t129 t130).bind fun t140 => (if t140 = true then (if a0_7 ≥ 0 then (if a0_7 ≤ t131 then (if a0_9 ≥ 0 then (inst_Is.j1 kj7 t121 x5_7 (decide (a0_9 ≤ t132)) a0_0 a0_1 a0_2 a0_3 a0_4 a0_5 a0_6 a0_7 a0_8 a0_9) else (inst_Is.j1 kj7 t121 x5_7 false a0_0 a0_1 a0_2 a0_3 a0_4 a0_5 a0_6 a0_7 a0_8 a0_9)) else (inst_Is.j1 kj7 t121 x5_7 false a0_0 a0_1 a0_2 a0_3 a0_4 a0_5 a0_6 a0_7 a0_8 a0_9)) else (inst_Is.j1 kj7 t121 x5_7 false a0_0 a0_1 a0_2 a0_3 a0_4 a0_5 a0_6 a0_7 a0_8 a0_9)) else (inst_Is.j1 kj7 t121 x5_7 false a0_0 a0_1 a0_2 a0_3 a0_4 a0_5 a0_6 a0_7 a0_8 a0_9))) = some r := by rw [if_pos rfl] at H; exact H
      clear H
      have H := H1
      clear H1
      replace H := Option.bind_eq_some_iff.mp H
      obtain ⟨t140, A380, H⟩ := H
      replace H : (if t140 = true then (if a0_7 ≥ 0 then (if a0_7 ≤ t131 then (if a0_9 ≥ 0 then (inst_Is.j1 kj7 t121 x5_7 (decide (a0_9 ≤ t132)) a0_0 a0_1 a0_2 a0_3 a0_4 a0_5 a0_6 a0_7 a0_8 a0_9) else (inst_Is.j1 kj7 t121 x5_7 false a0_0 a0_1 a0_2 a0_3 a0_4 a0_5 a0_6 a0_7 a0_8 a0_9)) else (inst_Is.j1 kj7 t121 x5_7 false a0_0 a0_1 a0_2 a0_3 a0_4 a0_5 a0_6 a0_7 a0_8 a0_9)) else (inst_Is.j1 kj7 t121 x5_7 false a0_0 a0_1 a0_2 a0_3 a0_4 a0_5 a0_6 a0_7 a0_8 a0_9)) else (inst_Is.j1 kj7 t121 x5_7 false a0_0 a0_1 a0_2 a0_3 a0_4 a0_5 a0_6 a0_7 a0_8 a0_9)) = some r := H
      have A38 := Aside0.mk A380
      clear A380
      by_cases c39 : t140 = true
      ·
       subst c39
       have H1 : (if a0_7 ≥ 0 then (if a0_7 ≤ t131 then (if a0_9 ≥ 0 then (inst_Is.j1 kj7 t121 x5_7 (decide (a0_9 ≤ t132)) a0_0 a0_1 a0_2 a0_3 a0_4 a0_5 a0_6 a0_7 a0_8 a0_9) else (inst_Is.j1 kj7 t121 x5_7 false a0_0 a0_1 a0_2 a0_3 a0_4 a0_5 a0_6 a0_7 a0_8 a0_9)) else (inst_Is.j1 kj7 t121 x5_7 false a0_0 a0_1 a0_2 a0_3 a0_4 a0_5 a0_6 a0_7 a0_8 a0_9)) else (inst_Is.j1 kj7 t121 x5_7 false a0_0 a0_1 a0_2 a0_3 a0_4 a0_5 a0_6 a0_7 a0_8 a0_9)) = some r := by rw [if_pos rfl] at H; exact H
       clear H
       have H := H1
       clear H1
       by_cases c40 : a0_7 ≥ 0
       ·
        rw [if_pos c40] at H
        have c40b0 : decide (0 ≤ a0_7) = true := decide_eq_true c40
        clear c40
        (first | rw [c40b0] | (simp only [i64_w, i32_w]; rw [c40b0]) | skip)
        by_cases c41 : a0_7 ≤ t131
        ·
         rw [if_pos c41] at H
         have c41b0 : decide (a0_7 ≤ t131) = true := decide_eq_true c41
         clear c41
         by_cases c42 : a0_9 ≥ 0
         ·
          rw [if_pos c42] at H
          have c42b0 : decide (0 ≤ a0_9) = true := decide_eq_true c42
          clear c42
          have H' := Aside0.mk H
          clear H
          have hnb43 := NB120_134.out
          have hnc43 := NB134_120.out
          have hcz44_0 : wc.cell? ⟨gb120, 0, none⟩ = some (.int .i64 a0_0) := (blk_cell BK120.out 0).trans rfl
          have hcz44_1 : wc.cell? ⟨gb120, 1, none⟩ = some (.int .i64 a0_1) := (blk_cell BK120.out 1).trans rfl
          have hcz44_2 : wc.cell? ⟨gb120, 2, none⟩ = some (.int .i64 a0_2) := (blk_cell BK120.out 2).trans rfl
          have hcz44_3 : wc.cell? ⟨gb120, 3, none⟩ = some (.int .i64 a0_3) := (blk_cell BK120.out 3).trans rfl
          have hcz44_4 : wc.cell? ⟨gb120, 4, none⟩ = some (.int .i64 a0_4) := (blk_cell BK120.out 4).trans rfl
          have hcz44_5 : wc.cell? ⟨gb120, 5, none⟩ = some (.int .i64 a0_5) := (blk_cell BK120.out 5).trans rfl
          have hcz44_6 : wc.cell? ⟨gb120, 6, none⟩ = some (.int .u64 a0_6) := (blk_cell BK120.out 6).trans rfl
          have hcz44_7 : wc.cell? ⟨gb120, 7, none⟩ = some (.int .i64 a0_7) := (blk_cell BK120.out 7).trans rfl
          have hcz44_8 : wc.cell? ⟨gb120, 8, none⟩ = some (.int .i64 a0_8) := (blk_cell BK120.out 8).trans rfl
          have hcz44_9 : wc.cell? ⟨gb120, 9, none⟩ = some (.int .i64 a0_9) := (blk_cell BK120.out 9).trans rfl
          have hfz44_0 := blk_frozen BK120.out 0
          have hfz44_1 := blk_frozen BK120.out 1
          have hfz44_2 := blk_frozen BK120.out 2
          have hfz44_3 := blk_frozen BK120.out 3
          have hfz44_4 := blk_frozen BK120.out 4
          have hfz44_5 := blk_frozen BK120.out 5
          have hfz44_6 := blk_frozen BK120.out 6
          have hfz44_7 := blk_frozen BK120.out 7
          have hfz44_8 := blk_frozen BK120.out 8
          have hfz44_9 := blk_frozen BK120.out 9
          have hcz45_0 : wc.cell? ⟨gb134, 0, none⟩ = some (.bool t122) := (blk_cell BK134.out 0).trans rfl
          have hcz45_1 : wc.cell? ⟨gb134, 1, none⟩ = some (.bool t123) := (blk_cell BK134.out 1).trans rfl
          have hcz45_2 : wc.cell? ⟨gb134, 2, none⟩ = some (.bool t124) := (blk_cell BK134.out 2).trans rfl
          have hcz45_3 : wc.cell? ⟨gb134, 3, none⟩ = some (.bool t125) := (blk_cell BK134.out 3).trans rfl
          have hcz45_4 : wc.cell? ⟨gb134, 4, none⟩ = some (.int .i64 t126) := (blk_cell BK134.out 4).trans rfl
          have hcz45_5 : wc.cell? ⟨gb134, 5, none⟩ = some (.int .i64 t127) := (blk_cell BK134.out 5).trans rfl
          have hcz45_6 : wc.cell? ⟨gb134, 6, none⟩ = some (.int .i64 t128) := (blk_cell BK134.out 6).trans rfl
          have hcz45_7 : wc.cell? ⟨gb134, 7, none⟩ = some (.int .i64 t129) := (blk_cell BK134.out 7).trans rfl
          have hcz45_8 : wc.cell? ⟨gb134, 8, none⟩ = some (.int .i64 t130) := (blk_cell BK134.out 8).trans rfl
          have hcz45_9 : wc.cell? ⟨gb134, 9, none⟩ = some (.int .i64 t131) := (blk_cell BK134.out 9).trans rfl
          have hcz45_10 : wc.cell? ⟨gb134, 10, none⟩ = some (.int .i64 t132) := (blk_cell BK134.out 10).trans rfl
          have hcz45_11 : wc.cell? ⟨gb134, 11, none⟩ = some (.bool t133) := (blk_cell BK134.out 11).trans rfl
          have hfz45_0 := blk_frozen BK134.out 0
          have hfz45_1 := blk_frozen BK134.out 1
          have hfz45_2 := blk_frozen BK134.out 2
          have hfz45_3 := blk_frozen BK134.out 3
          have hfz45_4 := blk_frozen BK134.out 4
          have hfz45_5 := blk_frozen BK134.out 5
          have hfz45_6 := blk_frozen BK134.out 6
          have hfz45_7 := blk_frozen BK134.out 7
          have hfz45_8 := blk_frozen BK134.out 8
          have hfz45_9 := blk_frozen BK134.out 9
          have hfz45_10 := blk_frozen BK134.out 10
          have hfz45_11 := blk_frozen BK134.out 11
          go_wp2_with (first | ((with_reducible refine gate_callee (f := 14) rfl ?_); refine goesL_ (some 48) rfl rfl Tryd.func14 (by kernel_rfl) rfl #[.int .i64 a0_5, .int .i64 t126, .int .i64 t127, .int .i64 t128] rfl (by (try simp only [List.map_toArray, List.map_cons, List.map_nil]); first | done | rfl | (simp only [List.length_drop, List.length_take]; rfl)) ?_; (with_reducible refine (inst_step.calls a0_5 t126 t127 t128 true _ A36.out).mono ?_); rintro e w' ⟨rfl, ⟨nd, rfl⟩⟩; refine ⟨_, rfl, ?_⟩) | (go_at_call 14; (with_reducible refine (inst_step.calls a0_8 0 t129 t130 true _ A38.out).mono ?_); rintro e w' ⟨rfl, ⟨nd, rfl⟩⟩))
          go_meet
          case rel => exact ⟨_, (decide (a0_9 ≤ t132)), (by first | rfl | (simp; done) | (simp [*]; done)), H', ⟨by have := HJ7.out; first | omega | exact Nat.le_refl _⟩, ⟨by (with_reducible repeat (first | refine blk_drewN ?_ _ | refine blk_drew ?_ | refine blk_alloc ?_ _)); exact BK120.out⟩, ⟨by (with_reducible repeat (first | refine blk_drewN ?_ _ | refine blk_drew ?_ | refine blk_alloc ?_ _)); exact BK134.out⟩, ⟨by repeat (first | (with_reducible first | exact HB.out | apply below_alloc | apply pw_below_drewN | apply below_drew1 | refine below_set ?_ GE120.out | refine below_set ?_ GE134.out) | exact HB.out)⟩⟩
         ·
          rw [if_neg c42] at H
          have c42b0 : decide (0 ≤ a0_9) = false := decide_eq_false c42
          clear c42
          have H' := Aside0.mk H
          clear H
          have hnb46 := NB120_134.out
          have hnc46 := NB134_120.out
          have hcz47_0 : wc.cell? ⟨gb120, 0, none⟩ = some (.int .i64 a0_0) := (blk_cell BK120.out 0).trans rfl
          have hcz47_1 : wc.cell? ⟨gb120, 1, none⟩ = some (.int .i64 a0_1) := (blk_cell BK120.out 1).trans rfl
          have hcz47_2 : wc.cell? ⟨gb120, 2, none⟩ = some (.int .i64 a0_2) := (blk_cell BK120.out 2).trans rfl
          have hcz47_3 : wc.cell? ⟨gb120, 3, none⟩ = some (.int .i64 a0_3) := (blk_cell BK120.out 3).trans rfl
          have hcz47_4 : wc.cell? ⟨gb120, 4, none⟩ = some (.int .i64 a0_4) := (blk_cell BK120.out 4).trans rfl
          have hcz47_5 : wc.cell? ⟨gb120, 5, none⟩ = some (.int .i64 a0_5) := (blk_cell BK120.out 5).trans rfl
          have hcz47_6 : wc.cell? ⟨gb120, 6, none⟩ = some (.int .u64 a0_6) := (blk_cell BK120.out 6).trans rfl
          have hcz47_7 : wc.cell? ⟨gb120, 7, none⟩ = some (.int .i64 a0_7) := (blk_cell BK120.out 7).trans rfl
          have hcz47_8 : wc.cell? ⟨gb120, 8, none⟩ = some (.int .i64 a0_8) := (blk_cell BK120.out 8).trans rfl
          have hcz47_9 : wc.cell? ⟨gb120, 9, none⟩ = some (.int .i64 a0_9) := (blk_cell BK120.out 9).trans rfl
          have hfz47_0 := blk_frozen BK120.out 0
          have hfz47_1 := blk_frozen BK120.out 1
          have hfz47_2 := blk_frozen BK120.out 2
          have hfz47_3 := blk_frozen BK120.out 3
          have hfz47_4 := blk_frozen BK120.out 4
          have hfz47_5 := blk_frozen BK120.out 5
          have hfz47_6 := blk_frozen BK120.out 6
          have hfz47_7 := blk_frozen BK120.out 7
          have hfz47_8 := blk_frozen BK120.out 8
          have hfz47_9 := blk_frozen BK120.out 9
          have hcz48_0 : wc.cell? ⟨gb134, 0, none⟩ = some (.bool t122) := (blk_cell BK134.out 0).trans rfl
          have hcz48_1 : wc.cell? ⟨gb134, 1, none⟩ = some (.bool t123) := (blk_cell BK134.out 1).trans rfl
          have hcz48_2 : wc.cell? ⟨gb134, 2, none⟩ = some (.bool t124) := (blk_cell BK134.out 2).trans rfl
          have hcz48_3 : wc.cell? ⟨gb134, 3, none⟩ = some (.bool t125) := (blk_cell BK134.out 3).trans rfl
          have hcz48_4 : wc.cell? ⟨gb134, 4, none⟩ = some (.int .i64 t126) := (blk_cell BK134.out 4).trans rfl
          have hcz48_5 : wc.cell? ⟨gb134, 5, none⟩ = some (.int .i64 t127) := (blk_cell BK134.out 5).trans rfl
          have hcz48_6 : wc.cell? ⟨gb134, 6, none⟩ = some (.int .i64 t128) := (blk_cell BK134.out 6).trans rfl
          have hcz48_7 : wc.cell? ⟨gb134, 7, none⟩ = some (.int .i64 t129) := (blk_cell BK134.out 7).trans rfl
          have hcz48_8 : wc.cell? ⟨gb134, 8, none⟩ = some (.int .i64 t130) := (blk_cell BK134.out 8).trans rfl
          have hcz48_9 : wc.cell? ⟨gb134, 9, none⟩ = some (.int .i64 t131) := (blk_cell BK134.out 9).trans rfl
          have hcz48_10 : wc.cell? ⟨gb134, 10, none⟩ = some (.int .i64 t132) := (blk_cell BK134.out 10).trans rfl
          have hcz48_11 : wc.cell? ⟨gb134, 11, none⟩ = some (.bool t133) := (blk_cell BK134.out 11).trans rfl
          have hfz48_0 := blk_frozen BK134.out 0
          have hfz48_1 := blk_frozen BK134.out 1
          have hfz48_2 := blk_frozen BK134.out 2
          have hfz48_3 := blk_frozen BK134.out 3
          have hfz48_4 := blk_frozen BK134.out 4
          have hfz48_5 := blk_frozen BK134.out 5
          have hfz48_6 := blk_frozen BK134.out 6
          have hfz48_7 := blk_frozen BK134.out 7
          have hfz48_8 := blk_frozen BK134.out 8
          have hfz48_9 := blk_frozen BK134.out 9
          have hfz48_10 := blk_frozen BK134.out 10
          have hfz48_11 := blk_frozen BK134.out 11
          go_wp2_with (first | ((with_reducible refine gate_callee (f := 14) rfl ?_); refine goesL_ (some 48) rfl rfl Tryd.func14 (by kernel_rfl) rfl #[.int .i64 a0_5, .int .i64 t126, .int .i64 t127, .int .i64 t128] rfl (by (try simp only [List.map_toArray, List.map_cons, List.map_nil]); first | done | rfl | (simp only [List.length_drop, List.length_take]; rfl)) ?_; (with_reducible refine (inst_step.calls a0_5 t126 t127 t128 true _ A36.out).mono ?_); rintro e w' ⟨rfl, ⟨nd, rfl⟩⟩; refine ⟨_, rfl, ?_⟩) | (go_at_call 14; (with_reducible refine (inst_step.calls a0_8 0 t129 t130 true _ A38.out).mono ?_); rintro e w' ⟨rfl, ⟨nd, rfl⟩⟩))
          go_meet
          case rel => exact ⟨_, (false), (by first | rfl | (simp; done) | (simp [*]; done)), H', ⟨by have := HJ7.out; first | omega | exact Nat.le_refl _⟩, ⟨by (with_reducible repeat (first | refine blk_drewN ?_ _ | refine blk_drew ?_ | refine blk_alloc ?_ _)); exact BK120.out⟩, ⟨by (with_reducible repeat (first | refine blk_drewN ?_ _ | refine blk_drew ?_ | refine blk_alloc ?_ _)); exact BK134.out⟩, ⟨by repeat (first | (with_reducible first | exact HB.out | apply below_alloc | apply pw_below_drewN | apply below_drew1 | refine below_set ?_ GE120.out | refine below_set ?_ GE134.out) | exact HB.out)⟩⟩
        ·
         rw [if_neg c41] at H
         have c41b0 : decide (a0_7 ≤ t131) = false := decide_eq_false c41
         clear c41
         have H' := Aside0.mk H
         clear H
         have hnb49 := NB120_134.out
         have hnc49 := NB134_120.out
         have hcz50_0 : wc.cell? ⟨gb120, 0, none⟩ = some (.int .i64 a0_0) := (blk_cell BK120.out 0).trans rfl
         have hcz50_1 : wc.cell? ⟨gb120, 1, none⟩ = some (.int .i64 a0_1) := (blk_cell BK120.out 1).trans rfl
         have hcz50_2 : wc.cell? ⟨gb120, 2, none⟩ = some (.int .i64 a0_2) := (blk_cell BK120.out 2).trans rfl
         have hcz50_3 : wc.cell? ⟨gb120, 3, none⟩ = some (.int .i64 a0_3) := (blk_cell BK120.out 3).trans rfl
         have hcz50_4 : wc.cell? ⟨gb120, 4, none⟩ = some (.int .i64 a0_4) := (blk_cell BK120.out 4).trans rfl
         have hcz50_5 : wc.cell? ⟨gb120, 5, none⟩ = some (.int .i64 a0_5) := (blk_cell BK120.out 5).trans rfl
         have hcz50_6 : wc.cell? ⟨gb120, 6, none⟩ = some (.int .u64 a0_6) := (blk_cell BK120.out 6).trans rfl
         have hcz50_7 : wc.cell? ⟨gb120, 7, none⟩ = some (.int .i64 a0_7) := (blk_cell BK120.out 7).trans rfl
         have hcz50_8 : wc.cell? ⟨gb120, 8, none⟩ = some (.int .i64 a0_8) := (blk_cell BK120.out 8).trans rfl
         have hcz50_9 : wc.cell? ⟨gb120, 9, none⟩ = some (.int .i64 a0_9) := (blk_cell BK120.out 9).trans rfl
         have hfz50_0 := blk_frozen BK120.out 0
         have hfz50_1 := blk_frozen BK120.out 1
         have hfz50_2 := blk_frozen BK120.out 2
         have hfz50_3 := blk_frozen BK120.out 3
         have hfz50_4 := blk_frozen BK120.out 4
         have hfz50_5 := blk_frozen BK120.out 5
         have hfz50_6 := blk_frozen BK120.out 6
         have hfz50_7 := blk_frozen BK120.out 7
         have hfz50_8 := blk_frozen BK120.out 8
         have hfz50_9 := blk_frozen BK120.out 9
         have hcz51_0 : wc.cell? ⟨gb134, 0, none⟩ = some (.bool t122) := (blk_cell BK134.out 0).trans rfl
         have hcz51_1 : wc.cell? ⟨gb134, 1, none⟩ = some (.bool t123) := (blk_cell BK134.out 1).trans rfl
         have hcz51_2 : wc.cell? ⟨gb134, 2, none⟩ = some (.bool t124) := (blk_cell BK134.out 2).trans rfl
         have hcz51_3 : wc.cell? ⟨gb134, 3, none⟩ = some (.bool t125) := (blk_cell BK134.out 3).trans rfl
         have hcz51_4 : wc.cell? ⟨gb134, 4, none⟩ = some (.int .i64 t126) := (blk_cell BK134.out 4).trans rfl
         have hcz51_5 : wc.cell? ⟨gb134, 5, none⟩ = some (.int .i64 t127) := (blk_cell BK134.out 5).trans rfl
         have hcz51_6 : wc.cell? ⟨gb134, 6, none⟩ = some (.int .i64 t128) := (blk_cell BK134.out 6).trans rfl
         have hcz51_7 : wc.cell? ⟨gb134, 7, none⟩ = some (.int .i64 t129) := (blk_cell BK134.out 7).trans rfl
         have hcz51_8 : wc.cell? ⟨gb134, 8, none⟩ = some (.int .i64 t130) := (blk_cell BK134.out 8).trans rfl
         have hcz51_9 : wc.cell? ⟨gb134, 9, none⟩ = some (.int .i64 t131) := (blk_cell BK134.out 9).trans rfl
         have hcz51_10 : wc.cell? ⟨gb134, 10, none⟩ = some (.int .i64 t132) := (blk_cell BK134.out 10).trans rfl
         have hcz51_11 : wc.cell? ⟨gb134, 11, none⟩ = some (.bool t133) := (blk_cell BK134.out 11).trans rfl
         have hfz51_0 := blk_frozen BK134.out 0
         have hfz51_1 := blk_frozen BK134.out 1
         have hfz51_2 := blk_frozen BK134.out 2
         have hfz51_3 := blk_frozen BK134.out 3
         have hfz51_4 := blk_frozen BK134.out 4
         have hfz51_5 := blk_frozen BK134.out 5
         have hfz51_6 := blk_frozen BK134.out 6
         have hfz51_7 := blk_frozen BK134.out 7
         have hfz51_8 := blk_frozen BK134.out 8
         have hfz51_9 := blk_frozen BK134.out 9
         have hfz51_10 := blk_frozen BK134.out 10
         have hfz51_11 := blk_frozen BK134.out 11
         go_wp2_with (first | ((with_reducible refine gate_callee (f := 14) rfl ?_); refine goesL_ (some 48) rfl rfl Tryd.func14 (by kernel_rfl) rfl #[.int .i64 a0_5, .int .i64 t126, .int .i64 t127, .int .i64 t128] rfl (by (try simp only [List.map_toArray, List.map_cons, List.map_nil]); first | done | rfl | (simp only [List.length_drop, List.length_take]; rfl)) ?_; (with_reducible refine (inst_step.calls a0_5 t126 t127 t128 true _ A36.out).mono ?_); rintro e w' ⟨rfl, ⟨nd, rfl⟩⟩; refine ⟨_, rfl, ?_⟩) | (go_at_call 14; (with_reducible refine (inst_step.calls a0_8 0 t129 t130 true _ A38.out).mono ?_); rintro e w' ⟨rfl, ⟨nd, rfl⟩⟩))
         go_meet
         case rel => exact ⟨_, (false), (by first | rfl | (simp; done) | (simp [*]; done)), H', ⟨by have := HJ7.out; first | omega | exact Nat.le_refl _⟩, ⟨by (with_reducible repeat (first | refine blk_drewN ?_ _ | refine blk_drew ?_ | refine blk_alloc ?_ _)); exact BK120.out⟩, ⟨by (with_reducible repeat (first | refine blk_drewN ?_ _ | refine blk_drew ?_ | refine blk_alloc ?_ _)); exact BK134.out⟩, ⟨by repeat (first | (with_reducible first | exact HB.out | apply below_alloc | apply pw_below_drewN | apply below_drew1 | refine below_set ?_ GE120.out | refine below_set ?_ GE134.out) | exact HB.out)⟩⟩
       ·
        rw [if_neg c40] at H
        have c40b0 : decide (0 ≤ a0_7) = false := decide_eq_false c40
        clear c40
        (first | rw [c40b0] | (simp only [i64_w, i32_w]; rw [c40b0]) | skip)
        have H' := Aside0.mk H
        clear H
        have hnb52 := NB120_134.out
        have hnc52 := NB134_120.out
        have hcz53_0 : wc.cell? ⟨gb120, 0, none⟩ = some (.int .i64 a0_0) := (blk_cell BK120.out 0).trans rfl
        have hcz53_1 : wc.cell? ⟨gb120, 1, none⟩ = some (.int .i64 a0_1) := (blk_cell BK120.out 1).trans rfl
        have hcz53_2 : wc.cell? ⟨gb120, 2, none⟩ = some (.int .i64 a0_2) := (blk_cell BK120.out 2).trans rfl
        have hcz53_3 : wc.cell? ⟨gb120, 3, none⟩ = some (.int .i64 a0_3) := (blk_cell BK120.out 3).trans rfl
        have hcz53_4 : wc.cell? ⟨gb120, 4, none⟩ = some (.int .i64 a0_4) := (blk_cell BK120.out 4).trans rfl
        have hcz53_5 : wc.cell? ⟨gb120, 5, none⟩ = some (.int .i64 a0_5) := (blk_cell BK120.out 5).trans rfl
        have hcz53_6 : wc.cell? ⟨gb120, 6, none⟩ = some (.int .u64 a0_6) := (blk_cell BK120.out 6).trans rfl
        have hcz53_7 : wc.cell? ⟨gb120, 7, none⟩ = some (.int .i64 a0_7) := (blk_cell BK120.out 7).trans rfl
        have hcz53_8 : wc.cell? ⟨gb120, 8, none⟩ = some (.int .i64 a0_8) := (blk_cell BK120.out 8).trans rfl
        have hcz53_9 : wc.cell? ⟨gb120, 9, none⟩ = some (.int .i64 a0_9) := (blk_cell BK120.out 9).trans rfl
        have hfz53_0 := blk_frozen BK120.out 0
        have hfz53_1 := blk_frozen BK120.out 1
        have hfz53_2 := blk_frozen BK120.out 2
        have hfz53_3 := blk_frozen BK120.out 3
        have hfz53_4 := blk_frozen BK120.out 4
        have hfz53_5 := blk_frozen BK120.out 5
        have hfz53_6 := blk_frozen BK120.out 6
        have hfz53_7 := blk_frozen BK120.out 7
        have hfz53_8 := blk_frozen BK120.out 8
        have hfz53_9 := blk_frozen BK120.out 9
        have hcz54_0 : wc.cell? ⟨gb134, 0, none⟩ = some (.bool t122) := (blk_cell BK134.out 0).trans rfl
        have hcz54_1 : wc.cell? ⟨gb134, 1, none⟩ = some (.bool t123) := (blk_cell BK134.out 1).trans rfl
        have hcz54_2 : wc.cell? ⟨gb134, 2, none⟩ = some (.bool t124) := (blk_cell BK134.out 2).trans rfl
        have hcz54_3 : wc.cell? ⟨gb134, 3, none⟩ = some (.bool t125) := (blk_cell BK134.out 3).trans rfl
        have hcz54_4 : wc.cell? ⟨gb134, 4, none⟩ = some (.int .i64 t126) := (blk_cell BK134.out 4).trans rfl
        have hcz54_5 : wc.cell? ⟨gb134, 5, none⟩ = some (.int .i64 t127) := (blk_cell BK134.out 5).trans rfl
        have hcz54_6 : wc.cell? ⟨gb134, 6, none⟩ = some (.int .i64 t128) := (blk_cell BK134.out 6).trans rfl
        have hcz54_7 : wc.cell? ⟨gb134, 7, none⟩ = some (.int .i64 t129) := (blk_cell BK134.out 7).trans rfl
        have hcz54_8 : wc.cell? ⟨gb134, 8, none⟩ = some (.int .i64 t130) := (blk_cell BK134.out 8).trans rfl
        have hcz54_9 : wc.cell? ⟨gb134, 9, none⟩ = some (.int .i64 t131) := (blk_cell BK134.out 9).trans rfl
        have hcz54_10 : wc.cell? ⟨gb134, 10, none⟩ = some (.int .i64 t132) := (blk_cell BK134.out 10).trans rfl
        have hcz54_11 : wc.cell? ⟨gb134, 11, none⟩ = some (.bool t133) := (blk_cell BK134.out 11).trans rfl
        have hfz54_0 := blk_frozen BK134.out 0
        have hfz54_1 := blk_frozen BK134.out 1
        have hfz54_2 := blk_frozen BK134.out 2
        have hfz54_3 := blk_frozen BK134.out 3
        have hfz54_4 := blk_frozen BK134.out 4
        have hfz54_5 := blk_frozen BK134.out 5
        have hfz54_6 := blk_frozen BK134.out 6
        have hfz54_7 := blk_frozen BK134.out 7
        have hfz54_8 := blk_frozen BK134.out 8
        have hfz54_9 := blk_frozen BK134.out 9
        have hfz54_10 := blk_frozen BK134.out 10
        have hfz54_11 := blk_frozen BK134.out 11
        go_wp2_with (first | ((with_reducible refine gate_callee (f := 14) rfl ?_); refine goesL_ (some 48) rfl rfl Tryd.func14 (by kernel_rfl) rfl #[.int .i64 a0_5, .int .i64 t126, .int .i64 t127, .int .i64 t128] rfl (by (try simp only [List.map_toArray, List.map_cons, List.map_nil]); first | done | rfl | (simp only [List.length_drop, List.length_take]; rfl)) ?_; (with_reducible refine (inst_step.calls a0_5 t126 t127 t128 true _ A36.out).mono ?_); rintro e w' ⟨rfl, ⟨nd, rfl⟩⟩; refine ⟨_, rfl, ?_⟩) | (go_at_call 14; (with_reducible refine (inst_step.calls a0_8 0 t129 t130 true _ A38.out).mono ?_); rintro e w' ⟨rfl, ⟨nd, rfl⟩⟩))
        go_meet
        case rel => exact ⟨_, (false), (by first | rfl | (simp; done) | (simp [*]; done)), H', ⟨by have := HJ7.out; first | omega | exact Nat.le_refl _⟩, ⟨by (with_reducible repeat (first | refine blk_drewN ?_ _ | refine blk_drew ?_ | refine blk_alloc ?_ _)); exact BK120.out⟩, ⟨by (with_reducible repeat (first | refine blk_drewN ?_ _ | refine blk_drew ?_ | refine blk_alloc ?_ _)); exact BK134.out⟩, ⟨by repeat (first | (with_reducible first | exact HB.out | apply below_alloc | apply pw_below_drewN | apply below_drew1 | refine below_set ?_ GE120.out | refine below_set ?_ GE134.out) | exact HB.out)⟩⟩
      ·
       replace c39 := Bool.eq_false_iff.mpr c39
       subst c39
       have H1 : (inst_Is.j1 kj7 t121 x5_7 false a0_0 a0_1 a0_2 a0_3 a0_4 a0_5 a0_6 a0_7 a0_8 a0_9) = some r := by rw [if_neg (show ¬ (false = true) by decide)] at H; exact H
       clear H
       have H := H1
       clear H1
       have H' := Aside0.mk H
       clear H
       have hnb55 := NB120_134.out
       have hnc55 := NB134_120.out
       have hcz56_0 : wc.cell? ⟨gb120, 0, none⟩ = some (.int .i64 a0_0) := (blk_cell BK120.out 0).trans rfl
       have hcz56_1 : wc.cell? ⟨gb120, 1, none⟩ = some (.int .i64 a0_1) := (blk_cell BK120.out 1).trans rfl
       have hcz56_2 : wc.cell? ⟨gb120, 2, none⟩ = some (.int .i64 a0_2) := (blk_cell BK120.out 2).trans rfl
       have hcz56_3 : wc.cell? ⟨gb120, 3, none⟩ = some (.int .i64 a0_3) := (blk_cell BK120.out 3).trans rfl
       have hcz56_4 : wc.cell? ⟨gb120, 4, none⟩ = some (.int .i64 a0_4) := (blk_cell BK120.out 4).trans rfl
       have hcz56_5 : wc.cell? ⟨gb120, 5, none⟩ = some (.int .i64 a0_5) := (blk_cell BK120.out 5).trans rfl
       have hcz56_6 : wc.cell? ⟨gb120, 6, none⟩ = some (.int .u64 a0_6) := (blk_cell BK120.out 6).trans rfl
       have hcz56_7 : wc.cell? ⟨gb120, 7, none⟩ = some (.int .i64 a0_7) := (blk_cell BK120.out 7).trans rfl
       have hcz56_8 : wc.cell? ⟨gb120, 8, none⟩ = some (.int .i64 a0_8) := (blk_cell BK120.out 8).trans rfl
       have hcz56_9 : wc.cell? ⟨gb120, 9, none⟩ = some (.int .i64 a0_9) := (blk_cell BK120.out 9).trans rfl
       have hfz56_0 := blk_frozen BK120.out 0
       have hfz56_1 := blk_frozen BK120.out 1
       have hfz56_2 := blk_frozen BK120.out 2
       have hfz56_3 := blk_frozen BK120.out 3
       have hfz56_4 := blk_frozen BK120.out 4
       have hfz56_5 := blk_frozen BK120.out 5
       have hfz56_6 := blk_frozen BK120.out 6
       have hfz56_7 := blk_frozen BK120.out 7
       have hfz56_8 := blk_frozen BK120.out 8
       have hfz56_9 := blk_frozen BK120.out 9
       have hcz57_0 : wc.cell? ⟨gb134, 0, none⟩ = some (.bool t122) := (blk_cell BK134.out 0).trans rfl
       have hcz57_1 : wc.cell? ⟨gb134, 1, none⟩ = some (.bool t123) := (blk_cell BK134.out 1).trans rfl
       have hcz57_2 : wc.cell? ⟨gb134, 2, none⟩ = some (.bool t124) := (blk_cell BK134.out 2).trans rfl
       have hcz57_3 : wc.cell? ⟨gb134, 3, none⟩ = some (.bool t125) := (blk_cell BK134.out 3).trans rfl
       have hcz57_4 : wc.cell? ⟨gb134, 4, none⟩ = some (.int .i64 t126) := (blk_cell BK134.out 4).trans rfl
       have hcz57_5 : wc.cell? ⟨gb134, 5, none⟩ = some (.int .i64 t127) := (blk_cell BK134.out 5).trans rfl
       have hcz57_6 : wc.cell? ⟨gb134, 6, none⟩ = some (.int .i64 t128) := (blk_cell BK134.out 6).trans rfl
       have hcz57_7 : wc.cell? ⟨gb134, 7, none⟩ = some (.int .i64 t129) := (blk_cell BK134.out 7).trans rfl
       have hcz57_8 : wc.cell? ⟨gb134, 8, none⟩ = some (.int .i64 t130) := (blk_cell BK134.out 8).trans rfl
       have hcz57_9 : wc.cell? ⟨gb134, 9, none⟩ = some (.int .i64 t131) := (blk_cell BK134.out 9).trans rfl
       have hcz57_10 : wc.cell? ⟨gb134, 10, none⟩ = some (.int .i64 t132) := (blk_cell BK134.out 10).trans rfl
       have hcz57_11 : wc.cell? ⟨gb134, 11, none⟩ = some (.bool t133) := (blk_cell BK134.out 11).trans rfl
       have hfz57_0 := blk_frozen BK134.out 0
       have hfz57_1 := blk_frozen BK134.out 1
       have hfz57_2 := blk_frozen BK134.out 2
       have hfz57_3 := blk_frozen BK134.out 3
       have hfz57_4 := blk_frozen BK134.out 4
       have hfz57_5 := blk_frozen BK134.out 5
       have hfz57_6 := blk_frozen BK134.out 6
       have hfz57_7 := blk_frozen BK134.out 7
       have hfz57_8 := blk_frozen BK134.out 8
       have hfz57_9 := blk_frozen BK134.out 9
       have hfz57_10 := blk_frozen BK134.out 10
       have hfz57_11 := blk_frozen BK134.out 11
       go_wp2_with (first | ((with_reducible refine gate_callee (f := 14) rfl ?_); refine goesL_ (some 48) rfl rfl Tryd.func14 (by kernel_rfl) rfl #[.int .i64 a0_5, .int .i64 t126, .int .i64 t127, .int .i64 t128] rfl (by (try simp only [List.map_toArray, List.map_cons, List.map_nil]); first | done | rfl | (simp only [List.length_drop, List.length_take]; rfl)) ?_; (with_reducible refine (inst_step.calls a0_5 t126 t127 t128 true _ A36.out).mono ?_); rintro e w' ⟨rfl, ⟨nd, rfl⟩⟩; refine ⟨_, rfl, ?_⟩) | (go_at_call 14; (with_reducible refine (inst_step.calls a0_8 0 t129 t130 false _ A38.out).mono ?_); rintro e w' ⟨rfl, ⟨nd, rfl⟩⟩))
       go_meet
       case rel => exact ⟨_, (false), (by first | rfl | (simp; done) | (simp [*]; done)), H', ⟨by have := HJ7.out; first | omega | exact Nat.le_refl _⟩, ⟨by (with_reducible repeat (first | refine blk_drewN ?_ _ | refine blk_drew ?_ | refine blk_alloc ?_ _)); exact BK120.out⟩, ⟨by (with_reducible repeat (first | refine blk_drewN ?_ _ | refine blk_drew ?_ | refine blk_alloc ?_ _)); exact BK134.out⟩, ⟨by repeat (first | (with_reducible first | exact HB.out | apply below_alloc | apply pw_below_drewN | apply below_drew1 | refine below_set ?_ GE120.out | refine below_set ?_ GE134.out) | exact HB.out)⟩⟩
     ·
      replace c37 := Bool.eq_false_iff.mpr c37
      subst c37
      have H1 : (inst_Is.j1 kj7 t121 x5_7 false a0_0 a0_1 a0_2 a0_3 a0_4 a0_5 a0_6 a0_7 a0_8 a0_9) = some r := by rw [if_neg (show ¬ (false = true) by decide)] at H; exact H
      clear H
      have H := H1
      clear H1
      have H' := Aside0.mk H
      clear H
      have hnb58 := NB120_134.out
      have hnc58 := NB134_120.out
      have hcz59_0 : wc.cell? ⟨gb120, 0, none⟩ = some (.int .i64 a0_0) := (blk_cell BK120.out 0).trans rfl
      have hcz59_1 : wc.cell? ⟨gb120, 1, none⟩ = some (.int .i64 a0_1) := (blk_cell BK120.out 1).trans rfl
      have hcz59_2 : wc.cell? ⟨gb120, 2, none⟩ = some (.int .i64 a0_2) := (blk_cell BK120.out 2).trans rfl
      have hcz59_3 : wc.cell? ⟨gb120, 3, none⟩ = some (.int .i64 a0_3) := (blk_cell BK120.out 3).trans rfl
      have hcz59_4 : wc.cell? ⟨gb120, 4, none⟩ = some (.int .i64 a0_4) := (blk_cell BK120.out 4).trans rfl
      have hcz59_5 : wc.cell? ⟨gb120, 5, none⟩ = some (.int .i64 a0_5) := (blk_cell BK120.out 5).trans rfl
      have hcz59_6 : wc.cell? ⟨gb120, 6, none⟩ = some (.int .u64 a0_6) := (blk_cell BK120.out 6).trans rfl
      have hcz59_7 : wc.cell? ⟨gb120, 7, none⟩ = some (.int .i64 a0_7) := (blk_cell BK120.out 7).trans rfl
      have hcz59_8 : wc.cell? ⟨gb120, 8, none⟩ = some (.int .i64 a0_8) := (blk_cell BK120.out 8).trans rfl
      have hcz59_9 : wc.cell? ⟨gb120, 9, none⟩ = some (.int .i64 a0_9) := (blk_cell BK120.out 9).trans rfl
      have hfz59_0 := blk_frozen BK120.out 0
      have hfz59_1 := blk_frozen BK120.out 1
      have hfz59_2 := blk_frozen BK120.out 2
      have hfz59_3 := blk_frozen BK120.out 3
      have hfz59_4 := blk_frozen BK120.out 4
      have hfz59_5 := blk_frozen BK120.out 5
      have hfz59_6 := blk_frozen BK120.out 6
      have hfz59_7 := blk_frozen BK120.out 7
      have hfz59_8 := blk_frozen BK120.out 8
      have hfz59_9 := blk_frozen BK120.out 9
      have hcz60_0 : wc.cell? ⟨gb134, 0, none⟩ = some (.bool t122) := (blk_cell BK134.out 0).trans rfl
      have hcz60_1 : wc.cell? ⟨gb134, 1, none⟩ = some (.bool t123) := (blk_cell BK134.out 1).trans rfl
      have hcz60_2 : wc.cell? ⟨gb134, 2, none⟩ = some (.bool t124) := (blk_cell BK134.out 2).trans rfl
      have hcz60_3 : wc.cell? ⟨gb134, 3, none⟩ = some (.bool t125) := (blk_cell BK134.out 3).trans rfl
      have hcz60_4 : wc.cell? ⟨gb134, 4, none⟩ = some (.int .i64 t126) := (blk_cell BK134.out 4).trans rfl
      have hcz60_5 : wc.cell? ⟨gb134, 5, none⟩ = some (.int .i64 t127) := (blk_cell BK134.out 5).trans rfl
      have hcz60_6 : wc.cell? ⟨gb134, 6, none⟩ = some (.int .i64 t128) := (blk_cell BK134.out 6).trans rfl
      have hcz60_7 : wc.cell? ⟨gb134, 7, none⟩ = some (.int .i64 t129) := (blk_cell BK134.out 7).trans rfl
      have hcz60_8 : wc.cell? ⟨gb134, 8, none⟩ = some (.int .i64 t130) := (blk_cell BK134.out 8).trans rfl
      have hcz60_9 : wc.cell? ⟨gb134, 9, none⟩ = some (.int .i64 t131) := (blk_cell BK134.out 9).trans rfl
      have hcz60_10 : wc.cell? ⟨gb134, 10, none⟩ = some (.int .i64 t132) := (blk_cell BK134.out 10).trans rfl
      have hcz60_11 : wc.cell? ⟨gb134, 11, none⟩ = some (.bool t133) := (blk_cell BK134.out 11).trans rfl
      have hfz60_0 := blk_frozen BK134.out 0
      have hfz60_1 := blk_frozen BK134.out 1
      have hfz60_2 := blk_frozen BK134.out 2
      have hfz60_3 := blk_frozen BK134.out 3
      have hfz60_4 := blk_frozen BK134.out 4
      have hfz60_5 := blk_frozen BK134.out 5
      have hfz60_6 := blk_frozen BK134.out 6
      have hfz60_7 := blk_frozen BK134.out 7
      have hfz60_8 := blk_frozen BK134.out 8
      have hfz60_9 := blk_frozen BK134.out 9
      have hfz60_10 := blk_frozen BK134.out 10
      have hfz60_11 := blk_frozen BK134.out 11
      go_wp2_with (first | ((with_reducible refine gate_callee (f := 14) rfl ?_); refine goesL_ (some 48) rfl rfl Tryd.func14 (by kernel_rfl) rfl #[.int .i64 a0_5, .int .i64 t126, .int .i64 t127, .int .i64 t128] rfl (by (try simp only [List.map_toArray, List.map_cons, List.map_nil]); first | done | rfl | (simp only [List.length_drop, List.length_take]; rfl)) ?_; (with_reducible refine (inst_step.calls a0_5 t126 t127 t128 false _ A36.out).mono ?_); rintro e w' ⟨rfl, ⟨nd, rfl⟩⟩; refine ⟨_, rfl, ?_⟩))
      go_meet
      case rel => exact ⟨_, (false), (by first | rfl | (simp; done) | (simp [*]; done)), H', ⟨by have := HJ7.out; first | omega | exact Nat.le_refl _⟩, ⟨by (with_reducible repeat (first | refine blk_drewN ?_ _ | refine blk_drew ?_ | refine blk_alloc ?_ _)); exact BK120.out⟩, ⟨by (with_reducible repeat (first | refine blk_drewN ?_ _ | refine blk_drew ?_ | refine blk_alloc ?_ _)); exact BK134.out⟩, ⟨by repeat (first | (with_reducible first | exact HB.out | apply below_alloc | apply pw_below_drewN | apply below_drew1 | refine below_set ?_ GE120.out | refine below_set ?_ GE134.out) | exact HB.out)⟩⟩
    case rest =>
     clear HC35
     try clear c1
     try clear p2
     try clear c3
     try clear c4
     try clear c5
     try clear c14
     try clear c37
     try clear c39
     try clear c40
     try clear c40b0
     try clear c41
     try clear c41b0
     try clear c42
     try clear c42b0
     try clear c43
     try clear c46
     try clear c49
     try clear c52
     try clear c55
     try clear c58
     try clear hcz15_7 hcz15_8 hcz15_9
     try clear hcz24_0 hcz24_1 hcz24_10 hcz24_11 hcz24_2 hcz24_3 hcz24_4 hcz24_5 hcz24_6 hcz24_7 hcz24_8 hcz24_9
     try clear hcz25_0 hcz25_1 hcz25_2 hcz25_3 hcz25_4 hcz25_5 hcz25_6 hcz25_7 hcz25_8 hcz25_9
     try clear hcz27_0 hcz27_1 hcz27_10 hcz27_11 hcz27_2 hcz27_3 hcz27_4 hcz27_5 hcz27_6 hcz27_7 hcz27_8 hcz27_9
     try clear hcz28_0 hcz28_1 hcz28_2 hcz28_3 hcz28_4 hcz28_5 hcz28_6 hcz28_7 hcz28_8 hcz28_9
     try clear hcz30_0 hcz30_1 hcz30_10 hcz30_11 hcz30_2 hcz30_3 hcz30_4 hcz30_5 hcz30_6 hcz30_7 hcz30_8 hcz30_9
     try clear hcz31_0 hcz31_1 hcz31_2 hcz31_3 hcz31_4 hcz31_5 hcz31_6 hcz31_7 hcz31_8 hcz31_9
     try clear hcz33_0 hcz33_1 hcz33_10 hcz33_11 hcz33_2 hcz33_3 hcz33_4 hcz33_5 hcz33_6 hcz33_7 hcz33_8 hcz33_9
     try clear hcz34_0 hcz34_1 hcz34_2 hcz34_3 hcz34_4 hcz34_5 hcz34_6 hcz34_7 hcz34_8 hcz34_9
     try clear hcz44_0 hcz44_1 hcz44_2 hcz44_3 hcz44_4 hcz44_5 hcz44_6 hcz44_7 hcz44_8 hcz44_9
     try clear hcz45_0 hcz45_1 hcz45_10 hcz45_11 hcz45_2 hcz45_3 hcz45_4 hcz45_5 hcz45_6 hcz45_7 hcz45_8 hcz45_9
     try clear hcz47_0 hcz47_1 hcz47_2 hcz47_3 hcz47_4 hcz47_5 hcz47_6 hcz47_7 hcz47_8 hcz47_9
     try clear hcz48_0 hcz48_1 hcz48_10 hcz48_11 hcz48_2 hcz48_3 hcz48_4 hcz48_5 hcz48_6 hcz48_7 hcz48_8 hcz48_9
     try clear hcz50_0 hcz50_1 hcz50_2 hcz50_3 hcz50_4 hcz50_5 hcz50_6 hcz50_7 hcz50_8 hcz50_9
     try clear hcz51_0 hcz51_1 hcz51_10 hcz51_11 hcz51_2 hcz51_3 hcz51_4 hcz51_5 hcz51_6 hcz51_7 hcz51_8 hcz51_9
     try clear hcz53_0 hcz53_1 hcz53_2 hcz53_3 hcz53_4 hcz53_5 hcz53_6 hcz53_7 hcz53_8 hcz53_9
     try clear hcz54_0 hcz54_1 hcz54_10 hcz54_11 hcz54_2 hcz54_3 hcz54_4 hcz54_5 hcz54_6 hcz54_7 hcz54_8 hcz54_9
     try clear hcz56_0 hcz56_1 hcz56_2 hcz56_3 hcz56_4 hcz56_5 hcz56_6 hcz56_7 hcz56_8 hcz56_9
     try clear hcz57_0 hcz57_1 hcz57_10 hcz57_11 hcz57_2 hcz57_3 hcz57_4 hcz57_5 hcz57_6 hcz57_7 hcz57_8 hcz57_9
     try clear hcz59_0 hcz59_1 hcz59_2 hcz59_3 hcz59_4 hcz59_5 hcz59_6 hcz59_7 hcz59_8 hcz59_9
     try clear hcz5_0 hcz5_1 hcz5_2 hcz5_3 hcz5_4 hcz5_5 hcz5_6 hcz5_7 hcz5_8 hcz5_9
     try clear hcz60_0 hcz60_1 hcz60_10 hcz60_11 hcz60_2 hcz60_3 hcz60_4 hcz60_5 hcz60_6 hcz60_7 hcz60_8 hcz60_9
     try clear hfz10_0
     try clear hfz15_0
     try clear hfz24_0
     try clear hfz25_0
     try clear hfz27_0
     try clear hfz28_0
     try clear hfz30_0
     try clear hfz31_0
     try clear hfz33_0
     try clear hfz34_0
     try clear hfz44_0
     try clear hfz45_0
     try clear hfz47_0
     try clear hfz48_0
     try clear hfz50_0
     try clear hfz51_0
     try clear hfz53_0
     try clear hfz54_0
     try clear hfz56_0
     try clear hfz57_0
     try clear hfz59_0
     try clear hfz5_0
     try clear hfz60_0
     obtain ⟨kq, x6_34, rfl, HA, HJ34, BK120, BK134, HB⟩ := hcut
     cases kq with
     | zero => exact absurd HA.out (by simp [inst_Is.j1])
     | succ kj34 =>
      have H := HA.out
      clear HA
      simp only [inst_Is.j1] at H
      by_cases c61 : t121 = 3
      ·
       rw [if_pos c61] at H
       have c61b0 : (t121 == 3) = true := beq_iff_eq.mpr c61
       have c61b1 : (t121 != 3) = false := bne_eq_false_iff_eq.mpr c61
       clear c61
       by_cases c62 : x5_7 = true
       ·
        subst c62
        have H1 : (if x6_34 = true then ((mask_Is.f kj34 a0_6).bind fun t141 => (some t141)) else (some false)) = some r := by rw [if_pos rfl] at H; exact H
        clear H
        have H := H1
        clear H1
        by_cases c63 : x6_34 = true
        ·
         subst c63
         have H1 : ((mask_Is.f kj34 a0_6).bind fun t141 => (some t141)) = some r := by rw [if_pos rfl] at H; exact H
         clear H
         have H := H1
         clear H1
         replace H := Option.bind_eq_some_iff.mp H
         obtain ⟨t141, A640, H⟩ := H
         replace H : (some t141) = some r := H
         have A64 := Aside0.mk A640
         clear A640
         obtain rfl := Option.some.inj H
         have hnb65 := NB120_134.out
         have hnc65 := NB134_120.out
         have hcz66_0 : wc.cell? ⟨gb120, 0, none⟩ = some (.int .i64 a0_0) := (blk_cell BK120.out 0).trans rfl
         have hcz66_1 : wc.cell? ⟨gb120, 1, none⟩ = some (.int .i64 a0_1) := (blk_cell BK120.out 1).trans rfl
         have hcz66_2 : wc.cell? ⟨gb120, 2, none⟩ = some (.int .i64 a0_2) := (blk_cell BK120.out 2).trans rfl
         have hcz66_3 : wc.cell? ⟨gb120, 3, none⟩ = some (.int .i64 a0_3) := (blk_cell BK120.out 3).trans rfl
         have hcz66_4 : wc.cell? ⟨gb120, 4, none⟩ = some (.int .i64 a0_4) := (blk_cell BK120.out 4).trans rfl
         have hcz66_5 : wc.cell? ⟨gb120, 5, none⟩ = some (.int .i64 a0_5) := (blk_cell BK120.out 5).trans rfl
         have hcz66_6 : wc.cell? ⟨gb120, 6, none⟩ = some (.int .u64 a0_6) := (blk_cell BK120.out 6).trans rfl
         have hcz66_7 : wc.cell? ⟨gb120, 7, none⟩ = some (.int .i64 a0_7) := (blk_cell BK120.out 7).trans rfl
         have hcz66_8 : wc.cell? ⟨gb120, 8, none⟩ = some (.int .i64 a0_8) := (blk_cell BK120.out 8).trans rfl
         have hcz66_9 : wc.cell? ⟨gb120, 9, none⟩ = some (.int .i64 a0_9) := (blk_cell BK120.out 9).trans rfl
         have hfz66_0 := blk_frozen BK120.out 0
         have hfz66_1 := blk_frozen BK120.out 1
         have hfz66_2 := blk_frozen BK120.out 2
         have hfz66_3 := blk_frozen BK120.out 3
         have hfz66_4 := blk_frozen BK120.out 4
         have hfz66_5 := blk_frozen BK120.out 5
         have hfz66_6 := blk_frozen BK120.out 6
         have hfz66_7 := blk_frozen BK120.out 7
         have hfz66_8 := blk_frozen BK120.out 8
         have hfz66_9 := blk_frozen BK120.out 9
         go_wp2_with (first | (go_at_call 15; (with_reducible refine (mask_Is.calls kj34 a0_6 t141 _ A64.out).mono ?_); rintro e w67 ⟨rfl, hb⟩; have n0_ := Aside0.mk (blk_below (g := gb120) (o := .cells #[.int .i64 a0_0, .int .i64 a0_1, .int .i64 a0_2, .int .i64 a0_3, .int .i64 a0_4, .int .i64 a0_5, .int .u64 a0_6, .int .i64 a0_7, .int .i64 a0_8, .int .i64 a0_9] 24 (0, 0)) (by (with_reducible repeat (first | refine blk_drewN ?_ _ | refine blk_drew ?_ | refine blk_alloc ?_ _)); exact BK120.out) hb); have n1_ := Aside0.mk (blk_below (g := gb134) (o := .cells #[.bool t122, .bool t123, .bool t124, .bool t125, .int .i64 t126, .int .i64 t127, .int .i64 t128, .int .i64 t129, .int .i64 t130, .int .i64 t131, .int .i64 t132, .bool t133] 39 (0, 0)) (by (with_reducible repeat (first | refine blk_drewN ?_ _ | refine blk_drew ?_ | refine blk_alloc ?_ _)); exact BK134.out) hb); have n2_ := Aside0.mk (below_step (by repeat (first | (with_reducible first | exact HB.out | apply below_alloc | apply pw_below_drewN | apply below_drew1 | refine below_set ?_ GE120.out | refine below_set ?_ GE134.out) | exact HB.out)) hb); clear BK120; clear BK134; clear HB; have BK120 := n0_; have BK134 := n1_; have HB := n2_; clear n0_ n1_ n2_; (try clear hb); (try clear hb2); (try clear hk); (try clear hi)))
         go_ret
         exact ⟨by first | rfl | (simp [errW_none, errW_some] <;> rfl) | (simp [*, errW_none, errW_some] <;> rfl), by repeat (first | (with_reducible first | exact HB.out | apply below_alloc | apply pw_below_drewN | apply below_drew1 | refine below_set ?_ GE120.out | refine below_set ?_ GE134.out) | exact HB.out)⟩
        ·
         replace c63 := Bool.eq_false_iff.mpr c63
         subst c63
         have H1 : (some false) = some r := by rw [if_neg (show ¬ (false = true) by decide)] at H; exact H
         clear H
         have H := H1
         clear H1
         obtain rfl := Option.some.inj H
         go_wp2
         go_ret
         exact ⟨by first | rfl | (simp [errW_none, errW_some] <;> rfl) | (simp [*, errW_none, errW_some] <;> rfl), by repeat (first | (with_reducible first | exact HB.out | apply below_alloc | apply pw_below_drewN | apply below_drew1 | refine below_set ?_ GE120.out | refine below_set ?_ GE134.out) | exact HB.out)⟩
       ·
        replace c62 := Bool.eq_false_iff.mpr c62
        subst c62
        have H1 : (some false) = some r := by rw [if_neg (show ¬ (false = true) by decide)] at H; exact H
        clear H
        have H := H1
        clear H1
        obtain rfl := Option.some.inj H
        go_wp2
        go_ret
        exact ⟨by first | rfl | (simp [errW_none, errW_some] <;> rfl) | (simp [*, errW_none, errW_some] <;> rfl), by repeat (first | (with_reducible first | exact HB.out | apply below_alloc | apply pw_below_drewN | apply below_drew1 | refine below_set ?_ GE120.out | refine below_set ?_ GE134.out) | exact HB.out)⟩
      ·
       rw [if_neg c61] at H
       have c61b0 : (t121 == 3) = false := beq_eq_false_iff_ne.mpr c61
       have c61b1 : (t121 != 3) = true := bne_iff_ne.mpr c61
       by_cases c68 : x5_7 = true
       ·
        subst c68
        have H1 : (if x6_34 = true then (some (a0_6 == 0)) else (some false)) = some r := by rw [if_pos rfl] at H; exact H
        clear H
        have H := H1
        clear H1
        by_cases c69 : x6_34 = true
        ·
         subst c69
         have H1 : (some (a0_6 == 0)) = some r := by rw [if_pos rfl] at H; exact H
         clear H
         have H := H1
         clear H1
         obtain rfl := Option.some.inj H
         have hnb70 := NB120_134.out
         have hnc70 := NB134_120.out
         have hcz71_0 : wc.cell? ⟨gb120, 0, none⟩ = some (.int .i64 a0_0) := (blk_cell BK120.out 0).trans rfl
         have hcz71_1 : wc.cell? ⟨gb120, 1, none⟩ = some (.int .i64 a0_1) := (blk_cell BK120.out 1).trans rfl
         have hcz71_2 : wc.cell? ⟨gb120, 2, none⟩ = some (.int .i64 a0_2) := (blk_cell BK120.out 2).trans rfl
         have hcz71_3 : wc.cell? ⟨gb120, 3, none⟩ = some (.int .i64 a0_3) := (blk_cell BK120.out 3).trans rfl
         have hcz71_4 : wc.cell? ⟨gb120, 4, none⟩ = some (.int .i64 a0_4) := (blk_cell BK120.out 4).trans rfl
         have hcz71_5 : wc.cell? ⟨gb120, 5, none⟩ = some (.int .i64 a0_5) := (blk_cell BK120.out 5).trans rfl
         have hcz71_6 : wc.cell? ⟨gb120, 6, none⟩ = some (.int .u64 a0_6) := (blk_cell BK120.out 6).trans rfl
         have hcz71_7 : wc.cell? ⟨gb120, 7, none⟩ = some (.int .i64 a0_7) := (blk_cell BK120.out 7).trans rfl
         have hcz71_8 : wc.cell? ⟨gb120, 8, none⟩ = some (.int .i64 a0_8) := (blk_cell BK120.out 8).trans rfl
         have hcz71_9 : wc.cell? ⟨gb120, 9, none⟩ = some (.int .i64 a0_9) := (blk_cell BK120.out 9).trans rfl
         have hfz71_0 := blk_frozen BK120.out 0
         have hfz71_1 := blk_frozen BK120.out 1
         have hfz71_2 := blk_frozen BK120.out 2
         have hfz71_3 := blk_frozen BK120.out 3
         have hfz71_4 := blk_frozen BK120.out 4
         have hfz71_5 := blk_frozen BK120.out 5
         have hfz71_6 := blk_frozen BK120.out 6
         have hfz71_7 := blk_frozen BK120.out 7
         have hfz71_8 := blk_frozen BK120.out 8
         have hfz71_9 := blk_frozen BK120.out 9
         go_wp2
         go_ret
         exact ⟨by first | rfl | (simp [errW_none, errW_some] <;> rfl) | (simp [*, errW_none, errW_some] <;> rfl), by repeat (first | (with_reducible first | exact HB.out | apply below_alloc | apply pw_below_drewN | apply below_drew1 | refine below_set ?_ GE120.out | refine below_set ?_ GE134.out) | exact HB.out)⟩
        ·
         replace c69 := Bool.eq_false_iff.mpr c69
         subst c69
         have H1 : (some false) = some r := by rw [if_neg (show ¬ (false = true) by decide)] at H; exact H
         clear H
         have H := H1
         clear H1
         obtain rfl := Option.some.inj H
         go_wp2
         go_ret
         exact ⟨by first | rfl | (simp [errW_none, errW_some] <;> rfl) | (simp [*, errW_none, errW_some] <;> rfl), by repeat (first | (with_reducible first | exact HB.out | apply below_alloc | apply pw_below_drewN | apply below_drew1 | refine below_set ?_ GE120.out | refine below_set ?_ GE134.out) | exact HB.out)⟩
       ·
        replace c68 := Bool.eq_false_iff.mpr c68
        subst c68
        have H1 : (some false) = some r := by rw [if_neg (show ¬ (false = true) by decide)] at H; exact H
        clear H
        have H := H1
        clear H1
        obtain rfl := Option.some.inj H
        go_wp2
        go_ret
        exact ⟨by first | rfl | (simp [errW_none, errW_some] <;> rfl) | (simp [*, errW_none, errW_some] <;> rfl), by repeat (first | (with_reducible first | exact HB.out | apply below_alloc | apply pw_below_drewN | apply below_drew1 | refine below_set ?_ GE120.out | refine below_set ?_ GE134.out) | exact HB.out)⟩
end Go.Proofs.YtblnfngigdipcaaDoor.P
