/- Written for this claim by a program of this session: what the claim uses of lemmas and proved contracts of Go functions. -/
import Derived.Test.YtblnfngigdipcaaGreatDoorYSu3
namespace Go.Proofs.YtblnfngigdipcaaGreatDoor.P
open Go.RowKit Go.Proofs.YtblnfngigdipcaaGreatDoorW.PrintWords Go.Proofs.YtblnfngigdipcaaGreatDoorW.PrintLast Go.Proofs.YtblnfngigdipcaaGreatDoorW.PrintMore
attribute [local go_sem] max2_int min2_int max_two min_two max_three min_three max_four min_four
set_option linter.unusedVariables false
set_option linter.unusedSimpArgs false
mutual
def bits_Word.l0 : Nat → List (S189) → Int → List (S189) → Int → Int → Option (Int × Int)
 | 0, _, _, _, _, _ => none
 | k + 1, x0, x4, x10, x11, x12 => if x12 < x11 then (if 0 ≤ x12 then (if x12 < (x10.length : Int) then ((bits_right.f ((rd_T189 x10 x12).f0) ((rd_T189 x10 x12).f1)).bind fun t127 => (if t127 = true then ((bits_ones.f ((rd_T189 x10 x12).f1)).bind fun t128 => (if 0 ≤ ((rd_T189 x10 x12).f0) then (if (Go.bits .and .u64 x4 (shl .u64 t128 ((rd_T189 x10 x12).f0))) = 0 then (bits_Word.l0 k x0 (Go.bits .or .u64 x4 (shl .u64 t128 ((rd_T189 x10 x12).f0))) x10 x11 (wrap64 (x12 + 1))) else (some (0, 1))) else (none))) else (some (0, 1)))) else (none)) else (none)) else ((api_Field_278.f x0).bind fun t129 => (if t129 = true then (some (0, 4)) else (bits_Word.l1 k 0 x0 (x0.length : Int) 0)))
def bits_Word.l1 : Nat → Int → List (S189) → Int → Int → Option (Int × Int)
 | 0, _, _, _, _ => none
 | k + 1, x7, x44, x45, x46 => if x46 < x45 then (if 0 ≤ x46 then (if x46 < (x44.length : Int) then (if 0 ≤ ((rd_T189 x44 x46).f0) then (bits_Word.l1 k (Go.bits .or .u32 x7 (shl .u32 ((rd_T189 x44 x46).f2) ((rd_T189 x44 x46).f0))) x44 x45 (wrap64 (x46 + 1))) else (none)) else (none)) else (none)) else (some (x7, 0))
end
def bits_Word.f (k : Nat) (l0 : List (S189)) : Option (Int × Int) := bits_Word.l0 k l0 0 l0 (l0.length : Int) 0
set_option maxHeartbeats 8000000 in
set_option maxRecDepth 100000 in
theorem bits_Word.calls (k : Nat) (A0 : Option Addr) (c0 : Nat) (l0 : List (S189)) (r1 : Int) (r2 : Int) (w : World) (hr0 : Kd.C k189 w A0 l0.length l0) (hc0 : l0.length ≤ c0) (h : bits_Word.f k l0 = some (r1, r2)) :
    Calls Tryz.prog 183 #[.slice A0 l0.length c0] w fun e w' => e = .returned (.tuple #[.int .u32 r1, .int .i64 r2]) ∧ Below w.heap.size w w' := by
 have hu189 := Tryz.underlying189
 have HR0 := aq hr0
 have HC0 := aq hc0
 clear hr0 hc0
 have HB := aq (Below.refl w.heap.size w)
 have H : (bits_Word.l0 k l0 0 l0 (l0.length : Int) 0) = some (r1, r2) := h
 clear h
 have H' := aq H
 clear H
 go_enter Tryz.func183, Tryz.ntmps183
 go_wp2
 repeat (go_quiet (fail); try go_wp2)
 go_loopg [4, 12] k (fun kq v4 v12 w' => ∃ (x4_1 : Int) (x12_1 : Int), v4 = .int .u64 x4_1 ∧ v12 = .int .i64 x12_1 ∧ Aside0 (bits_Word.l0 kq l0 x4_1 l0 (l0.length : Int) x12_1 = some (r1, r2)) ∧ Aside0 (kq ≤ k) ∧ Aside0 (Below w.heap.size w w'))
 case atStart => exact ⟨(0), (0), (by first | rfl | (simp; done) | (simp [*]; done)), (by first | rfl | (simp; done) | (simp [*]; done)), H', ⟨Nat.le_refl _⟩, ⟨by repeat (first | (with_reducible first | exact HB.out | apply below_alloc | apply pw_below_drewN | apply below_drew1) | exact HB.out)⟩⟩
 case round =>
  clear H'
  try clear c1
  obtain ⟨x4_1, x12_1, rfl, rfl, HA, HK1, HB⟩ := hrel
  cases gk with
  | zero => exact absurd HA.out (by simp [bits_Word.l0])
  | succ k1 =>
   have H := HA.out
   clear HA
   simp only [bits_Word.l0] at H
   by_cases c2 : x12_1 < (l0.length : Int)
   ·
    rw [if_pos c2] at H
    have c2b0 : decide (x12_1 < (l0.length : Int)) = true := decide_eq_true c2
    clear c2
    by_cases c3 : 0 ≤ x12_1
    ·
     rw [if_pos c3] at H
     have c3b0 : decide (0 ≤ x12_1) = true := decide_eq_true c3
     clear c3
     by_cases c4 : x12_1 < (l0.length : Int)
     ·
      rw [if_pos c4] at H
      have c4b0 : decide (x12_1 < (l0.length : Int)) = true := decide_eq_true c4
      clear c4
      replace H := Option.bind_eq_some_iff.mp H
      obtain ⟨t127, A50, H⟩ := H
      replace H : (if t127 = true then ((bits_ones.f ((rd_T189 l0 x12_1).f1)).bind fun t128 => (if 0 ≤ ((rd_T189 l0 x12_1).f0) then (if (Go.bits .and .u64 x4_1 (shl .u64 t128 ((rd_T189 l0 x12_1).f0))) = 0 then (bits_Word.l0 k1 l0 (Go.bits .or .u64 x4_1 (shl .u64 t128 ((rd_T189 l0 x12_1).f0))) l0 (l0.length : Int) (wrap64 (x12_1 + 1))) else (some (0, 1))) else (none))) else (some (0, 1))) = some (r1, r2) := H
      have A5 := aq A50
      clear A50
      by_cases c6 : t127 = true
      ·
       subst c6
       have H1 : ((bits_ones.f ((rd_T189 l0 x12_1).f1)).bind fun t128 => (if 0 ≤ ((rd_T189 l0 x12_1).f0) then (if (Go.bits .and .u64 x4_1 (shl .u64 t128 ((rd_T189 l0 x12_1).f0))) = 0 then (bits_Word.l0 k1 l0 (Go.bits .or .u64 x4_1 (shl .u64 t128 ((rd_T189 l0 x12_1).f0))) l0 (l0.length : Int) (wrap64 (x12_1 + 1))) else (some (0, 1))) else (none))) = some (r1, r2) := by rw [if_pos rfl] at H; exact H
       clear H
       have H := H1
       clear H1
       replace H := Option.bind_eq_some_iff.mp H
       obtain ⟨t128, A70, H⟩ := H
       replace H : (if 0 ≤ ((rd_T189 l0 x12_1).f0) then (if (Go.bits .and .u64 x4_1 (shl .u64 t128 ((rd_T189 l0 x12_1).f0))) = 0 then (bits_Word.l0 k1 l0 (Go.bits .or .u64 x4_1 (shl .u64 t128 ((rd_T189 l0 x12_1).f0))) l0 (l0.length : Int) (wrap64 (x12_1 + 1))) else (some (0, 1))) else (none)) = some (r1, r2) := H
       have A7 := aq A70
       clear A70
       by_cases c8 : 0 ≤ ((rd_T189 l0 x12_1).f0)
       ·
        rw [if_pos c8] at H
        have c8b0 := eq_true c8
        have c8b1 : decide (0 ≤ ((rd_T189 l0 x12_1).f0)) = true := decide_eq_true c8
        clear c8
        obtain ⟨ji9, hji9⟩ : ∃ j_ : Int, (shl .u64 t128 ((rd_T189 l0 x12_1).f0)) = j_ := ⟨_, rfl⟩
        replace H : (if (Go.bits .and .u64 x4_1 (ji9)) = 0 then (bits_Word.l0 k1 l0 (Go.bits .or .u64 x4_1 (ji9)) l0 (l0.length : Int) (wrap64 (x12_1 + 1))) else (some (0, 1))) = some (r1, r2) := by first | (rw [hji9] at H; exact H) | (simp only [hji9] at H ⊢; exact H)
        (try rw [hji9] at A5)
        (try rw [hji9] at A7)
        have hji9_ : (IntKind.u64.wrap (t128 * 2 ^ min ((rd_T189 l0 x12_1).f0).toNat 64)) = ji9 := hji9
        have hji9z : ((rd_T189 l0 x12_1).f0) ≤ 64 → (IntKind.u64.wrap (t128 * 2 ^ ((rd_T189 l0 x12_1).f0).toNat)) = ji9 := shl_small hji9
        by_cases c10 : (Go.bits .and .u64 x4_1 (ji9)) = 0
        ·
         rw [if_pos c10] at H
         have c10b0 : ((Go.bits .and .u64 x4_1 (ji9)) == 0) = true := beq_iff_eq.mpr c10
         have c10b1 : ((Go.bits .and .u64 x4_1 (ji9)) != 0) = false := bne_eq_false_iff_eq.mpr c10
         clear c10
         have c11b0 := eq_true (of_decide_eq_true (by first | (with_reducible assumption) | assumption) : 0 ≤ ((rd_T189 l0 x12_1).f0))
         have H' := aq H
         clear H
         have p125 : 0 ≤ (x12_1 : Int) := of_decide_eq_true (by first | (with_reducible assumption) | assumption)
         have q125 : x12_1 < (l0.length : Int) := of_decide_eq_true (by first | (with_reducible assumption) | assumption)
         obtain ⟨ad125, e125, hx125_0, hx125_1, hx125_2⟩ := at_T189 HR0.out x12_1 p125 q125
         cases e125
         replace hx125_0 := (HB.out.cell (World.block_lt_of_cell? w _ hx125_0)).trans hx125_0
         replace hx125_1 := (HB.out.cell (World.block_lt_of_cell? w _ hx125_1)).trans hx125_1
         replace hx125_2 := (HB.out.cell (World.block_lt_of_cell? w _ hx125_2)).trans hx125_2
         replace p125 := eq_true p125
         replace q125 := eq_true q125
         go_wp2_with (first | ((with_reducible refine gate_dst (N := 6) rfl ?_); refine box_event ?hg (N := 6) ?hd (cs := #[.int .i64 0, .int .i64 0, .int .u32 0]) (t := 189) ?hr ?_; (case hd => rfl); (case hg => rfl); (case hr => first | (go_simp; done) | (go_simp; rfl)); intro gb126 hg w12 hbox hb; have n0_ := aq (below_step (by repeat (first | (with_reducible first | exact HB.out | apply below_alloc | apply pw_below_drewN | apply below_drew1) | exact HB.out)) hb); have n1_ := aq (hbox); have n2_ := aq ((by rw [hg]; exact (below_size (by repeat (first | (with_reducible first | exact HB.out | apply below_alloc | apply pw_below_drewN | apply below_drew1) | exact HB.out))) : w.heap.size ≤ gb126)); have n3_ := aq ((by rw [hg]; exact (below_size (by repeat (first | (with_reducible first | exact HB.out | apply below_alloc | apply pw_below_drewN | apply below_drew1) | exact HB.out))) : w.heap.size ≤ gb126)); clear HB; have HB := n0_; have BK126 := n1_; have GW126 := n2_; have GE126 := n3_; clear n0_ n1_ n2_ n3_; clear hb hbox hg; obtain ⟨hcz13_0, hcz13_1, hcz13_2⟩ := cells3_ BK126.out; have hfz13_0 := fun j => blk_frozen BK126.out j) | (go_at_call 156; (with_reducible refine (bits_right.calls ((rd_T189 l0 x12_1).f0) ((rd_T189 l0 x12_1).f1) true _ A5.out).mono ?_); rintro e w' ⟨rfl, ⟨nd, rfl⟩⟩; (try first | exact ⟨rfl, _, World.drewN_drewN _ _ _⟩ | exact ⟨rfl, _, Eq.trans (World.drewN_drewN _ _ _) (congrArg (World.drewN _) (Nat.add_assoc _ _ _))⟩)) | (go_at_call 157; (with_reducible refine (bits_ones.calls ((rd_T189 l0 x12_1).f1) t128 _ A7.out).mono ?_); rintro e w' ⟨rfl, ⟨nd, rfl⟩⟩; (try first | exact ⟨rfl, _, World.drewN_drewN _ _ _⟩ | exact ⟨rfl, _, Eq.trans (World.drewN_drewN _ _ _) (congrArg (World.drewN _) (Nat.add_assoc _ _ _))⟩)))
         repeat (go_quiet (first | ((with_reducible refine gate_dst (N := 6) rfl ?_); refine box_event ?hg (N := 6) ?hd (cs := #[.int .i64 0, .int .i64 0, .int .u32 0]) (t := 189) ?hr ?_; (case hd => rfl); (case hg => rfl); (case hr => first | (go_simp; done) | (go_simp; rfl)); intro gb126 hg w12 hbox hb; have n0_ := aq (below_step (by repeat (first | (with_reducible first | exact HB.out | apply below_alloc | apply pw_below_drewN | apply below_drew1) | exact HB.out)) hb); have n1_ := aq (hbox); have n2_ := aq ((by rw [hg]; exact (below_size (by repeat (first | (with_reducible first | exact HB.out | apply below_alloc | apply pw_below_drewN | apply below_drew1) | exact HB.out))) : w.heap.size ≤ gb126)); have n3_ := aq ((by rw [hg]; exact (below_size (by repeat (first | (with_reducible first | exact HB.out | apply below_alloc | apply pw_below_drewN | apply below_drew1) | exact HB.out))) : w.heap.size ≤ gb126)); clear HB; have HB := n0_; have BK126 := n1_; have GW126 := n2_; have GE126 := n3_; clear n0_ n1_ n2_ n3_; clear hb hbox hg; obtain ⟨hcz13_0, hcz13_1, hcz13_2⟩ := cells3_ BK126.out; have hfz13_0 := fun j => blk_frozen BK126.out j) | (go_at_call 156; (with_reducible refine (bits_right.calls ((rd_T189 l0 x12_1).f0) ((rd_T189 l0 x12_1).f1) true _ A5.out).mono ?_); rintro e w' ⟨rfl, ⟨nd, rfl⟩⟩; (try first | exact ⟨rfl, _, World.drewN_drewN _ _ _⟩ | exact ⟨rfl, _, Eq.trans (World.drewN_drewN _ _ _) (congrArg (World.drewN _) (Nat.add_assoc _ _ _))⟩)) | (go_at_call 157; (with_reducible refine (bits_ones.calls ((rd_T189 l0 x12_1).f1) t128 _ A7.out).mono ?_); rintro e w' ⟨rfl, ⟨nd, rfl⟩⟩; (try first | exact ⟨rfl, _, World.drewN_drewN _ _ _⟩ | exact ⟨rfl, _, Eq.trans (World.drewN_drewN _ _ _) (congrArg (World.drewN _) (Nat.add_assoc _ _ _))⟩))); try go_wp2_with (first | ((with_reducible refine gate_dst (N := 6) rfl ?_); refine box_event ?hg (N := 6) ?hd (cs := #[.int .i64 0, .int .i64 0, .int .u32 0]) (t := 189) ?hr ?_; (case hd => rfl); (case hg => rfl); (case hr => first | (go_simp; done) | (go_simp; rfl)); intro gb126 hg w12 hbox hb; have n0_ := aq (below_step (by repeat (first | (with_reducible first | exact HB.out | apply below_alloc | apply pw_below_drewN | apply below_drew1) | exact HB.out)) hb); have n1_ := aq (hbox); have n2_ := aq ((by rw [hg]; exact (below_size (by repeat (first | (with_reducible first | exact HB.out | apply below_alloc | apply pw_below_drewN | apply below_drew1) | exact HB.out))) : w.heap.size ≤ gb126)); have n3_ := aq ((by rw [hg]; exact (below_size (by repeat (first | (with_reducible first | exact HB.out | apply below_alloc | apply pw_below_drewN | apply below_drew1) | exact HB.out))) : w.heap.size ≤ gb126)); clear HB; have HB := n0_; have BK126 := n1_; have GW126 := n2_; have GE126 := n3_; clear n0_ n1_ n2_ n3_; clear hb hbox hg; obtain ⟨hcz13_0, hcz13_1, hcz13_2⟩ := cells3_ BK126.out; have hfz13_0 := fun j => blk_frozen BK126.out j) | (go_at_call 156; (with_reducible refine (bits_right.calls ((rd_T189 l0 x12_1).f0) ((rd_T189 l0 x12_1).f1) true _ A5.out).mono ?_); rintro e w' ⟨rfl, ⟨nd, rfl⟩⟩; (try first | exact ⟨rfl, _, World.drewN_drewN _ _ _⟩ | exact ⟨rfl, _, Eq.trans (World.drewN_drewN _ _ _) (congrArg (World.drewN _) (Nat.add_assoc _ _ _))⟩)) | (go_at_call 157; (with_reducible refine (bits_ones.calls ((rd_T189 l0 x12_1).f1) t128 _ A7.out).mono ?_); rintro e w' ⟨rfl, ⟨nd, rfl⟩⟩; (try first | exact ⟨rfl, _, World.drewN_drewN _ _ _⟩ | exact ⟨rfl, _, Eq.trans (World.drewN_drewN _ _ _) (congrArg (World.drewN _) (Nat.add_assoc _ _ _))⟩))))
         go_roundg k1
         case measure => have := HK1.out; omega
         case rel => exact ⟨(Go.bits .or .u64 x4_1 (ji9)), (wrap64 (x12_1 + 1)), (by first | rfl | (simp; done) | (simp only [← hji9] <;> (first | rfl | simp)) | (simp [*]; done)), (by first | rfl | (simp; done) | (simp [*]; done)), H', ⟨by have := HK1.out; omega⟩, ⟨by repeat (first | (with_reducible first | exact HB.out | apply below_alloc | apply pw_below_drewN | apply below_drew1 | refine below_set ?_ GE126.out) | exact HB.out)⟩⟩
        ·
         rw [if_neg c10] at H
         have c10b0 : ((Go.bits .and .u64 x4_1 (ji9)) == 0) = false := beq_eq_false_iff_ne.mpr c10
         have c10b1 : ((Go.bits .and .u64 x4_1 (ji9)) != 0) = true := bne_iff_ne.mpr c10
         simp only [Option.some.injEq, Prod.mk.injEq] at H
         obtain ⟨rfl, rfl⟩ := H
         have p125 : 0 ≤ (x12_1 : Int) := of_decide_eq_true (by first | (with_reducible assumption) | assumption)
         have q125 : x12_1 < (l0.length : Int) := of_decide_eq_true (by first | (with_reducible assumption) | assumption)
         obtain ⟨ad125, e125, hx125_0, hx125_1, hx125_2⟩ := at_T189 HR0.out x12_1 p125 q125
         cases e125
         replace hx125_0 := (HB.out.cell (World.block_lt_of_cell? w _ hx125_0)).trans hx125_0
         replace hx125_1 := (HB.out.cell (World.block_lt_of_cell? w _ hx125_1)).trans hx125_1
         replace hx125_2 := (HB.out.cell (World.block_lt_of_cell? w _ hx125_2)).trans hx125_2
         replace p125 := eq_true p125
         replace q125 := eq_true q125
         go_wp2_with (first | ((with_reducible refine gate_dst (N := 6) rfl ?_); refine box_event ?hg (N := 6) ?hd (cs := #[.int .i64 0, .int .i64 0, .int .u32 0]) (t := 189) ?hr ?_; (case hd => rfl); (case hg => rfl); (case hr => first | (go_simp; done) | (go_simp; rfl)); intro gb126 hg w14 hbox hb; have n0_ := aq (below_step (by repeat (first | (with_reducible first | exact HB.out | apply below_alloc | apply pw_below_drewN | apply below_drew1) | exact HB.out)) hb); have n1_ := aq (hbox); have n2_ := aq ((by rw [hg]; exact (below_size (by repeat (first | (with_reducible first | exact HB.out | apply below_alloc | apply pw_below_drewN | apply below_drew1) | exact HB.out))) : w.heap.size ≤ gb126)); have n3_ := aq ((by rw [hg]; exact (below_size (by repeat (first | (with_reducible first | exact HB.out | apply below_alloc | apply pw_below_drewN | apply below_drew1) | exact HB.out))) : w.heap.size ≤ gb126)); clear HB; have HB := n0_; have BK126 := n1_; have GW126 := n2_; have GE126 := n3_; clear n0_ n1_ n2_ n3_; clear hb hbox hg; obtain ⟨hcz15_0, hcz15_1, hcz15_2⟩ := cells3_ BK126.out; have hfz15_0 := fun j => blk_frozen BK126.out j) | (go_at_call 156; (with_reducible refine (bits_right.calls ((rd_T189 l0 x12_1).f0) ((rd_T189 l0 x12_1).f1) true _ A5.out).mono ?_); rintro e w' ⟨rfl, ⟨nd, rfl⟩⟩; (try first | exact ⟨rfl, _, World.drewN_drewN _ _ _⟩ | exact ⟨rfl, _, Eq.trans (World.drewN_drewN _ _ _) (congrArg (World.drewN _) (Nat.add_assoc _ _ _))⟩)) | (go_at_call 157; (with_reducible refine (bits_ones.calls ((rd_T189 l0 x12_1).f1) t128 _ A7.out).mono ?_); rintro e w' ⟨rfl, ⟨nd, rfl⟩⟩; (try first | exact ⟨rfl, _, World.drewN_drewN _ _ _⟩ | exact ⟨rfl, _, Eq.trans (World.drewN_drewN _ _ _) (congrArg (World.drewN _) (Nat.add_assoc _ _ _))⟩)))
         repeat (go_quiet (first | ((with_reducible refine gate_dst (N := 6) rfl ?_); refine box_event ?hg (N := 6) ?hd (cs := #[.int .i64 0, .int .i64 0, .int .u32 0]) (t := 189) ?hr ?_; (case hd => rfl); (case hg => rfl); (case hr => first | (go_simp; done) | (go_simp; rfl)); intro gb126 hg w14 hbox hb; have n0_ := aq (below_step (by repeat (first | (with_reducible first | exact HB.out | apply below_alloc | apply pw_below_drewN | apply below_drew1) | exact HB.out)) hb); have n1_ := aq (hbox); have n2_ := aq ((by rw [hg]; exact (below_size (by repeat (first | (with_reducible first | exact HB.out | apply below_alloc | apply pw_below_drewN | apply below_drew1) | exact HB.out))) : w.heap.size ≤ gb126)); have n3_ := aq ((by rw [hg]; exact (below_size (by repeat (first | (with_reducible first | exact HB.out | apply below_alloc | apply pw_below_drewN | apply below_drew1) | exact HB.out))) : w.heap.size ≤ gb126)); clear HB; have HB := n0_; have BK126 := n1_; have GW126 := n2_; have GE126 := n3_; clear n0_ n1_ n2_ n3_; clear hb hbox hg; obtain ⟨hcz15_0, hcz15_1, hcz15_2⟩ := cells3_ BK126.out; have hfz15_0 := fun j => blk_frozen BK126.out j) | (go_at_call 156; (with_reducible refine (bits_right.calls ((rd_T189 l0 x12_1).f0) ((rd_T189 l0 x12_1).f1) true _ A5.out).mono ?_); rintro e w' ⟨rfl, ⟨nd, rfl⟩⟩; (try first | exact ⟨rfl, _, World.drewN_drewN _ _ _⟩ | exact ⟨rfl, _, Eq.trans (World.drewN_drewN _ _ _) (congrArg (World.drewN _) (Nat.add_assoc _ _ _))⟩)) | (go_at_call 157; (with_reducible refine (bits_ones.calls ((rd_T189 l0 x12_1).f1) t128 _ A7.out).mono ?_); rintro e w' ⟨rfl, ⟨nd, rfl⟩⟩; (try first | exact ⟨rfl, _, World.drewN_drewN _ _ _⟩ | exact ⟨rfl, _, Eq.trans (World.drewN_drewN _ _ _) (congrArg (World.drewN _) (Nat.add_assoc _ _ _))⟩))); try go_wp2_with (first | ((with_reducible refine gate_dst (N := 6) rfl ?_); refine box_event ?hg (N := 6) ?hd (cs := #[.int .i64 0, .int .i64 0, .int .u32 0]) (t := 189) ?hr ?_; (case hd => rfl); (case hg => rfl); (case hr => first | (go_simp; done) | (go_simp; rfl)); intro gb126 hg w14 hbox hb; have n0_ := aq (below_step (by repeat (first | (with_reducible first | exact HB.out | apply below_alloc | apply pw_below_drewN | apply below_drew1) | exact HB.out)) hb); have n1_ := aq (hbox); have n2_ := aq ((by rw [hg]; exact (below_size (by repeat (first | (with_reducible first | exact HB.out | apply below_alloc | apply pw_below_drewN | apply below_drew1) | exact HB.out))) : w.heap.size ≤ gb126)); have n3_ := aq ((by rw [hg]; exact (below_size (by repeat (first | (with_reducible first | exact HB.out | apply below_alloc | apply pw_below_drewN | apply below_drew1) | exact HB.out))) : w.heap.size ≤ gb126)); clear HB; have HB := n0_; have BK126 := n1_; have GW126 := n2_; have GE126 := n3_; clear n0_ n1_ n2_ n3_; clear hb hbox hg; obtain ⟨hcz15_0, hcz15_1, hcz15_2⟩ := cells3_ BK126.out; have hfz15_0 := fun j => blk_frozen BK126.out j) | (go_at_call 156; (with_reducible refine (bits_right.calls ((rd_T189 l0 x12_1).f0) ((rd_T189 l0 x12_1).f1) true _ A5.out).mono ?_); rintro e w' ⟨rfl, ⟨nd, rfl⟩⟩; (try first | exact ⟨rfl, _, World.drewN_drewN _ _ _⟩ | exact ⟨rfl, _, Eq.trans (World.drewN_drewN _ _ _) (congrArg (World.drewN _) (Nat.add_assoc _ _ _))⟩)) | (go_at_call 157; (with_reducible refine (bits_ones.calls ((rd_T189 l0 x12_1).f1) t128 _ A7.out).mono ?_); rintro e w' ⟨rfl, ⟨nd, rfl⟩⟩; (try first | exact ⟨rfl, _, World.drewN_drewN _ _ _⟩ | exact ⟨rfl, _, Eq.trans (World.drewN_drewN _ _ _) (congrArg (World.drewN _) (Nat.add_assoc _ _ _))⟩))))
         go_ret2
         exact ⟨by first | rfl | (simp [errW_none, errW_some] <;> rfl) | (simp only [← hji9]; first | rfl | (simp [errW_none, errW_some] <;> rfl)) | (simp [*, errW_none, errW_some] <;> rfl), by repeat (first | (with_reducible first | exact HB.out | apply below_alloc | apply pw_below_drewN | apply below_drew1 | refine below_set ?_ GE126.out) | exact HB.out)⟩
       ·
        rw [if_neg c8] at H
        exact absurd H (by simp)
      ·
       replace c6 := Bool.eq_false_iff.mpr c6
       subst c6
       have H1 : (some (0, 1)) = some (r1, r2) := by rw [if_neg (show ¬ (false = true) by decide)] at H; exact H
       clear H
       have H := H1
       clear H1
       simp only [Option.some.injEq, Prod.mk.injEq] at H
       obtain ⟨rfl, rfl⟩ := H
       have p125 : 0 ≤ (x12_1 : Int) := of_decide_eq_true (by first | (with_reducible assumption) | assumption)
       have q125 : x12_1 < (l0.length : Int) := of_decide_eq_true (by first | (with_reducible assumption) | assumption)
       obtain ⟨ad125, e125, hx125_0, hx125_1, hx125_2⟩ := at_T189 HR0.out x12_1 p125 q125
       cases e125
       replace hx125_0 := (HB.out.cell (World.block_lt_of_cell? w _ hx125_0)).trans hx125_0
       replace hx125_1 := (HB.out.cell (World.block_lt_of_cell? w _ hx125_1)).trans hx125_1
       replace hx125_2 := (HB.out.cell (World.block_lt_of_cell? w _ hx125_2)).trans hx125_2
       replace p125 := eq_true p125
       replace q125 := eq_true q125
       go_wp2_with (first | ((with_reducible refine gate_dst (N := 6) rfl ?_); refine box_event ?hg (N := 6) ?hd (cs := #[.int .i64 0, .int .i64 0, .int .u32 0]) (t := 189) ?hr ?_; (case hd => rfl); (case hg => rfl); (case hr => first | (go_simp; done) | (go_simp; rfl)); intro gb126 hg w16 hbox hb; have n0_ := aq (below_step (by repeat (first | (with_reducible first | exact HB.out | apply below_alloc | apply pw_below_drewN | apply below_drew1) | exact HB.out)) hb); have n1_ := aq (hbox); have n2_ := aq ((by rw [hg]; exact (below_size (by repeat (first | (with_reducible first | exact HB.out | apply below_alloc | apply pw_below_drewN | apply below_drew1) | exact HB.out))) : w.heap.size ≤ gb126)); have n3_ := aq ((by rw [hg]; exact (below_size (by repeat (first | (with_reducible first | exact HB.out | apply below_alloc | apply pw_below_drewN | apply below_drew1) | exact HB.out))) : w.heap.size ≤ gb126)); clear HB; have HB := n0_; have BK126 := n1_; have GW126 := n2_; have GE126 := n3_; clear n0_ n1_ n2_ n3_; clear hb hbox hg; obtain ⟨hcz17_0, hcz17_1, hcz17_2⟩ := cells3_ BK126.out; have hfz17_0 := fun j => blk_frozen BK126.out j) | (go_at_call 156; (with_reducible refine (bits_right.calls ((rd_T189 l0 x12_1).f0) ((rd_T189 l0 x12_1).f1) false _ A5.out).mono ?_); rintro e w' ⟨rfl, ⟨nd, rfl⟩⟩; (try first | exact ⟨rfl, _, World.drewN_drewN _ _ _⟩ | exact ⟨rfl, _, Eq.trans (World.drewN_drewN _ _ _) (congrArg (World.drewN _) (Nat.add_assoc _ _ _))⟩)))
       repeat (go_quiet (first | ((with_reducible refine gate_dst (N := 6) rfl ?_); refine box_event ?hg (N := 6) ?hd (cs := #[.int .i64 0, .int .i64 0, .int .u32 0]) (t := 189) ?hr ?_; (case hd => rfl); (case hg => rfl); (case hr => first | (go_simp; done) | (go_simp; rfl)); intro gb126 hg w16 hbox hb; have n0_ := aq (below_step (by repeat (first | (with_reducible first | exact HB.out | apply below_alloc | apply pw_below_drewN | apply below_drew1) | exact HB.out)) hb); have n1_ := aq (hbox); have n2_ := aq ((by rw [hg]; exact (below_size (by repeat (first | (with_reducible first | exact HB.out | apply below_alloc | apply pw_below_drewN | apply below_drew1) | exact HB.out))) : w.heap.size ≤ gb126)); have n3_ := aq ((by rw [hg]; exact (below_size (by repeat (first | (with_reducible first | exact HB.out | apply below_alloc | apply pw_below_drewN | apply below_drew1) | exact HB.out))) : w.heap.size ≤ gb126)); clear HB; have HB := n0_; have BK126 := n1_; have GW126 := n2_; have GE126 := n3_; clear n0_ n1_ n2_ n3_; clear hb hbox hg; obtain ⟨hcz17_0, hcz17_1, hcz17_2⟩ := cells3_ BK126.out; have hfz17_0 := fun j => blk_frozen BK126.out j) | (go_at_call 156; (with_reducible refine (bits_right.calls ((rd_T189 l0 x12_1).f0) ((rd_T189 l0 x12_1).f1) false _ A5.out).mono ?_); rintro e w' ⟨rfl, ⟨nd, rfl⟩⟩; (try first | exact ⟨rfl, _, World.drewN_drewN _ _ _⟩ | exact ⟨rfl, _, Eq.trans (World.drewN_drewN _ _ _) (congrArg (World.drewN _) (Nat.add_assoc _ _ _))⟩))); try go_wp2_with (first | ((with_reducible refine gate_dst (N := 6) rfl ?_); refine box_event ?hg (N := 6) ?hd (cs := #[.int .i64 0, .int .i64 0, .int .u32 0]) (t := 189) ?hr ?_; (case hd => rfl); (case hg => rfl); (case hr => first | (go_simp; done) | (go_simp; rfl)); intro gb126 hg w16 hbox hb; have n0_ := aq (below_step (by repeat (first | (with_reducible first | exact HB.out | apply below_alloc | apply pw_below_drewN | apply below_drew1) | exact HB.out)) hb); have n1_ := aq (hbox); have n2_ := aq ((by rw [hg]; exact (below_size (by repeat (first | (with_reducible first | exact HB.out | apply below_alloc | apply pw_below_drewN | apply below_drew1) | exact HB.out))) : w.heap.size ≤ gb126)); have n3_ := aq ((by rw [hg]; exact (below_size (by repeat (first | (with_reducible first | exact HB.out | apply below_alloc | apply pw_below_drewN | apply below_drew1) | exact HB.out))) : w.heap.size ≤ gb126)); clear HB; have HB := n0_; have BK126 := n1_; have GW126 := n2_; have GE126 := n3_; clear n0_ n1_ n2_ n3_; clear hb hbox hg; obtain ⟨hcz17_0, hcz17_1, hcz17_2⟩ := cells3_ BK126.out; have hfz17_0 := fun j => blk_frozen BK126.out j) | (go_at_call 156; (with_reducible refine (bits_right.calls ((rd_T189 l0 x12_1).f0) ((rd_T189 l0 x12_1).f1) false _ A5.out).mono ?_); rintro e w' ⟨rfl, ⟨nd, rfl⟩⟩; (try first | exact ⟨rfl, _, World.drewN_drewN _ _ _⟩ | exact ⟨rfl, _, Eq.trans (World.drewN_drewN _ _ _) (congrArg (World.drewN _) (Nat.add_assoc _ _ _))⟩))))
       go_ret2
       exact ⟨by first | rfl | (simp [errW_none, errW_some] <;> rfl) | (simp [*, errW_none, errW_some] <;> rfl), by repeat (first | (with_reducible first | exact HB.out | apply below_alloc | apply pw_below_drewN | apply below_drew1 | refine below_set ?_ GE126.out) | exact HB.out)⟩
     ·
      rw [if_neg c4] at H
      exact absurd H (by simp)
    ·
     rw [if_neg c3] at H
     exact absurd H (by simp)
   ·
    rw [if_neg c2] at H
    have c2b0 : decide (x12_1 < (l0.length : Int)) = false := decide_eq_false c2
    clear c2
    replace H := Option.bind_eq_some_iff.mp H
    obtain ⟨t129, A180, H⟩ := H
    replace H : (if t129 = true then (some (0, 4)) else (bits_Word.l1 k1 0 l0 (l0.length : Int) 0)) = some (r1, r2) := H
    have A18 := aq A180
    clear A180
    by_cases c19 : t129 = true
    ·
     subst c19
     have H1 : (some (0, 4)) = some (r1, r2) := by rw [if_pos rfl] at H; exact H
     clear H
     have H := H1
     clear H1
     simp only [Option.some.injEq, Prod.mk.injEq] at H
     obtain ⟨rfl, rfl⟩ := H
     go_wp2_with (first | (go_at_call 278; (with_reducible refine (api_Field_278.calls _ _ l0 true _ ?side1 ?side2 A18.out).mono ?_); (case side1 => repeat (first | exact (Kd.C_below HR0.out HB.out) | (with_reducible refine Kd.C_alloc ?_ _) | (with_reducible refine Kd.C_drewN ?_ _) | (with_reducible refine Kd.C_drew ?_))); (case side2 => exact HC0.out); rintro e w20 ⟨rfl, hb⟩; have n0_ := aq (below_step (by repeat (first | (with_reducible first | exact HB.out | apply below_alloc | apply pw_below_drewN | apply below_drew1) | exact HB.out)) hb); clear HB; have HB := n0_; clear n0_; (try clear hb); (try clear hb2); (try clear hk); (try clear hi)))
     repeat (go_quiet (first | (go_at_call 278; (with_reducible refine (api_Field_278.calls _ _ l0 true _ ?side1 ?side2 A18.out).mono ?_); (case side1 => repeat (first | exact (Kd.C_below HR0.out HB.out) | (with_reducible refine Kd.C_alloc ?_ _) | (with_reducible refine Kd.C_drewN ?_ _) | (with_reducible refine Kd.C_drew ?_))); (case side2 => exact HC0.out); rintro e w20 ⟨rfl, hb⟩; have n0_ := aq (below_step (by repeat (first | (with_reducible first | exact HB.out | apply below_alloc | apply pw_below_drewN | apply below_drew1) | exact HB.out)) hb); clear HB; have HB := n0_; clear n0_; (try clear hb); (try clear hb2); (try clear hk); (try clear hi))); try go_wp2_with (first | (go_at_call 278; (with_reducible refine (api_Field_278.calls _ _ l0 true _ ?side1 ?side2 A18.out).mono ?_); (case side1 => repeat (first | exact (Kd.C_below HR0.out HB.out) | (with_reducible refine Kd.C_alloc ?_ _) | (with_reducible refine Kd.C_drewN ?_ _) | (with_reducible refine Kd.C_drew ?_))); (case side2 => exact HC0.out); rintro e w20 ⟨rfl, hb⟩; have n0_ := aq (below_step (by repeat (first | (with_reducible first | exact HB.out | apply below_alloc | apply pw_below_drewN | apply below_drew1) | exact HB.out)) hb); clear HB; have HB := n0_; clear n0_; (try clear hb); (try clear hb2); (try clear hk); (try clear hi))))
     go_ret2
     exact ⟨by first | rfl | (simp [errW_none, errW_some] <;> rfl) | (simp [*, errW_none, errW_some] <;> rfl), by repeat (first | (with_reducible first | exact HB.out | apply below_alloc | apply pw_below_drewN | apply below_drew1) | exact HB.out)⟩
    ·
     replace c19 := Bool.eq_false_iff.mpr c19
     subst c19
     have H1 : (bits_Word.l1 k1 0 l0 (l0.length : Int) 0) = some (r1, r2) := by rw [if_neg (show ¬ (false = true) by decide)] at H; exact H
     clear H
     have H := H1
     clear H1
     have H' := aq H
     clear H
     go_wp2_with (first | (go_at_call 278; (with_reducible refine (api_Field_278.calls _ _ l0 false _ ?side1 ?side2 A18.out).mono ?_); (case side1 => repeat (first | exact (Kd.C_below HR0.out HB.out) | (with_reducible refine Kd.C_alloc ?_ _) | (with_reducible refine Kd.C_drewN ?_ _) | (with_reducible refine Kd.C_drew ?_))); (case side2 => exact HC0.out); rintro e w21 ⟨rfl, hb⟩; have n0_ := aq (below_step (by repeat (first | (with_reducible first | exact HB.out | apply below_alloc | apply pw_below_drewN | apply below_drew1) | exact HB.out)) hb); clear HB; have HB := n0_; clear n0_; (try clear hb); (try clear hb2); (try clear hk); (try clear hi)))
     repeat (go_quiet (first | (go_at_call 278; (with_reducible refine (api_Field_278.calls _ _ l0 false _ ?side1 ?side2 A18.out).mono ?_); (case side1 => repeat (first | exact (Kd.C_below HR0.out HB.out) | (with_reducible refine Kd.C_alloc ?_ _) | (with_reducible refine Kd.C_drewN ?_ _) | (with_reducible refine Kd.C_drew ?_))); (case side2 => exact HC0.out); rintro e w21 ⟨rfl, hb⟩; have n0_ := aq (below_step (by repeat (first | (with_reducible first | exact HB.out | apply below_alloc | apply pw_below_drewN | apply below_drew1) | exact HB.out)) hb); clear HB; have HB := n0_; clear n0_; (try clear hb); (try clear hb2); (try clear hk); (try clear hi))); try go_wp2_with (first | (go_at_call 278; (with_reducible refine (api_Field_278.calls _ _ l0 false _ ?side1 ?side2 A18.out).mono ?_); (case side1 => repeat (first | exact (Kd.C_below HR0.out HB.out) | (with_reducible refine Kd.C_alloc ?_ _) | (with_reducible refine Kd.C_drewN ?_ _) | (with_reducible refine Kd.C_drew ?_))); (case side2 => exact HC0.out); rintro e w21 ⟨rfl, hb⟩; have n0_ := aq (below_step (by repeat (first | (with_reducible first | exact HB.out | apply below_alloc | apply pw_below_drewN | apply below_drew1) | exact HB.out)) hb); clear HB; have HB := n0_; clear n0_; (try clear hb); (try clear hb2); (try clear hk); (try clear hi))))
     go_loopg [7, 46] k1 (fun kq v7 v46 w' => ∃ (x7_2 : Int) (x46_2 : Int), v7 = .int .u32 x7_2 ∧ v46 = .int .i64 x46_2 ∧ Aside0 (bits_Word.l1 kq x7_2 l0 (l0.length : Int) x46_2 = some (r1, r2)) ∧ Aside0 (kq ≤ k1) ∧ Aside0 (Below w.heap.size w w'))
     case atStart => exact ⟨(0), (0), (by first | rfl | (simp; done) | (simp [*]; done)), (by first | rfl | (simp; done) | (simp [*]; done)), H', ⟨Nat.le_refl _⟩, ⟨by repeat (first | (with_reducible first | exact HB.out | apply below_alloc | apply pw_below_drewN | apply below_drew1) | exact HB.out)⟩⟩
     case round =>
      clear H'
      try clear c1
      try clear p1
      try clear q1
      try clear hx1
      try clear c2
      try clear c2b0
      try clear p2
      try clear c3
      try clear c3b0
      try clear c4
      try clear c4b0
      try clear c6
      try clear p6
      try clear c8
      try clear c8b0
      try clear c8b1
      try clear c10
      try clear c10b0
      try clear c10b1
      try clear c11
      try clear c11b0
      try clear p12
      try clear q12
      try clear hx12
      try clear c18
      try clear c19
      try clear hcz13_0 hcz13_1 hcz13_2
      try clear hcz15_0 hcz15_1 hcz15_2
      try clear hcz17_0 hcz17_1 hcz17_2
      try clear hfz13_0
      try clear hfz15_0
      try clear hfz17_0
      try clear hx125_0
      try clear hx125_1
      try clear hx125_2
      try clear p125
      try clear q125
      obtain ⟨x7_2, x46_2, rfl, rfl, HA, HK2, HB⟩ := hrel
      cases gk with
      | zero => exact absurd HA.out (by simp [bits_Word.l1])
      | succ k2 =>
       have H := HA.out
       clear HA
       simp only [bits_Word.l1] at H
       by_cases c22 : x46_2 < (l0.length : Int)
       ·
        rw [if_pos c22] at H
        have c22b0 : decide (x46_2 < (l0.length : Int)) = true := decide_eq_true c22
        clear c22
        by_cases c23 : 0 ≤ x46_2
        ·
         rw [if_pos c23] at H
         have c23b0 : decide (0 ≤ x46_2) = true := decide_eq_true c23
         clear c23
         by_cases c24 : x46_2 < (l0.length : Int)
         ·
          rw [if_pos c24] at H
          have c24b0 : decide (x46_2 < (l0.length : Int)) = true := decide_eq_true c24
          clear c24
          by_cases c25 : 0 ≤ ((rd_T189 l0 x46_2).f0)
          ·
           rw [if_pos c25] at H
           have c25b0 := eq_true c25
           have c25b1 : decide (0 ≤ ((rd_T189 l0 x46_2).f0)) = true := decide_eq_true c25
           clear c25
           obtain ⟨ji26, hji26⟩ : ∃ j_ : Int, (shl .u32 ((rd_T189 l0 x46_2).f2) ((rd_T189 l0 x46_2).f0)) = j_ := ⟨_, rfl⟩
           replace H : (bits_Word.l1 k2 (Go.bits .or .u32 x7_2 (ji26)) l0 (l0.length : Int) (wrap64 (x46_2 + 1))) = some (r1, r2) := by first | (rw [hji26] at H; exact H) | (simp only [hji26] at H ⊢; exact H)
           have hji26_ : (IntKind.u32.wrap (((rd_T189 l0 x46_2).f2) * 2 ^ min ((rd_T189 l0 x46_2).f0).toNat 32)) = ji26 := hji26
           have hji26z : ((rd_T189 l0 x46_2).f0) ≤ 32 → (IntKind.u32.wrap (((rd_T189 l0 x46_2).f2) * 2 ^ ((rd_T189 l0 x46_2).f0).toNat)) = ji26 := shl_small hji26
           have H' := aq H
           clear H
           have p130 : 0 ≤ (x46_2 : Int) := of_decide_eq_true (by first | (with_reducible assumption) | assumption)
           have q130 : x46_2 < (l0.length : Int) := of_decide_eq_true (by first | (with_reducible assumption) | assumption)
           obtain ⟨ad130, e130, hx130_0, hx130_1, hx130_2⟩ := at_T189 HR0.out x46_2 p130 q130
           cases e130
           replace hx130_0 := (HB.out.cell (World.block_lt_of_cell? w _ hx130_0)).trans hx130_0
           replace hx130_1 := (HB.out.cell (World.block_lt_of_cell? w _ hx130_1)).trans hx130_1
           replace hx130_2 := (HB.out.cell (World.block_lt_of_cell? w _ hx130_2)).trans hx130_2
           replace p130 := eq_true p130
           replace q130 := eq_true q130
           go_wp2_with (first | ((with_reducible refine gate_dst (N := 9) rfl ?_); refine box_event ?hg (N := 9) ?hd (cs := #[.int .i64 0, .int .i64 0, .int .u32 0]) (t := 189) ?hr ?_; (case hd => rfl); (case hg => rfl); (case hr => first | (go_simp; done) | (go_simp; rfl)); intro gb131 hg w27 hbox hb; have n0_ := aq (below_step (by repeat (first | (with_reducible first | exact HB.out | apply below_alloc | apply pw_below_drewN | apply below_drew1) | exact HB.out)) hb); have n1_ := aq (hbox); have n2_ := aq ((by rw [hg]; exact (below_size (by repeat (first | (with_reducible first | exact HB.out | apply below_alloc | apply pw_below_drewN | apply below_drew1) | exact HB.out))) : w.heap.size ≤ gb131)); have n3_ := aq ((by rw [hg]; exact (below_size (by repeat (first | (with_reducible first | exact HB.out | apply below_alloc | apply pw_below_drewN | apply below_drew1) | exact HB.out))) : w.heap.size ≤ gb131)); clear HB; have HB := n0_; have BK131 := n1_; have GW131 := n2_; have GE131 := n3_; clear n0_ n1_ n2_ n3_; clear hb hbox hg; obtain ⟨hcz28_0, hcz28_1, hcz28_2⟩ := cells3_ BK131.out; have hfz28_0 := fun j => blk_frozen BK131.out j))
           repeat (go_quiet (first | ((with_reducible refine gate_dst (N := 9) rfl ?_); refine box_event ?hg (N := 9) ?hd (cs := #[.int .i64 0, .int .i64 0, .int .u32 0]) (t := 189) ?hr ?_; (case hd => rfl); (case hg => rfl); (case hr => first | (go_simp; done) | (go_simp; rfl)); intro gb131 hg w27 hbox hb; have n0_ := aq (below_step (by repeat (first | (with_reducible first | exact HB.out | apply below_alloc | apply pw_below_drewN | apply below_drew1) | exact HB.out)) hb); have n1_ := aq (hbox); have n2_ := aq ((by rw [hg]; exact (below_size (by repeat (first | (with_reducible first | exact HB.out | apply below_alloc | apply pw_below_drewN | apply below_drew1) | exact HB.out))) : w.heap.size ≤ gb131)); have n3_ := aq ((by rw [hg]; exact (below_size (by repeat (first | (with_reducible first | exact HB.out | apply below_alloc | apply pw_below_drewN | apply below_drew1) | exact HB.out))) : w.heap.size ≤ gb131)); clear HB; have HB := n0_; have BK131 := n1_; have GW131 := n2_; have GE131 := n3_; clear n0_ n1_ n2_ n3_; clear hb hbox hg; obtain ⟨hcz28_0, hcz28_1, hcz28_2⟩ := cells3_ BK131.out; have hfz28_0 := fun j => blk_frozen BK131.out j)); try go_wp2_with (first | ((with_reducible refine gate_dst (N := 9) rfl ?_); refine box_event ?hg (N := 9) ?hd (cs := #[.int .i64 0, .int .i64 0, .int .u32 0]) (t := 189) ?hr ?_; (case hd => rfl); (case hg => rfl); (case hr => first | (go_simp; done) | (go_simp; rfl)); intro gb131 hg w27 hbox hb; have n0_ := aq (below_step (by repeat (first | (with_reducible first | exact HB.out | apply below_alloc | apply pw_below_drewN | apply below_drew1) | exact HB.out)) hb); have n1_ := aq (hbox); have n2_ := aq ((by rw [hg]; exact (below_size (by repeat (first | (with_reducible first | exact HB.out | apply below_alloc | apply pw_below_drewN | apply below_drew1) | exact HB.out))) : w.heap.size ≤ gb131)); have n3_ := aq ((by rw [hg]; exact (below_size (by repeat (first | (with_reducible first | exact HB.out | apply below_alloc | apply pw_below_drewN | apply below_drew1) | exact HB.out))) : w.heap.size ≤ gb131)); clear HB; have HB := n0_; have BK131 := n1_; have GW131 := n2_; have GE131 := n3_; clear n0_ n1_ n2_ n3_; clear hb hbox hg; obtain ⟨hcz28_0, hcz28_1, hcz28_2⟩ := cells3_ BK131.out; have hfz28_0 := fun j => blk_frozen BK131.out j)))
           go_roundg k2
           case measure => have := HK1.out; have := HK2.out; omega
           case rel => exact ⟨(Go.bits .or .u32 x7_2 (ji26)), (wrap64 (x46_2 + 1)), (by first | rfl | (simp; done) | (simp only [← hji26] <;> (first | rfl | simp)) | (simp [*]; done)), (by first | rfl | (simp; done) | (simp [*]; done)), H', ⟨by have := HK1.out; have := HK2.out; omega⟩, ⟨by repeat (first | (with_reducible first | exact HB.out | apply below_alloc | apply pw_below_drewN | apply below_drew1 | refine below_set ?_ GE131.out) | exact HB.out)⟩⟩
          ·
           rw [if_neg c25] at H
           exact absurd H (by simp)
         ·
          rw [if_neg c24] at H
          exact absurd H (by simp)
        ·
         rw [if_neg c23] at H
         exact absurd H (by simp)
       ·
        rw [if_neg c22] at H
        have c22b0 : decide (x46_2 < (l0.length : Int)) = false := decide_eq_false c22
        clear c22
        simp only [Option.some.injEq, Prod.mk.injEq] at H
        obtain ⟨rfl, rfl⟩ := H
        go_wp2
        repeat (go_quiet (fail); try go_wp2)
        go_ret2
        exact ⟨by first | rfl | (simp [errW_none, errW_some] <;> rfl) | (simp [*, errW_none, errW_some] <;> rfl), by repeat (first | (with_reducible first | exact HB.out | apply below_alloc | apply pw_below_drewN | apply below_drew1) | exact HB.out)⟩
def code_over.f (k : Nat) (base : Int) (l : List S189) : Option Int := (bits_Word.f k l).bind fun p => if p.2 = 0 then some (Go.bits .or .u32 base p.1) else none
theorem code_over.calls (k : Nat) (base : Int) (A : Option Addr) (c : Nat) (l : List S189) (r : Int) (w : World) (hr : Kd.C k189 w A l.length l) (hc : l.length ≤ c) (h : code_over.f k base l = some r) :
    Calls Tryz.prog 113 #[.int .u32 base, .slice A l.length c] w fun e w' => e = .returned (.int .u32 r) ∧ Below w.heap.size w w' := by
  unfold code_over.f at h
  obtain ⟨⟨p1, p2⟩, hp, h⟩ := Option.bind_eq_some_iff.mp h
  simp only at h
  split at h
  next h0 =>
    subst h0
    obtain rfl := Option.some.inj h
    have HP := aq hp
    have HR := aq hr
    clear h hp hr
    go_enter Tryz.func113, Tryz.ntmps113
    go_wp2_with (first | (go_at_call 183; refine (bits_Word.calls _ _ _ _ _ _ _ HR.out hc HP.out).mono ?_; rintro e w1 ⟨rfl, hb1⟩; have HB := aq hb1; clear hb1) | (go_at_call 82; refine (code_must.ok _).mono ?_; rintro e w3 ⟨rfl, rfl⟩))
    go_ret
    exact ⟨rfl, HB.out⟩
  next => cases h
def inst_shL : List (Bool × Bool × Bool × Bool × Int × Int × Int × Int × Int × Int × Int × Bool) := [(false, false, false, false, 0, 0, 0, 0, 0, 0, 0, false), (true, false, false, false, 0, 65535, 1, 48, 16, 0, 0, false), (true, true, false, false, 0, 4095, 1, 12, 12, 0, 0, true), (true, true, false, false, 0, 0, 0, 0, 0, 0, 0, false), (true, true, true, false, 0, 0, 0, 63, 1, 2, 0, false), (true, true, true, false, 0, 0, 0, 63, 1, 3, 0, false), (true, true, true, true, 0, 0, 0, 0, 0, 0, 0, false), (true, true, false, false, 0, 32760, 8, 0, 0, 0, 0, true), (true, true, false, false, 0, 4095, 1, 0, 0, 0, 0, true), (true, false, false, false, (-1048576), 1048572, 4, 0, 0, 0, 0, false), (true, false, false, false, (-1048576), 1048575, 1, 0, 0, 0, 0, false), (false, false, false, false, (-134217728), 134217724, 4, 0, 0, 0, 0, false), (false, false, false, false, (-1048576), 1048572, 4, 0, 0, 0, 13, false), (false, true, false, false, 0, 0, 0, 0, 0, 0, 0, false), (false, false, false, false, 0, 65535, 1, 0, 0, 0, 0, false), (false, false, false, false, 0, 0, 0, 0, 0, 0, 0, false), (true, true, true, false, 0, 0, 0, 0, 0, 0, 13, false)]
def inst_sh (i : Nat) : Bool × Bool × Bool × Bool × Int × Int × Int × Int × Int × Int × Int × Bool := inst_shL.getD i (false, false, false, false, 0, 0, 0, 0, 0, 0, 0, false)
def inst_shv (t : Bool × Bool × Bool × Bool × Int × Int × Int × Int × Int × Int × Int × Bool) : Array Value := #[.bool t.1, .bool t.2.1, .bool t.2.2.1, .bool t.2.2.2.1, .int .i64 t.2.2.2.2.1, .int .i64 t.2.2.2.2.2.1, .int .i64 t.2.2.2.2.2.2.1, .int .i64 t.2.2.2.2.2.2.2.1, .int .i64 t.2.2.2.2.2.2.2.2.1, .int .i64 t.2.2.2.2.2.2.2.2.2.1, .int .i64 t.2.2.2.2.2.2.2.2.2.2.1, .bool t.2.2.2.2.2.2.2.2.2.2.2]
def inst_shz : Array Value := #[.bool false, .bool false, .bool false, .bool false, .int .i64 0, .int .i64 0, .int .i64 0, .int .i64 0, .int .i64 0, .int .i64 0, .int .i64 0, .bool false]
def inst_shAll : Array Value := #[.bool false, .bool false, .bool false, .bool false, .int .i64 0, .int .i64 0, .int .i64 0, .int .i64 0, .int .i64 0, .int .i64 0, .int .i64 0, .bool false, .bool true, .bool false, .bool false, .bool false, .int .i64 0, .int .i64 65535, .int .i64 1, .int .i64 48, .int .i64 16, .int .i64 0, .int .i64 0, .bool false, .bool true, .bool true, .bool false, .bool false, .int .i64 0, .int .i64 4095, .int .i64 1, .int .i64 12, .int .i64 12, .int .i64 0, .int .i64 0, .bool true, .bool true, .bool true, .bool false, .bool false, .int .i64 0, .int .i64 0, .int .i64 0, .int .i64 0, .int .i64 0, .int .i64 0, .int .i64 0, .bool false, .bool true, .bool true, .bool true, .bool false, .int .i64 0, .int .i64 0, .int .i64 0, .int .i64 63, .int .i64 1, .int .i64 2, .int .i64 0, .bool false, .bool true, .bool true, .bool true, .bool false, .int .i64 0, .int .i64 0, .int .i64 0, .int .i64 63, .int .i64 1, .int .i64 3, .int .i64 0, .bool false, .bool true, .bool true, .bool true, .bool true, .int .i64 0, .int .i64 0, .int .i64 0, .int .i64 0, .int .i64 0, .int .i64 0, .int .i64 0, .bool false, .bool true, .bool true, .bool false, .bool false, .int .i64 0, .int .i64 32760, .int .i64 8, .int .i64 0, .int .i64 0, .int .i64 0, .int .i64 0, .bool true, .bool true, .bool true, .bool false, .bool false, .int .i64 0, .int .i64 4095, .int .i64 1, .int .i64 0, .int .i64 0, .int .i64 0, .int .i64 0, .bool true, .bool true, .bool false, .bool false, .bool false, .int .i64 (-1048576), .int .i64 1048572, .int .i64 4, .int .i64 0, .int .i64 0, .int .i64 0, .int .i64 0, .bool false, .bool true, .bool false, .bool false, .bool false, .int .i64 (-1048576), .int .i64 1048575, .int .i64 1, .int .i64 0, .int .i64 0, .int .i64 0, .int .i64 0, .bool false, .bool false, .bool false, .bool false, .bool false, .int .i64 (-134217728), .int .i64 134217724, .int .i64 4, .int .i64 0, .int .i64 0, .int .i64 0, .int .i64 0, .bool false, .bool false, .bool false, .bool false, .bool false, .int .i64 (-1048576), .int .i64 1048572, .int .i64 4, .int .i64 0, .int .i64 0, .int .i64 0, .int .i64 13, .bool false, .bool false, .bool true, .bool false, .bool false, .int .i64 0, .int .i64 0, .int .i64 0, .int .i64 0, .int .i64 0, .int .i64 0, .int .i64 0, .bool false, .bool false, .bool false, .bool false, .bool false, .int .i64 0, .int .i64 65535, .int .i64 1, .int .i64 0, .int .i64 0, .int .i64 0, .int .i64 0, .bool false, .bool false, .bool false, .bool false, .bool false, .int .i64 0, .int .i64 0, .int .i64 0, .int .i64 0, .int .i64 0, .int .i64 0, .int .i64 0, .bool false, .bool true, .bool true, .bool true, .bool false, .int .i64 0, .int .i64 0, .int .i64 0, .int .i64 0, .int .i64 0, .int .i64 0, .int .i64 13, .bool false]
theorem inst_shzero : (Tryz.prog.info? 149).map (fun i => (i.zero, i.size)) = some (some (.agg inst_shz), 12) := by kernel_rfl
theorem inst_sh1 (W : World) : (Instr.build 149 #[(0, .bool true), (5, .int .i64 65535), (6, .int .i64 1), (7, .int .i64 48), (8, .int .i64 16)]).run Tryz.prog W = .ok (.agg (inst_shv (inst_sh 1))) W := run_build W _ _ _ (by kernel_rfl)
theorem inst_sh2 (W : World) : (Instr.build 149 #[(0, .bool true), (1, .bool true), (5, .int .i64 4095), (6, .int .i64 1), (7, .int .i64 12), (8, .int .i64 12), (11, .bool true)]).run Tryz.prog W = .ok (.agg (inst_shv (inst_sh 2))) W := run_build W _ _ _ (by kernel_rfl)
theorem inst_sh3 (W : World) : (Instr.build 149 #[(0, .bool true), (1, .bool true)]).run Tryz.prog W = .ok (.agg (inst_shv (inst_sh 3))) W := run_build W _ _ _ (by kernel_rfl)
theorem inst_sh4 (W : World) : (Instr.build 149 #[(0, .bool true), (1, .bool true), (2, .bool true), (7, .int .i64 63), (8, .int .i64 1), (9, .int .i64 2)]).run Tryz.prog W = .ok (.agg (inst_shv (inst_sh 4))) W := run_build W _ _ _ (by kernel_rfl)
theorem inst_sh5 (W : World) : (Instr.build 149 #[(0, .bool true), (1, .bool true), (2, .bool true), (7, .int .i64 63), (8, .int .i64 1), (9, .int .i64 3)]).run Tryz.prog W = .ok (.agg (inst_shv (inst_sh 5))) W := run_build W _ _ _ (by kernel_rfl)
theorem inst_sh6 (W : World) : (Instr.build 149 #[(0, .bool true), (1, .bool true), (2, .bool true), (3, .bool true)]).run Tryz.prog W = .ok (.agg (inst_shv (inst_sh 6))) W := run_build W _ _ _ (by kernel_rfl)
theorem inst_sh7 (W : World) : (Instr.build 149 #[(0, .bool true), (1, .bool true), (5, .int .i64 32760), (6, .int .i64 8), (11, .bool true)]).run Tryz.prog W = .ok (.agg (inst_shv (inst_sh 7))) W := run_build W _ _ _ (by kernel_rfl)
theorem inst_sh8 (W : World) : (Instr.build 149 #[(0, .bool true), (1, .bool true), (5, .int .i64 4095), (6, .int .i64 1), (11, .bool true)]).run Tryz.prog W = .ok (.agg (inst_shv (inst_sh 8))) W := run_build W _ _ _ (by kernel_rfl)
theorem inst_sh9 (W : World) : (Instr.build 149 #[(0, .bool true), (4, .int .i64 (-1048576)), (5, .int .i64 1048572), (6, .int .i64 4)]).run Tryz.prog W = .ok (.agg (inst_shv (inst_sh 9))) W := run_build W _ _ _ (by kernel_rfl)
theorem inst_sh10 (W : World) : (Instr.build 149 #[(0, .bool true), (4, .int .i64 (-1048576)), (5, .int .i64 1048575), (6, .int .i64 1)]).run Tryz.prog W = .ok (.agg (inst_shv (inst_sh 10))) W := run_build W _ _ _ (by kernel_rfl)
theorem inst_sh11 (W : World) : (Instr.build 149 #[(4, .int .i64 (-134217728)), (5, .int .i64 134217724), (6, .int .i64 4)]).run Tryz.prog W = .ok (.agg (inst_shv (inst_sh 11))) W := run_build W _ _ _ (by kernel_rfl)
theorem inst_sh12 (W : World) : (Instr.build 149 #[(4, .int .i64 (-1048576)), (5, .int .i64 1048572), (6, .int .i64 4), (10, .int .i64 13)]).run Tryz.prog W = .ok (.agg (inst_shv (inst_sh 12))) W := run_build W _ _ _ (by kernel_rfl)
theorem inst_sh13 (W : World) : (Instr.build 149 #[(1, .bool true)]).run Tryz.prog W = .ok (.agg (inst_shv (inst_sh 13))) W := run_build W _ _ _ (by kernel_rfl)
theorem inst_sh14 (W : World) : (Instr.build 149 #[(5, .int .i64 65535), (6, .int .i64 1)]).run Tryz.prog W = .ok (.agg (inst_shv (inst_sh 14))) W := run_build W _ _ _ (by kernel_rfl)
theorem inst_sh16 (W : World) : (Instr.build 149 #[(0, .bool true), (1, .bool true), (2, .bool true), (10, .int .i64 13)]).run Tryz.prog W = .ok (.agg (inst_shv (inst_sh 16))) W := run_build W _ _ _ (by kernel_rfl)
theorem inst_shBuild (W : World) : (Instr.build 243 #[(1, .agg (inst_shv (inst_sh 1))), (2, .agg (inst_shv (inst_sh 2))), (3, .agg (inst_shv (inst_sh 3))), (4, .agg (inst_shv (inst_sh 4))), (5, .agg (inst_shv (inst_sh 5))), (6, .agg (inst_shv (inst_sh 6))), (7, .agg (inst_shv (inst_sh 7))), (8, .agg (inst_shv (inst_sh 8))), (9, .agg (inst_shv (inst_sh 9))), (10, .agg (inst_shv (inst_sh 10))), (11, .agg (inst_shv (inst_sh 11))), (12, .agg (inst_shv (inst_sh 12))), (13, .agg (inst_shv (inst_sh 13))), (14, .agg (inst_shv (inst_sh 14))), (16, .agg (inst_shv (inst_sh 16)))]).run Tryz.prog W = .ok (.agg inst_shAll) W := run_build W _ _ _ (by kernel_rfl)
theorem inst_shIndex : ∀ (i : Nat) (_ : i < 17) (W : World), (Instr.index 243 (.agg inst_shAll) (.int .i64 (i : Int))).run Tryz.prog W = .ok (.agg (inst_shv (inst_sh i))) W
  | 0, _, _ => by kernel_rfl
  | 1, _, _ => by kernel_rfl
  | 2, _, _ => by kernel_rfl
  | 3, _, _ => by kernel_rfl
  | 4, _, _ => by kernel_rfl
  | 5, _, _ => by kernel_rfl
  | 6, _, _ => by kernel_rfl
  | 7, _, _ => by kernel_rfl
  | 8, _, _ => by kernel_rfl
  | 9, _, _ => by kernel_rfl
  | 10, _, _ => by kernel_rfl
  | 11, _, _ => by kernel_rfl
  | 12, _, _ => by kernel_rfl
  | 13, _, _ => by kernel_rfl
  | 14, _, _ => by kernel_rfl
  | 15, _, _ => by kernel_rfl
  | 16, _, _ => by kernel_rfl
  | i + 17, h, _ => absurd h (by omega)
def inst_shapeOf.f (a0 : Int) : Option (Bool × Bool × Bool × Bool × Int × Int × Int × Int × Int × Int × Int × Bool) := if 0 ≤ a0 ∧ a0 < 17 then some (inst_sh a0.toNat) else none
theorem inst_sh_load (W : World) (t : Bool × Bool × Bool × Bool × Int × Int × Int × Int × Int × Int × Int × Bool) : (loadCellsFrom ⟨W.heap.size, 0, none⟩ 0 12 #[]).run Tryz.prog (W.alloc (.cells (inst_shv t) 149)) = .ok (inst_shv t) (W.alloc (.cells (inst_shv t) 149)) := run_loadCellsFrom_new W _ _ 12 rfl
attribute [-go_sem] Instr.build Instr.fill in
set_option maxHeartbeats 12800000 in
set_option maxRecDepth 100000 in
theorem inst_shapeOf.calls (a0 : Int) (r1 : Bool) (r2 : Bool) (r3 : Bool) (r4 : Bool) (r5 : Int) (r6 : Int) (r7 : Int) (r8 : Int) (r9 : Int) (r10 : Int) (r11 : Int) (r12 : Bool) (w : World) (h : inst_shapeOf.f a0 = some (r1, r2, r3, r4, r5, r6, r7, r8, r9, r10, r11, r12)) :
    Calls Tryz.prog 88 #[.int .i64 a0] w fun e w' => e = .returned (.agg #[.bool r1, .bool r2, .bool r3, .bool r4, .int .i64 r5, .int .i64 r6, .int .i64 r7, .int .i64 r8, .int .i64 r9, .int .i64 r10, .int .i64 r11, .bool r12]) ∧ Below w.heap.size w w' := by
  unfold inst_shapeOf.f at h
  split at h
  · rename_i hh
    obtain ⟨i, rfl⟩ := Int.eq_ofNat_of_zero_le hh.1
    have e := Option.some.inj h
    rw [Int.toNat_natCast] at e
    have ev : (.agg (inst_shv (inst_sh i)) : Value) = .agg #[.bool r1, .bool r2, .bool r3, .bool r4, .int .i64 r5, .int .i64 r6, .int .i64 r7, .int .i64 r8, .int .i64 r9, .int .i64 r10, .int .i64 r11, .bool r12] := by rw [e]; rfl
    rw [← ev]
    clear ev e h
    obtain ⟨hz, hs⟩ := zero_of_info inst_shzero
    have hst := run_storeCells_new (P := Tryz.prog) w 149 inst_shz (inst_shv (inst_sh i)) hs rfl (by simp [inst_shv, Value.oneCell'])
    have hld := inst_sh_load w (inst_sh i)
    have hsz : (inst_shv (inst_sh i)).size = 12 := rfl
    have hi := inst_shIndex i (by omega)
    have hb1 := inst_sh1
    have hb2 := inst_sh2
    have hb3 := inst_sh3
    have hb4 := inst_sh4
    have hb5 := inst_sh5
    have hb6 := inst_sh6
    have hb7 := inst_sh7
    have hb8 := inst_sh8
    have hb9 := inst_sh9
    have hb10 := inst_sh10
    have hb11 := inst_sh11
    have hb12 := inst_sh12
    have hb13 := inst_sh13
    have hb14 := inst_sh14
    have hb16 := inst_sh16
    have hba := inst_shBuild
    go_enter Tryz.func88, Tryz.ntmps88
    go_wp2
    clear hba hb1 hb2 hb3 hb4 hb5 hb6 hb7 hb8 hb9 hb10 hb11 hb12 hb13 hb14 hb16
    refine bodyPost_ret (v := .agg (inst_shv (inst_sh i))) (results_cell_ rfl _ _ rfl (heap_last_ w _) Tryz.underlying149 rfl hs) rfl ⟨rfl, (Below.refl _ _).alloc (Nat.le_refl _) _⟩
  · simp at h
def inst_register.f (a0 : Bool) (a1 : Int) : Option (Bool) := if a1 = 0 then (some true) else (if a0 = true then (if a1 > 0 then (some (decide (a1 ≤ 31))) else (some false)) else (some false))
set_option maxHeartbeats 8000000 in
set_option maxRecDepth 100000 in
theorem inst_register.calls (a0 : Bool) (a1 : Int) (r : Bool) (w : World) (h : inst_register.f a0 a1 = some r) :
    Calls Tryz.prog 143 #[.bool a0, .int .i64 a1] w fun e w' => e = .returned (.bool r) ∧ Drawn0 w w' := by
 have H : (if a1 = 0 then (some true) else (if a0 = true then (if a1 > 0 then (some (decide (a1 ≤ 31))) else (some false)) else (some false))) = some r := h
 clear h
 by_cases c3 : a1 = 0
 ·
  rw [if_pos c3] at H
  have c3b0 : (a1 == 0) = true := beq_iff_eq.mpr c3
  have c3b1 : (a1 != 0) = false := bne_eq_false_iff_eq.mpr c3
  clear c3
  obtain rfl := Option.some.inj H
  go_enter Tryz.func143, Tryz.ntmps143
  go_wp2
  go_ret
  exact ⟨by first | rfl | (simp; done) | (simp [*]; done), by repeat (first | exact Drawn0.refl _ | apply Drawn0.step)⟩
 ·
  rw [if_neg c3] at H
  have c3b0 : (a1 == 0) = false := beq_eq_false_iff_ne.mpr c3
  have c3b1 : (a1 != 0) = true := bne_iff_ne.mpr c3
  by_cases c4 : a0 = true
  ·
   subst c4
   have H1 : (if a1 > 0 then (some (decide (a1 ≤ 31))) else (some false)) = some r := by rw [if_pos rfl] at H; exact H
   clear H
   have H := H1
   clear H1
   by_cases c5 : a1 > 0
   ·
    rw [if_pos c5] at H
    have c5b0 : decide (0 < a1) = true := decide_eq_true c5
    clear c5
    obtain rfl := Option.some.inj H
    go_enter Tryz.func143, Tryz.ntmps143
    go_wp2
    go_ret
    exact ⟨by first | rfl | (simp; done) | (simp [*]; done), by repeat (first | exact Drawn0.refl _ | apply Drawn0.step)⟩
   ·
    rw [if_neg c5] at H
    have c5b0 : decide (0 < a1) = false := decide_eq_false c5
    clear c5
    obtain rfl := Option.some.inj H
    go_enter Tryz.func143, Tryz.ntmps143
    go_wp2
    go_ret
    exact ⟨by first | rfl | (simp; done) | (simp [*]; done), by repeat (first | exact Drawn0.refl _ | apply Drawn0.step)⟩
  ·
   replace c4 := Bool.eq_false_iff.mpr c4
   subst c4
   have H1 : (some false) = some r := by rw [if_neg (show ¬ (false = true) by decide)] at H; exact H
   clear H
   have H := H1
   clear H1
   obtain rfl := Option.some.inj H
   go_enter Tryz.func143, Tryz.ntmps143
   go_wp2
   go_ret
   exact ⟨by first | rfl | (simp; done) | (simp [*]; done), by repeat (first | exact Drawn0.refl _ | apply Drawn0.step)⟩
def inst_step.f (a0 : Int) (a1 : Int) (a2 : Int) (a3 : Int) : Option (Bool) := if a3 = 0 then (some (a0 == 0)) else (if a0 ≥ a1 then (if a0 ≤ a2 then (some ((Int.tmod a0 a3) == 0)) else (some false)) else (some false))
set_option maxHeartbeats 8000000 in
set_option maxRecDepth 100000 in
theorem inst_step.calls (a0 : Int) (a1 : Int) (a2 : Int) (a3 : Int) (r : Bool) (w : World) (h : inst_step.f a0 a1 a2 a3 = some r) :
    Calls Tryz.prog 144 #[.int .i64 a0, .int .i64 a1, .int .i64 a2, .int .i64 a3] w fun e w' => e = .returned (.bool r) ∧ Drawn0 w w' := by
 have H : (if a3 = 0 then (some (a0 == 0)) else (if a0 ≥ a1 then (if a0 ≤ a2 then (some ((Int.tmod a0 a3) == 0)) else (some false)) else (some false))) = some r := h
 clear h
 by_cases c5 : a3 = 0
 ·
  rw [if_pos c5] at H
  have c5b0 : (a3 == 0) = true := beq_iff_eq.mpr c5
  have c5b1 : (a3 != 0) = false := bne_eq_false_iff_eq.mpr c5
  clear c5
  obtain rfl := Option.some.inj H
  go_enter Tryz.func144, Tryz.ntmps144
  go_wp2
  go_ret
  exact ⟨by first | rfl | (simp; done) | (simp [*]; done), by repeat (first | exact Drawn0.refl _ | apply Drawn0.step)⟩
 ·
  rw [if_neg c5] at H
  have c5b0 : (a3 == 0) = false := beq_eq_false_iff_ne.mpr c5
  have c5b1 : (a3 != 0) = true := bne_iff_ne.mpr c5
  by_cases c6 : a0 ≥ a1
  ·
   rw [if_pos c6] at H
   have c6b0 : decide (a1 ≤ a0) = true := decide_eq_true c6
   clear c6
   by_cases c7 : a0 ≤ a2
   ·
    rw [if_pos c7] at H
    have c7b0 : decide (a0 ≤ a2) = true := decide_eq_true c7
    clear c7
    obtain rfl := Option.some.inj H
    go_enter Tryz.func144, Tryz.ntmps144
    go_wp2
    go_ret
    exact ⟨by first | rfl | (simp; done) | (simp [*]; done), by repeat (first | exact Drawn0.refl _ | apply Drawn0.step)⟩
   ·
    rw [if_neg c7] at H
    have c7b0 : decide (a0 ≤ a2) = false := decide_eq_false c7
    clear c7
    obtain rfl := Option.some.inj H
    go_enter Tryz.func144, Tryz.ntmps144
    go_wp2
    go_ret
    exact ⟨by first | rfl | (simp; done) | (simp [*]; done), by repeat (first | exact Drawn0.refl _ | apply Drawn0.step)⟩
  ·
   rw [if_neg c6] at H
   have c6b0 : decide (a1 ≤ a0) = false := decide_eq_false c6
   clear c6
   obtain rfl := Option.some.inj H
   go_enter Tryz.func144, Tryz.ntmps144
   go_wp2
   go_ret
   exact ⟨by first | rfl | (simp; done) | (simp [*]; done), by repeat (first | exact Drawn0.refl _ | apply Drawn0.step)⟩
mutual
def inst_Is.j0 : Nat → Int → Bool → Int → Int → Int → Int → Int → Int → Int → Int → Int → Int → Bool → Bool → Bool → Bool → Int → Int → Int → Int → Int → Int → Int → Bool → Option (Bool)
 | 0, _, _, _, _, _, _, _, _, _, _, _, _, _, _, _, _, _, _, _, _, _, _, _, _ => none
 | k + 1, x3, x5, x133000, x133001, x133002, x133003, x133004, x133005, x133006, x133007, x133008, x133009, x147000, x147001, x147002, x147003, x147004, x147005, x147006, x147007, x147008, x147009, x147010, x147011 => (inst_step.f x133005 x147004 x147005 x147006).bind fun t151 => (if t151 = true then ((inst_step.f x133008 0 x147007 x147008).bind fun t152 => (if t152 = true then (if x133007 ≥ 0 then (if x133007 ≤ x147009 then (if x133009 ≥ 0 then (inst_Is.j1 k x3 x5 (decide (x133009 ≤ x147010)) x133000 x133001 x133002 x133003 x133004 x133005 x133006 x133007 x133008 x133009) else (inst_Is.j1 k x3 x5 false x133000 x133001 x133002 x133003 x133004 x133005 x133006 x133007 x133008 x133009)) else (inst_Is.j1 k x3 x5 false x133000 x133001 x133002 x133003 x133004 x133005 x133006 x133007 x133008 x133009)) else (inst_Is.j1 k x3 x5 false x133000 x133001 x133002 x133003 x133004 x133005 x133006 x133007 x133008 x133009)) else (inst_Is.j1 k x3 x5 false x133000 x133001 x133002 x133003 x133004 x133005 x133006 x133007 x133008 x133009))) else (inst_Is.j1 k x3 x5 false x133000 x133001 x133002 x133003 x133004 x133005 x133006 x133007 x133008 x133009))
def inst_Is.j1 : Nat → Int → Bool → Bool → Int → Int → Int → Int → Int → Int → Int → Int → Int → Int → Option (Bool)
 | 0, _, _, _, _, _, _, _, _, _, _, _, _, _ => none
 | k + 1, x3, x5, x6, x133000, x133001, x133002, x133003, x133004, x133005, x133006, x133007, x133008, x133009 => if x3 = 3 then (if x5 = true then (if x6 = true then ((mask_Is.f k x133006).bind fun t153 => (some t153)) else (some false)) else (some false)) else (if x5 = true then (if x6 = true then (some (x133006 == 0)) else (some false)) else (some false))
end
def inst_Is.f (k : Nat) (a0_0 : Int) (a0_1 : Int) (a0_2 : Int) (a0_3 : Int) (a0_4 : Int) (a0_5 : Int) (a0_6 : Int) (a0_7 : Int) (a0_8 : Int) (a0_9 : Int) : Option (Bool) := (inst_Shape.f a0_0).bind fun t133 => (if t133 = 0 then (some false) else ((inst_shapeOf.f t133).bind fun bt134 => ((inst_register.f bt134.1 a0_1).bind fun t147 => (if t147 = true then ((inst_register.f bt134.2.1 a0_2).bind fun t148 => (if t148 = true then ((inst_register.f bt134.2.2.1 a0_3).bind fun t149 => (if t149 = true then ((inst_register.f bt134.2.2.2.1 a0_4).bind fun t150 => (inst_Is.j0 k t133 t150 a0_0 a0_1 a0_2 a0_3 a0_4 a0_5 a0_6 a0_7 a0_8 a0_9 bt134.1 bt134.2.1 bt134.2.2.1 bt134.2.2.2.1 bt134.2.2.2.2.1 bt134.2.2.2.2.2.1 bt134.2.2.2.2.2.2.1 bt134.2.2.2.2.2.2.2.1 bt134.2.2.2.2.2.2.2.2.1 bt134.2.2.2.2.2.2.2.2.2.1 bt134.2.2.2.2.2.2.2.2.2.2.1 bt134.2.2.2.2.2.2.2.2.2.2.2)) else (inst_Is.j0 k t133 false a0_0 a0_1 a0_2 a0_3 a0_4 a0_5 a0_6 a0_7 a0_8 a0_9 bt134.1 bt134.2.1 bt134.2.2.1 bt134.2.2.2.1 bt134.2.2.2.2.1 bt134.2.2.2.2.2.1 bt134.2.2.2.2.2.2.1 bt134.2.2.2.2.2.2.2.1 bt134.2.2.2.2.2.2.2.2.1 bt134.2.2.2.2.2.2.2.2.2.1 bt134.2.2.2.2.2.2.2.2.2.2.1 bt134.2.2.2.2.2.2.2.2.2.2.2))) else (inst_Is.j0 k t133 false a0_0 a0_1 a0_2 a0_3 a0_4 a0_5 a0_6 a0_7 a0_8 a0_9 bt134.1 bt134.2.1 bt134.2.2.1 bt134.2.2.2.1 bt134.2.2.2.2.1 bt134.2.2.2.2.2.1 bt134.2.2.2.2.2.2.1 bt134.2.2.2.2.2.2.2.1 bt134.2.2.2.2.2.2.2.2.1 bt134.2.2.2.2.2.2.2.2.2.1 bt134.2.2.2.2.2.2.2.2.2.2.1 bt134.2.2.2.2.2.2.2.2.2.2.2))) else (inst_Is.j0 k t133 false a0_0 a0_1 a0_2 a0_3 a0_4 a0_5 a0_6 a0_7 a0_8 a0_9 bt134.1 bt134.2.1 bt134.2.2.1 bt134.2.2.2.1 bt134.2.2.2.2.1 bt134.2.2.2.2.2.1 bt134.2.2.2.2.2.2.1 bt134.2.2.2.2.2.2.2.1 bt134.2.2.2.2.2.2.2.2.1 bt134.2.2.2.2.2.2.2.2.2.1 bt134.2.2.2.2.2.2.2.2.2.2.1 bt134.2.2.2.2.2.2.2.2.2.2.2)))))
set_option maxHeartbeats 4000000 in
set_option maxRecDepth 100000 in
theorem inst_Is.calls (k : Nat) (a0_0 : Int) (a0_1 : Int) (a0_2 : Int) (a0_3 : Int) (a0_4 : Int) (a0_5 : Int) (a0_6 : Int) (a0_7 : Int) (a0_8 : Int) (a0_9 : Int) (r : Bool) (w : World) (h : inst_Is.f k a0_0 a0_1 a0_2 a0_3 a0_4 a0_5 a0_6 a0_7 a0_8 a0_9 = some r) (hTab : TabW w := by first | exact hTab | exact TabW.drew hTab | exact TabW.drewN hTab _ | exact TabW.below hTab (by repeat (first | (with_reducible first | exact HB.out | apply below_alloc | apply pw_below_drewN | apply below_drew1) | refine Below.setCell ?_ (Aside0.out (by assumption)) _ | exact HB.out | exact Below.refl _ _))) :
    Calls Tryz.prog 79 #[.agg #[.int .i64 a0_0, .int .i64 a0_1, .int .i64 a0_2, .int .i64 a0_3, .int .i64 a0_4, .int .i64 a0_5, .int .u64 a0_6, .int .i64 a0_7, .int .i64 a0_8, .int .i64 a0_9]] w fun e w' => e = .returned (.bool r) ∧ Below w.heap.size w w' := by
  have tr : ∀ (h : Bool) (v : Int), ∃ b, inst_register.f h v = some b := fun h v => by unfold inst_register.f; repeat' split
                                                                                       all_goals exact ⟨_, rfl⟩
  have ts : ∀ a b c d : Int, ∃ r, inst_step.f a b c d = some r := fun a b c d => by unfold inst_step.f; repeat' split
                                                                                    all_goals exact ⟨_, rfl⟩
  unfold inst_Is.f at h
  obtain ⟨s, hs, h⟩ := Option.bind_eq_some_iff.mp h
  have HS := aq hs
  have HT := aq hTab
  clear hTab hs
  by_cases h0 : s = 0
  · subst h0
    rw [if_pos rfl] at h
    obtain rfl := Option.some.inj h
    clear h tr ts
    go_enter Tryz.func79, Tryz.ntmps79
    go_wp2_with (go_at_call 30; refine (inst_Shape.calls _ _ _ HS.out).mono ?_; rintro e w1 ⟨rfl, hb⟩; have HB := aq (below_step (below_alloc (Below.refl w.heap.size w) _) hb); clear hb)
    go_ret
    exact ⟨rfl, HB.out⟩
  · rw [if_neg h0] at h
    have ds : (s == 0) = false := by simpa using h0
    clear h0
    obtain ⟨t, ht, h⟩ := Option.bind_eq_some_iff.mp h
    obtain ⟨t0, t1, t2, t3, t4, t5, t6, t7, t8, t9, t10, t11⟩ := t
    obtain ⟨b1, e1⟩ := tr t0 a0_1
    obtain ⟨b2, e2⟩ := tr t1 a0_2
    obtain ⟨b3, e3⟩ := tr t2 a0_3
    obtain ⟨b4, e4⟩ := tr t3 a0_4
    obtain ⟨b5, e5⟩ := ts a0_5 t4 t5 t6
    obtain ⟨b6, e6⟩ := ts a0_8 0 t7 t8
    have hj : inst_Is.j0 k s (b1 && b2 && b3 && b4) a0_0 a0_1 a0_2 a0_3 a0_4 a0_5 a0_6 a0_7 a0_8 a0_9 t0 t1 t2 t3 t4 t5 t6 t7 t8 t9 t10 t11 = some r := by
      simp only [e1, e2, e3, e4, Option.bind_some] at h
      cases b1
      · exact h
      · cases b2
        · exact h
        · cases b3
          · exact h
          · exact h
    clear h tr ts
    obtain ⟨c1, h1⟩ : ∃ c, decide (a0_7 ≥ 0) = c := ⟨_, rfl⟩
    obtain ⟨c2, h2⟩ : ∃ c, decide (a0_7 ≤ t9) = c := ⟨_, rfl⟩
    obtain ⟨c3, h3⟩ : ∃ c, decide (a0_9 ≥ 0) = c := ⟨_, rfl⟩
    obtain ⟨c4, h4⟩ : ∃ c, decide (a0_9 ≤ t10) = c := ⟨_, rfl⟩
    cases k with
    | zero => simp [inst_Is.j0] at hj
    | succ k =>
    have hk : inst_Is.j1 k s (b1 && b2 && b3 && b4) (b5 && b6 && c1 && c2 && c3 && c4) a0_0 a0_1 a0_2 a0_3 a0_4 a0_5 a0_6 a0_7 a0_8 a0_9 = some r := by
      simp only [inst_Is.j0, e5, e6, Option.bind_some] at hj
      have q1 : (a0_7 ≥ 0) = (c1 = true) := by rw [← h1]; simp
      have q2 : (a0_7 ≤ t9) = (c2 = true) := by rw [← h2]; simp
      have q3 : (a0_9 ≥ 0) = (c3 = true) := by rw [← h3]; simp
      simp only [q1, q2, q3, h4] at hj
      cases b5 <;> cases b6 <;> cases c1 <;> cases c2 <;> cases c3 <;> exact hj
    clear hj
    cases k with
    | zero => simp [inst_Is.j1] at hk
    | succ k =>
    obtain ⟨R, hR⟩ : ∃ R, (b1 && b2 && b3 && b4) = R := ⟨_, rfl⟩
    obtain ⟨M, hM⟩ : ∃ M, (b5 && b6 && c1 && c2 && c3 && c4) = M := ⟨_, rfl⟩
    rw [hR, hM] at hk
    have E1 := aq e1
    have E2 := aq e2
    have E3 := aq e3
    have E4 := aq e4
    have E5 := aq e5
    have E6 := aq e6
    have HSH := aq ht
    have HR := aq hR
    have HM := aq hM
    have HK := aq hk
    have D1 := aq h1
    have D2 := aq h2
    have D3 := aq h3
    have D4 := aq h4
    clear e1 e2 e3 e4 e5 e6 ht hR hM hk h1 h2 h3 h4
    have HI := aq (blk_new w (.cells #[.int .i64 a0_0, .int .i64 a0_1, .int .i64 a0_2, .int .i64 a0_3, .int .i64 a0_4, .int .i64 a0_5, .int .u64 a0_6, .int .i64 a0_7, .int .i64 a0_8, .int .i64 a0_9] 51))
    go_enter Tryz.func79, Tryz.ntmps79
    go_upto_region 5 with (first | (go_at_call 30; refine (inst_Shape.calls _ _ _ HS.out).mono ?_; rintro e w1 ⟨rfl, hb⟩; have HB := aq (below_step (below_alloc (Below.refl w.heap.size w) _) hb); have HI1 := aq (blk_below HI.out hb); clear hb) | (go_at_call 88; refine (inst_shapeOf.calls _ _ _ _ _ _ _ _ _ _ _ _ _ _ HSH.out).mono ?_; rintro e w2 ⟨rfl, hb⟩; have HB2 := aq (below_step HB.out hb); have HI2 := aq (blk_below HI1.out hb); clear hb))
    have HS3 := aq (blk_new w2 (.cells #[.bool t0, .bool t1, .bool t2, .bool t3, .int .i64 t4, .int .i64 t5, .int .i64 t6, .int .i64 t7, .int .i64 t8, .int .i64 t9, .int .i64 t10, .bool t11] 149))
    have HI3 := aq (blk_alloc HI2.out (.cells #[.bool t0, .bool t1, .bool t2, .bool t3, .int .i64 t4, .int .i64 t5, .int .i64 t6, .int .i64 t7, .int .i64 t8, .int .i64 t9, .int .i64 t10, .bool t11] 149))
    have HB3 := aq (below_alloc HB2.out (.cells #[.bool t0, .bool t1, .bool t2, .bool t3, .int .i64 t4, .int .i64 t5, .int .i64 t6, .int .i64 t7, .int .i64 t8, .int .i64 t9, .int .i64 t10, .bool t11] 149))
    change Code.wp _ _ _ _ (w2.alloc (.cells #[.bool t0, .bool t1, .bool t2, .bool t3, .int .i64 t4, .int .i64 t5, .int .i64 t6, .int .i64 t7, .int .i64 t8, .int .i64 t9, .int .i64 t10, .bool t11] 149))
    generalize w2.alloc (.cells #[.bool t0, .bool t1, .bool t2, .bool t3, .int .i64 t4, .int .i64 t5, .int .i64 t6, .int .i64 t7, .int .i64 t8, .int .i64 t9, .int .i64 t10, .bool t11] 149) = w3 at *
    generalize w2.heap.size = N at *
    clear HB HI HI1 HB2 HI2 HS HSH
    go_cut [5] (fun s5 wx => s5 = .bool R ∧ Below w3.heap.size w3 wx)
    case first =>
      have i1 : w3.cell? ⟨w.heap.size, 1, none⟩ = some (.int .i64 a0_1) := (blk_cell HI3.out 1).trans rfl
      have i2 : w3.cell? ⟨w.heap.size, 2, none⟩ = some (.int .i64 a0_2) := (blk_cell HI3.out 2).trans rfl
      have i3 : w3.cell? ⟨w.heap.size, 3, none⟩ = some (.int .i64 a0_3) := (blk_cell HI3.out 3).trans rfl
      have i4 : w3.cell? ⟨w.heap.size, 4, none⟩ = some (.int .i64 a0_4) := (blk_cell HI3.out 4).trans rfl
      have t_0 : w3.cell? ⟨N, 0, none⟩ = some (.bool t0) := (blk_cell HS3.out 0).trans rfl
      have t_1 : w3.cell? ⟨N, 1, none⟩ = some (.bool t1) := (blk_cell HS3.out 1).trans rfl
      have t_2 : w3.cell? ⟨N, 2, none⟩ = some (.bool t2) := (blk_cell HS3.out 2).trans rfl
      have t_3 : w3.cell? ⟨N, 3, none⟩ = some (.bool t3) := (blk_cell HS3.out 3).trans rfl
      have hR := HR.out
      cases b1 <;> (try cases b2) <;> (try cases b3) <;> simp only [Bool.true_and, Bool.false_and] at hR <;> subst hR
      all_goals
        go_wp2_with (first | (go_at_call_of 143 a0_1; refine (inst_register.calls _ _ _ _ E1.out).mono ?_; rintro e q0 ⟨rfl, ⟨n0, rfl⟩⟩) | (go_at_call_of 143 a0_2; refine (inst_register.calls _ _ _ _ E2.out).mono ?_; rintro e q1 ⟨rfl, ⟨n1, rfl⟩⟩) | (go_at_call_of 143 a0_3; refine (inst_register.calls _ _ _ _ E3.out).mono ?_; rintro e q2 ⟨rfl, ⟨n2, rfl⟩⟩) | (go_at_call_of 143 a0_4; refine (inst_register.calls _ _ _ _ E4.out).mono ?_; rintro e q3 ⟨rfl, ⟨n3, rfl⟩⟩))
        go_meet
        exact ⟨rfl, by repeat (first | exact Below.refl _ _ | apply pw_below_drewN)⟩
    case rest =>
      obtain ⟨rfl, hb⟩ := hcut
      have HI4 := aq (blk_below HI3.out hb)
      have HS4 := aq (blk_below HS3.out hb)
      have HB4 := aq (below_step HB3.out hb)
      clear hb HI3 HS3 HB3 HR E1 E2 E3 E4
      go_upto_region 6 with fail
      go_cut [6] (fun s6 wx => s6 = .bool M ∧ Below wc.heap.size wc wx)
      case first =>
        have i5 : wc.cell? ⟨w.heap.size, 5, none⟩ = some (.int .i64 a0_5) := (blk_cell HI4.out 5).trans rfl
        have i7 : wc.cell? ⟨w.heap.size, 7, none⟩ = some (.int .i64 a0_7) := (blk_cell HI4.out 7).trans rfl
        have i8 : wc.cell? ⟨w.heap.size, 8, none⟩ = some (.int .i64 a0_8) := (blk_cell HI4.out 8).trans rfl
        have i9 : wc.cell? ⟨w.heap.size, 9, none⟩ = some (.int .i64 a0_9) := (blk_cell HI4.out 9).trans rfl
        have t_4 : wc.cell? ⟨N, 4, none⟩ = some (.int .i64 t4) := (blk_cell HS4.out 4).trans rfl
        have t_5 : wc.cell? ⟨N, 5, none⟩ = some (.int .i64 t5) := (blk_cell HS4.out 5).trans rfl
        have t_6 : wc.cell? ⟨N, 6, none⟩ = some (.int .i64 t6) := (blk_cell HS4.out 6).trans rfl
        have t_7 : wc.cell? ⟨N, 7, none⟩ = some (.int .i64 t7) := (blk_cell HS4.out 7).trans rfl
        have t_8 : wc.cell? ⟨N, 8, none⟩ = some (.int .i64 t8) := (blk_cell HS4.out 8).trans rfl
        have t_9 : wc.cell? ⟨N, 9, none⟩ = some (.int .i64 t9) := (blk_cell HS4.out 9).trans rfl
        have t_10 : wc.cell? ⟨N, 10, none⟩ = some (.int .i64 t10) := (blk_cell HS4.out 10).trans rfl
        have hM := HM.out
        have d1 := D1.out
        have d2 := D2.out
        have d3 := D3.out
        have d4 := D4.out
        cases b5 <;> (try cases b6) <;> (try cases c1) <;> (try cases c2) <;> (try cases c3) <;> simp only [Bool.true_and, Bool.false_and] at hM <;> subst hM
        all_goals
          go_wp2_with (first | (go_at_call_of 144 a0_5; refine (inst_step.calls _ _ _ _ _ _ E5.out).mono ?_; rintro e q0 ⟨rfl, ⟨n0, rfl⟩⟩) | (go_at_call_of 144 a0_8; refine (inst_step.calls _ _ _ _ _ _ E6.out).mono ?_; rintro e q1 ⟨rfl, ⟨n1, rfl⟩⟩))
          go_meet
          exact ⟨rfl, by repeat (first | exact Below.refl _ _ | apply pw_below_drewN)⟩
      case rest =>
        obtain ⟨rfl, hb⟩ := hcut
        have HI5 := aq (blk_below HI4.out hb)
        have HB5 := aq (below_step HB4.out hb)
        have HT5 := aq (TabW.below HT.out HB5.out)
        have i6 : wc.cell? ⟨w.heap.size, 6, none⟩ = some (.int .u64 a0_6) := (blk_cell HI5.out 6).trans rfl
        have hk := HK.out
        clear hb HI4 HS4 HB4 HM E5 E6 D1 D2 D3 D4 HK
        simp only [inst_Is.j1] at hk
        by_cases h3 : s = 3
        · subst h3
          rw [if_pos rfl] at hk
          cases R
          · obtain rfl : false = r := Option.some.inj hk
            clear hk
            go_wp2
            go_ret
            exact ⟨rfl, HB5.out⟩
          · rw [if_pos rfl] at hk
            cases M
            · obtain rfl : false = r := Option.some.inj hk
              clear hk
              go_wp2
              go_ret
              exact ⟨rfl, HB5.out⟩
            · rw [if_pos rfl] at hk
              obtain ⟨m, hm, h⟩ := Option.bind_eq_some_iff.mp hk
              obtain rfl := Option.some.inj h
              have HMK := aq hm
              clear hk hm h
              go_wp2_with (go_at_call 145; refine (mask_Is.calls _ _ _ _ HMK.out HT5.out).mono ?_; rintro e w6 ⟨rfl, hb⟩; have HB6 := aq (below_step HB5.out hb); clear hb)
              go_ret
              exact ⟨rfl, HB6.out⟩
        · have d3 : (s == 3) = false := by simpa using h3
          rw [if_neg h3] at hk
          clear h3
          cases R
          · obtain rfl : false = r := Option.some.inj hk
            clear hk
            go_wp2
            go_ret
            exact ⟨rfl, HB5.out⟩
          · rw [if_pos rfl] at hk
            cases M
            · obtain rfl : false = r := Option.some.inj hk
              clear hk
              go_wp2
              go_ret
              exact ⟨rfl, HB5.out⟩
            · rw [if_pos rfl] at hk
              obtain rfl := Option.some.inj hk
              clear hk
              go_wp2
              go_ret
              exact ⟨rfl, HB5.out⟩
def slices_Index_int_int.l0 : Nat → List Int → Int → Int → Int → Option (Int)
 | 0, _, _, _, _ => none
 | k + 1, x0, x1, x7, x8 => if x8 < x7 then (if 0 ≤ x8 then (if x8 < (x0.length : Int) then (if x1 = (rd x0 x8) then (some x8) else (slices_Index_int_int.l0 k x0 x1 x7 (wrap64 (x8 + 1)))) else (none)) else (none)) else (some (-1))
def slices_Index_int_int.f (k : Nat) (l0 : List Int) (a1 : Int) : Option (Int) := slices_Index_int_int.l0 k l0 a1 (l0.length : Int) 0
set_option maxHeartbeats 8000000 in
set_option maxRecDepth 100000 in
theorem slices_Index_int_int.calls (k : Nat) (A0 : Option Addr) (c0 : Nat) (l0 : List Int) (a1 : Int) (r : Int) (w : World) (hr0 : Kd.C (Kd.int .i64) w A0 l0.length l0) (hc0 : l0.length ≤ c0) (h : slices_Index_int_int.f k l0 a1 = some r) :
    Calls Tryz.prog 168 #[.slice A0 l0.length c0, .int .i64 a1] w fun e w' => e = .returned (.int .i64 r) ∧ Drawn0 w w' := by
 have HR0 := aq hr0
 have HC0 := aq hc0
 clear hr0 hc0
 have H : (slices_Index_int_int.l0 k l0 a1 (l0.length : Int) 0) = some r := h
 clear h
 have H' := aq H
 clear H
 go_enter Tryz.func168, Tryz.ntmps168
 go_wp2
 go_loopg [8] k (fun kq v8 w' => ∃ (x8_1 : Int), v8 = .int .i64 x8_1 ∧ Aside0 (slices_Index_int_int.l0 kq l0 a1 (l0.length : Int) x8_1 = some r) ∧ Aside0 (kq ≤ k) ∧ Drawn0 w w')
 case atStart => exact ⟨(0), (by first | rfl | (simp; done) | (simp [*]; done)), H', ⟨Nat.le_refl _⟩, by repeat (first | exact Drawn0.refl _ | apply Drawn0.step)⟩
 case round =>
  clear H'
  try clear c1
  try clear p2
  obtain ⟨x8_1, rfl, HA, HK1, ⟨m1, rfl⟩⟩ := hrel
  cases gk with
  | zero => exact absurd HA.out (by simp [slices_Index_int_int.l0])
  | succ k1 =>
   have H := HA.out
   clear HA
   simp only [slices_Index_int_int.l0] at H
   by_cases c3 : x8_1 < (l0.length : Int)
   ·
    rw [if_pos c3] at H
    have c3b0 : decide (x8_1 < (l0.length : Int)) = true := decide_eq_true c3
    clear c3
    by_cases c4 : 0 ≤ x8_1
    ·
     rw [if_pos c4] at H
     have c4b0 : decide (0 ≤ x8_1) = true := decide_eq_true c4
     clear c4
     by_cases c5 : x8_1 < (l0.length : Int)
     ·
      rw [if_pos c5] at H
      have c5b0 : decide (x8_1 < (l0.length : Int)) = true := decide_eq_true c5
      clear c5
      by_cases c6 : a1 = (rd l0 x8_1)
      ·
       rw [if_pos c6] at H
       have c6b0 : (a1 == (rd l0 x8_1)) = true := beq_iff_eq.mpr c6
       have c6b1 : (a1 != (rd l0 x8_1)) = false := bne_eq_false_iff_eq.mpr c6
       clear c6
       obtain rfl := Option.some.inj H
       have p170 : 0 ≤ (x8_1 : Int) := of_decide_eq_true (by first | (with_reducible assumption) | assumption)
       have q170 : x8_1 < (l0.length : Int) := of_decide_eq_true (by first | (with_reducible assumption) | assumption)
       obtain ⟨ad170, e170, hx170_0⟩ := Kd.at_int HR0.out x8_1 p170 q170
       cases e170
       replace p170 := eq_true p170
       replace q170 := eq_true q170
       go_wp2
       go_ret
       exact ⟨by first | rfl | (simp; done) | (simp [*]; done), by repeat (first | exact Drawn0.refl _ | apply Drawn0.step)⟩
      ·
       rw [if_neg c6] at H
       have c6b0 : (a1 == (rd l0 x8_1)) = false := beq_eq_false_iff_ne.mpr c6
       have c6b1 : (a1 != (rd l0 x8_1)) = true := bne_iff_ne.mpr c6
       have H' := aq H
       clear H
       have p170 : 0 ≤ (x8_1 : Int) := of_decide_eq_true (by first | (with_reducible assumption) | assumption)
       have q170 : x8_1 < (l0.length : Int) := of_decide_eq_true (by first | (with_reducible assumption) | assumption)
       obtain ⟨ad170, e170, hx170_0⟩ := Kd.at_int HR0.out x8_1 p170 q170
       cases e170
       replace p170 := eq_true p170
       replace q170 := eq_true q170
       go_wp2
       go_roundg k1
       case measure => have := HK1.out; omega
       case rel => exact ⟨(wrap64 (x8_1 + 1)), (by first | rfl | (simp; done) | (simp [*]; done)), H', ⟨by have := HK1.out; omega⟩, by repeat (first | exact Drawn0.refl _ | apply Drawn0.step)⟩
     ·
      rw [if_neg c5] at H
      exact absurd H (by simp)
    ·
     rw [if_neg c4] at H
     exact absurd H (by simp)
   ·
    rw [if_neg c3] at H
    have c3b0 : decide (x8_1 < (l0.length : Int)) = false := decide_eq_false c3
    clear c3
    obtain rfl := Option.some.inj H
    go_wp2
    go_ret
    exact ⟨by first | rfl | (simp; done) | (simp [*]; done), by repeat (first | exact Drawn0.refl _ | apply Drawn0.step)⟩
def slices_Contains_int_int.f (k : Nat) (l0 : List Int) (a1 : Int) : Option (Bool) := (slices_Index_int_int.f k l0 a1).bind fun t171 => (some (decide (t171 ≥ 0)))
set_option maxHeartbeats 8000000 in
set_option maxRecDepth 100000 in
theorem slices_Contains_int_int.calls (k : Nat) (A0 : Option Addr) (c0 : Nat) (l0 : List Int) (a1 : Int) (r : Bool) (w : World) (hr0 : Kd.C (Kd.int .i64) w A0 l0.length l0) (hc0 : l0.length ≤ c0) (h : slices_Contains_int_int.f k l0 a1 = some r) :
    Calls Tryz.prog 86 #[.slice A0 l0.length c0, .int .i64 a1] w fun e w' => e = .returned (.bool r) ∧ Drawn0 w w' := by
 have HR0 := aq hr0
 have HC0 := aq hc0
 clear hr0 hc0
 have H : ((slices_Index_int_int.f k l0 a1).bind fun t171 => (some (decide (t171 ≥ 0)))) = some r := h
 clear h
 replace H := Option.bind_eq_some_iff.mp H
 obtain ⟨t171, A30, H⟩ := H
 replace H : (some (decide (t171 ≥ 0))) = some r := H
 have A3 := aq A30
 clear A30
 obtain rfl := Option.some.inj H
 go_enter Tryz.func86, Tryz.ntmps86
 go_wp2_with (first | ((with_reducible refine gate_callee (f := 168) rfl ?_); refine goesL_ (some 7) rfl rfl Tryz.func168 (by kernel_rfl) rfl #[.slice A0 l0.length c0, .int .i64 a1] rfl (by (try simp only [List.map_toArray, List.map_cons, List.map_nil]); first | done | rfl | (simp only [List.length_drop, List.length_take]; rfl)) ?_; (with_reducible refine (slices_Index_int_int.calls k _ _ l0 a1 t171 _ ?side1 ?side2 A3.out).mono ?_); (case side1 => repeat (first | exact HR0.out | (with_reducible refine Kd.C_alloc ?_ _) | (with_reducible refine Kd.C_drewN ?_ _) | (with_reducible refine Kd.C_drew ?_))); (case side2 => exact HC0.out); rintro e w' ⟨rfl, ⟨nd, rfl⟩⟩; refine ⟨_, rfl, ?_⟩))
 go_ret
 exact ⟨by first | rfl | (simp; done) | (simp [*]; done), by repeat (first | exact Drawn0.refl _ | apply Drawn0.step)⟩
def inst_keeps.f (k : Nat) (a0 : Int) : Option (Bool) := (slices_Contains_int_int.f k (([23, 25, 32, 33] : List Int)) a0).bind fun t175 => (some t175)
set_option maxHeartbeats 8000000 in
set_option maxRecDepth 100000 in
theorem inst_keeps.calls (k : Nat) (a0 : Int) (r : Bool) (w : World) (h : inst_keeps.f k a0 = some r) :
    Calls Tryz.prog 87 #[.int .i64 a0] w fun e w' => e = .returned (.bool r) ∧ Below w.heap.size w w' := by
 have HB := aq (Below.refl w.heap.size w)
 have H : ((slices_Contains_int_int.f k (([23, 25, 32, 33] : List Int)) a0).bind fun t175 => (some t175)) = some r := h
 clear h
 obtain ⟨y172, hy172⟩ : ∃ y_ : List Int, y_ = (([23, 25, 32, 33] : List Int)) := ⟨_, rfl⟩
 replace H : ((slices_Contains_int_int.f k y172 a0).bind fun t175 => (some t175)) = some r := by first | (rw [hy172]; with_reducible exact H) | (have H2_ := (Option.bind_some _ _).symm.trans H; rw [hy172]; with_reducible exact H2_) | (have H2_ := (Option.bind_some _ _).symm.trans H; with_reducible exact H2_) | with_reducible exact H | (rw [hy172]; exact H) | exact H
 have Ny172 := aq hy172
 clear hy172
 replace H := Option.bind_eq_some_iff.mp H
 obtain ⟨t175, A20, H⟩ := H
 replace H : (some t175) = some r := H
 have A2 := aq A20
 clear A20
 obtain rfl := Option.some.inj H
 go_enter Tryz.func87, Tryz.ntmps87
 go_wp2_with (first | ((with_reducible refine gate_dst (N := 3) rfl ?_); refine Kd.R_lit (Kd.int .i64) _ 3 ?hg (N := 3) ?hd (xs := ([23, 25, 32, 33] : List Int)) (inner := [.int .i64 23, .int .i64 25, .int .i64 32, .int .i64 33]) (ok := fun _ => True) (okp := fun _ => True) ?hr ?hp (fun _ hk => hk) trivial (Below.refl _ _) (Nat.le_refl _) (by simp) ?_; (case hd => rfl); (case hg => rfl); (case hr => first | (go_simp; done) | (go_simp; rfl)); (case hp => exact (Reps.one (show Kd.M (Kd.int .i64) _ _ _ 23 [.int .i64 23] from rfl) (Reps.one (show Kd.M (Kd.int .i64) _ _ _ 25 [.int .i64 25] from rfl) (Reps.one (show Kd.M (Kd.int .i64) _ _ _ 32 [.int .i64 32] from rfl) (Reps.one (show Kd.M (Kd.int .i64) _ _ _ 33 [.int .i64 33] from rfl) (Reps.none _ _)))))); intro v173 w3 ho4 hb hg_ hnew_; clear hg_ hnew_; (first | rw [← Ny172.out] at ho4 | (simp only [Int.reduceToNat] at ho4; rw [← Ny172.out] at ho4)); have n0_ := aq (Kd.R_lower ho4 (below_size (by repeat (first | (with_reducible first | exact HB.out | apply below_alloc | apply pw_below_drewN | apply below_drew1) | exact HB.out)))); have n1_ := aq (below_step (by repeat (first | (with_reducible first | exact HB.out | apply below_alloc | apply pw_below_drewN | apply below_drew1) | exact HB.out)) hb); clear HB; have HO174 := n0_; have HB := n1_; clear n0_ n1_; clear hb ho4; obtain ⟨Ao5, co5, eo5⟩ := Kd.R_slice HO174.out; subst eo5) | ((with_reducible refine gate_callee (f := 86) rfl ?_); refine goesL_ (some 5) rfl rfl Tryz.func86 (by kernel_rfl) rfl #[.slice Ao5 y172.length co5, .int .i64 a0] rfl (by (try simp only [List.map_toArray, List.map_cons, List.map_nil]); first | done | rfl | (simp only [List.length_drop, List.length_take]; rfl)) ?_; (with_reducible refine (slices_Contains_int_int.calls k _ _ y172 a0 t175 _ ?side1 ?side2 A2.out).mono ?_); (case side1 => repeat (first | exact (Kd.R_reads' HO174.out).2.2 | (with_reducible refine Kd.C_alloc ?_ _) | (with_reducible refine Kd.C_drewN ?_ _) | (with_reducible refine Kd.C_drew ?_))); (case side2 => exact (Kd.R_reads' HO174.out).2.1); rintro e w' ⟨rfl, ⟨nd, rfl⟩⟩; refine ⟨_, rfl, ?_⟩))
 go_ret
 exact ⟨by first | rfl | (simp [errW_none, errW_some] <;> rfl) | (simp [*, errW_none, errW_some] <;> rfl), by repeat (first | (with_reducible first | exact HB.out | apply below_alloc | apply pw_below_drewN | apply below_drew1) | exact HB.out)⟩
mutual
def inst_Writes.j0 : Nat → Bool → Bool → Int → Int → Int → Int → Int → Int → Int → Int → Int → Int → Option (Int × Bool)
 | 0, _, _, _, _, _, _, _, _, _, _, _, _ => none
 | k + 1, x4, x9, x177000, x177001, x177002, x177003, x177004, x177005, x177006, x177007, x177008, x177009 => if x9 = true then (some (0, false)) else (if x177000 = 30 then (inst_Writes.j1 k x4 true x177000 x177001 x177002 x177003 x177004 x177005 x177006 x177007 x177008 x177009) else (inst_Writes.j1 k x4 (x177000 == 35) x177000 x177001 x177002 x177003 x177004 x177005 x177006 x177007 x177008 x177009))
def inst_Writes.j1 : Nat → Bool → Bool → Int → Int → Int → Int → Int → Int → Int → Int → Int → Int → Option (Int × Bool)
 | 0, _, _, _, _, _, _, _, _, _, _, _, _ => none
 | k + 1, x4, x18, x177000, x177001, x177002, x177003, x177004, x177005, x177006, x177007, x177008, x177009 => if x18 = true then (some (30, true)) else ((inst_Shape.f x177000).bind fun t183 => ((inst_shapeOf.f t183).bind fun bt184 => (if bt184.1 = true then (if x177001 = 31 then (inst_Writes.j2 k (!x4) x177000 x177001 x177002 x177003 x177004 x177005 x177006 x177007 x177008 x177009) else (inst_Writes.j2 k false x177000 x177001 x177002 x177003 x177004 x177005 x177006 x177007 x177008 x177009)) else (inst_Writes.j2 k true x177000 x177001 x177002 x177003 x177004 x177005 x177006 x177007 x177008 x177009))))
def inst_Writes.j2 : Nat → Bool → Int → Int → Int → Int → Int → Int → Int → Int → Int → Int → Option (Int × Bool)
 | 0, _, _, _, _, _, _, _, _, _, _, _ => none
 | k + 1, x27, x177000, x177001, x177002, x177003, x177004, x177005, x177006, x177007, x177008, x177009 => if x27 = true then (some (0, false)) else (some (x177001, true))
end
def inst_Writes.f (k : Nat) (a0_0 : Int) (a0_1 : Int) (a0_2 : Int) (a0_3 : Int) (a0_4 : Int) (a0_5 : Int) (a0_6 : Int) (a0_7 : Int) (a0_8 : Int) (a0_9 : Int) : Option (Int × Bool) := (slices_Contains_int_int.f k (([4, 5, 8, 9, 10] : List Int)) a0_0).bind fun t180 => ((inst_Is.f k a0_0 a0_1 a0_2 a0_3 a0_4 a0_5 a0_6 a0_7 a0_8 a0_9).bind fun t181 => (if t181 = true then ((inst_keeps.f k a0_0).bind fun t182 => (inst_Writes.j0 k t180 t182 a0_0 a0_1 a0_2 a0_3 a0_4 a0_5 a0_6 a0_7 a0_8 a0_9)) else (inst_Writes.j0 k t180 true a0_0 a0_1 a0_2 a0_3 a0_4 a0_5 a0_6 a0_7 a0_8 a0_9)))
set_option maxHeartbeats 8000000 in
set_option maxRecDepth 100000 in
theorem inst_Writes.calls (k : Nat) (a0_0 : Int) (a0_1 : Int) (a0_2 : Int) (a0_3 : Int) (a0_4 : Int) (a0_5 : Int) (a0_6 : Int) (a0_7 : Int) (a0_8 : Int) (a0_9 : Int) (r1 : Int) (r2 : Bool) (w : World) (h : inst_Writes.f k a0_0 a0_1 a0_2 a0_3 a0_4 a0_5 a0_6 a0_7 a0_8 a0_9 = some (r1, r2)) (hTab : TabW w := by first | exact hTab | exact TabW.drew hTab | exact TabW.drewN hTab _ | exact TabW.below hTab (by repeat (first | (with_reducible first | exact HB.out | apply below_alloc | apply pw_below_drewN | apply below_drew1) | refine Below.setCell ?_ (Aside0.out (by assumption)) _ | exact HB.out | exact Below.refl _ _))) :
    Calls Tryz.prog 29 #[.agg #[.int .i64 a0_0, .int .i64 a0_1, .int .i64 a0_2, .int .i64 a0_3, .int .i64 a0_4, .int .i64 a0_5, .int .u64 a0_6, .int .i64 a0_7, .int .i64 a0_8, .int .i64 a0_9]] w fun e w' => e = .returned (.tuple #[.int .i64 r1, .bool r2]) ∧ Below w.heap.size w w' := by
 have hu51 := Tryz.underlying51
 have HB := aq (Below.refl w.heap.size w)
 have H : ((slices_Contains_int_int.f k (([4, 5, 8, 9, 10] : List Int)) a0_0).bind fun t180 => ((inst_Is.f k a0_0 a0_1 a0_2 a0_3 a0_4 a0_5 a0_6 a0_7 a0_8 a0_9).bind fun t181 => (if t181 = true then ((inst_keeps.f k a0_0).bind fun t182 => (inst_Writes.j0 k t180 t182 a0_0 a0_1 a0_2 a0_3 a0_4 a0_5 a0_6 a0_7 a0_8 a0_9)) else (inst_Writes.j0 k t180 true a0_0 a0_1 a0_2 a0_3 a0_4 a0_5 a0_6 a0_7 a0_8 a0_9)))) = some (r1, r2) := h
 clear h
 obtain ⟨y177, hy177⟩ : ∃ y_ : List Int, y_ = (([4, 5, 8, 9, 10] : List Int)) := ⟨_, rfl⟩
 replace H : ((slices_Contains_int_int.f k y177 a0_0).bind fun t180 => ((inst_Is.f k a0_0 a0_1 a0_2 a0_3 a0_4 a0_5 a0_6 a0_7 a0_8 a0_9).bind fun t181 => (if t181 = true then ((inst_keeps.f k a0_0).bind fun t182 => (inst_Writes.j0 k t180 t182 a0_0 a0_1 a0_2 a0_3 a0_4 a0_5 a0_6 a0_7 a0_8 a0_9)) else (inst_Writes.j0 k t180 true a0_0 a0_1 a0_2 a0_3 a0_4 a0_5 a0_6 a0_7 a0_8 a0_9)))) = some (r1, r2) := by first | (rw [hy177]; with_reducible exact H) | (have H2_ := (Option.bind_some _ _).symm.trans H; rw [hy177]; with_reducible exact H2_) | (have H2_ := (Option.bind_some _ _).symm.trans H; with_reducible exact H2_) | with_reducible exact H | (rw [hy177]; exact H) | exact H
 have Ny177 := aq hy177
 clear hy177
 replace H := Option.bind_eq_some_iff.mp H
 obtain ⟨t180, A20, H⟩ := H
 replace H : ((inst_Is.f k a0_0 a0_1 a0_2 a0_3 a0_4 a0_5 a0_6 a0_7 a0_8 a0_9).bind fun t181 => (if t181 = true then ((inst_keeps.f k a0_0).bind fun t182 => (inst_Writes.j0 k t180 t182 a0_0 a0_1 a0_2 a0_3 a0_4 a0_5 a0_6 a0_7 a0_8 a0_9)) else (inst_Writes.j0 k t180 true a0_0 a0_1 a0_2 a0_3 a0_4 a0_5 a0_6 a0_7 a0_8 a0_9))) = some (r1, r2) := H
 have A2 := aq A20
 clear A20
 have HC3 := aq H
 clear H
 go_enter Tryz.func29, Tryz.ntmps29
 go_upto_region 2 with (first | ((with_reducible refine gate_dst (N := 1) rfl ?_); refine box_event ?hg (N := 1) ?hd (cs := #[.int .i64 a0_0, .int .i64 a0_1, .int .i64 a0_2, .int .i64 a0_3, .int .i64 a0_4, .int .i64 a0_5, .int .u64 a0_6, .int .i64 a0_7, .int .i64 a0_8, .int .i64 a0_9]) (t := 51) ?hr ?_; (case hd => rfl); (case hg => rfl); (case hr => first | (go_simp; done) | (go_simp; rfl)); intro gb176 hg w4 hbox hb; have n0_ := aq (below_step (by repeat (first | (with_reducible first | exact HB.out | apply below_alloc | apply pw_below_drewN | apply below_drew1) | exact HB.out)) hb); have n1_ := aq (hbox); have n2_ := aq ((by rw [hg]; exact (below_size (by repeat (first | (with_reducible first | exact HB.out | apply below_alloc | apply pw_below_drewN | apply below_drew1) | exact HB.out))) : w.heap.size ≤ gb176)); have n3_ := aq ((by rw [hg]; exact (below_size (by repeat (first | (with_reducible first | exact HB.out | apply below_alloc | apply pw_below_drewN | apply below_drew1) | exact HB.out))) : w.heap.size ≤ gb176)); clear HB; have HB := n0_; have BK176 := n1_; have GW176 := n2_; have GE176 := n3_; clear n0_ n1_ n2_ n3_; clear hb hbox hg) | ((with_reducible refine gate_dst (N := 5) rfl ?_); refine Kd.R_lit (Kd.int .i64) _ 3 ?hg (N := 5) ?hd (xs := ([4, 5, 8, 9, 10] : List Int)) (inner := [.int .i64 4, .int .i64 5, .int .i64 8, .int .i64 9, .int .i64 10]) (ok := fun _ => True) (okp := fun _ => True) ?hr ?hp (fun _ hk => hk) trivial (Below.refl _ _) (Nat.le_refl _) (by simp) ?_; (case hd => rfl); (case hg => rfl); (case hr => first | (go_simp; done) | (go_simp; rfl)); (case hp => exact (Reps.one (show Kd.M (Kd.int .i64) _ _ _ 4 [.int .i64 4] from rfl) (Reps.one (show Kd.M (Kd.int .i64) _ _ _ 5 [.int .i64 5] from rfl) (Reps.one (show Kd.M (Kd.int .i64) _ _ _ 8 [.int .i64 8] from rfl) (Reps.one (show Kd.M (Kd.int .i64) _ _ _ 9 [.int .i64 9] from rfl) (Reps.one (show Kd.M (Kd.int .i64) _ _ _ 10 [.int .i64 10] from rfl) (Reps.none _ _))))))); intro v178 w5 ho6 hb hg_ hnew_; clear hg_ hnew_; (first | rw [← Ny177.out] at ho6 | (simp only [Int.reduceToNat] at ho6; rw [← Ny177.out] at ho6)); have n0_ := aq (Kd.R_lower ho6 (below_size (by repeat (first | (with_reducible first | exact HB.out | apply below_alloc | apply pw_below_drewN | apply below_drew1 | refine below_set ?_ GE176.out) | exact HB.out)))); have n1_ := aq (blk_below (g := gb176) (o := .cells #[.int .i64 a0_0, .int .i64 a0_1, .int .i64 a0_2, .int .i64 a0_3, .int .i64 a0_4, .int .i64 a0_5, .int .u64 a0_6, .int .i64 a0_7, .int .i64 a0_8, .int .i64 a0_9] 51 (0, 0)) (by (with_reducible repeat (first | refine blk_drewN ?_ _ | refine blk_drew ?_ | refine blk_alloc ?_ _)); exact BK176.out) hb); have n2_ := aq (below_step (by repeat (first | (with_reducible first | exact HB.out | apply below_alloc | apply pw_below_drewN | apply below_drew1 | refine below_set ?_ GE176.out) | exact HB.out)) hb); clear BK176; clear HB; have HO179 := n0_; have BK176 := n1_; have HB := n2_; clear n0_ n1_ n2_; clear hb ho6; obtain ⟨hcz7_0, hcz7_1, hcz7_2, hcz7_3, hcz7_4, hcz7_5, hcz7_6, hcz7_7, hcz7_8, hcz7_9⟩ := cells10_ BK176.out; have hfz7_0 := fun j => blk_frozen BK176.out j; obtain ⟨Ao8, co8, eo8⟩ := Kd.R_slice HO179.out; subst eo8) | ((with_reducible refine gate_callee (f := 86) rfl ?_); refine goesL_ (some 8) rfl rfl Tryz.func86 (by kernel_rfl) rfl #[.slice Ao8 y177.length co8, .int .i64 a0_0] rfl (by (try simp only [List.map_toArray, List.map_cons, List.map_nil]); first | done | rfl | (simp only [List.length_drop, List.length_take]; rfl)) ?_; (with_reducible refine (slices_Contains_int_int.calls k _ _ y177 a0_0 t180 _ ?side1 ?side2 A2.out).mono ?_); (case side1 => repeat (first | exact (Kd.R_reads' HO179.out).2.2 | (with_reducible refine Kd.C_alloc ?_ _) | (with_reducible refine Kd.C_drewN ?_ _) | (with_reducible refine Kd.C_drew ?_))); (case side2 => exact (Kd.R_reads' HO179.out).2.1); rintro e w' ⟨rfl, ⟨nd, rfl⟩⟩; refine ⟨_, rfl, ?_⟩))
 (try simp only [Act.put, List.setIfInBounds_toArray, List.set_cons_zero, List.set_cons_succ])
 go_cut [9] (fun v9 wc => ∃ (kq : Nat) (x9_2 : Bool), v9 = .bool x9_2 ∧ Aside0 (inst_Writes.j0 kq t180 x9_2 a0_0 a0_1 a0_2 a0_3 a0_4 a0_5 a0_6 a0_7 a0_8 a0_9 = some (r1, r2)) ∧ Aside0 (kq ≤ k) ∧ Aside0 (wc.heap[gb176]? = some (.cells #[.int .i64 a0_0, .int .i64 a0_1, .int .i64 a0_2, .int .i64 a0_3, .int .i64 a0_4, .int .i64 a0_5, .int .u64 a0_6, .int .i64 a0_7, .int .i64 a0_8, .int .i64 a0_9] 51 (0, 0))) ∧ Aside0 (Below w.heap.size w wc))
 case first =>
  have H := HC3.out
  clear HC3
  replace H := Option.bind_eq_some_iff.mp H
  obtain ⟨t181, A90, H⟩ := H
  replace H : (if t181 = true then ((inst_keeps.f k a0_0).bind fun t182 => (inst_Writes.j0 k t180 t182 a0_0 a0_1 a0_2 a0_3 a0_4 a0_5 a0_6 a0_7 a0_8 a0_9)) else (inst_Writes.j0 k t180 true a0_0 a0_1 a0_2 a0_3 a0_4 a0_5 a0_6 a0_7 a0_8 a0_9)) = some (r1, r2) := H
  have A9 := aq A90
  clear A90
  by_cases c10 : t181 = true
  ·
   subst c10
   have H1 : ((inst_keeps.f k a0_0).bind fun t182 => (inst_Writes.j0 k t180 t182 a0_0 a0_1 a0_2 a0_3 a0_4 a0_5 a0_6 a0_7 a0_8 a0_9)) = some (r1, r2) := by rw [if_pos rfl] at H; exact H
   clear H
   have H := H1
   clear H1
   replace H := Option.bind_eq_some_iff.mp H
   obtain ⟨t182, A110, H⟩ := H
   replace H : (inst_Writes.j0 k t180 t182 a0_0 a0_1 a0_2 a0_3 a0_4 a0_5 a0_6 a0_7 a0_8 a0_9) = some (r1, r2) := H
   have A11 := aq A110
   clear A110
   have H' := aq H
   clear H
   have hcz12_0 : w5.cell? ⟨gb176, 0, none⟩ = some (.int .i64 a0_0) := (blk_cell BK176.out 0).trans rfl
   have hcz12_1 : w5.cell? ⟨gb176, 1, none⟩ = some (.int .i64 a0_1) := (blk_cell BK176.out 1).trans rfl
   have hcz12_2 : w5.cell? ⟨gb176, 2, none⟩ = some (.int .i64 a0_2) := (blk_cell BK176.out 2).trans rfl
   have hcz12_3 : w5.cell? ⟨gb176, 3, none⟩ = some (.int .i64 a0_3) := (blk_cell BK176.out 3).trans rfl
   have hcz12_4 : w5.cell? ⟨gb176, 4, none⟩ = some (.int .i64 a0_4) := (blk_cell BK176.out 4).trans rfl
   have hcz12_5 : w5.cell? ⟨gb176, 5, none⟩ = some (.int .i64 a0_5) := (blk_cell BK176.out 5).trans rfl
   have hcz12_6 : w5.cell? ⟨gb176, 6, none⟩ = some (.int .u64 a0_6) := (blk_cell BK176.out 6).trans rfl
   have hcz12_7 : w5.cell? ⟨gb176, 7, none⟩ = some (.int .i64 a0_7) := (blk_cell BK176.out 7).trans rfl
   have hcz12_8 : w5.cell? ⟨gb176, 8, none⟩ = some (.int .i64 a0_8) := (blk_cell BK176.out 8).trans rfl
   have hcz12_9 : w5.cell? ⟨gb176, 9, none⟩ = some (.int .i64 a0_9) := (blk_cell BK176.out 9).trans rfl
   have hfz12_0 := blk_frozen BK176.out 0
   have hfz12_1 := blk_frozen BK176.out 1
   have hfz12_2 := blk_frozen BK176.out 2
   have hfz12_3 := blk_frozen BK176.out 3
   have hfz12_4 := blk_frozen BK176.out 4
   have hfz12_5 := blk_frozen BK176.out 5
   have hfz12_6 := blk_frozen BK176.out 6
   have hfz12_7 := blk_frozen BK176.out 7
   have hfz12_8 := blk_frozen BK176.out 8
   have hfz12_9 := blk_frozen BK176.out 9
   go_wp2_with (first | ((with_reducible refine gate_callee (f := 79) rfl ?_); refine goesL_ (some 11) rfl rfl Tryz.func79 (by kernel_rfl) rfl #[.agg #[.int .i64 a0_0, .int .i64 a0_1, .int .i64 a0_2, .int .i64 a0_3, .int .i64 a0_4, .int .i64 a0_5, .int .u64 a0_6, .int .i64 a0_7, .int .i64 a0_8, .int .i64 a0_9]] rfl (by (try simp only [List.map_toArray, List.map_cons, List.map_nil]); first | done | rfl | (simp only [List.length_drop, List.length_take]; rfl)) ?_; (with_reducible refine (inst_Is.calls k a0_0 a0_1 a0_2 a0_3 a0_4 a0_5 a0_6 a0_7 a0_8 a0_9 true _ A9.out).mono ?_); rintro e w13 ⟨rfl, hb⟩; refine ⟨_, rfl, ?_⟩; have n0_ := aq (Kd.R_below (by (with_reducible repeat (first | apply Kd.R_alloc | apply Kd.R_drewN | apply Kd.R_drew)); exact HO179.out) hb); have n1_ := aq (blk_below (g := gb176) (o := .cells #[.int .i64 a0_0, .int .i64 a0_1, .int .i64 a0_2, .int .i64 a0_3, .int .i64 a0_4, .int .i64 a0_5, .int .u64 a0_6, .int .i64 a0_7, .int .i64 a0_8, .int .i64 a0_9] 51 (0, 0)) (by (with_reducible repeat (first | refine blk_drewN ?_ _ | refine blk_drew ?_ | refine blk_alloc ?_ _)); exact BK176.out) hb); have n2_ := aq (below_step (by repeat (first | (with_reducible first | exact HB.out | apply below_alloc | apply pw_below_drewN | apply below_drew1 | refine below_set ?_ GE176.out) | exact HB.out)) hb); clear HO179; clear BK176; clear HB; have HO179 := n0_; have BK176 := n1_; have HB := n2_; clear n0_ n1_ n2_; (try clear hb); (try clear hb2); (try clear hk); (try clear hi); obtain ⟨hcz14_0, hcz14_1, hcz14_2, hcz14_3, hcz14_4, hcz14_5, hcz14_6, hcz14_7, hcz14_8, hcz14_9⟩ := cells10_ BK176.out; have hfz14_0 := fun j => blk_frozen BK176.out j) | (go_at_call 87; (with_reducible refine (inst_keeps.calls k a0_0 t182 _ A11.out).mono ?_); rintro e w15 ⟨rfl, hb⟩; have n0_ := aq (Kd.R_below (by (with_reducible repeat (first | apply Kd.R_alloc | apply Kd.R_drewN | apply Kd.R_drew)); exact HO179.out) hb); have n1_ := aq (blk_below (g := gb176) (o := .cells #[.int .i64 a0_0, .int .i64 a0_1, .int .i64 a0_2, .int .i64 a0_3, .int .i64 a0_4, .int .i64 a0_5, .int .u64 a0_6, .int .i64 a0_7, .int .i64 a0_8, .int .i64 a0_9] 51 (0, 0)) (by (with_reducible repeat (first | refine blk_drewN ?_ _ | refine blk_drew ?_ | refine blk_alloc ?_ _)); exact BK176.out) hb); have n2_ := aq (below_step (by repeat (first | (with_reducible first | exact HB.out | apply below_alloc | apply pw_below_drewN | apply below_drew1 | refine below_set ?_ GE176.out) | exact HB.out)) hb); clear HO179; clear BK176; clear HB; have HO179 := n0_; have BK176 := n1_; have HB := n2_; clear n0_ n1_ n2_; (try clear hb); (try clear hb2); (try clear hk); (try clear hi)))
   go_meet
   case rel => exact ⟨_, (t182), (by first | rfl | (simp; done) | (simp [*]; done)), H', ⟨by first | omega | exact Nat.le_refl _⟩, ⟨by (with_reducible repeat (first | refine blk_drewN ?_ _ | refine blk_drew ?_ | refine blk_alloc ?_ _)); exact BK176.out⟩, ⟨by repeat (first | (with_reducible first | exact HB.out | apply below_alloc | apply pw_below_drewN | apply below_drew1 | refine below_set ?_ GE176.out) | exact HB.out)⟩⟩
  ·
   replace c10 := Bool.eq_false_iff.mpr c10
   subst c10
   have H1 : (inst_Writes.j0 k t180 true a0_0 a0_1 a0_2 a0_3 a0_4 a0_5 a0_6 a0_7 a0_8 a0_9) = some (r1, r2) := by rw [if_neg (show ¬ (false = true) by decide)] at H; exact H
   clear H
   have H := H1
   clear H1
   have H' := aq H
   clear H
   have hcz16_0 : w5.cell? ⟨gb176, 0, none⟩ = some (.int .i64 a0_0) := (blk_cell BK176.out 0).trans rfl
   have hcz16_1 : w5.cell? ⟨gb176, 1, none⟩ = some (.int .i64 a0_1) := (blk_cell BK176.out 1).trans rfl
   have hcz16_2 : w5.cell? ⟨gb176, 2, none⟩ = some (.int .i64 a0_2) := (blk_cell BK176.out 2).trans rfl
   have hcz16_3 : w5.cell? ⟨gb176, 3, none⟩ = some (.int .i64 a0_3) := (blk_cell BK176.out 3).trans rfl
   have hcz16_4 : w5.cell? ⟨gb176, 4, none⟩ = some (.int .i64 a0_4) := (blk_cell BK176.out 4).trans rfl
   have hcz16_5 : w5.cell? ⟨gb176, 5, none⟩ = some (.int .i64 a0_5) := (blk_cell BK176.out 5).trans rfl
   have hcz16_6 : w5.cell? ⟨gb176, 6, none⟩ = some (.int .u64 a0_6) := (blk_cell BK176.out 6).trans rfl
   have hcz16_7 : w5.cell? ⟨gb176, 7, none⟩ = some (.int .i64 a0_7) := (blk_cell BK176.out 7).trans rfl
   have hcz16_8 : w5.cell? ⟨gb176, 8, none⟩ = some (.int .i64 a0_8) := (blk_cell BK176.out 8).trans rfl
   have hcz16_9 : w5.cell? ⟨gb176, 9, none⟩ = some (.int .i64 a0_9) := (blk_cell BK176.out 9).trans rfl
   have hfz16_0 := blk_frozen BK176.out 0
   have hfz16_1 := blk_frozen BK176.out 1
   have hfz16_2 := blk_frozen BK176.out 2
   have hfz16_3 := blk_frozen BK176.out 3
   have hfz16_4 := blk_frozen BK176.out 4
   have hfz16_5 := blk_frozen BK176.out 5
   have hfz16_6 := blk_frozen BK176.out 6
   have hfz16_7 := blk_frozen BK176.out 7
   have hfz16_8 := blk_frozen BK176.out 8
   have hfz16_9 := blk_frozen BK176.out 9
   go_wp2_with (first | ((with_reducible refine gate_callee (f := 79) rfl ?_); refine goesL_ (some 11) rfl rfl Tryz.func79 (by kernel_rfl) rfl #[.agg #[.int .i64 a0_0, .int .i64 a0_1, .int .i64 a0_2, .int .i64 a0_3, .int .i64 a0_4, .int .i64 a0_5, .int .u64 a0_6, .int .i64 a0_7, .int .i64 a0_8, .int .i64 a0_9]] rfl (by (try simp only [List.map_toArray, List.map_cons, List.map_nil]); first | done | rfl | (simp only [List.length_drop, List.length_take]; rfl)) ?_; (with_reducible refine (inst_Is.calls k a0_0 a0_1 a0_2 a0_3 a0_4 a0_5 a0_6 a0_7 a0_8 a0_9 false _ A9.out).mono ?_); rintro e w17 ⟨rfl, hb⟩; refine ⟨_, rfl, ?_⟩; have n0_ := aq (Kd.R_below (by (with_reducible repeat (first | apply Kd.R_alloc | apply Kd.R_drewN | apply Kd.R_drew)); exact HO179.out) hb); have n1_ := aq (blk_below (g := gb176) (o := .cells #[.int .i64 a0_0, .int .i64 a0_1, .int .i64 a0_2, .int .i64 a0_3, .int .i64 a0_4, .int .i64 a0_5, .int .u64 a0_6, .int .i64 a0_7, .int .i64 a0_8, .int .i64 a0_9] 51 (0, 0)) (by (with_reducible repeat (first | refine blk_drewN ?_ _ | refine blk_drew ?_ | refine blk_alloc ?_ _)); exact BK176.out) hb); have n2_ := aq (below_step (by repeat (first | (with_reducible first | exact HB.out | apply below_alloc | apply pw_below_drewN | apply below_drew1 | refine below_set ?_ GE176.out) | exact HB.out)) hb); clear HO179; clear BK176; clear HB; have HO179 := n0_; have BK176 := n1_; have HB := n2_; clear n0_ n1_ n2_; (try clear hb); (try clear hb2); (try clear hk); (try clear hi)))
   go_meet
   case rel => exact ⟨_, (true), (by first | rfl | (simp; done) | (simp [*]; done)), H', ⟨by first | omega | exact Nat.le_refl _⟩, ⟨by (with_reducible repeat (first | refine blk_drewN ?_ _ | refine blk_drew ?_ | refine blk_alloc ?_ _)); exact BK176.out⟩, ⟨by repeat (first | (with_reducible first | exact HB.out | apply below_alloc | apply pw_below_drewN | apply below_drew1 | refine below_set ?_ GE176.out) | exact HB.out)⟩⟩
 case rest =>
  clear HC3
  try clear c1
  try clear c2
  try clear p2
  try clear c7
  try clear c8
  try clear c10
  try clear hcz12_0 hcz12_1 hcz12_2 hcz12_3 hcz12_4 hcz12_5 hcz12_6 hcz12_7 hcz12_8 hcz12_9
  try clear hcz14_0 hcz14_1 hcz14_2 hcz14_3 hcz14_4 hcz14_5 hcz14_6 hcz14_7 hcz14_8 hcz14_9
  try clear hcz16_0 hcz16_1 hcz16_2 hcz16_3 hcz16_4 hcz16_5 hcz16_6 hcz16_7 hcz16_8 hcz16_9
  try clear hcz7_0 hcz7_1 hcz7_2 hcz7_3 hcz7_4 hcz7_5 hcz7_6 hcz7_7 hcz7_8 hcz7_9
  try clear hfz12_0
  try clear hfz14_0
  try clear hfz16_0
  try clear hfz7_0
  obtain ⟨kq, x9_2, rfl, HA, HJ2, BK176, HB⟩ := hcut
  cases kq with
  | zero => exact absurd HA.out (by simp [inst_Writes.j0])
  | succ kj2 =>
   have H := HA.out
   clear HA
   simp only [inst_Writes.j0] at H
   by_cases c18 : x9_2 = true
   ·
    subst c18
    have H1 : (some (0, false)) = some (r1, r2) := by rw [if_pos rfl] at H; exact H
    clear H
    have H := H1
    clear H1
    simp only [Option.some.injEq, Prod.mk.injEq] at H
    obtain ⟨rfl, rfl⟩ := H
    go_wp2
    go_ret2
    exact ⟨by first | rfl | (simp [errW_none, errW_some] <;> rfl) | (simp [*, errW_none, errW_some] <;> rfl), by repeat (first | (with_reducible first | exact HB.out | apply below_alloc | apply pw_below_drewN | apply below_drew1 | refine below_set ?_ GE176.out) | exact HB.out)⟩
   ·
    replace c18 := Bool.eq_false_iff.mpr c18
    subst c18
    have H1 : (if a0_0 = 30 then (inst_Writes.j1 kj2 t180 true a0_0 a0_1 a0_2 a0_3 a0_4 a0_5 a0_6 a0_7 a0_8 a0_9) else (inst_Writes.j1 kj2 t180 (a0_0 == 35) a0_0 a0_1 a0_2 a0_3 a0_4 a0_5 a0_6 a0_7 a0_8 a0_9)) = some (r1, r2) := by rw [if_neg (show ¬ (false = true) by decide)] at H; exact H
    clear H
    have H := H1
    clear H1
    have HC19 := aq H
    clear H
    go_upto_region 4 with (fail)
    go_cut [18] (fun v18 wc => ∃ (kq : Nat) (x18_18 : Bool), v18 = .bool x18_18 ∧ Aside0 (inst_Writes.j1 kq t180 x18_18 a0_0 a0_1 a0_2 a0_3 a0_4 a0_5 a0_6 a0_7 a0_8 a0_9 = some (r1, r2)) ∧ Aside0 (kq ≤ kj2) ∧ Aside0 (wc.heap[gb176]? = some (.cells #[.int .i64 a0_0, .int .i64 a0_1, .int .i64 a0_2, .int .i64 a0_3, .int .i64 a0_4, .int .i64 a0_5, .int .u64 a0_6, .int .i64 a0_7, .int .i64 a0_8, .int .i64 a0_9] 51 (0, 0))) ∧ Aside0 (Below w.heap.size w wc))
    case first =>
     have H := HC19.out
     clear HC19
     by_cases c20 : a0_0 = 30
     ·
      rw [if_pos c20] at H
      have c20b0 : (a0_0 == 30) = true := beq_iff_eq.mpr c20
      have c20b1 : (a0_0 != 30) = false := bne_eq_false_iff_eq.mpr c20
      clear c20
      (first | rw [c20b0] | (simp only [i64_w, i32_w]; rw [c20b0]) | skip)
      have H' := aq H
      clear H
      have hcz21_0 : wc.cell? ⟨gb176, 0, none⟩ = some (.int .i64 a0_0) := (blk_cell BK176.out 0).trans rfl
      have hcz21_1 : wc.cell? ⟨gb176, 1, none⟩ = some (.int .i64 a0_1) := (blk_cell BK176.out 1).trans rfl
      have hcz21_2 : wc.cell? ⟨gb176, 2, none⟩ = some (.int .i64 a0_2) := (blk_cell BK176.out 2).trans rfl
      have hcz21_3 : wc.cell? ⟨gb176, 3, none⟩ = some (.int .i64 a0_3) := (blk_cell BK176.out 3).trans rfl
      have hcz21_4 : wc.cell? ⟨gb176, 4, none⟩ = some (.int .i64 a0_4) := (blk_cell BK176.out 4).trans rfl
      have hcz21_5 : wc.cell? ⟨gb176, 5, none⟩ = some (.int .i64 a0_5) := (blk_cell BK176.out 5).trans rfl
      have hcz21_6 : wc.cell? ⟨gb176, 6, none⟩ = some (.int .u64 a0_6) := (blk_cell BK176.out 6).trans rfl
      have hcz21_7 : wc.cell? ⟨gb176, 7, none⟩ = some (.int .i64 a0_7) := (blk_cell BK176.out 7).trans rfl
      have hcz21_8 : wc.cell? ⟨gb176, 8, none⟩ = some (.int .i64 a0_8) := (blk_cell BK176.out 8).trans rfl
      have hcz21_9 : wc.cell? ⟨gb176, 9, none⟩ = some (.int .i64 a0_9) := (blk_cell BK176.out 9).trans rfl
      have hfz21_0 := blk_frozen BK176.out 0
      have hfz21_1 := blk_frozen BK176.out 1
      have hfz21_2 := blk_frozen BK176.out 2
      have hfz21_3 := blk_frozen BK176.out 3
      have hfz21_4 := blk_frozen BK176.out 4
      have hfz21_5 := blk_frozen BK176.out 5
      have hfz21_6 := blk_frozen BK176.out 6
      have hfz21_7 := blk_frozen BK176.out 7
      have hfz21_8 := blk_frozen BK176.out 8
      have hfz21_9 := blk_frozen BK176.out 9
      go_wp2
      go_meet
      case rel => exact ⟨_, (true), (by first | rfl | (simp; done) | (simp [*]; done)), H', ⟨by have := HJ2.out; first | omega | exact Nat.le_refl _⟩, ⟨by (with_reducible repeat (first | refine blk_drewN ?_ _ | refine blk_drew ?_ | refine blk_alloc ?_ _)); exact BK176.out⟩, ⟨by repeat (first | (with_reducible first | exact HB.out | apply below_alloc | apply pw_below_drewN | apply below_drew1 | refine below_set ?_ GE176.out) | exact HB.out)⟩⟩
     ·
      rw [if_neg c20] at H
      have c20b0 : (a0_0 == 30) = false := beq_eq_false_iff_ne.mpr c20
      have c20b1 : (a0_0 != 30) = true := bne_iff_ne.mpr c20
      (first | rw [c20b0] | (simp only [i64_w, i32_w]; rw [c20b0]) | skip)
      have H' := aq H
      clear H
      have hcz22_0 : wc.cell? ⟨gb176, 0, none⟩ = some (.int .i64 a0_0) := (blk_cell BK176.out 0).trans rfl
      have hcz22_1 : wc.cell? ⟨gb176, 1, none⟩ = some (.int .i64 a0_1) := (blk_cell BK176.out 1).trans rfl
      have hcz22_2 : wc.cell? ⟨gb176, 2, none⟩ = some (.int .i64 a0_2) := (blk_cell BK176.out 2).trans rfl
      have hcz22_3 : wc.cell? ⟨gb176, 3, none⟩ = some (.int .i64 a0_3) := (blk_cell BK176.out 3).trans rfl
      have hcz22_4 : wc.cell? ⟨gb176, 4, none⟩ = some (.int .i64 a0_4) := (blk_cell BK176.out 4).trans rfl
      have hcz22_5 : wc.cell? ⟨gb176, 5, none⟩ = some (.int .i64 a0_5) := (blk_cell BK176.out 5).trans rfl
      have hcz22_6 : wc.cell? ⟨gb176, 6, none⟩ = some (.int .u64 a0_6) := (blk_cell BK176.out 6).trans rfl
      have hcz22_7 : wc.cell? ⟨gb176, 7, none⟩ = some (.int .i64 a0_7) := (blk_cell BK176.out 7).trans rfl
      have hcz22_8 : wc.cell? ⟨gb176, 8, none⟩ = some (.int .i64 a0_8) := (blk_cell BK176.out 8).trans rfl
      have hcz22_9 : wc.cell? ⟨gb176, 9, none⟩ = some (.int .i64 a0_9) := (blk_cell BK176.out 9).trans rfl
      have hfz22_0 := blk_frozen BK176.out 0
      have hfz22_1 := blk_frozen BK176.out 1
      have hfz22_2 := blk_frozen BK176.out 2
      have hfz22_3 := blk_frozen BK176.out 3
      have hfz22_4 := blk_frozen BK176.out 4
      have hfz22_5 := blk_frozen BK176.out 5
      have hfz22_6 := blk_frozen BK176.out 6
      have hfz22_7 := blk_frozen BK176.out 7
      have hfz22_8 := blk_frozen BK176.out 8
      have hfz22_9 := blk_frozen BK176.out 9
      go_wp2
      go_meet
      case rel => exact ⟨_, ((a0_0 == 35)), (by first | rfl | (simp; done) | (simp [*]; done)), H', ⟨by have := HJ2.out; first | omega | exact Nat.le_refl _⟩, ⟨by (with_reducible repeat (first | refine blk_drewN ?_ _ | refine blk_drew ?_ | refine blk_alloc ?_ _)); exact BK176.out⟩, ⟨by repeat (first | (with_reducible first | exact HB.out | apply below_alloc | apply pw_below_drewN | apply below_drew1 | refine below_set ?_ GE176.out) | exact HB.out)⟩⟩
    case rest =>
     clear HC19
     try clear c1
     try clear c2
     try clear p2
     try clear c7
     try clear c8
     try clear c10
     try clear c18
     try clear c20
     try clear c20b0
     try clear c20b1
     try clear hcz12_0 hcz12_1 hcz12_2 hcz12_3 hcz12_4 hcz12_5 hcz12_6 hcz12_7 hcz12_8 hcz12_9
     try clear hcz14_0 hcz14_1 hcz14_2 hcz14_3 hcz14_4 hcz14_5 hcz14_6 hcz14_7 hcz14_8 hcz14_9
     try clear hcz16_0 hcz16_1 hcz16_2 hcz16_3 hcz16_4 hcz16_5 hcz16_6 hcz16_7 hcz16_8 hcz16_9
     try clear hcz21_0 hcz21_1 hcz21_2 hcz21_3 hcz21_4 hcz21_5 hcz21_6 hcz21_7 hcz21_8 hcz21_9
     try clear hcz22_0 hcz22_1 hcz22_2 hcz22_3 hcz22_4 hcz22_5 hcz22_6 hcz22_7 hcz22_8 hcz22_9
     try clear hcz7_0 hcz7_1 hcz7_2 hcz7_3 hcz7_4 hcz7_5 hcz7_6 hcz7_7 hcz7_8 hcz7_9
     try clear hfz12_0
     try clear hfz14_0
     try clear hfz16_0
     try clear hfz21_0
     try clear hfz22_0
     try clear hfz7_0
     try clear p2
     obtain ⟨kq, x18_18, rfl, HA, HJ18, BK176, HB⟩ := hcut
     cases kq with
     | zero => exact absurd HA.out (by simp [inst_Writes.j1])
     | succ kj18 =>
      have H := HA.out
      clear HA
      simp only [inst_Writes.j1] at H
      by_cases c23 : x18_18 = true
      ·
       subst c23
       have H1 : (some (30, true)) = some (r1, r2) := by rw [if_pos rfl] at H; exact H
       clear H
       have H := H1
       clear H1
       simp only [Option.some.injEq, Prod.mk.injEq] at H
       obtain ⟨rfl, rfl⟩ := H
       go_wp2
       go_ret2
       exact ⟨by first | rfl | (simp [errW_none, errW_some] <;> rfl) | (simp [*, errW_none, errW_some] <;> rfl), by repeat (first | (with_reducible first | exact HB.out | apply below_alloc | apply pw_below_drewN | apply below_drew1 | refine below_set ?_ GE176.out) | exact HB.out)⟩
      ·
       replace c23 := Bool.eq_false_iff.mpr c23
       subst c23
       have H1 : ((inst_Shape.f a0_0).bind fun t183 => ((inst_shapeOf.f t183).bind fun bt184 => (if bt184.1 = true then (if a0_1 = 31 then (inst_Writes.j2 kj18 (!t180) a0_0 a0_1 a0_2 a0_3 a0_4 a0_5 a0_6 a0_7 a0_8 a0_9) else (inst_Writes.j2 kj18 false a0_0 a0_1 a0_2 a0_3 a0_4 a0_5 a0_6 a0_7 a0_8 a0_9)) else (inst_Writes.j2 kj18 true a0_0 a0_1 a0_2 a0_3 a0_4 a0_5 a0_6 a0_7 a0_8 a0_9)))) = some (r1, r2) := by rw [if_neg (show ¬ (false = true) by decide)] at H; exact H
       clear H
       have H := H1
       clear H1
       have HC24 := aq H
       clear H
       go_upto_region 6 with (fail)
       go_cut [27] (fun v27 wc => ∃ (kq : Nat) (x27_23 : Bool), v27 = .bool x27_23 ∧ Aside0 (inst_Writes.j2 kq x27_23 a0_0 a0_1 a0_2 a0_3 a0_4 a0_5 a0_6 a0_7 a0_8 a0_9 = some (r1, r2)) ∧ Aside0 (kq ≤ kj18) ∧ Aside0 (wc.heap[gb176]? = some (.cells #[.int .i64 a0_0, .int .i64 a0_1, .int .i64 a0_2, .int .i64 a0_3, .int .i64 a0_4, .int .i64 a0_5, .int .u64 a0_6, .int .i64 a0_7, .int .i64 a0_8, .int .i64 a0_9] 51 (0, 0))) ∧ Aside0 (Below w.heap.size w wc))
       case first =>
        have H := HC24.out
        clear HC24
        replace H := Option.bind_eq_some_iff.mp H
        obtain ⟨t183, A250, H⟩ := H
        replace H : ((inst_shapeOf.f t183).bind fun bt184 => (if bt184.1 = true then (if a0_1 = 31 then (inst_Writes.j2 kj18 (!t180) a0_0 a0_1 a0_2 a0_3 a0_4 a0_5 a0_6 a0_7 a0_8 a0_9) else (inst_Writes.j2 kj18 false a0_0 a0_1 a0_2 a0_3 a0_4 a0_5 a0_6 a0_7 a0_8 a0_9)) else (inst_Writes.j2 kj18 true a0_0 a0_1 a0_2 a0_3 a0_4 a0_5 a0_6 a0_7 a0_8 a0_9))) = some (r1, r2) := H
        have A25 := aq A250
        clear A250
        replace H := Option.bind_eq_some_iff.mp H
        obtain ⟨⟨t184, t185, t186, t187, t188, t189, t190, t191, t192, t193, t194, t195⟩, A260, H⟩ := H
        replace H : (if t184 = true then (if a0_1 = 31 then (inst_Writes.j2 kj18 (!t180) a0_0 a0_1 a0_2 a0_3 a0_4 a0_5 a0_6 a0_7 a0_8 a0_9) else (inst_Writes.j2 kj18 false a0_0 a0_1 a0_2 a0_3 a0_4 a0_5 a0_6 a0_7 a0_8 a0_9)) else (inst_Writes.j2 kj18 true a0_0 a0_1 a0_2 a0_3 a0_4 a0_5 a0_6 a0_7 a0_8 a0_9)) = some (r1, r2) := H
        have A26 := aq A260
        clear A260
        by_cases c27 : t184 = true
        ·
         subst c27
         have H1 : (if a0_1 = 31 then (inst_Writes.j2 kj18 (!t180) a0_0 a0_1 a0_2 a0_3 a0_4 a0_5 a0_6 a0_7 a0_8 a0_9) else (inst_Writes.j2 kj18 false a0_0 a0_1 a0_2 a0_3 a0_4 a0_5 a0_6 a0_7 a0_8 a0_9)) = some (r1, r2) := by rw [if_pos rfl] at H; exact H
         clear H
         have H := H1
         clear H1
         by_cases c28 : a0_1 = 31
         ·
          rw [if_pos c28] at H
          have c28b0 : (a0_1 == 31) = true := beq_iff_eq.mpr c28
          have c28b1 : (a0_1 != 31) = false := bne_eq_false_iff_eq.mpr c28
          clear c28
          (first | rw [c28b0] | (simp only [i64_w, i32_w]; rw [c28b0]) | skip)
          have H' := aq H
          clear H
          have hcz29_0 : wc.cell? ⟨gb176, 0, none⟩ = some (.int .i64 a0_0) := (blk_cell BK176.out 0).trans rfl
          have hcz29_1 : wc.cell? ⟨gb176, 1, none⟩ = some (.int .i64 a0_1) := (blk_cell BK176.out 1).trans rfl
          have hcz29_2 : wc.cell? ⟨gb176, 2, none⟩ = some (.int .i64 a0_2) := (blk_cell BK176.out 2).trans rfl
          have hcz29_3 : wc.cell? ⟨gb176, 3, none⟩ = some (.int .i64 a0_3) := (blk_cell BK176.out 3).trans rfl
          have hcz29_4 : wc.cell? ⟨gb176, 4, none⟩ = some (.int .i64 a0_4) := (blk_cell BK176.out 4).trans rfl
          have hcz29_5 : wc.cell? ⟨gb176, 5, none⟩ = some (.int .i64 a0_5) := (blk_cell BK176.out 5).trans rfl
          have hcz29_6 : wc.cell? ⟨gb176, 6, none⟩ = some (.int .u64 a0_6) := (blk_cell BK176.out 6).trans rfl
          have hcz29_7 : wc.cell? ⟨gb176, 7, none⟩ = some (.int .i64 a0_7) := (blk_cell BK176.out 7).trans rfl
          have hcz29_8 : wc.cell? ⟨gb176, 8, none⟩ = some (.int .i64 a0_8) := (blk_cell BK176.out 8).trans rfl
          have hcz29_9 : wc.cell? ⟨gb176, 9, none⟩ = some (.int .i64 a0_9) := (blk_cell BK176.out 9).trans rfl
          have hfz29_0 := blk_frozen BK176.out 0
          have hfz29_1 := blk_frozen BK176.out 1
          have hfz29_2 := blk_frozen BK176.out 2
          have hfz29_3 := blk_frozen BK176.out 3
          have hfz29_4 := blk_frozen BK176.out 4
          have hfz29_5 := blk_frozen BK176.out 5
          have hfz29_6 := blk_frozen BK176.out 6
          have hfz29_7 := blk_frozen BK176.out 7
          have hfz29_8 := blk_frozen BK176.out 8
          have hfz29_9 := blk_frozen BK176.out 9
          go_wp2_with (first | ((with_reducible refine gate_callee (f := 30) rfl ?_); refine goesL_ (some 30) rfl rfl Tryz.func30 (by kernel_rfl) rfl #[.int .i64 a0_0] rfl (by (try simp only [List.map_toArray, List.map_cons, List.map_nil]); first | done | rfl | (simp only [List.length_drop, List.length_take]; rfl)) ?_; (with_reducible refine (inst_Shape.calls a0_0 t183 _ A25.out).mono ?_); rintro e w30 ⟨rfl, hb⟩; refine ⟨_, rfl, ?_⟩; have n0_ := aq (blk_below (g := gb176) (o := .cells #[.int .i64 a0_0, .int .i64 a0_1, .int .i64 a0_2, .int .i64 a0_3, .int .i64 a0_4, .int .i64 a0_5, .int .u64 a0_6, .int .i64 a0_7, .int .i64 a0_8, .int .i64 a0_9] 51 (0, 0)) (by (with_reducible repeat (first | refine blk_drewN ?_ _ | refine blk_drew ?_ | refine blk_alloc ?_ _)); exact BK176.out) hb); have n1_ := aq (below_step (by repeat (first | (with_reducible first | exact HB.out | apply below_alloc | apply pw_below_drewN | apply below_drew1 | refine below_set ?_ GE176.out) | exact HB.out)) hb); clear BK176; clear HB; have BK176 := n0_; have HB := n1_; clear n0_ n1_; (try clear hb); (try clear hb2); (try clear hk); (try clear hi)) | ((with_reducible refine gate_callee (f := 88) rfl ?_); refine goesL_ (some 31) rfl rfl Tryz.func88 (by kernel_rfl) rfl #[.int .i64 t183] rfl (by (try simp only [List.map_toArray, List.map_cons, List.map_nil]); first | done | rfl | (simp only [List.length_drop, List.length_take]; rfl)) ?_; (with_reducible refine (inst_shapeOf.calls t183 true t185 t186 t187 t188 t189 t190 t191 t192 t193 t194 t195 _ A26.out).mono ?_); rintro e w31 ⟨rfl, hb⟩; refine ⟨_, rfl, ?_⟩; have n0_ := aq (blk_below (g := gb176) (o := .cells #[.int .i64 a0_0, .int .i64 a0_1, .int .i64 a0_2, .int .i64 a0_3, .int .i64 a0_4, .int .i64 a0_5, .int .u64 a0_6, .int .i64 a0_7, .int .i64 a0_8, .int .i64 a0_9] 51 (0, 0)) (by (with_reducible repeat (first | refine blk_drewN ?_ _ | refine blk_drew ?_ | refine blk_alloc ?_ _)); exact BK176.out) hb); have n1_ := aq (below_step (by repeat (first | (with_reducible first | exact HB.out | apply below_alloc | apply pw_below_drewN | apply below_drew1 | refine below_set ?_ GE176.out) | exact HB.out)) hb); clear BK176; clear HB; have BK176 := n0_; have HB := n1_; clear n0_ n1_; (try clear hb); (try clear hb2); (try clear hk); (try clear hi); obtain ⟨hcz32_0, hcz32_1, hcz32_2, hcz32_3, hcz32_4, hcz32_5, hcz32_6, hcz32_7, hcz32_8, hcz32_9⟩ := cells10_ BK176.out; have hfz32_0 := fun j => blk_frozen BK176.out j))
          go_meet
          case rel => exact ⟨_, (!t180), (by first | rfl | (simp; done) | (simp [*]; done)), H', ⟨by have := HJ2.out; have := HJ18.out; first | omega | exact Nat.le_refl _⟩, ⟨by (with_reducible repeat (first | refine blk_drewN ?_ _ | refine blk_drew ?_ | refine blk_alloc ?_ _)); exact BK176.out⟩, ⟨by repeat (first | (with_reducible first | exact HB.out | apply below_alloc | apply pw_below_drewN | apply below_drew1 | refine below_set ?_ GE176.out) | exact HB.out)⟩⟩
         ·
          rw [if_neg c28] at H
          have c28b0 : (a0_1 == 31) = false := beq_eq_false_iff_ne.mpr c28
          have c28b1 : (a0_1 != 31) = true := bne_iff_ne.mpr c28
          (first | rw [c28b0] | (simp only [i64_w, i32_w]; rw [c28b0]) | skip)
          have H' := aq H
          clear H
          have hcz33_0 : wc.cell? ⟨gb176, 0, none⟩ = some (.int .i64 a0_0) := (blk_cell BK176.out 0).trans rfl
          have hcz33_1 : wc.cell? ⟨gb176, 1, none⟩ = some (.int .i64 a0_1) := (blk_cell BK176.out 1).trans rfl
          have hcz33_2 : wc.cell? ⟨gb176, 2, none⟩ = some (.int .i64 a0_2) := (blk_cell BK176.out 2).trans rfl
          have hcz33_3 : wc.cell? ⟨gb176, 3, none⟩ = some (.int .i64 a0_3) := (blk_cell BK176.out 3).trans rfl
          have hcz33_4 : wc.cell? ⟨gb176, 4, none⟩ = some (.int .i64 a0_4) := (blk_cell BK176.out 4).trans rfl
          have hcz33_5 : wc.cell? ⟨gb176, 5, none⟩ = some (.int .i64 a0_5) := (blk_cell BK176.out 5).trans rfl
          have hcz33_6 : wc.cell? ⟨gb176, 6, none⟩ = some (.int .u64 a0_6) := (blk_cell BK176.out 6).trans rfl
          have hcz33_7 : wc.cell? ⟨gb176, 7, none⟩ = some (.int .i64 a0_7) := (blk_cell BK176.out 7).trans rfl
          have hcz33_8 : wc.cell? ⟨gb176, 8, none⟩ = some (.int .i64 a0_8) := (blk_cell BK176.out 8).trans rfl
          have hcz33_9 : wc.cell? ⟨gb176, 9, none⟩ = some (.int .i64 a0_9) := (blk_cell BK176.out 9).trans rfl
          have hfz33_0 := blk_frozen BK176.out 0
          have hfz33_1 := blk_frozen BK176.out 1
          have hfz33_2 := blk_frozen BK176.out 2
          have hfz33_3 := blk_frozen BK176.out 3
          have hfz33_4 := blk_frozen BK176.out 4
          have hfz33_5 := blk_frozen BK176.out 5
          have hfz33_6 := blk_frozen BK176.out 6
          have hfz33_7 := blk_frozen BK176.out 7
          have hfz33_8 := blk_frozen BK176.out 8
          have hfz33_9 := blk_frozen BK176.out 9
          go_wp2_with (first | ((with_reducible refine gate_callee (f := 30) rfl ?_); refine goesL_ (some 30) rfl rfl Tryz.func30 (by kernel_rfl) rfl #[.int .i64 a0_0] rfl (by (try simp only [List.map_toArray, List.map_cons, List.map_nil]); first | done | rfl | (simp only [List.length_drop, List.length_take]; rfl)) ?_; (with_reducible refine (inst_Shape.calls a0_0 t183 _ A25.out).mono ?_); rintro e w34 ⟨rfl, hb⟩; refine ⟨_, rfl, ?_⟩; have n0_ := aq (blk_below (g := gb176) (o := .cells #[.int .i64 a0_0, .int .i64 a0_1, .int .i64 a0_2, .int .i64 a0_3, .int .i64 a0_4, .int .i64 a0_5, .int .u64 a0_6, .int .i64 a0_7, .int .i64 a0_8, .int .i64 a0_9] 51 (0, 0)) (by (with_reducible repeat (first | refine blk_drewN ?_ _ | refine blk_drew ?_ | refine blk_alloc ?_ _)); exact BK176.out) hb); have n1_ := aq (below_step (by repeat (first | (with_reducible first | exact HB.out | apply below_alloc | apply pw_below_drewN | apply below_drew1 | refine below_set ?_ GE176.out) | exact HB.out)) hb); clear BK176; clear HB; have BK176 := n0_; have HB := n1_; clear n0_ n1_; (try clear hb); (try clear hb2); (try clear hk); (try clear hi)) | ((with_reducible refine gate_callee (f := 88) rfl ?_); refine goesL_ (some 31) rfl rfl Tryz.func88 (by kernel_rfl) rfl #[.int .i64 t183] rfl (by (try simp only [List.map_toArray, List.map_cons, List.map_nil]); first | done | rfl | (simp only [List.length_drop, List.length_take]; rfl)) ?_; (with_reducible refine (inst_shapeOf.calls t183 true t185 t186 t187 t188 t189 t190 t191 t192 t193 t194 t195 _ A26.out).mono ?_); rintro e w35 ⟨rfl, hb⟩; refine ⟨_, rfl, ?_⟩; have n0_ := aq (blk_below (g := gb176) (o := .cells #[.int .i64 a0_0, .int .i64 a0_1, .int .i64 a0_2, .int .i64 a0_3, .int .i64 a0_4, .int .i64 a0_5, .int .u64 a0_6, .int .i64 a0_7, .int .i64 a0_8, .int .i64 a0_9] 51 (0, 0)) (by (with_reducible repeat (first | refine blk_drewN ?_ _ | refine blk_drew ?_ | refine blk_alloc ?_ _)); exact BK176.out) hb); have n1_ := aq (below_step (by repeat (first | (with_reducible first | exact HB.out | apply below_alloc | apply pw_below_drewN | apply below_drew1 | refine below_set ?_ GE176.out) | exact HB.out)) hb); clear BK176; clear HB; have BK176 := n0_; have HB := n1_; clear n0_ n1_; (try clear hb); (try clear hb2); (try clear hk); (try clear hi); obtain ⟨hcz36_0, hcz36_1, hcz36_2, hcz36_3, hcz36_4, hcz36_5, hcz36_6, hcz36_7, hcz36_8, hcz36_9⟩ := cells10_ BK176.out; have hfz36_0 := fun j => blk_frozen BK176.out j))
          go_meet
          case rel => exact ⟨_, (false), (by first | rfl | (simp; done) | (simp [*]; done)), H', ⟨by have := HJ2.out; have := HJ18.out; first | omega | exact Nat.le_refl _⟩, ⟨by (with_reducible repeat (first | refine blk_drewN ?_ _ | refine blk_drew ?_ | refine blk_alloc ?_ _)); exact BK176.out⟩, ⟨by repeat (first | (with_reducible first | exact HB.out | apply below_alloc | apply pw_below_drewN | apply below_drew1 | refine below_set ?_ GE176.out) | exact HB.out)⟩⟩
        ·
         replace c27 := Bool.eq_false_iff.mpr c27
         subst c27
         have H1 : (inst_Writes.j2 kj18 true a0_0 a0_1 a0_2 a0_3 a0_4 a0_5 a0_6 a0_7 a0_8 a0_9) = some (r1, r2) := by rw [if_neg (show ¬ (false = true) by decide)] at H; exact H
         clear H
         have H := H1
         clear H1
         have H' := aq H
         clear H
         have hcz37_0 : wc.cell? ⟨gb176, 0, none⟩ = some (.int .i64 a0_0) := (blk_cell BK176.out 0).trans rfl
         have hcz37_1 : wc.cell? ⟨gb176, 1, none⟩ = some (.int .i64 a0_1) := (blk_cell BK176.out 1).trans rfl
         have hcz37_2 : wc.cell? ⟨gb176, 2, none⟩ = some (.int .i64 a0_2) := (blk_cell BK176.out 2).trans rfl
         have hcz37_3 : wc.cell? ⟨gb176, 3, none⟩ = some (.int .i64 a0_3) := (blk_cell BK176.out 3).trans rfl
         have hcz37_4 : wc.cell? ⟨gb176, 4, none⟩ = some (.int .i64 a0_4) := (blk_cell BK176.out 4).trans rfl
         have hcz37_5 : wc.cell? ⟨gb176, 5, none⟩ = some (.int .i64 a0_5) := (blk_cell BK176.out 5).trans rfl
         have hcz37_6 : wc.cell? ⟨gb176, 6, none⟩ = some (.int .u64 a0_6) := (blk_cell BK176.out 6).trans rfl
         have hcz37_7 : wc.cell? ⟨gb176, 7, none⟩ = some (.int .i64 a0_7) := (blk_cell BK176.out 7).trans rfl
         have hcz37_8 : wc.cell? ⟨gb176, 8, none⟩ = some (.int .i64 a0_8) := (blk_cell BK176.out 8).trans rfl
         have hcz37_9 : wc.cell? ⟨gb176, 9, none⟩ = some (.int .i64 a0_9) := (blk_cell BK176.out 9).trans rfl
         have hfz37_0 := blk_frozen BK176.out 0
         have hfz37_1 := blk_frozen BK176.out 1
         have hfz37_2 := blk_frozen BK176.out 2
         have hfz37_3 := blk_frozen BK176.out 3
         have hfz37_4 := blk_frozen BK176.out 4
         have hfz37_5 := blk_frozen BK176.out 5
         have hfz37_6 := blk_frozen BK176.out 6
         have hfz37_7 := blk_frozen BK176.out 7
         have hfz37_8 := blk_frozen BK176.out 8
         have hfz37_9 := blk_frozen BK176.out 9
         go_wp2_with (first | ((with_reducible refine gate_callee (f := 30) rfl ?_); refine goesL_ (some 30) rfl rfl Tryz.func30 (by kernel_rfl) rfl #[.int .i64 a0_0] rfl (by (try simp only [List.map_toArray, List.map_cons, List.map_nil]); first | done | rfl | (simp only [List.length_drop, List.length_take]; rfl)) ?_; (with_reducible refine (inst_Shape.calls a0_0 t183 _ A25.out).mono ?_); rintro e w38 ⟨rfl, hb⟩; refine ⟨_, rfl, ?_⟩; have n0_ := aq (blk_below (g := gb176) (o := .cells #[.int .i64 a0_0, .int .i64 a0_1, .int .i64 a0_2, .int .i64 a0_3, .int .i64 a0_4, .int .i64 a0_5, .int .u64 a0_6, .int .i64 a0_7, .int .i64 a0_8, .int .i64 a0_9] 51 (0, 0)) (by (with_reducible repeat (first | refine blk_drewN ?_ _ | refine blk_drew ?_ | refine blk_alloc ?_ _)); exact BK176.out) hb); have n1_ := aq (below_step (by repeat (first | (with_reducible first | exact HB.out | apply below_alloc | apply pw_below_drewN | apply below_drew1 | refine below_set ?_ GE176.out) | exact HB.out)) hb); clear BK176; clear HB; have BK176 := n0_; have HB := n1_; clear n0_ n1_; (try clear hb); (try clear hb2); (try clear hk); (try clear hi)) | ((with_reducible refine gate_callee (f := 88) rfl ?_); refine goesL_ (some 31) rfl rfl Tryz.func88 (by kernel_rfl) rfl #[.int .i64 t183] rfl (by (try simp only [List.map_toArray, List.map_cons, List.map_nil]); first | done | rfl | (simp only [List.length_drop, List.length_take]; rfl)) ?_; (with_reducible refine (inst_shapeOf.calls t183 false t185 t186 t187 t188 t189 t190 t191 t192 t193 t194 t195 _ A26.out).mono ?_); rintro e w39 ⟨rfl, hb⟩; refine ⟨_, rfl, ?_⟩; have n0_ := aq (blk_below (g := gb176) (o := .cells #[.int .i64 a0_0, .int .i64 a0_1, .int .i64 a0_2, .int .i64 a0_3, .int .i64 a0_4, .int .i64 a0_5, .int .u64 a0_6, .int .i64 a0_7, .int .i64 a0_8, .int .i64 a0_9] 51 (0, 0)) (by (with_reducible repeat (first | refine blk_drewN ?_ _ | refine blk_drew ?_ | refine blk_alloc ?_ _)); exact BK176.out) hb); have n1_ := aq (below_step (by repeat (first | (with_reducible first | exact HB.out | apply below_alloc | apply pw_below_drewN | apply below_drew1 | refine below_set ?_ GE176.out) | exact HB.out)) hb); clear BK176; clear HB; have BK176 := n0_; have HB := n1_; clear n0_ n1_; (try clear hb); (try clear hb2); (try clear hk); (try clear hi)))
         go_meet
         case rel => exact ⟨_, (true), (by first | rfl | (simp; done) | (simp [*]; done)), H', ⟨by have := HJ2.out; have := HJ18.out; first | omega | exact Nat.le_refl _⟩, ⟨by (with_reducible repeat (first | refine blk_drewN ?_ _ | refine blk_drew ?_ | refine blk_alloc ?_ _)); exact BK176.out⟩, ⟨by repeat (first | (with_reducible first | exact HB.out | apply below_alloc | apply pw_below_drewN | apply below_drew1 | refine below_set ?_ GE176.out) | exact HB.out)⟩⟩
       case rest =>
        clear HC24
        try clear c1
        try clear c2
        try clear p2
        try clear c3
        try clear c7
        try clear c8
        try clear c10
        try clear c18
        try clear c20
        try clear c20b0
        try clear c20b1
        try clear c23
        try clear c27
        try clear c28
        try clear c28b0
        try clear c28b1
        try clear c29
        try clear c30
        try clear hcz12_0 hcz12_1 hcz12_2 hcz12_3 hcz12_4 hcz12_5 hcz12_6 hcz12_7 hcz12_8 hcz12_9
        try clear hcz14_0 hcz14_1 hcz14_2 hcz14_3 hcz14_4 hcz14_5 hcz14_6 hcz14_7 hcz14_8 hcz14_9
        try clear hcz16_0 hcz16_1 hcz16_2 hcz16_3 hcz16_4 hcz16_5 hcz16_6 hcz16_7 hcz16_8 hcz16_9
        try clear hcz21_0 hcz21_1 hcz21_2 hcz21_3 hcz21_4 hcz21_5 hcz21_6 hcz21_7 hcz21_8 hcz21_9
        try clear hcz22_0 hcz22_1 hcz22_2 hcz22_3 hcz22_4 hcz22_5 hcz22_6 hcz22_7 hcz22_8 hcz22_9
        try clear hcz29_0 hcz29_1 hcz29_2 hcz29_3 hcz29_4 hcz29_5 hcz29_6 hcz29_7 hcz29_8 hcz29_9
        try clear hcz32_0 hcz32_1 hcz32_2 hcz32_3 hcz32_4 hcz32_5 hcz32_6 hcz32_7 hcz32_8 hcz32_9
        try clear hcz33_0 hcz33_1 hcz33_2 hcz33_3 hcz33_4 hcz33_5 hcz33_6 hcz33_7 hcz33_8 hcz33_9
        try clear hcz36_0 hcz36_1 hcz36_2 hcz36_3 hcz36_4 hcz36_5 hcz36_6 hcz36_7 hcz36_8 hcz36_9
        try clear hcz37_0 hcz37_1 hcz37_2 hcz37_3 hcz37_4 hcz37_5 hcz37_6 hcz37_7 hcz37_8 hcz37_9
        try clear hcz7_0 hcz7_1 hcz7_2 hcz7_3 hcz7_4 hcz7_5 hcz7_6 hcz7_7 hcz7_8 hcz7_9
        try clear hfz12_0
        try clear hfz14_0
        try clear hfz16_0
        try clear hfz21_0
        try clear hfz22_0
        try clear hfz29_0
        try clear hfz32_0
        try clear hfz33_0
        try clear hfz36_0
        try clear hfz37_0
        try clear hfz7_0
        try clear p2
        obtain ⟨kq, x27_23, rfl, HA, HJ23, BK176, HB⟩ := hcut
        cases kq with
        | zero => exact absurd HA.out (by simp [inst_Writes.j2])
        | succ kj23 =>
         have H := HA.out
         clear HA
         simp only [inst_Writes.j2] at H
         by_cases c40 : x27_23 = true
         ·
          subst c40
          have H1 : (some (0, false)) = some (r1, r2) := by rw [if_pos rfl] at H; exact H
          clear H
          have H := H1
          clear H1
          simp only [Option.some.injEq, Prod.mk.injEq] at H
          obtain ⟨rfl, rfl⟩ := H
          go_wp2
          go_ret2
          exact ⟨by first | rfl | (simp [errW_none, errW_some] <;> rfl) | (simp [*, errW_none, errW_some] <;> rfl), by repeat (first | (with_reducible first | exact HB.out | apply below_alloc | apply pw_below_drewN | apply below_drew1 | refine below_set ?_ GE176.out) | exact HB.out)⟩
         ·
          replace c40 := Bool.eq_false_iff.mpr c40
          subst c40
          have H1 : (some (a0_1, true)) = some (r1, r2) := by rw [if_neg (show ¬ (false = true) by decide)] at H; exact H
          clear H
          have H := H1
          clear H1
          simp only [Option.some.injEq, Prod.mk.injEq] at H
          obtain ⟨rfl, rfl⟩ := H
          have hcz41_0 : wc.cell? ⟨gb176, 0, none⟩ = some (.int .i64 a0_0) := (blk_cell BK176.out 0).trans rfl
          have hcz41_1 : wc.cell? ⟨gb176, 1, none⟩ = some (.int .i64 a0_1) := (blk_cell BK176.out 1).trans rfl
          have hcz41_2 : wc.cell? ⟨gb176, 2, none⟩ = some (.int .i64 a0_2) := (blk_cell BK176.out 2).trans rfl
          have hcz41_3 : wc.cell? ⟨gb176, 3, none⟩ = some (.int .i64 a0_3) := (blk_cell BK176.out 3).trans rfl
          have hcz41_4 : wc.cell? ⟨gb176, 4, none⟩ = some (.int .i64 a0_4) := (blk_cell BK176.out 4).trans rfl
          have hcz41_5 : wc.cell? ⟨gb176, 5, none⟩ = some (.int .i64 a0_5) := (blk_cell BK176.out 5).trans rfl
          have hcz41_6 : wc.cell? ⟨gb176, 6, none⟩ = some (.int .u64 a0_6) := (blk_cell BK176.out 6).trans rfl
          have hcz41_7 : wc.cell? ⟨gb176, 7, none⟩ = some (.int .i64 a0_7) := (blk_cell BK176.out 7).trans rfl
          have hcz41_8 : wc.cell? ⟨gb176, 8, none⟩ = some (.int .i64 a0_8) := (blk_cell BK176.out 8).trans rfl
          have hcz41_9 : wc.cell? ⟨gb176, 9, none⟩ = some (.int .i64 a0_9) := (blk_cell BK176.out 9).trans rfl
          have hfz41_0 := blk_frozen BK176.out 0
          have hfz41_1 := blk_frozen BK176.out 1
          have hfz41_2 := blk_frozen BK176.out 2
          have hfz41_3 := blk_frozen BK176.out 3
          have hfz41_4 := blk_frozen BK176.out 4
          have hfz41_5 := blk_frozen BK176.out 5
          have hfz41_6 := blk_frozen BK176.out 6
          have hfz41_7 := blk_frozen BK176.out 7
          have hfz41_8 := blk_frozen BK176.out 8
          have hfz41_9 := blk_frozen BK176.out 9
          go_wp2
          go_ret2
          exact ⟨by first | rfl | (simp [errW_none, errW_some] <;> rfl) | (simp [*, errW_none, errW_some] <;> rfl), by repeat (first | (with_reducible first | exact HB.out | apply below_alloc | apply pw_below_drewN | apply below_drew1 | refine below_set ?_ GE176.out) | exact HB.out)⟩
def alu_Is.f (k : Nat) (a0_0 : Int) (a0_1 : Int) (a0_2 : Int) (a0_3 : Int) (a0_4 : Int) (a0_5 : Int) (a0_6 : Int) (a0_7 : Int) (a0_8 : Int) (a0_9 : Int) : Option (Bool) := (inst_Shape.f a0_0).bind fun t197 => ((inst_Is.f k a0_0 a0_1 a0_2 a0_3 a0_4 a0_5 a0_6 a0_7 a0_8 a0_9).bind fun t198 => (if t198 = true then (if t197 ≤ 6 then (some true) else (some (t197 == 16))) else (some false)))
set_option maxHeartbeats 8000000 in
set_option maxRecDepth 100000 in
theorem alu_Is.calls (k : Nat) (a0_0 : Int) (a0_1 : Int) (a0_2 : Int) (a0_3 : Int) (a0_4 : Int) (a0_5 : Int) (a0_6 : Int) (a0_7 : Int) (a0_8 : Int) (a0_9 : Int) (r : Bool) (w : World) (h : alu_Is.f k a0_0 a0_1 a0_2 a0_3 a0_4 a0_5 a0_6 a0_7 a0_8 a0_9 = some r) (hTab : TabW w := by first | exact hTab | exact TabW.drew hTab | exact TabW.drewN hTab _ | exact TabW.below hTab (by repeat (first | (with_reducible first | exact HB.out | apply below_alloc | apply pw_below_drewN | apply below_drew1) | refine Below.setCell ?_ (Aside0.out (by assumption)) _ | exact HB.out | exact Below.refl _ _))) :
    Calls Tryz.prog 306 #[.agg #[.int .i64 a0_0, .int .i64 a0_1, .int .i64 a0_2, .int .i64 a0_3, .int .i64 a0_4, .int .i64 a0_5, .int .u64 a0_6, .int .i64 a0_7, .int .i64 a0_8, .int .i64 a0_9]] w fun e w' => e = .returned (.bool r) ∧ Below w.heap.size w w' := by
 have hu51 := Tryz.underlying51
 have HB := aq (Below.refl w.heap.size w)
 have H : ((inst_Shape.f a0_0).bind fun t197 => ((inst_Is.f k a0_0 a0_1 a0_2 a0_3 a0_4 a0_5 a0_6 a0_7 a0_8 a0_9).bind fun t198 => (if t198 = true then (if t197 ≤ 6 then (some true) else (some (t197 == 16))) else (some false)))) = some r := h
 clear h
 replace H := Option.bind_eq_some_iff.mp H
 obtain ⟨t197, A20, H⟩ := H
 replace H : ((inst_Is.f k a0_0 a0_1 a0_2 a0_3 a0_4 a0_5 a0_6 a0_7 a0_8 a0_9).bind fun t198 => (if t198 = true then (if t197 ≤ 6 then (some true) else (some (t197 == 16))) else (some false))) = some r := H
 have A2 := aq A20
 clear A20
 replace H := Option.bind_eq_some_iff.mp H
 obtain ⟨t198, A30, H⟩ := H
 replace H : (if t198 = true then (if t197 ≤ 6 then (some true) else (some (t197 == 16))) else (some false)) = some r := H
 have A3 := aq A30
 clear A30
 by_cases c4 : t198 = true
 ·
  subst c4
  have H1 : (if t197 ≤ 6 then (some true) else (some (t197 == 16))) = some r := by rw [if_pos rfl] at H; exact H
  clear H
  have H := H1
  clear H1
  by_cases c5 : t197 ≤ 6
  ·
   rw [if_pos c5] at H
   have c5b0 : decide (t197 ≤ 6) = true := decide_eq_true c5
   clear c5
   obtain rfl := Option.some.inj H
   go_enter Tryz.func306, Tryz.ntmps306
   go_wp2_with (first | ((with_reducible refine gate_dst (N := 1) rfl ?_); refine box_event ?hg (N := 1) ?hd (cs := #[.int .i64 a0_0, .int .i64 a0_1, .int .i64 a0_2, .int .i64 a0_3, .int .i64 a0_4, .int .i64 a0_5, .int .u64 a0_6, .int .i64 a0_7, .int .i64 a0_8, .int .i64 a0_9]) (t := 51) ?hr ?_; (case hd => rfl); (case hg => rfl); (case hr => first | (go_simp; done) | (go_simp; rfl)); intro gb196 hg w6 hbox hb; have n0_ := aq (below_step (by repeat (first | (with_reducible first | exact HB.out | apply below_alloc | apply pw_below_drewN | apply below_drew1) | exact HB.out)) hb); have n1_ := aq (hbox); have n2_ := aq ((by rw [hg]; exact (below_size (by repeat (first | (with_reducible first | exact HB.out | apply below_alloc | apply pw_below_drewN | apply below_drew1) | exact HB.out))) : w.heap.size ≤ gb196)); have n3_ := aq ((by rw [hg]; exact (below_size (by repeat (first | (with_reducible first | exact HB.out | apply below_alloc | apply pw_below_drewN | apply below_drew1) | exact HB.out))) : w.heap.size ≤ gb196)); clear HB; have HB := n0_; have BK196 := n1_; have GW196 := n2_; have GE196 := n3_; clear n0_ n1_ n2_ n3_; clear hb hbox hg; obtain ⟨hcz7_0, hcz7_1, hcz7_2, hcz7_3, hcz7_4, hcz7_5, hcz7_6, hcz7_7, hcz7_8, hcz7_9⟩ := cells10_ BK196.out; have hfz7_0 := fun j => blk_frozen BK196.out j) | ((with_reducible refine gate_callee (f := 30) rfl ?_); refine goesL_ (some 6) rfl rfl Tryz.func30 (by kernel_rfl) rfl #[.int .i64 a0_0] rfl (by (try simp only [List.map_toArray, List.map_cons, List.map_nil]); first | done | rfl | (simp only [List.length_drop, List.length_take]; rfl)) ?_; (with_reducible refine (inst_Shape.calls a0_0 t197 _ A2.out).mono ?_); rintro e w8 ⟨rfl, hb⟩; refine ⟨_, rfl, ?_⟩; have n0_ := aq (blk_below (g := gb196) (o := .cells #[.int .i64 a0_0, .int .i64 a0_1, .int .i64 a0_2, .int .i64 a0_3, .int .i64 a0_4, .int .i64 a0_5, .int .u64 a0_6, .int .i64 a0_7, .int .i64 a0_8, .int .i64 a0_9] 51 (0, 0)) (by (with_reducible repeat (first | refine blk_drewN ?_ _ | refine blk_drew ?_ | refine blk_alloc ?_ _)); exact BK196.out) hb); have n1_ := aq (below_step (by repeat (first | (with_reducible first | exact HB.out | apply below_alloc | apply pw_below_drewN | apply below_drew1 | refine below_set ?_ GE196.out) | exact HB.out)) hb); clear BK196; clear HB; have BK196 := n0_; have HB := n1_; clear n0_ n1_; (try clear hb); (try clear hb2); (try clear hk); (try clear hi); obtain ⟨hcz9_0, hcz9_1, hcz9_2, hcz9_3, hcz9_4, hcz9_5, hcz9_6, hcz9_7, hcz9_8, hcz9_9⟩ := cells10_ BK196.out; have hfz9_0 := fun j => blk_frozen BK196.out j) | ((with_reducible refine gate_callee (f := 79) rfl ?_); refine goesL_ (some 8) rfl rfl Tryz.func79 (by kernel_rfl) rfl #[.agg #[.int .i64 a0_0, .int .i64 a0_1, .int .i64 a0_2, .int .i64 a0_3, .int .i64 a0_4, .int .i64 a0_5, .int .u64 a0_6, .int .i64 a0_7, .int .i64 a0_8, .int .i64 a0_9]] rfl (by (try simp only [List.map_toArray, List.map_cons, List.map_nil]); first | done | rfl | (simp only [List.length_drop, List.length_take]; rfl)) ?_; (with_reducible refine (inst_Is.calls k a0_0 a0_1 a0_2 a0_3 a0_4 a0_5 a0_6 a0_7 a0_8 a0_9 true _ A3.out).mono ?_); rintro e w10 ⟨rfl, hb⟩; refine ⟨_, rfl, ?_⟩; have n0_ := aq (blk_below (g := gb196) (o := .cells #[.int .i64 a0_0, .int .i64 a0_1, .int .i64 a0_2, .int .i64 a0_3, .int .i64 a0_4, .int .i64 a0_5, .int .u64 a0_6, .int .i64 a0_7, .int .i64 a0_8, .int .i64 a0_9] 51 (0, 0)) (by (with_reducible repeat (first | refine blk_drewN ?_ _ | refine blk_drew ?_ | refine blk_alloc ?_ _)); exact BK196.out) hb); have n1_ := aq (below_step (by repeat (first | (with_reducible first | exact HB.out | apply below_alloc | apply pw_below_drewN | apply below_drew1 | refine below_set ?_ GE196.out) | exact HB.out)) hb); clear BK196; clear HB; have BK196 := n0_; have HB := n1_; clear n0_ n1_; (try clear hb); (try clear hb2); (try clear hk); (try clear hi)))
   go_ret
   exact ⟨by first | rfl | (simp [errW_none, errW_some] <;> rfl) | (simp [*, errW_none, errW_some] <;> rfl), by repeat (first | (with_reducible first | exact HB.out | apply below_alloc | apply pw_below_drewN | apply below_drew1 | refine below_set ?_ GE196.out) | exact HB.out)⟩
  ·
   rw [if_neg c5] at H
   have c5b0 : decide (t197 ≤ 6) = false := decide_eq_false c5
   clear c5
   obtain rfl := Option.some.inj H
   go_enter Tryz.func306, Tryz.ntmps306
   go_wp2_with (first | ((with_reducible refine gate_dst (N := 1) rfl ?_); refine box_event ?hg (N := 1) ?hd (cs := #[.int .i64 a0_0, .int .i64 a0_1, .int .i64 a0_2, .int .i64 a0_3, .int .i64 a0_4, .int .i64 a0_5, .int .u64 a0_6, .int .i64 a0_7, .int .i64 a0_8, .int .i64 a0_9]) (t := 51) ?hr ?_; (case hd => rfl); (case hg => rfl); (case hr => first | (go_simp; done) | (go_simp; rfl)); intro gb196 hg w11 hbox hb; have n0_ := aq (below_step (by repeat (first | (with_reducible first | exact HB.out | apply below_alloc | apply pw_below_drewN | apply below_drew1) | exact HB.out)) hb); have n1_ := aq (hbox); have n2_ := aq ((by rw [hg]; exact (below_size (by repeat (first | (with_reducible first | exact HB.out | apply below_alloc | apply pw_below_drewN | apply below_drew1) | exact HB.out))) : w.heap.size ≤ gb196)); have n3_ := aq ((by rw [hg]; exact (below_size (by repeat (first | (with_reducible first | exact HB.out | apply below_alloc | apply pw_below_drewN | apply below_drew1) | exact HB.out))) : w.heap.size ≤ gb196)); clear HB; have HB := n0_; have BK196 := n1_; have GW196 := n2_; have GE196 := n3_; clear n0_ n1_ n2_ n3_; clear hb hbox hg; obtain ⟨hcz12_0, hcz12_1, hcz12_2, hcz12_3, hcz12_4, hcz12_5, hcz12_6, hcz12_7, hcz12_8, hcz12_9⟩ := cells10_ BK196.out; have hfz12_0 := fun j => blk_frozen BK196.out j) | ((with_reducible refine gate_callee (f := 30) rfl ?_); refine goesL_ (some 6) rfl rfl Tryz.func30 (by kernel_rfl) rfl #[.int .i64 a0_0] rfl (by (try simp only [List.map_toArray, List.map_cons, List.map_nil]); first | done | rfl | (simp only [List.length_drop, List.length_take]; rfl)) ?_; (with_reducible refine (inst_Shape.calls a0_0 t197 _ A2.out).mono ?_); rintro e w13 ⟨rfl, hb⟩; refine ⟨_, rfl, ?_⟩; have n0_ := aq (blk_below (g := gb196) (o := .cells #[.int .i64 a0_0, .int .i64 a0_1, .int .i64 a0_2, .int .i64 a0_3, .int .i64 a0_4, .int .i64 a0_5, .int .u64 a0_6, .int .i64 a0_7, .int .i64 a0_8, .int .i64 a0_9] 51 (0, 0)) (by (with_reducible repeat (first | refine blk_drewN ?_ _ | refine blk_drew ?_ | refine blk_alloc ?_ _)); exact BK196.out) hb); have n1_ := aq (below_step (by repeat (first | (with_reducible first | exact HB.out | apply below_alloc | apply pw_below_drewN | apply below_drew1 | refine below_set ?_ GE196.out) | exact HB.out)) hb); clear BK196; clear HB; have BK196 := n0_; have HB := n1_; clear n0_ n1_; (try clear hb); (try clear hb2); (try clear hk); (try clear hi); obtain ⟨hcz14_0, hcz14_1, hcz14_2, hcz14_3, hcz14_4, hcz14_5, hcz14_6, hcz14_7, hcz14_8, hcz14_9⟩ := cells10_ BK196.out; have hfz14_0 := fun j => blk_frozen BK196.out j) | ((with_reducible refine gate_callee (f := 79) rfl ?_); refine goesL_ (some 8) rfl rfl Tryz.func79 (by kernel_rfl) rfl #[.agg #[.int .i64 a0_0, .int .i64 a0_1, .int .i64 a0_2, .int .i64 a0_3, .int .i64 a0_4, .int .i64 a0_5, .int .u64 a0_6, .int .i64 a0_7, .int .i64 a0_8, .int .i64 a0_9]] rfl (by (try simp only [List.map_toArray, List.map_cons, List.map_nil]); first | done | rfl | (simp only [List.length_drop, List.length_take]; rfl)) ?_; (with_reducible refine (inst_Is.calls k a0_0 a0_1 a0_2 a0_3 a0_4 a0_5 a0_6 a0_7 a0_8 a0_9 true _ A3.out).mono ?_); rintro e w15 ⟨rfl, hb⟩; refine ⟨_, rfl, ?_⟩; have n0_ := aq (blk_below (g := gb196) (o := .cells #[.int .i64 a0_0, .int .i64 a0_1, .int .i64 a0_2, .int .i64 a0_3, .int .i64 a0_4, .int .i64 a0_5, .int .u64 a0_6, .int .i64 a0_7, .int .i64 a0_8, .int .i64 a0_9] 51 (0, 0)) (by (with_reducible repeat (first | refine blk_drewN ?_ _ | refine blk_drew ?_ | refine blk_alloc ?_ _)); exact BK196.out) hb); have n1_ := aq (below_step (by repeat (first | (with_reducible first | exact HB.out | apply below_alloc | apply pw_below_drewN | apply below_drew1 | refine below_set ?_ GE196.out) | exact HB.out)) hb); clear BK196; clear HB; have BK196 := n0_; have HB := n1_; clear n0_ n1_; (try clear hb); (try clear hb2); (try clear hk); (try clear hi)))
   go_ret
   exact ⟨by first | rfl | (simp [errW_none, errW_some] <;> rfl) | (simp [*, errW_none, errW_some] <;> rfl), by repeat (first | (with_reducible first | exact HB.out | apply below_alloc | apply pw_below_drewN | apply below_drew1 | refine below_set ?_ GE196.out) | exact HB.out)⟩
 ·
  replace c4 := Bool.eq_false_iff.mpr c4
  subst c4
  have H1 : (some false) = some r := by rw [if_neg (show ¬ (false = true) by decide)] at H; exact H
  clear H
  have H := H1
  clear H1
  obtain rfl := Option.some.inj H
  go_enter Tryz.func306, Tryz.ntmps306
  go_wp2_with (first | ((with_reducible refine gate_dst (N := 1) rfl ?_); refine box_event ?hg (N := 1) ?hd (cs := #[.int .i64 a0_0, .int .i64 a0_1, .int .i64 a0_2, .int .i64 a0_3, .int .i64 a0_4, .int .i64 a0_5, .int .u64 a0_6, .int .i64 a0_7, .int .i64 a0_8, .int .i64 a0_9]) (t := 51) ?hr ?_; (case hd => rfl); (case hg => rfl); (case hr => first | (go_simp; done) | (go_simp; rfl)); intro gb196 hg w16 hbox hb; have n0_ := aq (below_step (by repeat (first | (with_reducible first | exact HB.out | apply below_alloc | apply pw_below_drewN | apply below_drew1) | exact HB.out)) hb); have n1_ := aq (hbox); have n2_ := aq ((by rw [hg]; exact (below_size (by repeat (first | (with_reducible first | exact HB.out | apply below_alloc | apply pw_below_drewN | apply below_drew1) | exact HB.out))) : w.heap.size ≤ gb196)); have n3_ := aq ((by rw [hg]; exact (below_size (by repeat (first | (with_reducible first | exact HB.out | apply below_alloc | apply pw_below_drewN | apply below_drew1) | exact HB.out))) : w.heap.size ≤ gb196)); clear HB; have HB := n0_; have BK196 := n1_; have GW196 := n2_; have GE196 := n3_; clear n0_ n1_ n2_ n3_; clear hb hbox hg; obtain ⟨hcz17_0, hcz17_1, hcz17_2, hcz17_3, hcz17_4, hcz17_5, hcz17_6, hcz17_7, hcz17_8, hcz17_9⟩ := cells10_ BK196.out; have hfz17_0 := fun j => blk_frozen BK196.out j) | ((with_reducible refine gate_callee (f := 30) rfl ?_); refine goesL_ (some 6) rfl rfl Tryz.func30 (by kernel_rfl) rfl #[.int .i64 a0_0] rfl (by (try simp only [List.map_toArray, List.map_cons, List.map_nil]); first | done | rfl | (simp only [List.length_drop, List.length_take]; rfl)) ?_; (with_reducible refine (inst_Shape.calls a0_0 t197 _ A2.out).mono ?_); rintro e w18 ⟨rfl, hb⟩; refine ⟨_, rfl, ?_⟩; have n0_ := aq (blk_below (g := gb196) (o := .cells #[.int .i64 a0_0, .int .i64 a0_1, .int .i64 a0_2, .int .i64 a0_3, .int .i64 a0_4, .int .i64 a0_5, .int .u64 a0_6, .int .i64 a0_7, .int .i64 a0_8, .int .i64 a0_9] 51 (0, 0)) (by (with_reducible repeat (first | refine blk_drewN ?_ _ | refine blk_drew ?_ | refine blk_alloc ?_ _)); exact BK196.out) hb); have n1_ := aq (below_step (by repeat (first | (with_reducible first | exact HB.out | apply below_alloc | apply pw_below_drewN | apply below_drew1 | refine below_set ?_ GE196.out) | exact HB.out)) hb); clear BK196; clear HB; have BK196 := n0_; have HB := n1_; clear n0_ n1_; (try clear hb); (try clear hb2); (try clear hk); (try clear hi); obtain ⟨hcz19_0, hcz19_1, hcz19_2, hcz19_3, hcz19_4, hcz19_5, hcz19_6, hcz19_7, hcz19_8, hcz19_9⟩ := cells10_ BK196.out; have hfz19_0 := fun j => blk_frozen BK196.out j) | ((with_reducible refine gate_callee (f := 79) rfl ?_); refine goesL_ (some 8) rfl rfl Tryz.func79 (by kernel_rfl) rfl #[.agg #[.int .i64 a0_0, .int .i64 a0_1, .int .i64 a0_2, .int .i64 a0_3, .int .i64 a0_4, .int .i64 a0_5, .int .u64 a0_6, .int .i64 a0_7, .int .i64 a0_8, .int .i64 a0_9]] rfl (by (try simp only [List.map_toArray, List.map_cons, List.map_nil]); first | done | rfl | (simp only [List.length_drop, List.length_take]; rfl)) ?_; (with_reducible refine (inst_Is.calls k a0_0 a0_1 a0_2 a0_3 a0_4 a0_5 a0_6 a0_7 a0_8 a0_9 false _ A3.out).mono ?_); rintro e w20 ⟨rfl, hb⟩; refine ⟨_, rfl, ?_⟩; have n0_ := aq (blk_below (g := gb196) (o := .cells #[.int .i64 a0_0, .int .i64 a0_1, .int .i64 a0_2, .int .i64 a0_3, .int .i64 a0_4, .int .i64 a0_5, .int .u64 a0_6, .int .i64 a0_7, .int .i64 a0_8, .int .i64 a0_9] 51 (0, 0)) (by (with_reducible repeat (first | refine blk_drewN ?_ _ | refine blk_drew ?_ | refine blk_alloc ?_ _)); exact BK196.out) hb); have n1_ := aq (below_step (by repeat (first | (with_reducible first | exact HB.out | apply below_alloc | apply pw_below_drewN | apply below_drew1 | refine below_set ?_ GE196.out) | exact HB.out)) hb); clear BK196; clear HB; have BK196 := n0_; have HB := n1_; clear n0_ n1_; (try clear hb); (try clear hb2); (try clear hk); (try clear hi)))
  go_ret
  exact ⟨by first | rfl | (simp [errW_none, errW_some] <;> rfl) | (simp [*, errW_none, errW_some] <;> rfl), by repeat (first | (with_reducible first | exact HB.out | apply below_alloc | apply pw_below_drewN | apply below_drew1 | refine below_set ?_ GE196.out) | exact HB.out)⟩
def bits_Pack.j0 : Nat → Int → Int → Bool → Option (Int × Int)
 | 0, _, _, _ => none
 | k + 1, x0, x1, x12 => if x12 = true then (some (0, 1)) else (if 0 ≤ (wrap64 (x1 - 1)) then (if (shr .i64 x0 (wrap64 (x1 - 1))) = 0 then ((bits_ones.f x1).bind fun t154 => (some (Go.bits .and .u32 ((x0) % 4294967296) ((t154) % 4294967296), 0))) else (if (shr .i64 x0 (wrap64 (x1 - 1))) = (-1) then ((bits_ones.f x1).bind fun t155 => (some (Go.bits .and .u32 ((x0) % 4294967296) ((t155) % 4294967296), 0))) else (some (0, 4)))) else (none))
def bits_Pack.f (k : Nat) (a0 : Int) (a1 : Int) : Option (Int × Int) := if a1 < 1 then (bits_Pack.j0 k a0 a1 true) else (bits_Pack.j0 k a0 a1 (decide (a1 > 32)))
set_option maxHeartbeats 8000000 in
set_option maxRecDepth 100000 in
theorem bits_Pack.calls (k : Nat) (a0 : Int) (a1 : Int) (r1 : Int) (r2 : Int) (w : World) (h : bits_Pack.f k a0 a1 = some (r1, r2)) :
    Calls Tryz.prog 182 #[.int .i64 a0, .int .i64 a1] w fun e w' => e = .returned (.tuple #[.int .u32 r1, .int .i64 r2]) ∧ Drawn0 w w' := by
 have H : (if a1 < 1 then (bits_Pack.j0 k a0 a1 true) else (bits_Pack.j0 k a0 a1 (decide (a1 > 32)))) = some (r1, r2) := h
 clear h
 have HC3 := aq H
 clear H
 go_enter Tryz.func182, Tryz.ntmps182
 go_upto_region 1 with (fail)
 go_cut [12] (fun v12 wc => ∃ (kq : Nat) (x12_2 : Bool), v12 = .bool x12_2 ∧ Aside0 (bits_Pack.j0 kq a0 a1 x12_2 = some (r1, r2)) ∧ Aside0 (kq ≤ k) ∧ Drawn0 w wc)
 case first =>
  have H := HC3.out
  clear HC3
  (try (rw [drewN_self w]; have n0_ := fun n_ => pw_below_drewN HB.out n_; clear HB; generalize hq_ : World.drewN w _ = w; have HB := aq (hq_ ▸ n0_ _); clear hq_ n0_))
  by_cases c4 : a1 < 1
  ·
   rw [if_pos c4] at H
   have c4b0 : decide (a1 < 1) = true := decide_eq_true c4
   clear c4
   (first | rw [c4b0] | (simp only [i64_w, i32_w]; rw [c4b0]) | skip)
   have H' := aq H
   clear H
   go_wp2
   go_meet
   case rel => exact ⟨_, (true), (by first | rfl | (simp; done) | (simp [*]; done)), H', ⟨by first | omega | exact Nat.le_refl _⟩, by repeat (first | exact Drawn0.refl _ | apply Drawn0.step)⟩
  ·
   rw [if_neg c4] at H
   have c4b0 : decide (a1 < 1) = false := decide_eq_false c4
   clear c4
   (first | rw [c4b0] | (simp only [i64_w, i32_w]; rw [c4b0]) | skip)
   have H' := aq H
   clear H
   go_wp2
   go_meet
   case rel => exact ⟨_, (decide (a1 > 32)), (by first | rfl | (simp; done) | (simp [*]; done)), H', ⟨by first | omega | exact Nat.le_refl _⟩, by repeat (first | exact Drawn0.refl _ | apply Drawn0.step)⟩
 case rest =>
  clear HC3
  try clear c1
  try clear p2
  try clear c4
  try clear c4b0
  obtain ⟨kq, x12_2, rfl, HA, HJ2, ⟨mc2, rfl⟩⟩ := hcut
  cases kq with
  | zero => exact absurd HA.out (by simp [bits_Pack.j0])
  | succ kj2 =>
   have H := HA.out
   clear HA
   simp only [bits_Pack.j0] at H
   by_cases c5 : x12_2 = true
   ·
    subst c5
    have H1 : (some (0, 1)) = some (r1, r2) := by rw [if_pos rfl] at H; exact H
    clear H
    have H := H1
    clear H1
    simp only [Option.some.injEq, Prod.mk.injEq] at H
    obtain ⟨rfl, rfl⟩ := H
    go_wp2
    go_ret2
    exact ⟨by first | rfl | (simp; done) | (simp [*]; done), by repeat (first | exact Drawn0.refl _ | apply Drawn0.step)⟩
   ·
    replace c5 := Bool.eq_false_iff.mpr c5
    subst c5
    have H1 : (if 0 ≤ (wrap64 (a1 - 1)) then (if (shr .i64 a0 (wrap64 (a1 - 1))) = 0 then ((bits_ones.f a1).bind fun t154 => (some (Go.bits .and .u32 ((a0) % 4294967296) ((t154) % 4294967296), 0))) else (if (shr .i64 a0 (wrap64 (a1 - 1))) = (-1) then ((bits_ones.f a1).bind fun t155 => (some (Go.bits .and .u32 ((a0) % 4294967296) ((t155) % 4294967296), 0))) else (some (0, 4)))) else (none)) = some (r1, r2) := by rw [if_neg (show ¬ (false = true) by decide)] at H; exact H
    clear H
    have H := H1
    clear H1
    obtain ⟨ji6, hji6⟩ : ∃ j_ : Int, (wrap64 (a1 - 1)) = j_ := ⟨_, rfl⟩
    replace H : (if 0 ≤ (ji6) then (if (shr .i64 a0 (ji6)) = 0 then ((bits_ones.f a1).bind fun t154 => (some (Go.bits .and .u32 ((a0) % 4294967296) ((t154) % 4294967296), 0))) else (if (shr .i64 a0 (ji6)) = (-1) then ((bits_ones.f a1).bind fun t155 => (some (Go.bits .and .u32 ((a0) % 4294967296) ((t155) % 4294967296), 0))) else (some (0, 4)))) else (none)) = some (r1, r2) := by first | (rw [hji6] at H; exact H) | (simp only [hji6] at H ⊢; exact H)
    have hji6w : (IntKind.i64.wrap (a1 - 1)) = ji6 := (i64_w _).trans hji6
    by_cases c7 : 0 ≤ (ji6)
    ·
     rw [if_pos c7] at H
     have c7b0 := eq_true c7
     have c7b1 : decide (0 ≤ (ji6)) = true := decide_eq_true c7
     clear c7
     obtain ⟨ji8, hji8⟩ : ∃ j_ : Int, (shr .i64 a0 (ji6)) = j_ := ⟨_, rfl⟩
     replace H : (if (ji8) = 0 then ((bits_ones.f a1).bind fun t154 => (some (Go.bits .and .u32 ((a0) % 4294967296) ((t154) % 4294967296), 0))) else (if (ji8) = (-1) then ((bits_ones.f a1).bind fun t155 => (some (Go.bits .and .u32 ((a0) % 4294967296) ((t155) % 4294967296), 0))) else (some (0, 4)))) = some (r1, r2) := by first | (rw [hji8] at H; exact H) | (simp only [hji8] at H ⊢; exact H)
     have hji8_ : (a0 / 2 ^ min (ji6).toNat 64) = ji8 := hji8
     have hji8z : (ji6) ≤ 64 → (a0 / 2 ^ (ji6).toNat) = ji8 := shr_small hji8
     by_cases c9 : (ji8) = 0
     ·
      rw [if_pos c9] at H
      have c9b0 : ((ji8) == 0) = true := beq_iff_eq.mpr c9
      have c9b1 : ((ji8) != 0) = false := bne_eq_false_iff_eq.mpr c9
      clear c9
      replace H := Option.bind_eq_some_iff.mp H
      obtain ⟨t154, A100, H⟩ := H
      replace H : (some (Go.bits .and .u32 ((a0) % 4294967296) ((t154) % 4294967296), 0)) = some (r1, r2) := H
      have A10 := aq A100
      clear A100
      simp only [Option.some.injEq, Prod.mk.injEq] at H
      obtain ⟨rfl, rfl⟩ := H
      go_wp2_with (first | ((with_reducible refine gate_callee (f := 157) rfl ?_); refine goesL_ (some 26) rfl rfl Tryz.func157 (by kernel_rfl) rfl #[.int .i64 a1] rfl (by (try simp only [List.map_toArray, List.map_cons, List.map_nil]); first | done | rfl | (simp only [List.length_drop, List.length_take]; rfl)) ?_; (with_reducible refine (bits_ones.calls a1 t154 _ A10.out).mono ?_); rintro e w' ⟨rfl, ⟨nd, rfl⟩⟩; refine ⟨_, rfl, ?_⟩))
      go_ret2
      exact ⟨by first | rfl | (simp; done) | (simp only [← hji6, ← hji8] <;> (first | rfl | simp)) | (simp [*]; done), by repeat (first | exact Drawn0.refl _ | apply Drawn0.step)⟩
     ·
      rw [if_neg c9] at H
      have c9b0 : ((ji8) == 0) = false := beq_eq_false_iff_ne.mpr c9
      have c9b1 : ((ji8) != 0) = true := bne_iff_ne.mpr c9
      by_cases c11 : (ji8) = (-1)
      ·
       rw [if_pos c11] at H
       have c11b0 : ((ji8) == (-1)) = true := beq_iff_eq.mpr c11
       have c11b1 : ((ji8) != (-1)) = false := bne_eq_false_iff_eq.mpr c11
       clear c11
       replace H := Option.bind_eq_some_iff.mp H
       obtain ⟨t155, A120, H⟩ := H
       replace H : (some (Go.bits .and .u32 ((a0) % 4294967296) ((t155) % 4294967296), 0)) = some (r1, r2) := H
       have A12 := aq A120
       clear A120
       simp only [Option.some.injEq, Prod.mk.injEq] at H
       obtain ⟨rfl, rfl⟩ := H
       go_wp2_with (first | ((with_reducible refine gate_callee (f := 157) rfl ?_); refine goesL_ (some 26) rfl rfl Tryz.func157 (by kernel_rfl) rfl #[.int .i64 a1] rfl (by (try simp only [List.map_toArray, List.map_cons, List.map_nil]); first | done | rfl | (simp only [List.length_drop, List.length_take]; rfl)) ?_; (with_reducible refine (bits_ones.calls a1 t155 _ A12.out).mono ?_); rintro e w' ⟨rfl, ⟨nd, rfl⟩⟩; refine ⟨_, rfl, ?_⟩))
       go_ret2
       exact ⟨by first | rfl | (simp; done) | (simp only [← hji6, ← hji8] <;> (first | rfl | simp)) | (simp [*]; done), by repeat (first | exact Drawn0.refl _ | apply Drawn0.step)⟩
      ·
       rw [if_neg c11] at H
       have c11b0 : ((ji8) == (-1)) = false := beq_eq_false_iff_ne.mpr c11
       have c11b1 : ((ji8) != (-1)) = true := bne_iff_ne.mpr c11
       simp only [Option.some.injEq, Prod.mk.injEq] at H
       obtain ⟨rfl, rfl⟩ := H
       go_wp2
       go_ret2
       exact ⟨by first | rfl | (simp; done) | (simp only [← hji6, ← hji8] <;> (first | rfl | simp)) | (simp [*]; done), by repeat (first | exact Drawn0.refl _ | apply Drawn0.step)⟩
    ·
     rw [if_neg c7] at H
     exact absurd H (by simp)
inductive PD where
  | d | n | m | a | imm (at_ n_ by_ : Int) (sg : Bool) | amt (at_ n_ by_ : Int) | sh | cond (at_ : Int) | lo | hi | mk (k : Nat)
def PD.at_ : PD → Int
  | .d => 0 | .n => 5 | .m => 16 | .a => 10 | .imm x _ _ _ => x | .amt x _ _ => x | .sh => 22 | .cond x => x | .lo => 29 | .hi => 5 | .mk 0 => 22 | .mk 1 => 16 | .mk _ => 10
def PD.n_ : PD → Int
  | .d => 5 | .n => 5 | .m => 5 | .a => 5 | .imm _ x _ _ => x | .amt _ x _ => x | .sh => 2 | .cond _ => 4 | .lo => 2 | .hi => 19 | .mk 0 => 1 | .mk _ => 6
def PD.sg_ : PD → Bool
  | .imm _ _ _ x => x | .hi => true | _ => false
def PD.get (k : Nat) (p : PD) (i0 i1 i2 i3 i4 i5 i6 i7 i8 i9 : Int) : Option Int :=
  match p with
  | .d => some i1 | .n => some i2 | .m => some i3 | .a => some i4 | .sh => some i7 | .cond _ => some i9
  | .imm _ _ b _ => if b = 0 then none else some (wrap64 (i5.tdiv b))
  | .amt _ _ b => if b = 0 then none else some (wrap64 (i8.tdiv b))
  | .lo => some (Go.bits .and .i64 i5 3)
  | .hi => some (i5 / 4)
  | .mk j => (mask_Encode.f k i6).bind fun t => if t.2.2.2 = 0 then some (if j = 0 then t.1 else if j = 1 then t.2.1 else t.2.2.1) else none
def GetV (w : World) : PD → Value → Prop
  | .d, g => g = .func (.func 221) #[] #[]
  | .n, g => g = .func (.func 227) #[] #[]
  | .m, g => g = .func (.func 235) #[] #[]
  | .a, g => g = .func (.func 239) #[] #[]
  | .sh, g => g = .func (.func 237) #[] #[]
  | .cond _, g => g = .func (.func 245) #[] #[]
  | .lo, g => g = .func (.func 241) #[] #[]
  | .hi, g => g = .func (.func 243) #[] #[]
  | .imm _ _ b _, g => ∃ B, g = .func (.func 223) #[] #[.pointer (some ⟨B, 0, none⟩)] ∧ w.cell? ⟨B, 0, none⟩ = some (.int .i64 b)
  | .amt _ _ b, g => ∃ B, g = .func (.func 225) #[] #[.pointer (some ⟨B, 0, none⟩)] ∧ w.cell? ⟨B, 0, none⟩ = some (.int .i64 b)
  | .mk j, g => j < 3 ∧ ∃ B, g = .func (.func 230) #[] #[.pointer (some ⟨B, 0, none⟩)] ∧ w.cell? ⟨B, 0, none⟩ = some (.int .i64 j)
theorem get_d (i0 i1 i2 i3 i4 i5 i6 i7 i8 i9 : Int) (w : World) : Calls Tryz.prog 221 #[.agg #[.int .i64 i0, .int .i64 i1, .int .i64 i2, .int .i64 i3, .int .i64 i4, .int .i64 i5, .int .u64 i6, .int .i64 i7, .int .i64 i8, .int .i64 i9]] w fun e w' => e = .returned (.int .i64 i1) ∧ Below w.heap.size w w' := by
  go_enter Tryz.func221, Tryz.ntmps221
  go_wp2
  go_ret
  exact ⟨rfl, below_alloc (Below.refl _ _) _⟩
theorem get_n (i0 i1 i2 i3 i4 i5 i6 i7 i8 i9 : Int) (w : World) : Calls Tryz.prog 227 #[.agg #[.int .i64 i0, .int .i64 i1, .int .i64 i2, .int .i64 i3, .int .i64 i4, .int .i64 i5, .int .u64 i6, .int .i64 i7, .int .i64 i8, .int .i64 i9]] w fun e w' => e = .returned (.int .i64 i2) ∧ Below w.heap.size w w' := by
  go_enter Tryz.func227, Tryz.ntmps227
  go_wp2
  go_ret
  exact ⟨rfl, below_alloc (Below.refl _ _) _⟩
theorem get_m (i0 i1 i2 i3 i4 i5 i6 i7 i8 i9 : Int) (w : World) : Calls Tryz.prog 235 #[.agg #[.int .i64 i0, .int .i64 i1, .int .i64 i2, .int .i64 i3, .int .i64 i4, .int .i64 i5, .int .u64 i6, .int .i64 i7, .int .i64 i8, .int .i64 i9]] w fun e w' => e = .returned (.int .i64 i3) ∧ Below w.heap.size w w' := by
  go_enter Tryz.func235, Tryz.ntmps235
  go_wp2
  go_ret
  exact ⟨rfl, below_alloc (Below.refl _ _) _⟩
theorem get_a (i0 i1 i2 i3 i4 i5 i6 i7 i8 i9 : Int) (w : World) : Calls Tryz.prog 239 #[.agg #[.int .i64 i0, .int .i64 i1, .int .i64 i2, .int .i64 i3, .int .i64 i4, .int .i64 i5, .int .u64 i6, .int .i64 i7, .int .i64 i8, .int .i64 i9]] w fun e w' => e = .returned (.int .i64 i4) ∧ Below w.heap.size w w' := by
  go_enter Tryz.func239, Tryz.ntmps239
  go_wp2
  go_ret
  exact ⟨rfl, below_alloc (Below.refl _ _) _⟩
theorem get_sh (i0 i1 i2 i3 i4 i5 i6 i7 i8 i9 : Int) (w : World) : Calls Tryz.prog 237 #[.agg #[.int .i64 i0, .int .i64 i1, .int .i64 i2, .int .i64 i3, .int .i64 i4, .int .i64 i5, .int .u64 i6, .int .i64 i7, .int .i64 i8, .int .i64 i9]] w fun e w' => e = .returned (.int .i64 i7) ∧ Below w.heap.size w w' := by
  go_enter Tryz.func237, Tryz.ntmps237
  go_wp2
  go_ret
  exact ⟨rfl, below_alloc (Below.refl _ _) _⟩
theorem get_cond (i0 i1 i2 i3 i4 i5 i6 i7 i8 i9 : Int) (w : World) : Calls Tryz.prog 245 #[.agg #[.int .i64 i0, .int .i64 i1, .int .i64 i2, .int .i64 i3, .int .i64 i4, .int .i64 i5, .int .u64 i6, .int .i64 i7, .int .i64 i8, .int .i64 i9]] w fun e w' => e = .returned (.int .i64 i9) ∧ Below w.heap.size w w' := by
  go_enter Tryz.func245, Tryz.ntmps245
  go_wp2
  go_ret
  exact ⟨rfl, below_alloc (Below.refl _ _) _⟩
theorem get_lo (i0 i1 i2 i3 i4 i5 i6 i7 i8 i9 : Int) (w : World) : Calls Tryz.prog 241 #[.agg #[.int .i64 i0, .int .i64 i1, .int .i64 i2, .int .i64 i3, .int .i64 i4, .int .i64 i5, .int .u64 i6, .int .i64 i7, .int .i64 i8, .int .i64 i9]] w fun e w' => e = .returned (.int .i64 (Go.bits .and .i64 i5 3)) ∧ Below w.heap.size w w' := by
  go_enter Tryz.func241, Tryz.ntmps241
  go_wp2
  go_ret
  exact ⟨rfl, below_alloc (Below.refl _ _) _⟩
theorem get_hi (i0 i1 i2 i3 i4 i5 i6 i7 i8 i9 : Int) (w : World) : Calls Tryz.prog 243 #[.agg #[.int .i64 i0, .int .i64 i1, .int .i64 i2, .int .i64 i3, .int .i64 i4, .int .i64 i5, .int .u64 i6, .int .i64 i7, .int .i64 i8, .int .i64 i9]] w fun e w' => e = .returned (.int .i64 (i5 / 4)) ∧ Below w.heap.size w w' := by
  go_enter Tryz.func243, Tryz.ntmps243
  go_wp2
  go_ret
  exact ⟨rfl, below_alloc (Below.refl _ _) _⟩
theorem get_imm (i0 i1 i2 i3 i4 i5 i6 i7 i8 i9 : Int) (b : Int) (B : Nat) (w : World) (hb : b ≠ 0) (hc : w.cell? ⟨B, 0, none⟩ = some (.int .i64 b)) : Calls Tryz.prog 223 #[.agg #[.int .i64 i0, .int .i64 i1, .int .i64 i2, .int .i64 i3, .int .i64 i4, .int .i64 i5, .int .u64 i6, .int .i64 i7, .int .i64 i8, .int .i64 i9], .pointer (some ⟨B, 0, none⟩)] w fun e w' => e = .returned (.int .i64 (wrap64 (i5.tdiv b))) ∧ Below w.heap.size w w' := by
  have hB : B < w.heap.size := World.block_lt_of_cell? w ⟨B, 0, none⟩ hc
  have hb0 : ¬ b = 0 := hb
  go_enter Tryz.func223, Tryz.ntmps223
  go_wp2
  go_ret
  exact ⟨rfl, below_alloc (Below.refl _ _) _⟩
theorem get_amt (i0 i1 i2 i3 i4 i5 i6 i7 i8 i9 : Int) (b : Int) (B : Nat) (w : World) (hb : b ≠ 0) (hc : w.cell? ⟨B, 0, none⟩ = some (.int .i64 b)) : Calls Tryz.prog 225 #[.agg #[.int .i64 i0, .int .i64 i1, .int .i64 i2, .int .i64 i3, .int .i64 i4, .int .i64 i5, .int .u64 i6, .int .i64 i7, .int .i64 i8, .int .i64 i9], .pointer (some ⟨B, 0, none⟩)] w fun e w' => e = .returned (.int .i64 (wrap64 (i8.tdiv b))) ∧ Below w.heap.size w w' := by
  have hB : B < w.heap.size := World.block_lt_of_cell? w ⟨B, 0, none⟩ hc
  have hb0 : ¬ b = 0 := hb
  go_enter Tryz.func225, Tryz.ntmps225
  go_wp2
  go_ret
  exact ⟨rfl, below_alloc (Below.refl _ _) _⟩
theorem get_mk (i0 i1 i2 i3 i4 i5 i6 i7 i8 i9 : Int) (j : Nat) (hj : j < 3) (B k : Nat) (t0 t1 t2 : Int) (w : World) (hc : w.cell? ⟨B, 0, none⟩ = some (.int .i64 j)) (hm : mask_Encode.f k i6 = some (t0, t1, t2, 0)) (hTab : TabW w) : Calls Tryz.prog 230 #[.agg #[.int .i64 i0, .int .i64 i1, .int .i64 i2, .int .i64 i3, .int .i64 i4, .int .i64 i5, .int .u64 i6, .int .i64 i7, .int .i64 i8, .int .i64 i9], .pointer (some ⟨B, 0, none⟩)] w fun e w' => e = .returned (.int .i64 (if j = 0 then t0 else if j = 1 then t1 else t2)) ∧ Below w.heap.size w w' := by
  have hB : B < w.heap.size := World.block_lt_of_cell? w ⟨B, 0, none⟩ hc
  have HM := aq hm
  clear hm
  have HC := aq hc
  clear hc
  have i0 : ∀ w, (Instr.index 279 (.agg #[.int .i64 t0, .int .i64 t1, .int .i64 t2]) (.int .i64 0)).run Tryz.prog w = .ok (.int .i64 t0) w := fun _ => by kernel_rfl
  have i1 : ∀ w, (Instr.index 279 (.agg #[.int .i64 t0, .int .i64 t1, .int .i64 t2]) (.int .i64 1)).run Tryz.prog w = .ok (.int .i64 t1) w := fun _ => by kernel_rfl
  have i2 : ∀ w, (Instr.index 279 (.agg #[.int .i64 t0, .int .i64 t1, .int .i64 t2]) (.int .i64 2)).run Tryz.prog w = .ok (.int .i64 t2) w := fun _ => by kernel_rfl
  obtain rfl | rfl | rfl : j = 0 ∨ j = 1 ∨ j = 2 := by omega
  all_goals
    go_enter Tryz.func230, Tryz.ntmps230
    go_wp2_with (first | (go_at_call 231; refine (mask_Encode.calls _ _ _ _ _ _ _ HM.out (hTab := TabW.below hTab (below_alloc (Below.refl _ _) _))).mono ?_; rintro e w1 ⟨rfl, hb1⟩; have hc1 := pw_cell_below hb1 (pw_cell_below (below_alloc (Below.refl _ _) _) HC.out); have HB := aq (below_step (below_alloc (Below.refl _ _) _) hb1); clear hb1) | (go_at_call 82; refine (code_must.ok _).mono ?_; rintro e w2 ⟨rfl, rfl⟩))
    go_ret
    exact ⟨rfl, HB.out⟩
theorem GetV.below {w w' : World} {p : PD} {g : Value} (h : GetV w p g) (hb : Below w.heap.size w w') : GetV w' p g := by
  cases p <;> simp only [GetV] at h ⊢
  all_goals first
    | exact h
    | (obtain ⟨B, e, hc⟩ := h; exact ⟨B, e, pw_cell_below hb hc⟩)
    | (obtain ⟨hj, B, e, hc⟩ := h; exact ⟨hj, B, e, pw_cell_below hb hc⟩)
theorem get_any (k : Nat) (p : PD) (g : Value) (i0 i1 i2 i3 i4 i5 i6 i7 i8 i9 : Int) (v : Int) (w : World) (hg : GetV w p g) (h : p.get k i0 i1 i2 i3 i4 i5 i6 i7 i8 i9 = some v) (hTab : TabW w) :
    (∃ f, g = .func (.func f) #[] #[] ∧ (∀ args W, (callFunc f args).run Tryz.prog W = .ok (.enter f args) W) ∧ ∀ W, Below w.heap.size w W → Calls Tryz.prog f #[.agg #[.int .i64 i0, .int .i64 i1, .int .i64 i2, .int .i64 i3, .int .i64 i4, .int .i64 i5, .int .u64 i6, .int .i64 i7, .int .i64 i8, .int .i64 i9]] W fun e w' => e = .returned (.int .i64 v) ∧ Below W.heap.size W w') ∨
    (∃ f q, g = .func (.func f) #[] #[q] ∧ (∀ args W, (callFunc f args).run Tryz.prog W = .ok (.enter f args) W) ∧ ∀ W, Below w.heap.size w W → Calls Tryz.prog f #[.agg #[.int .i64 i0, .int .i64 i1, .int .i64 i2, .int .i64 i3, .int .i64 i4, .int .i64 i5, .int .u64 i6, .int .i64 i7, .int .i64 i8, .int .i64 i9], q] W fun e w' => e = .returned (.int .i64 v) ∧ Below W.heap.size W w') := by
  cases p <;> simp only [GetV] at hg <;> simp only [PD.get] at h
  · subst hg
    obtain rfl := Option.some.inj h
    exact .inl ⟨_, rfl, enters_ Tryz.func221 (by kernel_rfl) rfl, fun W _ => get_d i0 i1 i2 i3 i4 i5 i6 i7 i8 i9 W⟩
  · subst hg
    obtain rfl := Option.some.inj h
    exact .inl ⟨_, rfl, enters_ Tryz.func227 (by kernel_rfl) rfl, fun W _ => get_n i0 i1 i2 i3 i4 i5 i6 i7 i8 i9 W⟩
  · subst hg
    obtain rfl := Option.some.inj h
    exact .inl ⟨_, rfl, enters_ Tryz.func235 (by kernel_rfl) rfl, fun W _ => get_m i0 i1 i2 i3 i4 i5 i6 i7 i8 i9 W⟩
  · subst hg
    obtain rfl := Option.some.inj h
    exact .inl ⟨_, rfl, enters_ Tryz.func239 (by kernel_rfl) rfl, fun W _ => get_a i0 i1 i2 i3 i4 i5 i6 i7 i8 i9 W⟩
  · split at h
    · cases h
    · obtain ⟨B, rfl, hc⟩ := hg
      obtain rfl := Option.some.inj h
      exact .inr ⟨_, _, rfl, enters_ Tryz.func223 (by kernel_rfl) rfl, fun W hW => get_imm i0 i1 i2 i3 i4 i5 i6 i7 i8 i9 _ B W (by assumption) (pw_cell_below hW hc)⟩
  · split at h
    · cases h
    · obtain ⟨B, rfl, hc⟩ := hg
      obtain rfl := Option.some.inj h
      exact .inr ⟨_, _, rfl, enters_ Tryz.func225 (by kernel_rfl) rfl, fun W hW => get_amt i0 i1 i2 i3 i4 i5 i6 i7 i8 i9 _ B W (by assumption) (pw_cell_below hW hc)⟩
  · subst hg
    obtain rfl := Option.some.inj h
    exact .inl ⟨_, rfl, enters_ Tryz.func237 (by kernel_rfl) rfl, fun W _ => get_sh i0 i1 i2 i3 i4 i5 i6 i7 i8 i9 W⟩
  · subst hg
    obtain rfl := Option.some.inj h
    exact .inl ⟨_, rfl, enters_ Tryz.func245 (by kernel_rfl) rfl, fun W _ => get_cond i0 i1 i2 i3 i4 i5 i6 i7 i8 i9 W⟩
  · subst hg
    obtain rfl := Option.some.inj h
    exact .inl ⟨_, rfl, enters_ Tryz.func241 (by kernel_rfl) rfl, fun W _ => get_lo i0 i1 i2 i3 i4 i5 i6 i7 i8 i9 W⟩
  · subst hg
    obtain rfl := Option.some.inj h
    exact .inl ⟨_, rfl, enters_ Tryz.func243 (by kernel_rfl) rfl, fun W _ => get_hi i0 i1 i2 i3 i4 i5 i6 i7 i8 i9 W⟩
  · obtain ⟨hj, B, rfl, hc⟩ := hg
    obtain ⟨⟨t0, t1, t2, t3⟩, hm, h⟩ := Option.bind_eq_some_iff.mp h
    simp only at h
    split at h
    · obtain rfl := Option.some.inj h
      obtain rfl : t3 = 0 := by assumption
      exact .inr ⟨_, _, rfl, enters_ Tryz.func230 (by kernel_rfl) rfl, fun W hW => get_mk i0 i1 i2 i3 i4 i5 i6 i7 i8 i9 _ hj B k t0 t1 t2 W (pw_cell_below hW hc) hm (hTab.below hW)⟩
    · cases h
theorem bcell_ {W w1 : World} (hb : Below W.heap.size W w1) : (∀ b o, b < W.heap.size → w1.cell? ⟨b, o, none⟩ = W.cell? ⟨b, o, none⟩) ∧ (∀ b o, b < W.heap.size → w1.frozen? ⟨b, o, none⟩ = W.frozen? ⟨b, o, none⟩) :=
  ⟨fun b o h => hb.cell (p := ⟨b, o, none⟩) h, fun b o h => hb.frozen (p := ⟨b, o, none⟩) h⟩
def PD.fieldV (k : Nat) (p : PD) (i0 i1 i2 i3 i4 i5 i6 i7 i8 i9 : Int) : Option Int := (p.get k i0 i1 i2 i3 i4 i5 i6 i7 i8 i9).bind fun v => if p.sg_ = true then (bits_Pack.f k v p.n_).bind fun q => if q.2 = 0 then some q.1 else none else some (v % 4294967296)
set_option maxHeartbeats 4000000 in
theorem code_part_field.calls (k : Nat) (p : PD) (g : Value) (pf : Nat) (pc : Array Value) (i0 i1 i2 i3 i4 i5 i6 i7 i8 i9 : Int) (u : Int) (w : World) (hg : GetV w p g) (h : p.fieldV k i0 i1 i2 i3 i4 i5 i6 i7 i8 i9 = some u) (hTab : TabW w) :
    Calls Tryz.prog 112 #[.agg #[.int .i64 p.at_, .int .i64 p.n_, g, .func (.func pf) #[] pc, .bool p.sg_], .agg #[.int .i64 i0, .int .i64 i1, .int .i64 i2, .int .i64 i3, .int .i64 i4, .int .i64 i5, .int .u64 i6, .int .i64 i7, .int .i64 i8, .int .i64 i9]] w fun e w' => e = .returned (.agg #[.int .i64 p.at_, .int .i64 p.n_, .int .u32 u]) ∧ Below w.heap.size w w' := by
  unfold PD.fieldV at h
  obtain ⟨v, hv, h⟩ := Option.bind_eq_some_iff.mp h
  have hget := get_any k p g i0 i1 i2 i3 i4 i5 i6 i7 i8 i9 v w hg hv hTab
  clear hg hv
  have hBa : ∀ o1 o2 o3 : Obj, Below w.heap.size w (((w.alloc o1).alloc o2).alloc o3) := fun o1 o2 o3 => below_alloc (below_alloc (below_alloc (Below.refl _ _) _) _) _
  generalize p.at_ = at_ at *
  generalize p.n_ = n_ at *
  generalize p.sg_ = sg at *
  cases sg with
  | false =>
    rw [if_neg (by decide)] at h
    obtain rfl := Option.some.inj h
    clear h
    rcases hget with ⟨f, rfl, eg, hc⟩ | ⟨f, q, rfl, eg, hc⟩
    all_goals
      have HC := aq hc
      clear hc
      have HBA := aq hBa
      clear hBa
      go_enter Tryz.func112, Tryz.ntmps112
      go_wp2
      refine (HC.out _ (HBA.out _ _ _)).mono ?_
      rintro e w1 ⟨rfl, hb1⟩
      have hz : w.heap.size + 2 < w1.heap.size := by have := hb1.size; simp at this; omega
      obtain ⟨hc1, hf1⟩ := bcell_ hb1
      have HB := aq (below_step (HBA.out _ _ _) hb1)
      clear hb1
      go_wp2
      refine bodyPost_ret (v := .agg #[.int .i64 at_, .int .i64 n_, .int .u32 (v % 4294967296)]) (by simp [results, Tryz.results112, go_sem, hc1, hz]) rfl ⟨rfl, ?_⟩
      exact Below.setCell (Below.setCell (Below.setCell HB.out (by simp; omega) _) (by simp; omega) _) (by simp; omega) _
  | true =>
    rw [if_pos rfl] at h
    obtain ⟨⟨u1, u2⟩, hp, h⟩ := Option.bind_eq_some_iff.mp h
    simp only at h
    split at h
    next h0 =>
      subst h0
      obtain rfl := Option.some.inj h
      clear h
      have HP := aq hp
      clear hp
      rcases hget with ⟨f, rfl, eg, hc⟩ | ⟨f, q, rfl, eg, hc⟩
      all_goals
        have HC := aq hc
        clear hc
        have HBA := aq hBa
        clear hBa
        go_enter Tryz.func112, Tryz.ntmps112
        go_wp2
        refine (HC.out _ (HBA.out _ _ _)).mono ?_
        rintro e w1 ⟨rfl, hb1⟩
        have hz : w.heap.size + 2 < w1.heap.size := by have := hb1.size; simp at this; omega
        obtain ⟨hc1, hf1⟩ := bcell_ hb1
        have HB := aq (below_step (HBA.out _ _ _) hb1)
        clear hb1
        go_wp2_with (first | (go_at_call 182; refine (bits_Pack.calls _ _ _ _ _ _ HP.out).mono ?_; rintro e w2 ⟨rfl, hd⟩; obtain ⟨n2, rfl⟩ := hd.out; clear hd) | (go_at_call 82; refine (code_must.ok _).mono ?_; rintro e w3 ⟨rfl, rfl⟩))
        refine bodyPost_ret (v := .agg #[.int .i64 at_, .int .i64 n_, .int .u32 u1]) (by simp [results, Tryz.results112, go_sem, hc1, hz]) rfl ⟨rfl, ?_⟩
        exact Below.setCell (Below.setCell (Below.setCell (pw_below_drewN HB.out _) (by simp; omega) _) (by simp; omega) _) (by simp; omega) _
    next => cases h
def PutV (w : World) (T lo : Nat) : PD → Value → Prop
  | .d, g => g = .func (.func 222) #[] #[]
  | .n, g => g = .func (.func 228) #[] #[]
  | .m, g => g = .func (.func 236) #[] #[]
  | .a, g => g = .func (.func 240) #[] #[]
  | .sh, g => g = .func (.func 238) #[] #[]
  | .cond _, g => g = .func (.func 246) #[] #[]
  | .lo, g => g = .func (.func 242) #[] #[]
  | .hi, g => g = .func (.func 244) #[] #[]
  | .imm _ _ b _, g => ∃ B, lo ≤ B ∧ g = .func (.func 224) #[] #[.pointer (some ⟨B, 0, none⟩)] ∧ w.cell? ⟨B, 0, none⟩ = some (.int .i64 b)
  | .amt _ _ b, g => ∃ B, lo ≤ B ∧ g = .func (.func 226) #[] #[.pointer (some ⟨B, 0, none⟩)] ∧ w.cell? ⟨B, 0, none⟩ = some (.int .i64 b)
  | .mk j, g => j < 3 ∧ ∃ B, lo ≤ B ∧ B ≠ T ∧ g = .func (.func 233) #[] #[.pointer (some ⟨T, 0, none⟩), .pointer (some ⟨B, 0, none⟩)] ∧ w.cell? ⟨B, 0, none⟩ = some (.int .i64 j)
theorem PutV.below {w w' : World} {T lo : Nat} {p : PD} {g : Value} (h : PutV w T lo p g) (hb : Below w.heap.size w w') : PutV w' T lo p g := by
  cases p <;> simp only [PutV] at h ⊢
  all_goals first
    | exact h
    | (obtain ⟨B, hl, e, hc⟩ := h; exact ⟨B, hl, e, pw_cell_below hb hc⟩)
    | (obtain ⟨hj, B, hl, hn, e, hc⟩ := h; exact ⟨hj, B, hl, hn, e, pw_cell_below hb hc⟩)
structure PF where
  gf : Nat
  gc : Array Value
  pf : Nat
  pc : Array Value
structure PartOk (w : World) (T lo : Nat) (p : PD) (q : PF) : Prop where
  get : GetV w p (.func (.func q.gf) #[] q.gc)
  put : PutV w T lo p (.func (.func q.pf) #[] q.pc)
theorem PartOk.below {w w' : World} {T lo : Nat} {p : PD} {q : PF} (h : PartOk w T lo p q) (hb : Below w.heap.size w w') : PartOk w' T lo p q := ⟨h.get.below hb, h.put.below hb⟩
structure PartAt (w : World) (T lo R o : Nat) (p : PD) (q : PF) : Prop where
  c0 : w.cell? ⟨R, o, none⟩ = some (.int .i64 p.at_)
  c1 : w.cell? ⟨R, o + 1, none⟩ = some (.int .i64 p.n_)
  c2 : w.cell? ⟨R, o + 2, none⟩ = some (.func (.func q.gf) #[] q.gc)
  c3 : w.cell? ⟨R, o + 3, none⟩ = some (.func (.func q.pf) #[] q.pc)
  c4 : w.cell? ⟨R, o + 4, none⟩ = some (.bool p.sg_)
  ok : PartOk w T lo p q
theorem PartAt.below {w w' : World} {T lo R o : Nat} {p : PD} {q : PF} (h : PartAt w T lo R o p q) (hb : Below w.heap.size w w') : PartAt w' T lo R o p q :=
  ⟨pw_cell_below hb h.c0, pw_cell_below hb h.c1, pw_cell_below hb h.c2, pw_cell_below hb h.c3, pw_cell_below hb h.c4, h.ok.below hb⟩
def PartsAt (w : World) (T lo R : Nat) : Nat → List PD → Prop
  | _, [] => True
  | o, p :: ps => (∃ q, PartAt w T lo R o p q) ∧ PartsAt w T lo R (o + 5) ps
theorem PartsAt.below {w w' : World} {T lo R : Nat} (hb : Below w.heap.size w w') : ∀ {ps : List PD} {o : Nat}, PartsAt w T lo R o ps → PartsAt w' T lo R o ps
  | [], _, _ => trivial
  | _ :: _, _, ⟨⟨q, h⟩, hs⟩ => ⟨⟨q, h.below hb⟩, PartsAt.below hb hs⟩
theorem PartsAt.get {w : World} {T lo R : Nat} : ∀ {ps : List PD} {o : Nat} {i : Nat} {p : PD}, PartsAt w T lo R o ps → ps[i]? = some p → ∃ q, PartAt w T lo R (o + 5 * i) p q
  | [], _, i, p, _, h => by simp at h
  | x :: ps, o, 0, p, ⟨hq, _⟩, h => by
    obtain rfl : x = p := by simpa using h
    exact hq
  | x :: ps, o, i + 1, p, ⟨_, hs⟩, h => by
    have := PartsAt.get hs (i := i) (by simpa using h)
    rw [show o + 5 + 5 * i = o + 5 * (i + 1) by omega] at this
    exact this
theorem PartAt.of {w : World} {T lo R o : Nat} {p : PD} {q : PF} {cur : Array Value} {t : TypeId} {fr : Nat × Nat} (hg : w.heap[R]? = some (.cells cur t fr)) (h0 : cur[o]? = some (.int .i64 p.at_)) (h1 : cur[o + 1]? = some (.int .i64 p.n_))
    (h2 : cur[o + 2]? = some (.func (.func q.gf) #[] q.gc)) (h3 : cur[o + 3]? = some (.func (.func q.pf) #[] q.pc)) (h4 : cur[o + 4]? = some (.bool p.sg_)) (hk : PartOk w T lo p q) : PartAt w T lo R o p q := by
  have e : ∀ j, w.cell? ⟨R, j, none⟩ = cur[j]? := fun j => by
    simp [World.cell?, hg]
  exact ⟨(e _).trans h0, (e _).trans h1, (e _).trans h2, (e _).trans h3, (e _).trans h4, hk⟩
theorem made_d (T lo : Nat) (w : World) : Calls Tryz.prog 146 #[] w fun e w' => ∃ q : PF, e = .returned (.agg #[.int .i64 0, .int .i64 5, .func (.func q.gf) #[] q.gc, .func (.func q.pf) #[] q.pc, .bool false]) ∧ PartOk w' T lo .d q ∧ Below w.heap.size w w' := by
  go_enter Tryz.func146, Tryz.ntmps146
  go_wp2
  refine bodyPost_ret (v := .agg #[.int .i64 0, .int .i64 5, .func (.func 221) #[] #[], .func (.func 222) #[] #[], .bool false]) (by simp [results, Tryz.results146, go_sem]) rfl ⟨⟨_, _, _, _⟩, rfl, ⟨rfl, rfl⟩, ?_⟩
  exact below_alloc (Below.refl _ _) _
theorem made_n (T lo : Nat) (w : World) : Calls Tryz.prog 149 #[] w fun e w' => ∃ q : PF, e = .returned (.agg #[.int .i64 5, .int .i64 5, .func (.func q.gf) #[] q.gc, .func (.func q.pf) #[] q.pc, .bool false]) ∧ PartOk w' T lo .n q ∧ Below w.heap.size w w' := by
  go_enter Tryz.func149, Tryz.ntmps149
  go_wp2
  refine bodyPost_ret (v := .agg #[.int .i64 5, .int .i64 5, .func (.func 227) #[] #[], .func (.func 228) #[] #[], .bool false]) (by simp [results, Tryz.results149, go_sem]) rfl ⟨⟨_, _, _, _⟩, rfl, ⟨rfl, rfl⟩, ?_⟩
  exact below_alloc (Below.refl _ _) _
theorem made_m (T lo : Nat) (w : World) : Calls Tryz.prog 151 #[] w fun e w' => ∃ q : PF, e = .returned (.agg #[.int .i64 16, .int .i64 5, .func (.func q.gf) #[] q.gc, .func (.func q.pf) #[] q.pc, .bool false]) ∧ PartOk w' T lo .m q ∧ Below w.heap.size w w' := by
  go_enter Tryz.func151, Tryz.ntmps151
  go_wp2
  refine bodyPost_ret (v := .agg #[.int .i64 16, .int .i64 5, .func (.func 235) #[] #[], .func (.func 236) #[] #[], .bool false]) (by simp [results, Tryz.results151, go_sem]) rfl ⟨⟨_, _, _, _⟩, rfl, ⟨rfl, rfl⟩, ?_⟩
  exact below_alloc (Below.refl _ _) _
theorem made_a (T lo : Nat) (w : World) : Calls Tryz.prog 153 #[] w fun e w' => ∃ q : PF, e = .returned (.agg #[.int .i64 10, .int .i64 5, .func (.func q.gf) #[] q.gc, .func (.func q.pf) #[] q.pc, .bool false]) ∧ PartOk w' T lo .a q ∧ Below w.heap.size w w' := by
  go_enter Tryz.func153, Tryz.ntmps153
  go_wp2
  refine bodyPost_ret (v := .agg #[.int .i64 10, .int .i64 5, .func (.func 239) #[] #[], .func (.func 240) #[] #[], .bool false]) (by simp [results, Tryz.results153, go_sem]) rfl ⟨⟨_, _, _, _⟩, rfl, ⟨rfl, rfl⟩, ?_⟩
  exact below_alloc (Below.refl _ _) _
theorem made_sh (T lo : Nat) (w : World) : Calls Tryz.prog 152 #[] w fun e w' => ∃ q : PF, e = .returned (.agg #[.int .i64 22, .int .i64 2, .func (.func q.gf) #[] q.gc, .func (.func q.pf) #[] q.pc, .bool false]) ∧ PartOk w' T lo .sh q ∧ Below w.heap.size w w' := by
  go_enter Tryz.func152, Tryz.ntmps152
  go_wp2
  refine bodyPost_ret (v := .agg #[.int .i64 22, .int .i64 2, .func (.func 237) #[] #[], .func (.func 238) #[] #[], .bool false]) (by simp [results, Tryz.results152, go_sem]) rfl ⟨⟨_, _, _, _⟩, rfl, ⟨rfl, rfl⟩, ?_⟩
  exact below_alloc (Below.refl _ _) _
theorem made_cond (T lo : Nat) (x : Int) (w : World) : Calls Tryz.prog 155 #[.int .i64 x] w fun e w' => ∃ q : PF, e = .returned (.agg #[.int .i64 x, .int .i64 4, .func (.func q.gf) #[] q.gc, .func (.func q.pf) #[] q.pc, .bool false]) ∧ PartOk w' T lo (.cond x) q ∧ Below w.heap.size w w' := by
  go_enter Tryz.func155, Tryz.ntmps155
  go_wp2
  refine bodyPost_ret (v := .agg #[.int .i64 x, .int .i64 4, .func (.func 245) #[] #[], .func (.func 246) #[] #[], .bool false]) (by simp [results, Tryz.results155, go_sem]) rfl ⟨⟨_, _, _, _⟩, rfl, ⟨rfl, rfl⟩, ?_⟩
  exact below_alloc (Below.refl _ _) _
theorem made_imm (T lo : Nat) (x n b : Int) (s : Bool) (w : World) (hlo : lo ≤ w.heap.size) : Calls Tryz.prog 147 #[.int .i64 x, .int .i64 n, .int .i64 b, .bool s] w fun e w' => ∃ q : PF, e = .returned (.agg #[.int .i64 x, .int .i64 n, .func (.func q.gf) #[] q.gc, .func (.func q.pf) #[] q.pc, .bool s]) ∧ PartOk w' T lo (.imm x n b s) q ∧ Below w.heap.size w w' := by
  go_enter Tryz.func147, Tryz.ntmps147
  go_wp2
  have hc : ((w.alloc (.cells #[.int .i64 b] 3 (0, 0))).alloc (.cells #[.int .i64 x, .int .i64 n, .func (.func 223) #[] #[.pointer (some ⟨w.heap.size, 0, none⟩)], .func (.func 224) #[] #[.pointer (some ⟨w.heap.size, 0, none⟩)], .bool s] 135)).cell? ⟨w.heap.size, 0, none⟩ = some (.int .i64 b) := by simp [go_sem]
  refine bodyPost_ret (v := .agg #[.int .i64 x, .int .i64 n, .func (.func 223) #[] #[.pointer (some ⟨w.heap.size, 0, none⟩)], .func (.func 224) #[] #[.pointer (some ⟨w.heap.size, 0, none⟩)], .bool s]) (by simp [results, Tryz.results147, go_sem]) rfl ⟨⟨_, _, _, _⟩, rfl, ⟨⟨_, rfl, hc⟩, ⟨_, hlo, rfl, hc⟩⟩, ?_⟩
  exact below_alloc (below_alloc (Below.refl _ _) _) _
theorem made_amt (T lo : Nat) (x n b : Int) (w : World) (hlo : lo ≤ w.heap.size) : Calls Tryz.prog 148 #[.int .i64 x, .int .i64 n, .int .i64 b] w fun e w' => ∃ q : PF, e = .returned (.agg #[.int .i64 x, .int .i64 n, .func (.func q.gf) #[] q.gc, .func (.func q.pf) #[] q.pc, .bool false]) ∧ PartOk w' T lo (.amt x n b) q ∧ Below w.heap.size w w' := by
  go_enter Tryz.func148, Tryz.ntmps148
  go_wp2
  have hc : ((w.alloc (.cells #[.int .i64 b] 3 (0, 0))).alloc (.cells #[.int .i64 x, .int .i64 n, .func (.func 225) #[] #[.pointer (some ⟨w.heap.size, 0, none⟩)], .func (.func 226) #[] #[.pointer (some ⟨w.heap.size, 0, none⟩)], .bool false] 135)).cell? ⟨w.heap.size, 0, none⟩ = some (.int .i64 b) := by simp [go_sem]
  refine bodyPost_ret (v := .agg #[.int .i64 x, .int .i64 n, .func (.func 225) #[] #[.pointer (some ⟨w.heap.size, 0, none⟩)], .func (.func 226) #[] #[.pointer (some ⟨w.heap.size, 0, none⟩)], .bool false]) (by simp [results, Tryz.results148, go_sem]) rfl ⟨⟨_, _, _, _⟩, rfl, ⟨⟨_, rfl, hc⟩, ⟨_, hlo, rfl, hc⟩⟩, ?_⟩
  exact below_alloc (below_alloc (Below.refl _ _) _) _
def ToldIs (w : World) (T : Nat) (t0 t1 t2 : Int) : Prop := w.heap[T]? = some (.cells #[.int .i64 t0, .int .i64 t1, .int .i64 t2] 279 (0, 0))
theorem cd_last (w : World) (o : Obj) : (w.alloc o).heap[w.heap.size]? = some o := by
  show (w.heap.push o)[w.heap.size]? = some o
  simp
theorem ToldIs.below {w w' : World} {T : Nat} {t0 t1 t2 : Int} (h : ToldIs w T t0 t1 t2) (hb : Below w.heap.size w w') : ToldIs w' T t0 t1 t2 := (hb.block T (Array.getElem?_eq_some_iff.1 h).1).trans h
theorem take_get_ {α : Type} {a : Array α} {m : Nat} {xs : List α} (h : a.toList.take m = xs) (j : Nat) (hj : j < m) : a[j]? = xs[j]? := by
  subst h
  rw [List.getElem?_take_of_lt hj, Array.getElem?_toList]
def PartCells (p : PD) (q : PF) : List Value := [.int .i64 p.at_, .int .i64 p.n_, .func (.func q.gf) #[] q.gc, .func (.func q.pf) #[] q.pc, .bool p.sg_]
set_option maxHeartbeats 4000000 in
theorem made_masked (lo : Nat) (w : World) (hlo : lo ≤ w.heap.size) : Calls Tryz.prog 150 #[] w fun e w' => ∃ w6 T q0 q1 q2, e = .returned (.slice (some ⟨w6.heap.size, 0, none⟩) 3 3) ∧ w6.alloc (.cells (PartCells (.mk 0) q0 ++ PartCells (.mk 1) q1 ++ PartCells (.mk 2) q2).toArray 135 (0, 0)) = w' ∧
    PartOk w6 T lo (.mk 0) q0 ∧ PartOk w6 T lo (.mk 1) q1 ∧ PartOk w6 T lo (.mk 2) q2 ∧ ToldIs w6 T 0 0 0 ∧ w.heap.size ≤ T ∧ Below w.heap.size w w6 := by
  have hmf : ∀ (fn : Fn) (first cap : Array Value) (w : World), (Instr.makeFunc fn first cap).run Tryz.prog w = .ok (.func fn first cap) w := fun _ _ _ _ => rfl
  go_enter Tryz.func150, Tryz.ntmps150
  go_wp2
  go_ret
  refine ⟨_, w.heap.size, ⟨_, _, _, _⟩, ⟨_, _, _, _⟩, ⟨_, _, _, _⟩, ?r, rfl, ⟨⟨by omega, _, rfl, ?c0⟩, ⟨by omega, _, ?l0, ?n0, rfl, ?d0⟩⟩, ⟨⟨by omega, _, rfl, ?c1⟩, ⟨by omega, _, ?l1, ?n1, rfl, ?d1⟩⟩, ⟨⟨by omega, _, rfl, ?c2⟩, ⟨by omega, _, ?l2, ?n2, rfl, ?d2⟩⟩, ?t, Nat.le_refl _, ?b⟩
  case b => exact below_alloc (below_alloc (below_alloc (below_alloc (below_alloc (below_alloc (below_alloc (Below.refl _ _) _) _) _) _) _) _) _
  case t => exact blk_alloc (blk_alloc (blk_alloc (blk_alloc (blk_alloc (blk_alloc (cd_last w _) _) _) _) _) _) _
  all_goals first | (simp [go_sem]; done) | omega | (simp; omega)
theorem made_page (T lo : Nat) (w : World) : Calls Tryz.prog 154 #[] w fun e w' => ∃ w6 q0 q1, e = .returned (.slice (some ⟨w6.heap.size, 0, none⟩) 2 2) ∧ w6.alloc (.cells (PartCells .lo q0 ++ PartCells .hi q1).toArray 135 (0, 0)) = w' ∧
    PartOk w6 T lo .lo q0 ∧ PartOk w6 T lo .hi q1 ∧ Below w.heap.size w w6 := by
  go_enter Tryz.func154, Tryz.ntmps154
  go_wp2
  go_ret
  refine ⟨_, ⟨_, _, _, _⟩, ⟨_, _, _, _⟩, ?r, rfl, ⟨rfl, rfl⟩, ⟨rfl, rfl⟩, ?b⟩
  case b => exact below_alloc (below_alloc (Below.refl _ _) _) _
  case r => simp
def partsOf (s : Int) : List PD := if s = 1 then [.d, .imm 5 16 1 false, .amt 21 2 16] else if s = 2 then [.d, .n, .imm 10 12 1 false, .amt 22 1 12] else if s = 3 then [.mk 0, .mk 1, .mk 2, .d, .n] else if s = 4 then [.d, .n, .m, .amt 10 6 1, .sh] else if s = 5 then [.d, .n, .m, .amt 10 6 1, .sh] else if s = 6 then [.d, .n, .m, .a] else if s = 7 then [.d, .n, .imm 10 12 8 false] else if s = 8 then [.d, .n, .imm 10 12 1 false] else if s = 9 then [.d, .imm 5 19 4 true] else if s = 10 then [.lo, .hi, .d] else if s = 11 then [.imm 0 26 4 true] else if s = 12 then [.cond 0, .imm 5 19 4 true] else if s = 13 then [.n] else if s = 14 then [.imm 5 16 1 false] else if s = 16 then [.d, .n, .m, .cond 12] else []
def flatP : List PD → List PF → List Value
  | p :: ps, q :: qs => PartCells p q ++ flatP ps qs
  | _, _ => []
def Oks (w : World) (T lo : Nat) : List PD → List PF → Prop
  | [], [] => True
  | p :: ps, q :: qs => PartOk w T lo p q ∧ Oks w T lo ps qs
  | _, _ => False
theorem Oks.below {w w' : World} {T lo : Nat} (hb : Below w.heap.size w w') : ∀ {ps : List PD} {qs : List PF}, Oks w T lo ps qs → Oks w' T lo ps qs
  | [], [], _ => trivial
  | _ :: _, _ :: _, ⟨h, hs⟩ => ⟨h.below hb, Oks.below hb hs⟩
theorem PartsAt.of {w : World} {T lo R : Nat} {cur : Array Value} {t : TypeId} {fr : Nat × Nat} (hg : w.heap[R]? = some (.cells cur t fr)) : ∀ {ps : List PD} {qs : List PF} {o : Nat}, Oks w T lo ps qs → (∀ j, j < (flatP ps qs).length → cur[o + j]? = (flatP ps qs)[j]?) → PartsAt w T lo R o ps
  | [], [], _, _, _ => trivial
  | p :: ps, q :: qs, o, ⟨h, hs⟩, hc => by
    have hl : (flatP (p :: ps) (q :: qs)).length = 5 + (flatP ps qs).length := by
      simp only [flatP, PartCells, List.length_append, List.length_cons, List.length_nil]
    refine ⟨⟨q, PartAt.of hg ?_ ?_ ?_ ?_ ?_ h⟩, PartsAt.of hg hs (o := o + 5) fun j hj => ?_⟩
    · exact (hc 0 (by omega)).trans rfl
    · exact (hc 1 (by omega)).trans rfl
    · exact (hc 2 (by omega)).trans rfl
    · exact (hc 3 (by omega)).trans rfl
    · exact (hc 4 (by omega)).trans rfl
    · rw [show o + 5 + j = o + (5 + j) by omega, hc (5 + j) (by omega)]
      simp only [flatP]
      rw [List.getElem?_append_right (by simp [PartCells])]
      simp [PartCells]
set_option maxHeartbeats 2000000 in
theorem parts_1 (T lo : Nat) (w : World) (hlo : lo ≤ w.heap.size) : Calls Tryz.prog 80 #[.int .i64 1] w fun e w' => ∃ w6 qs, e = .returned (.slice (some ⟨w6.heap.size, 0, none⟩) 3 3) ∧ w6.alloc (.cells (flatP [.d, .imm 5 16 1 false, .amt 21 2 16] qs).toArray 135 (0, 0)) = w' ∧ Oks w6 T lo [.d, .imm 5 16 1 false, .amt 21 2 16] qs ∧ Below w.heap.size w w6 := by
  go_enter Tryz.func80, Tryz.ntmps80
  go_wp2_with fail
  refine (made_d T lo _).mono ?_
  rintro e w1 ⟨q1, rfl, k1, b1⟩
  have k1_ := aq k1
  have b1_ := aq b1
  clear k1 b1
  go_wp2_with fail
  refine (made_imm T lo 5 16 1 false _ (by have := hlo; have := b1_.out.size; omega)).mono ?_
  rintro e w2 ⟨q2, rfl, k2, b2⟩
  have k2_ := aq k2
  have b2_ := aq b2
  clear k2 b2
  go_wp2_with fail
  refine (made_amt T lo 21 2 16 _ (by have := hlo; have := b1_.out.size; have := b2_.out.size; omega)).mono ?_
  rintro e w3 ⟨q3, rfl, k3, b3⟩
  have k3_ := aq k3
  have b3_ := aq b3
  clear k3 b3
  go_wp2_with fail
  go_ret
  exact ⟨_, [q1, q2, q3], rfl, rfl, ⟨k1_.out.below (below_step b2_.out b3_.out), k2_.out.below b3_.out, k3_.out, trivial⟩, below_step (below_step b1_.out b2_.out) b3_.out⟩
set_option maxHeartbeats 2000000 in
theorem parts_2 (T lo : Nat) (w : World) (hlo : lo ≤ w.heap.size) : Calls Tryz.prog 80 #[.int .i64 2] w fun e w' => ∃ w6 qs, e = .returned (.slice (some ⟨w6.heap.size, 0, none⟩) 4 4) ∧ w6.alloc (.cells (flatP [.d, .n, .imm 10 12 1 false, .amt 22 1 12] qs).toArray 135 (0, 0)) = w' ∧ Oks w6 T lo [.d, .n, .imm 10 12 1 false, .amt 22 1 12] qs ∧ Below w.heap.size w w6 := by
  go_enter Tryz.func80, Tryz.ntmps80
  go_wp2_with fail
  refine (made_d T lo _).mono ?_
  rintro e w1 ⟨q1, rfl, k1, b1⟩
  have k1_ := aq k1
  have b1_ := aq b1
  clear k1 b1
  go_wp2_with fail
  refine (made_n T lo _).mono ?_
  rintro e w2 ⟨q2, rfl, k2, b2⟩
  have k2_ := aq k2
  have b2_ := aq b2
  clear k2 b2
  go_wp2_with fail
  refine (made_imm T lo 10 12 1 false _ (by have := hlo; have := b1_.out.size; have := b2_.out.size; omega)).mono ?_
  rintro e w3 ⟨q3, rfl, k3, b3⟩
  have k3_ := aq k3
  have b3_ := aq b3
  clear k3 b3
  go_wp2_with fail
  refine (made_amt T lo 22 1 12 _ (by have := hlo; have := b1_.out.size; have := b2_.out.size; have := b3_.out.size; omega)).mono ?_
  rintro e w4 ⟨q4, rfl, k4, b4⟩
  have k4_ := aq k4
  have b4_ := aq b4
  clear k4 b4
  go_wp2_with fail
  go_ret
  exact ⟨_, [q1, q2, q3, q4], rfl, rfl, ⟨k1_.out.below (below_step (below_step b2_.out b3_.out) b4_.out), k2_.out.below (below_step b3_.out b4_.out), k3_.out.below b4_.out, k4_.out, trivial⟩, below_step (below_step (below_step b1_.out b2_.out) b3_.out) b4_.out⟩
set_option maxHeartbeats 2000000 in
theorem parts_4 (T lo : Nat) (w : World) (hlo : lo ≤ w.heap.size) : Calls Tryz.prog 80 #[.int .i64 4] w fun e w' => ∃ w6 qs, e = .returned (.slice (some ⟨w6.heap.size, 0, none⟩) 5 5) ∧ w6.alloc (.cells (flatP [.d, .n, .m, .amt 10 6 1, .sh] qs).toArray 135 (0, 0)) = w' ∧ Oks w6 T lo [.d, .n, .m, .amt 10 6 1, .sh] qs ∧ Below w.heap.size w w6 := by
  go_enter Tryz.func80, Tryz.ntmps80
  go_wp2_with fail
  refine (made_d T lo _).mono ?_
  rintro e w1 ⟨q1, rfl, k1, b1⟩
  have k1_ := aq k1
  have b1_ := aq b1
  clear k1 b1
  go_wp2_with fail
  refine (made_n T lo _).mono ?_
  rintro e w2 ⟨q2, rfl, k2, b2⟩
  have k2_ := aq k2
  have b2_ := aq b2
  clear k2 b2
  go_wp2_with fail
  refine (made_m T lo _).mono ?_
  rintro e w3 ⟨q3, rfl, k3, b3⟩
  have k3_ := aq k3
  have b3_ := aq b3
  clear k3 b3
  go_wp2_with fail
  refine (made_amt T lo 10 6 1 _ (by have := hlo; have := b1_.out.size; have := b2_.out.size; have := b3_.out.size; omega)).mono ?_
  rintro e w4 ⟨q4, rfl, k4, b4⟩
  have k4_ := aq k4
  have b4_ := aq b4
  clear k4 b4
  go_wp2_with fail
  refine (made_sh T lo _).mono ?_
  rintro e w5 ⟨q5, rfl, k5, b5⟩
  have k5_ := aq k5
  have b5_ := aq b5
  clear k5 b5
  go_wp2_with fail
  go_ret
  exact ⟨_, [q1, q2, q3, q4, q5], rfl, rfl, ⟨k1_.out.below (below_step (below_step (below_step b2_.out b3_.out) b4_.out) b5_.out), k2_.out.below (below_step (below_step b3_.out b4_.out) b5_.out), k3_.out.below (below_step b4_.out b5_.out), k4_.out.below b5_.out, k5_.out, trivial⟩, below_step (below_step (below_step (below_step b1_.out b2_.out) b3_.out) b4_.out) b5_.out⟩
set_option maxHeartbeats 2000000 in
theorem parts_5 (T lo : Nat) (w : World) (hlo : lo ≤ w.heap.size) : Calls Tryz.prog 80 #[.int .i64 5] w fun e w' => ∃ w6 qs, e = .returned (.slice (some ⟨w6.heap.size, 0, none⟩) 5 5) ∧ w6.alloc (.cells (flatP [.d, .n, .m, .amt 10 6 1, .sh] qs).toArray 135 (0, 0)) = w' ∧ Oks w6 T lo [.d, .n, .m, .amt 10 6 1, .sh] qs ∧ Below w.heap.size w w6 := by
  go_enter Tryz.func80, Tryz.ntmps80
  go_wp2_with fail
  refine (made_d T lo _).mono ?_
  rintro e w1 ⟨q1, rfl, k1, b1⟩
  have k1_ := aq k1
  have b1_ := aq b1
  clear k1 b1
  go_wp2_with fail
  refine (made_n T lo _).mono ?_
  rintro e w2 ⟨q2, rfl, k2, b2⟩
  have k2_ := aq k2
  have b2_ := aq b2
  clear k2 b2
  go_wp2_with fail
  refine (made_m T lo _).mono ?_
  rintro e w3 ⟨q3, rfl, k3, b3⟩
  have k3_ := aq k3
  have b3_ := aq b3
  clear k3 b3
  go_wp2_with fail
  refine (made_amt T lo 10 6 1 _ (by have := hlo; have := b1_.out.size; have := b2_.out.size; have := b3_.out.size; omega)).mono ?_
  rintro e w4 ⟨q4, rfl, k4, b4⟩
  have k4_ := aq k4
  have b4_ := aq b4
  clear k4 b4
  go_wp2_with fail
  refine (made_sh T lo _).mono ?_
  rintro e w5 ⟨q5, rfl, k5, b5⟩
  have k5_ := aq k5
  have b5_ := aq b5
  clear k5 b5
  go_wp2_with fail
  go_ret
  exact ⟨_, [q1, q2, q3, q4, q5], rfl, rfl, ⟨k1_.out.below (below_step (below_step (below_step b2_.out b3_.out) b4_.out) b5_.out), k2_.out.below (below_step (below_step b3_.out b4_.out) b5_.out), k3_.out.below (below_step b4_.out b5_.out), k4_.out.below b5_.out, k5_.out, trivial⟩, below_step (below_step (below_step (below_step b1_.out b2_.out) b3_.out) b4_.out) b5_.out⟩
set_option maxHeartbeats 2000000 in
theorem parts_6 (T lo : Nat) (w : World) (hlo : lo ≤ w.heap.size) : Calls Tryz.prog 80 #[.int .i64 6] w fun e w' => ∃ w6 qs, e = .returned (.slice (some ⟨w6.heap.size, 0, none⟩) 4 4) ∧ w6.alloc (.cells (flatP [.d, .n, .m, .a] qs).toArray 135 (0, 0)) = w' ∧ Oks w6 T lo [.d, .n, .m, .a] qs ∧ Below w.heap.size w w6 := by
  go_enter Tryz.func80, Tryz.ntmps80
  go_wp2_with fail
  refine (made_d T lo _).mono ?_
  rintro e w1 ⟨q1, rfl, k1, b1⟩
  have k1_ := aq k1
  have b1_ := aq b1
  clear k1 b1
  go_wp2_with fail
  refine (made_n T lo _).mono ?_
  rintro e w2 ⟨q2, rfl, k2, b2⟩
  have k2_ := aq k2
  have b2_ := aq b2
  clear k2 b2
  go_wp2_with fail
  refine (made_m T lo _).mono ?_
  rintro e w3 ⟨q3, rfl, k3, b3⟩
  have k3_ := aq k3
  have b3_ := aq b3
  clear k3 b3
  go_wp2_with fail
  refine (made_a T lo _).mono ?_
  rintro e w4 ⟨q4, rfl, k4, b4⟩
  have k4_ := aq k4
  have b4_ := aq b4
  clear k4 b4
  go_wp2_with fail
  go_ret
  exact ⟨_, [q1, q2, q3, q4], rfl, rfl, ⟨k1_.out.below (below_step (below_step b2_.out b3_.out) b4_.out), k2_.out.below (below_step b3_.out b4_.out), k3_.out.below b4_.out, k4_.out, trivial⟩, below_step (below_step (below_step b1_.out b2_.out) b3_.out) b4_.out⟩
set_option maxHeartbeats 2000000 in
theorem parts_7 (T lo : Nat) (w : World) (hlo : lo ≤ w.heap.size) : Calls Tryz.prog 80 #[.int .i64 7] w fun e w' => ∃ w6 qs, e = .returned (.slice (some ⟨w6.heap.size, 0, none⟩) 3 3) ∧ w6.alloc (.cells (flatP [.d, .n, .imm 10 12 8 false] qs).toArray 135 (0, 0)) = w' ∧ Oks w6 T lo [.d, .n, .imm 10 12 8 false] qs ∧ Below w.heap.size w w6 := by
  go_enter Tryz.func80, Tryz.ntmps80
  go_wp2_with fail
  refine (made_d T lo _).mono ?_
  rintro e w1 ⟨q1, rfl, k1, b1⟩
  have k1_ := aq k1
  have b1_ := aq b1
  clear k1 b1
  go_wp2_with fail
  refine (made_n T lo _).mono ?_
  rintro e w2 ⟨q2, rfl, k2, b2⟩
  have k2_ := aq k2
  have b2_ := aq b2
  clear k2 b2
  go_wp2_with fail
  refine (made_imm T lo 10 12 8 false _ (by have := hlo; have := b1_.out.size; have := b2_.out.size; omega)).mono ?_
  rintro e w3 ⟨q3, rfl, k3, b3⟩
  have k3_ := aq k3
  have b3_ := aq b3
  clear k3 b3
  go_wp2_with fail
  go_ret
  exact ⟨_, [q1, q2, q3], rfl, rfl, ⟨k1_.out.below (below_step b2_.out b3_.out), k2_.out.below b3_.out, k3_.out, trivial⟩, below_step (below_step b1_.out b2_.out) b3_.out⟩
set_option maxHeartbeats 2000000 in
theorem parts_8 (T lo : Nat) (w : World) (hlo : lo ≤ w.heap.size) : Calls Tryz.prog 80 #[.int .i64 8] w fun e w' => ∃ w6 qs, e = .returned (.slice (some ⟨w6.heap.size, 0, none⟩) 3 3) ∧ w6.alloc (.cells (flatP [.d, .n, .imm 10 12 1 false] qs).toArray 135 (0, 0)) = w' ∧ Oks w6 T lo [.d, .n, .imm 10 12 1 false] qs ∧ Below w.heap.size w w6 := by
  go_enter Tryz.func80, Tryz.ntmps80
  go_wp2_with fail
  refine (made_d T lo _).mono ?_
  rintro e w1 ⟨q1, rfl, k1, b1⟩
  have k1_ := aq k1
  have b1_ := aq b1
  clear k1 b1
  go_wp2_with fail
  refine (made_n T lo _).mono ?_
  rintro e w2 ⟨q2, rfl, k2, b2⟩
  have k2_ := aq k2
  have b2_ := aq b2
  clear k2 b2
  go_wp2_with fail
  refine (made_imm T lo 10 12 1 false _ (by have := hlo; have := b1_.out.size; have := b2_.out.size; omega)).mono ?_
  rintro e w3 ⟨q3, rfl, k3, b3⟩
  have k3_ := aq k3
  have b3_ := aq b3
  clear k3 b3
  go_wp2_with fail
  go_ret
  exact ⟨_, [q1, q2, q3], rfl, rfl, ⟨k1_.out.below (below_step b2_.out b3_.out), k2_.out.below b3_.out, k3_.out, trivial⟩, below_step (below_step b1_.out b2_.out) b3_.out⟩
set_option maxHeartbeats 2000000 in
theorem parts_9 (T lo : Nat) (w : World) (hlo : lo ≤ w.heap.size) : Calls Tryz.prog 80 #[.int .i64 9] w fun e w' => ∃ w6 qs, e = .returned (.slice (some ⟨w6.heap.size, 0, none⟩) 2 2) ∧ w6.alloc (.cells (flatP [.d, .imm 5 19 4 true] qs).toArray 135 (0, 0)) = w' ∧ Oks w6 T lo [.d, .imm 5 19 4 true] qs ∧ Below w.heap.size w w6 := by
  go_enter Tryz.func80, Tryz.ntmps80
  go_wp2_with fail
  refine (made_d T lo _).mono ?_
  rintro e w1 ⟨q1, rfl, k1, b1⟩
  have k1_ := aq k1
  have b1_ := aq b1
  clear k1 b1
  go_wp2_with fail
  refine (made_imm T lo 5 19 4 true _ (by have := hlo; have := b1_.out.size; omega)).mono ?_
  rintro e w2 ⟨q2, rfl, k2, b2⟩
  have k2_ := aq k2
  have b2_ := aq b2
  clear k2 b2
  go_wp2_with fail
  go_ret
  exact ⟨_, [q1, q2], rfl, rfl, ⟨k1_.out.below b2_.out, k2_.out, trivial⟩, below_step b1_.out b2_.out⟩
set_option maxHeartbeats 2000000 in
theorem parts_11 (T lo : Nat) (w : World) (hlo : lo ≤ w.heap.size) : Calls Tryz.prog 80 #[.int .i64 11] w fun e w' => ∃ w6 qs, e = .returned (.slice (some ⟨w6.heap.size, 0, none⟩) 1 1) ∧ w6.alloc (.cells (flatP [.imm 0 26 4 true] qs).toArray 135 (0, 0)) = w' ∧ Oks w6 T lo [.imm 0 26 4 true] qs ∧ Below w.heap.size w w6 := by
  go_enter Tryz.func80, Tryz.ntmps80
  go_wp2_with fail
  refine (made_imm T lo 0 26 4 true _ (by have := hlo; omega)).mono ?_
  rintro e w1 ⟨q1, rfl, k1, b1⟩
  have k1_ := aq k1
  have b1_ := aq b1
  clear k1 b1
  go_wp2_with fail
  go_ret
  exact ⟨_, [q1], rfl, rfl, ⟨k1_.out, trivial⟩, b1_.out⟩
set_option maxHeartbeats 2000000 in
theorem parts_12 (T lo : Nat) (w : World) (hlo : lo ≤ w.heap.size) : Calls Tryz.prog 80 #[.int .i64 12] w fun e w' => ∃ w6 qs, e = .returned (.slice (some ⟨w6.heap.size, 0, none⟩) 2 2) ∧ w6.alloc (.cells (flatP [.cond 0, .imm 5 19 4 true] qs).toArray 135 (0, 0)) = w' ∧ Oks w6 T lo [.cond 0, .imm 5 19 4 true] qs ∧ Below w.heap.size w w6 := by
  go_enter Tryz.func80, Tryz.ntmps80
  go_wp2_with fail
  refine (made_cond T lo 0 _).mono ?_
  rintro e w1 ⟨q1, rfl, k1, b1⟩
  have k1_ := aq k1
  have b1_ := aq b1
  clear k1 b1
  go_wp2_with fail
  refine (made_imm T lo 5 19 4 true _ (by have := hlo; have := b1_.out.size; omega)).mono ?_
  rintro e w2 ⟨q2, rfl, k2, b2⟩
  have k2_ := aq k2
  have b2_ := aq b2
  clear k2 b2
  go_wp2_with fail
  go_ret
  exact ⟨_, [q1, q2], rfl, rfl, ⟨k1_.out.below b2_.out, k2_.out, trivial⟩, below_step b1_.out b2_.out⟩
set_option maxHeartbeats 2000000 in
theorem parts_13 (T lo : Nat) (w : World) (hlo : lo ≤ w.heap.size) : Calls Tryz.prog 80 #[.int .i64 13] w fun e w' => ∃ w6 qs, e = .returned (.slice (some ⟨w6.heap.size, 0, none⟩) 1 1) ∧ w6.alloc (.cells (flatP [.n] qs).toArray 135 (0, 0)) = w' ∧ Oks w6 T lo [.n] qs ∧ Below w.heap.size w w6 := by
  go_enter Tryz.func80, Tryz.ntmps80
  go_wp2_with fail
  refine (made_n T lo _).mono ?_
  rintro e w1 ⟨q1, rfl, k1, b1⟩
  have k1_ := aq k1
  have b1_ := aq b1
  clear k1 b1
  go_wp2_with fail
  go_ret
  exact ⟨_, [q1], rfl, rfl, ⟨k1_.out, trivial⟩, b1_.out⟩
set_option maxHeartbeats 2000000 in
theorem parts_14 (T lo : Nat) (w : World) (hlo : lo ≤ w.heap.size) : Calls Tryz.prog 80 #[.int .i64 14] w fun e w' => ∃ w6 qs, e = .returned (.slice (some ⟨w6.heap.size, 0, none⟩) 1 1) ∧ w6.alloc (.cells (flatP [.imm 5 16 1 false] qs).toArray 135 (0, 0)) = w' ∧ Oks w6 T lo [.imm 5 16 1 false] qs ∧ Below w.heap.size w w6 := by
  go_enter Tryz.func80, Tryz.ntmps80
  go_wp2_with fail
  refine (made_imm T lo 5 16 1 false _ (by have := hlo; omega)).mono ?_
  rintro e w1 ⟨q1, rfl, k1, b1⟩
  have k1_ := aq k1
  have b1_ := aq b1
  clear k1 b1
  go_wp2_with fail
  go_ret
  exact ⟨_, [q1], rfl, rfl, ⟨k1_.out, trivial⟩, b1_.out⟩
set_option maxHeartbeats 2000000 in
theorem parts_16 (T lo : Nat) (w : World) (hlo : lo ≤ w.heap.size) : Calls Tryz.prog 80 #[.int .i64 16] w fun e w' => ∃ w6 qs, e = .returned (.slice (some ⟨w6.heap.size, 0, none⟩) 4 4) ∧ w6.alloc (.cells (flatP [.d, .n, .m, .cond 12] qs).toArray 135 (0, 0)) = w' ∧ Oks w6 T lo [.d, .n, .m, .cond 12] qs ∧ Below w.heap.size w w6 := by
  go_enter Tryz.func80, Tryz.ntmps80
  go_wp2_with fail
  refine (made_d T lo _).mono ?_
  rintro e w1 ⟨q1, rfl, k1, b1⟩
  have k1_ := aq k1
  have b1_ := aq b1
  clear k1 b1
  go_wp2_with fail
  refine (made_n T lo _).mono ?_
  rintro e w2 ⟨q2, rfl, k2, b2⟩
  have k2_ := aq k2
  have b2_ := aq b2
  clear k2 b2
  go_wp2_with fail
  refine (made_m T lo _).mono ?_
  rintro e w3 ⟨q3, rfl, k3, b3⟩
  have k3_ := aq k3
  have b3_ := aq b3
  clear k3 b3
  go_wp2_with fail
  refine (made_cond T lo 12 _).mono ?_
  rintro e w4 ⟨q4, rfl, k4, b4⟩
  have k4_ := aq k4
  have b4_ := aq b4
  clear k4 b4
  go_wp2_with fail
  go_ret
  exact ⟨_, [q1, q2, q3, q4], rfl, rfl, ⟨k1_.out.below (below_step (below_step b2_.out b3_.out) b4_.out), k2_.out.below (below_step b3_.out b4_.out), k3_.out.below b4_.out, k4_.out, trivial⟩, below_step (below_step (below_step b1_.out b2_.out) b3_.out) b4_.out⟩
theorem parts_none (s : Int) (w : World) (h : partsOf s = []) : Calls Tryz.prog 80 #[.int .i64 s] w fun e w' => e = .returned (.slice none 0 0) ∧ w = w' := by
  have hs : ¬ s = 1 ∧ ¬ s = 2 ∧ ¬ s = 3 ∧ ¬ s = 4 ∧ ¬ s = 5 ∧ ¬ s = 6 ∧ ¬ s = 7 ∧ ¬ s = 8 ∧ ¬ s = 9 ∧ ¬ s = 10 ∧ ¬ s = 11 ∧ ¬ s = 12 ∧ ¬ s = 13 ∧ ¬ s = 14 ∧ ¬ s = 16 := by
    refine ⟨?_, ?_, ?_, ?_, ?_, ?_, ?_, ?_, ?_, ?_, ?_, ?_, ?_, ?_, ?_⟩ <;> (rintro rfl; simp [partsOf] at h)
  obtain ⟨h1, h2, h3, h4, h5, h6, h7, h8, h9, h10, h11, h12, h13, h14, h16⟩ := hs
  have b1 : (s == 1) = false := by simpa using h1
  have b2 : (s == 2) = false := by simpa using h2
  have b3 : (s == 3) = false := by simpa using h3
  have b4 : (s == 4) = false := by simpa using h4
  have b5 : (s == 5) = false := by simpa using h5
  have b6 : (s == 6) = false := by simpa using h6
  have b7 : (s == 7) = false := by simpa using h7
  have b8 : (s == 8) = false := by simpa using h8
  have b9 : (s == 9) = false := by simpa using h9
  have b10 : (s == 10) = false := by simpa using h10
  have b11 : (s == 11) = false := by simpa using h11
  have b12 : (s == 12) = false := by simpa using h12
  have b13 : (s == 13) = false := by simpa using h13
  have b14 : (s == 14) = false := by simpa using h14
  have b16 : (s == 16) = false := by simpa using h16
  clear h
  go_enter Tryz.func80, Tryz.ntmps80
  go_wp2
  go_ret
  exact ⟨rfl, rfl⟩
theorem info_part : (Tryz.prog.info? 135).map (fun i => (i.zero, i.size, i.bytes)) = some (some (.agg #[.int .i64 0, .int .i64 0, .nilFunc, .nilFunc, .bool false]), 5, 40) := by kernel_rfl
theorem cell_new_ (w : World) (c : Array Value) (t : TypeId) (j : Nat) : (w.alloc (.cells c t (0, 0))).cell? ((⟨w.heap.size, 0, none⟩ : Addr).add j) = c[j]? := by
  have h := cd_last w (.cells c t (0, 0))
  cases j with
  | zero => exact blk_cell h 0
  | succ j =>
    have e : ((⟨w.heap.size, 0, none⟩ : Addr).add (j + 1)) = ⟨w.heap.size, j + 1, none⟩ := by simp [Addr.add]
    rw [e]
    exact blk_cell h (j + 1)
theorem own_new_ {w w1 : World} {c : Array Value} {e : TypeId} {size n : Nat} {g : Nat} (hg : w1.heap[g]? = some (.cells c e (0, 0))) (hc : c.size = n * size) (hn : n ≤ maxLen) : w1.ownsRow g e size (.slice (some ⟨g, 0, none⟩) n n) n c.toList :=
  ⟨by simpa using hc, .inr ⟨g, n, c, rfl, Nat.le_refl _, hg, Nat.le_refl _, hn, hc, by rw [List.take_of_length_le (by simp [hc])]⟩⟩
theorem own_some_ {w : World} {base : Nat} {e : TypeId} {size n : Nat} {v : Value} {xs : List Value} (h : w.ownsRow base e size v n xs) (hn : 0 < n) :
    ∃ g cap cur, v = .slice (some ⟨g, 0, none⟩) n cap ∧ base ≤ g ∧ w.heap[g]? = some (.cells cur e (0, 0)) ∧ n ≤ cap ∧ cur.toList.take (n * size) = xs := by
  rcases h.2 with ⟨_, h0⟩ | ⟨g, cap, cur, rfl, h1, h2, h3, _, _, h4⟩
  · omega
  · exact ⟨g, cap, cur, rfl, h1, h2, h3, h4⟩
theorem partCells_one (p : PD) (q : PF) : ∀ u ∈ PartCells p q, u.oneCell' = true := by
  intro u hu
  simp only [PartCells, List.mem_cons, List.not_mem_nil, or_false] at hu
  rcases hu with rfl | rfl | rfl | rfl | rfl <;> rfl
theorem partCells_one2 (p : PD) (q : PF) (p' : PD) (q' : PF) : ∀ u ∈ PartCells p q ++ PartCells p' q', u.oneCell' = true := by
  intro u hu
  rcases List.mem_append.1 hu with hu | hu
  · exact partCells_one _ _ u hu
  · exact partCells_one _ _ u hu
theorem flat_len : ∀ (ps : List PD) (qs : List PF), ps.length = qs.length → (flatP ps qs).length = 5 * ps.length
  | [], [], _ => rfl
  | p :: ps, q :: qs, h => by
    have := flat_len ps qs (by simpa using h)
    simp only [flatP, List.length_append, this, List.length_cons, PartCells, List.length_nil]; omega
set_option maxHeartbeats 4000000 in
theorem parts_3 (lo : Nat) (w : World) (hlo : lo ≤ w.heap.size) : Calls Tryz.prog 80 #[.int .i64 3] w fun e w' => ∃ w6 R cap cur qs T, e = .returned (.slice (some ⟨R, 0, none⟩) 5 cap) ∧ w6.heap.size ≤ R ∧ 5 ≤ cap ∧ w'.heap[R]? = some (.cells cur 135 (0, 0)) ∧ cur.toList.take 25 = flatP [.mk 0, .mk 1, .mk 2, .d, .n] qs ∧ Oks w6 T lo [.mk 0, .mk 1, .mk 2, .d, .n] qs ∧ ToldIs w6 T 0 0 0 ∧ w.heap.size ≤ T ∧ Below w.heap.size w w6 ∧ Below w6.heap.size w6 w' := by
  obtain ⟨i0, hi, hz0, hz1, hz2⟩ := info_parts info_part
  have HI := aq hi
  have HZ0 := aq hz0
  have HZ1 := aq hz1
  have HZ2 := aq hz2
  clear hi hz0 hz1 hz2
  go_enter Tryz.func80, Tryz.ntmps80
  go_wp2_with fail
  refine (made_masked lo _ hlo).mono ?_
  rintro e wm ⟨w6, T, x0, x1, x2, rfl, hwm, x0_, x1_, x2_, ht, hT, bm⟩
  have hwm_h := aq hwm
  clear hwm
  have x0__h := aq x0_
  clear x0_
  have x1__h := aq x1_
  clear x1_
  have x2__h := aq x2_
  clear x2_
  have ht_h := aq ht
  clear ht
  have bm_h := aq bm
  clear bm
  go_wp2_with fail
  refine (made_d T lo _).mono ?_
  rintro e w1 ⟨q1, rfl, k1, b1⟩
  have k1_ := aq k1
  have b1_ := aq b1
  clear k1 b1
  go_wp2_with fail
  refine (made_n T lo _).mono ?_
  rintro e w2 ⟨q2, rfl, k2, b2⟩
  have k2_ := aq k2
  have b2_ := aq b2
  clear k2 b2
  have hR : w2.heap[w6.heap.size]? = some (.cells (PartCells (.mk 0) x0 ++ PartCells (.mk 1) x1 ++ PartCells (.mk 2) x2).toArray 135 (0, 0)) := by
    have h0 : wm.heap[w6.heap.size]? = some (.cells (PartCells (.mk 0) x0 ++ PartCells (.mk 1) x1 ++ PartCells (.mk 2) x2).toArray 135 (0, 0)) := by rw [← hwm_h.out]; exact cd_last w6 _
    exact (((below_step b1_.out b2_.out)).block _ (Array.getElem?_eq_some_iff.1 h0).1).trans h0
  have hown : ∀ o : Obj, (w2.alloc o).ownsRow w6.heap.size 135 5 (.slice (some ⟨w6.heap.size, 0, none⟩) 3 3) 3 (PartCells (.mk 0) x0 ++ PartCells (.mk 1) x1 ++ PartCells (.mk 2) x2) := fun o => own_new_ (w := w6) (blk_alloc hR o) rfl (by decide)
  have hlt0 : w6.heap.size ≤ w2.heap.size := Nat.le_of_lt (Array.getElem?_eq_some_iff.1 hR).1
  have hlt : ∀ o : Obj, w6.heap.size ≤ (w2.alloc o).heap.size := fun o => by simp; omega
  clear hlt0
  have hb6 : Below w6.heap.size w6 w2 := below_step (by rw [← hwm_h.out]; exact below_alloc (Below.refl _ _) _) ((below_step b1_.out b2_.out))
  have HR := aq hR
  have HOWN := aq hown
  have HLT := aq hlt
  have HB6 := aq hb6
  clear hR hown hlt hb6
  go_wp2_with (at_builtin; refine wpList_append_own _ rfl (.tmp 19) (.tmp 22) 130 rfl w6.heap.size 135 i0 _ 5 40 Tryz.underlying130 HI.out HZ0.out HZ1.out HZ2.out rfl (by decide) _ 3 (PartCells (.mk 0) x0 ++ PartCells (.mk 1) x1 ++ PartCells (.mk 2) x2) rfl (HOWN.out _) ⟨w2.heap.size, 0, none⟩ 2 2 (PartCells .d q1 ++ PartCells .n q2) rfl rfl ?n1 ?n2 ?n3 ?n4 ?n5 ?_; (case n1 => exact fun j u hu => (cell_new_ _ _ _ j).trans ((List.getElem?_toArray ..).trans hu)); (case n2 => exact partCells_one2 _ _ _ _); (case n3 => unfold maxLen; omega); (case n4 => omega); (case n5 => exact HLT.out _); intro v1 w9 ho hg _; have HO := aq ho; have HG := aq hg; clear ho hg)
  have HB9 := (below_alloc HB6.out _).grown HG.out (HLT.out _) (own_base (HOWN.out (.cells #[] 0 (0, 0))))
  obtain ⟨R, cap, cur, rfl, ho1⟩ := own_some_ HO.out (by decide)
  go_ret
  exact ⟨w6, R, cap, cur, [x0, x1, x2, q1, q2], T, rfl, ho1.1, ho1.2.2.1, ho1.2.1, ho1.2.2.2, ⟨x0__h.out, x1__h.out, x2__h.out, ⟨k1_.out.get, k1_.out.put⟩, ⟨k2_.out.get, k2_.out.put⟩, trivial⟩, ht_h.out, hT, bm_h.out, HB9⟩
set_option maxHeartbeats 4000000 in
theorem parts_10 (T : Nat) (lo : Nat) (w : World) (hlo : lo ≤ w.heap.size) : Calls Tryz.prog 80 #[.int .i64 10] w fun e w' => ∃ w6 R cap cur qs, e = .returned (.slice (some ⟨R, 0, none⟩) 3 cap) ∧ w6.heap.size ≤ R ∧ 3 ≤ cap ∧ w'.heap[R]? = some (.cells cur 135 (0, 0)) ∧ cur.toList.take 15 = flatP [.lo, .hi, .d] qs ∧ Oks w6 T lo [.lo, .hi, .d] qs ∧ Below w.heap.size w w6 ∧ Below w6.heap.size w6 w' := by
  obtain ⟨i0, hi, hz0, hz1, hz2⟩ := info_parts info_part
  have HI := aq hi
  have HZ0 := aq hz0
  have HZ1 := aq hz1
  have HZ2 := aq hz2
  clear hi hz0 hz1 hz2
  go_enter Tryz.func80, Tryz.ntmps80
  go_wp2_with fail
  refine (made_page T lo _).mono ?_
  rintro e wm ⟨w6, x0, x1, rfl, hwm, x0_, x1_, bm⟩
  have hwm_h := aq hwm
  clear hwm
  have x0__h := aq x0_
  clear x0_
  have x1__h := aq x1_
  clear x1_
  have bm_h := aq bm
  clear bm
  go_wp2_with fail
  refine (made_d T lo _).mono ?_
  rintro e w1 ⟨q1, rfl, k1, b1⟩
  have k1_ := aq k1
  have b1_ := aq b1
  clear k1 b1
  have hR : w1.heap[w6.heap.size]? = some (.cells (PartCells (.lo) x0 ++ PartCells (.hi) x1).toArray 135 (0, 0)) := by
    have h0 : wm.heap[w6.heap.size]? = some (.cells (PartCells (.lo) x0 ++ PartCells (.hi) x1).toArray 135 (0, 0)) := by rw [← hwm_h.out]; exact cd_last w6 _
    exact ((b1_.out).block _ (Array.getElem?_eq_some_iff.1 h0).1).trans h0
  have hown : ∀ o : Obj, (w1.alloc o).ownsRow w6.heap.size 135 5 (.slice (some ⟨w6.heap.size, 0, none⟩) 2 2) 2 (PartCells (.lo) x0 ++ PartCells (.hi) x1) := fun o => own_new_ (w := w6) (blk_alloc hR o) rfl (by decide)
  have hlt0 : w6.heap.size ≤ w1.heap.size := Nat.le_of_lt (Array.getElem?_eq_some_iff.1 hR).1
  have hlt : ∀ o : Obj, w6.heap.size ≤ (w1.alloc o).heap.size := fun o => by simp; omega
  clear hlt0
  have hb6 : Below w6.heap.size w6 w1 := below_step (by rw [← hwm_h.out]; exact below_alloc (Below.refl _ _) _) (b1_.out)
  have HR := aq hR
  have HOWN := aq hown
  have HLT := aq hlt
  have HB6 := aq hb6
  clear hR hown hlt hb6
  go_wp2_with (at_builtin; refine wpList_append_own _ rfl (.tmp 59) (.tmp 61) 130 rfl w6.heap.size 135 i0 _ 5 40 Tryz.underlying130 HI.out HZ0.out HZ1.out HZ2.out rfl (by decide) _ 2 (PartCells (.lo) x0 ++ PartCells (.hi) x1) rfl (HOWN.out _) ⟨w1.heap.size, 0, none⟩ 1 1 (PartCells .d q1) rfl rfl ?n1 ?n2 ?n3 ?n4 ?n5 ?_; (case n1 => exact fun j u hu => (cell_new_ _ _ _ j).trans ((List.getElem?_toArray ..).trans hu)); (case n2 => exact partCells_one _ _); (case n3 => unfold maxLen; omega); (case n4 => omega); (case n5 => exact HLT.out _); intro v1 w9 ho hg _; have HO := aq ho; have HG := aq hg; clear ho hg)
  have HB9 := (below_alloc HB6.out _).grown HG.out (HLT.out _) (own_base (HOWN.out (.cells #[] 0 (0, 0))))
  obtain ⟨R, cap, cur, rfl, ho1⟩ := own_some_ HO.out (by decide)
  go_ret
  exact ⟨w6, R, cap, cur, [x0, x1, q1], rfl, ho1.1, ho1.2.2.1, ho1.2.1, ho1.2.2.2, ⟨x0__h.out, x1__h.out, ⟨k1_.out.get, k1_.out.put⟩, trivial⟩, bm_h.out, HB9⟩
def PD.isCap : PD → Bool
  | .imm _ _ _ _ => true | .amt _ _ _ => true | _ => false
structure PartsRes (w w' : World) (lo : Nat) (s : Int) (A : Option Addr) (T R cap : Nat) : Prop where
  row : PartsAt w' T lo R 0 (partsOf s)
  addr : partsOf s ≠ [] → A = some ⟨R, 0, none⟩
  lR : w.heap.size ≤ R
  lT : w.heap.size ≤ T
  ne : T ≠ R
  told : s = 3 → ToldIs w' T 0 0 0
  cap : (partsOf s).length ≤ cap
  below : Below w.heap.size w w'
  far : ∀ p, p ∈ partsOf s → p.isCap = true → w'.heap.size ≤ T
theorem ite_len {c : Prop} [Decidable c] {a b : List PD} (ha : a.length ≤ 5) (hb : b.length ≤ 5) : (if c then a else b).length ≤ 5 := by
  by_cases h : c
  · rw [if_pos h]; exact ha
  · rw [if_neg h]; exact hb
theorem parts_len (s : Int) : (partsOf s).length ≤ 5 := by
  unfold partsOf
  repeat (refine ite_len (by decide) ?_)
  decide
theorem oks_len {w : World} {T lo : Nat} : ∀ {ps : List PD} {qs : List PF}, Oks w T lo ps qs → ps.length = qs.length
  | [], [], _ => rfl
  | _ :: _, _ :: _, ⟨_, hs⟩ => by simp [oks_len hs]
theorem parts_res1 {w w6 : World} {lo n : Nat} {s : Int} {qs : List PF} {T : Nat} (hT : T = w6.heap.size + 1) (hn : (partsOf s).length = n) (h3 : s ≠ 3) (hk : Oks w6 T lo (partsOf s) qs) (hb : Below w.heap.size w w6) :
    PartsRes w (w6.alloc (.cells (flatP (partsOf s) qs).toArray 135 (0, 0))) lo s (some ⟨w6.heap.size, 0, none⟩) T w6.heap.size n where
  row := PartsAt.of (cd_last w6 _) (hk.below (below_alloc (Below.refl _ _) _)) fun j hj => by rw [Nat.zero_add]; exact List.getElem?_toArray ..
  addr := fun _ => rfl
  lR := hb.size
  lT := by have := hb.size; omega
  ne := by omega
  told := fun h => absurd h h3
  cap := by omega
  below := below_alloc hb _
  far := fun _ _ _ => by subst hT; simp
theorem parts_res2 {w w6 w' : World} {lo R cap : Nat} {s : Int} {qs : List PF} {T : Nat} {cur : Array Value} (hTR : T ≠ R) (hT : w.heap.size ≤ T) (ht : s = 3 → ToldIs w6 T 0 0 0) (hR : w6.heap.size ≤ R) (hc : (partsOf s).length ≤ cap) (hg : w'.heap[R]? = some (.cells cur 135 (0, 0)))
    (hcur : cur.toList.take (5 * (partsOf s).length) = flatP (partsOf s) qs) (hk : Oks w6 T lo (partsOf s) qs) (hb : Below w.heap.size w w6) (hb6 : Below w6.heap.size w6 w') (hno : (partsOf s).all (fun p => !p.isCap) = true) : PartsRes w w' lo s (some ⟨R, 0, none⟩) T R cap where
  row := PartsAt.of hg (hk.below hb6) fun j hj => by
    rw [Nat.zero_add]
    exact take_get_ hcur j (by rw [flat_len _ _ (oks_len hk)] at hj; exact hj)
  addr := fun _ => rfl
  lR := Nat.le_trans hb.size hR
  lT := hT
  ne := hTR
  told := fun h => (ht h).below hb6
  cap := hc
  below := below_step hb hb6
  far := fun p hp h => by have := List.all_eq_true.1 hno p hp; rw [h] at this; cases this
theorem code_parts.calls (s : Int) (lo : Nat) (w : World) (hlo : lo ≤ w.heap.size) : Calls Tryz.prog 80 #[.int .i64 s] w fun e w' => ∃ A T R cap, e = .returned (.slice A (partsOf s).length cap) ∧ PartsRes w w' lo s A T R cap := by
  by_cases h3 : s = 3
  · subst h3
    refine (parts_3 lo w hlo).mono ?_
    rintro e w' ⟨w6, R, cap, cur, qs, T, rfl, hR, hc, hg, hcur, hk, ht, hT, hb, hb6⟩
    have hlt : T < w6.heap.size := (Array.getElem?_eq_some_iff.1 ht).1
    exact ⟨_, T, R, cap, rfl, parts_res2 (by omega) hT (fun _ => ht) hR hc hg hcur hk hb hb6 (by decide)⟩
  by_cases h10 : s = 10
  · subst h10
    have hp := fun T => parts_10 T lo w hlo
    refine (parts_10 0 lo w hlo).mono ?_
    rintro e w' ⟨w6, R, cap, cur, qs, rfl, hR, hc, hg, hcur, hk, hb, hb6⟩
    have hk' : Oks w6 (R + 1) lo (partsOf 10) qs := by
      match qs, hk with
      | [_, _, _], ⟨h1, h2, h3, _⟩ => exact ⟨⟨h1.get, h1.put⟩, ⟨h2.get, h2.put⟩, ⟨h3.get, h3.put⟩, trivial⟩
    exact ⟨_, R + 1, R, cap, rfl, parts_res2 (by omega) (by have := hb.size; omega) (fun h => by cases h) hR hc hg hcur hk' hb hb6 (by decide)⟩
  by_cases h1 : s = 1
  · subst h1
    refine (parts_1 0 lo w hlo).mono ?_
    rintro e w' ⟨w6, qs, rfl, rfl, hk, hb⟩
    have hk' : Oks w6 (w6.heap.size + 1) lo (partsOf 1) qs := by
      match qs, hk with
      | [_, _, _], ⟨g0, g1, g2, _⟩ => exact ⟨⟨g0.get, g0.put⟩, ⟨g1.get, g1.put⟩, ⟨g2.get, g2.put⟩, trivial⟩
    exact ⟨_, _, _, _, rfl, parts_res1 rfl rfl (by decide) hk' hb⟩
  by_cases h2 : s = 2
  · subst h2
    refine (parts_2 0 lo w hlo).mono ?_
    rintro e w' ⟨w6, qs, rfl, rfl, hk, hb⟩
    have hk' : Oks w6 (w6.heap.size + 1) lo (partsOf 2) qs := by
      match qs, hk with
      | [_, _, _, _], ⟨g0, g1, g2, g3, _⟩ => exact ⟨⟨g0.get, g0.put⟩, ⟨g1.get, g1.put⟩, ⟨g2.get, g2.put⟩, ⟨g3.get, g3.put⟩, trivial⟩
    exact ⟨_, _, _, _, rfl, parts_res1 rfl rfl (by decide) hk' hb⟩
  by_cases h4 : s = 4
  · subst h4
    refine (parts_4 0 lo w hlo).mono ?_
    rintro e w' ⟨w6, qs, rfl, rfl, hk, hb⟩
    have hk' : Oks w6 (w6.heap.size + 1) lo (partsOf 4) qs := by
      match qs, hk with
      | [_, _, _, _, _], ⟨g0, g1, g2, g3, g4, _⟩ => exact ⟨⟨g0.get, g0.put⟩, ⟨g1.get, g1.put⟩, ⟨g2.get, g2.put⟩, ⟨g3.get, g3.put⟩, ⟨g4.get, g4.put⟩, trivial⟩
    exact ⟨_, _, _, _, rfl, parts_res1 rfl rfl (by decide) hk' hb⟩
  by_cases h5 : s = 5
  · subst h5
    refine (parts_5 0 lo w hlo).mono ?_
    rintro e w' ⟨w6, qs, rfl, rfl, hk, hb⟩
    have hk' : Oks w6 (w6.heap.size + 1) lo (partsOf 5) qs := by
      match qs, hk with
      | [_, _, _, _, _], ⟨g0, g1, g2, g3, g4, _⟩ => exact ⟨⟨g0.get, g0.put⟩, ⟨g1.get, g1.put⟩, ⟨g2.get, g2.put⟩, ⟨g3.get, g3.put⟩, ⟨g4.get, g4.put⟩, trivial⟩
    exact ⟨_, _, _, _, rfl, parts_res1 rfl rfl (by decide) hk' hb⟩
  by_cases h6 : s = 6
  · subst h6
    refine (parts_6 0 lo w hlo).mono ?_
    rintro e w' ⟨w6, qs, rfl, rfl, hk, hb⟩
    have hk' : Oks w6 (w6.heap.size + 1) lo (partsOf 6) qs := by
      match qs, hk with
      | [_, _, _, _], ⟨g0, g1, g2, g3, _⟩ => exact ⟨⟨g0.get, g0.put⟩, ⟨g1.get, g1.put⟩, ⟨g2.get, g2.put⟩, ⟨g3.get, g3.put⟩, trivial⟩
    exact ⟨_, _, _, _, rfl, parts_res1 rfl rfl (by decide) hk' hb⟩
  by_cases h7 : s = 7
  · subst h7
    refine (parts_7 0 lo w hlo).mono ?_
    rintro e w' ⟨w6, qs, rfl, rfl, hk, hb⟩
    have hk' : Oks w6 (w6.heap.size + 1) lo (partsOf 7) qs := by
      match qs, hk with
      | [_, _, _], ⟨g0, g1, g2, _⟩ => exact ⟨⟨g0.get, g0.put⟩, ⟨g1.get, g1.put⟩, ⟨g2.get, g2.put⟩, trivial⟩
    exact ⟨_, _, _, _, rfl, parts_res1 rfl rfl (by decide) hk' hb⟩
  by_cases h8 : s = 8
  · subst h8
    refine (parts_8 0 lo w hlo).mono ?_
    rintro e w' ⟨w6, qs, rfl, rfl, hk, hb⟩
    have hk' : Oks w6 (w6.heap.size + 1) lo (partsOf 8) qs := by
      match qs, hk with
      | [_, _, _], ⟨g0, g1, g2, _⟩ => exact ⟨⟨g0.get, g0.put⟩, ⟨g1.get, g1.put⟩, ⟨g2.get, g2.put⟩, trivial⟩
    exact ⟨_, _, _, _, rfl, parts_res1 rfl rfl (by decide) hk' hb⟩
  by_cases h9 : s = 9
  · subst h9
    refine (parts_9 0 lo w hlo).mono ?_
    rintro e w' ⟨w6, qs, rfl, rfl, hk, hb⟩
    have hk' : Oks w6 (w6.heap.size + 1) lo (partsOf 9) qs := by
      match qs, hk with
      | [_, _], ⟨g0, g1, _⟩ => exact ⟨⟨g0.get, g0.put⟩, ⟨g1.get, g1.put⟩, trivial⟩
    exact ⟨_, _, _, _, rfl, parts_res1 rfl rfl (by decide) hk' hb⟩
  by_cases h11 : s = 11
  · subst h11
    refine (parts_11 0 lo w hlo).mono ?_
    rintro e w' ⟨w6, qs, rfl, rfl, hk, hb⟩
    have hk' : Oks w6 (w6.heap.size + 1) lo (partsOf 11) qs := by
      match qs, hk with
      | [_], ⟨g0, _⟩ => exact ⟨⟨g0.get, g0.put⟩, trivial⟩
    exact ⟨_, _, _, _, rfl, parts_res1 rfl rfl (by decide) hk' hb⟩
  by_cases h12 : s = 12
  · subst h12
    refine (parts_12 0 lo w hlo).mono ?_
    rintro e w' ⟨w6, qs, rfl, rfl, hk, hb⟩
    have hk' : Oks w6 (w6.heap.size + 1) lo (partsOf 12) qs := by
      match qs, hk with
      | [_, _], ⟨g0, g1, _⟩ => exact ⟨⟨g0.get, g0.put⟩, ⟨g1.get, g1.put⟩, trivial⟩
    exact ⟨_, _, _, _, rfl, parts_res1 rfl rfl (by decide) hk' hb⟩
  by_cases h13 : s = 13
  · subst h13
    refine (parts_13 0 lo w hlo).mono ?_
    rintro e w' ⟨w6, qs, rfl, rfl, hk, hb⟩
    have hk' : Oks w6 (w6.heap.size + 1) lo (partsOf 13) qs := by
      match qs, hk with
      | [_], ⟨g0, _⟩ => exact ⟨⟨g0.get, g0.put⟩, trivial⟩
    exact ⟨_, _, _, _, rfl, parts_res1 rfl rfl (by decide) hk' hb⟩
  by_cases h14 : s = 14
  · subst h14
    refine (parts_14 0 lo w hlo).mono ?_
    rintro e w' ⟨w6, qs, rfl, rfl, hk, hb⟩
    have hk' : Oks w6 (w6.heap.size + 1) lo (partsOf 14) qs := by
      match qs, hk with
      | [_], ⟨g0, _⟩ => exact ⟨⟨g0.get, g0.put⟩, trivial⟩
    exact ⟨_, _, _, _, rfl, parts_res1 rfl rfl (by decide) hk' hb⟩
  by_cases h16 : s = 16
  · subst h16
    refine (parts_16 0 lo w hlo).mono ?_
    rintro e w' ⟨w6, qs, rfl, rfl, hk, hb⟩
    have hk' : Oks w6 (w6.heap.size + 1) lo (partsOf 16) qs := by
      match qs, hk with
      | [_, _, _, _], ⟨g0, g1, g2, g3, _⟩ => exact ⟨⟨g0.get, g0.put⟩, ⟨g1.get, g1.put⟩, ⟨g2.get, g2.put⟩, ⟨g3.get, g3.put⟩, trivial⟩
    exact ⟨_, _, _, _, rfl, parts_res1 rfl rfl (by decide) hk' hb⟩
  have hn : partsOf s = [] := by
    unfold partsOf
    rw [if_neg h1, if_neg h2, if_neg h3, if_neg h4, if_neg h5, if_neg h6, if_neg h7, if_neg h8, if_neg h9, if_neg h10, if_neg h11, if_neg h12, if_neg h13, if_neg h14, if_neg h16]
  refine (parts_none s w hn).mono ?_
  rintro e w' ⟨rfl, rfl⟩
  refine ⟨none, w.heap.size + 1, w.heap.size, 0, by rw [hn]; rfl, ⟨by rw [hn]; trivial, fun h => absurd hn h, Nat.le_refl _, by omega, by omega, fun h => absurd h h3, by rw [hn]; simp, Below.refl _ _, by rw [hn]; intro p hp; cases hp⟩⟩
def baseL : List Int := [0, 3531603968, 2457862144, 4068474880, 2432696320, 3506438144, 2969567232, 4043309056, 2449473536, 2986344448, 3523215360, 4060086272, 2332033024, 3405774848, 2868903936, 3942645760, 2315255808, 2852126720, 3388997632, 3925868544, 2600468480, 2600501248, 4181721088, 4177526784, 960495616, 956301312, 1476395008, 268435456, 2415919104, 335544320, 2483027968, 1409286144, 3019898880, 3036676096, 3592355840, 3594452992, 3596550144, 3556769793, 3573751839, 2592079872]
def baseA : Array Value := #[.int .u32 0, .int .u32 3531603968, .int .u32 2457862144, .int .u32 4068474880, .int .u32 2432696320, .int .u32 3506438144, .int .u32 2969567232, .int .u32 4043309056, .int .u32 2449473536, .int .u32 2986344448, .int .u32 3523215360, .int .u32 4060086272, .int .u32 2332033024, .int .u32 3405774848, .int .u32 2868903936, .int .u32 3942645760, .int .u32 2315255808, .int .u32 2852126720, .int .u32 3388997632, .int .u32 3925868544, .int .u32 2600468480, .int .u32 2600501248, .int .u32 4181721088, .int .u32 4177526784, .int .u32 960495616, .int .u32 956301312, .int .u32 1476395008, .int .u32 268435456, .int .u32 2415919104, .int .u32 335544320, .int .u32 2483027968, .int .u32 1409286144, .int .u32 3019898880, .int .u32 3036676096, .int .u32 3592355840, .int .u32 3594452992, .int .u32 3596550144, .int .u32 3556769793, .int .u32 3573751839, .int .u32 2592079872]
def baseZ : Array Value := #[.int .u32 0, .int .u32 0, .int .u32 0, .int .u32 0, .int .u32 0, .int .u32 0, .int .u32 0, .int .u32 0, .int .u32 0, .int .u32 0, .int .u32 0, .int .u32 0, .int .u32 0, .int .u32 0, .int .u32 0, .int .u32 0, .int .u32 0, .int .u32 0, .int .u32 0, .int .u32 0, .int .u32 0, .int .u32 0, .int .u32 0, .int .u32 0, .int .u32 0, .int .u32 0, .int .u32 0, .int .u32 0, .int .u32 0, .int .u32 0, .int .u32 0, .int .u32 0, .int .u32 0, .int .u32 0, .int .u32 0, .int .u32 0, .int .u32 0, .int .u32 0, .int .u32 0, .int .u32 0]
theorem baseZ_info : (Tryz.prog.info? 192).map (fun i => (i.zero, i.size)) = some (some (.agg baseZ), 40) := by kernel_rfl
theorem baseA_one : baseA.all (·.oneCell') = true := by decide +kernel
theorem baseA_size : baseA.size = 40 := rfl
theorem baseA_build (W : World) : (Instr.build 192 #[(1, .int .u32 3531603968), (2, .int .u32 2457862144), (3, .int .u32 4068474880), (4, .int .u32 2432696320), (5, .int .u32 3506438144), (6, .int .u32 2969567232), (7, .int .u32 4043309056), (8, .int .u32 2449473536), (9, .int .u32 2986344448), (10, .int .u32 3523215360), (11, .int .u32 4060086272), (12, .int .u32 2332033024), (13, .int .u32 3405774848), (14, .int .u32 2868903936), (15, .int .u32 3942645760), (16, .int .u32 2315255808), (17, .int .u32 2852126720), (18, .int .u32 3388997632), (19, .int .u32 3925868544), (20, .int .u32 2600468480), (21, .int .u32 2600501248), (22, .int .u32 4181721088), (23, .int .u32 4177526784), (24, .int .u32 960495616), (25, .int .u32 956301312), (26, .int .u32 1476395008), (27, .int .u32 268435456), (28, .int .u32 2415919104), (29, .int .u32 335544320), (30, .int .u32 2483027968), (31, .int .u32 1409286144), (32, .int .u32 3019898880), (33, .int .u32 3036676096), (34, .int .u32 3592355840), (35, .int .u32 3594452992), (36, .int .u32 3596550144), (37, .int .u32 3556769793), (38, .int .u32 3573751839), (39, .int .u32 2592079872)]).run Tryz.prog W = .ok (.agg baseA) W := run_build W _ _ _ (by kernel_rfl)
attribute [-go_sem] Instr.build Instr.fill in
set_option maxHeartbeats 12800000 in
set_option maxRecDepth 100000 in
theorem code_bases.calls (w : World) : Calls Tryz.prog 114 #[] w fun e w' => e = .returned (.agg baseA) ∧ Below w.heap.size w w' := by
  obtain ⟨hz, hs⟩ := zero_of_info baseZ_info
  have hst := run_storeCells_new (P := Tryz.prog) w 192 baseZ baseA hs rfl baseA_one
  have hld := run_loadCellsFrom_new (P := Tryz.prog) w 192 baseA 40 rfl
  have hsz := baseA_size
  have hba := baseA_build
  go_enter Tryz.func114, Tryz.ntmps114
  go_wp2
  clear hba
  refine bodyPost_ret (v := .agg baseA) (results_cell_ rfl _ _ rfl (heap_last_ w _) Tryz.underlying192 rfl hs) rfl ⟨rfl, (Below.refl _ _).alloc (Nat.le_refl _) _⟩
theorem base_index : ∀ (i : Nat) (_ : i < 40) (W : World), (Instr.index 192 (.agg baseA) (.int .i64 (i : Int))).run Tryz.prog W = .ok (.int .u32 (baseL.getD i 0)) W
  | 0, _, _ => by kernel_rfl
  | 1, _, _ => by kernel_rfl
  | 2, _, _ => by kernel_rfl
  | 3, _, _ => by kernel_rfl
  | 4, _, _ => by kernel_rfl
  | 5, _, _ => by kernel_rfl
  | 6, _, _ => by kernel_rfl
  | 7, _, _ => by kernel_rfl
  | 8, _, _ => by kernel_rfl
  | 9, _, _ => by kernel_rfl
  | 10, _, _ => by kernel_rfl
  | 11, _, _ => by kernel_rfl
  | 12, _, _ => by kernel_rfl
  | 13, _, _ => by kernel_rfl
  | 14, _, _ => by kernel_rfl
  | 15, _, _ => by kernel_rfl
  | 16, _, _ => by kernel_rfl
  | 17, _, _ => by kernel_rfl
  | 18, _, _ => by kernel_rfl
  | 19, _, _ => by kernel_rfl
  | 20, _, _ => by kernel_rfl
  | 21, _, _ => by kernel_rfl
  | 22, _, _ => by kernel_rfl
  | 23, _, _ => by kernel_rfl
  | 24, _, _ => by kernel_rfl
  | 25, _, _ => by kernel_rfl
  | 26, _, _ => by kernel_rfl
  | 27, _, _ => by kernel_rfl
  | 28, _, _ => by kernel_rfl
  | 29, _, _ => by kernel_rfl
  | 30, _, _ => by kernel_rfl
  | 31, _, _ => by kernel_rfl
  | 32, _, _ => by kernel_rfl
  | 33, _, _ => by kernel_rfl
  | 34, _, _ => by kernel_rfl
  | 35, _, _ => by kernel_rfl
  | 36, _, _ => by kernel_rfl
  | 37, _, _ => by kernel_rfl
  | 38, _, _ => by kernel_rfl
  | 39, _, _ => by kernel_rfl
  | n + 40, h, _ => absurd h (by omega)
def fieldsL (k : Nat) (i0 i1 i2 i3 i4 i5 i6 i7 i8 i9 : Int) : List PD → Option (List S189)
  | [] => some []
  | p :: ps => (p.fieldV k i0 i1 i2 i3 i4 i5 i6 i7 i8 i9).bind fun u => (fieldsL k i0 i1 i2 i3 i4 i5 i6 i7 i8 i9 ps).bind fun l => some (⟨p.at_, p.n_, u⟩ :: l)
def code_Encode.f (k : Nat) (i0 i1 i2 i3 i4 i5 i6 i7 i8 i9 : Int) : Option (Int × Int) := (inst_Is.f k i0 i1 i2 i3 i4 i5 i6 i7 i8 i9).bind fun b => if b = true then (inst_Shape.f i0).bind fun s => (fieldsL k i0 i1 i2 i3 i4 i5 i6 i7 i8 i9 (partsOf s)).bind fun l => (code_over.f k (baseL.getD i0.toNat 0) l).bind fun v => if 0 ≤ i0 ∧ i0 < 40 then some (v, 0) else none else some (0, 1)
theorem info_fld : (Tryz.prog.info? 189).map (fun i => (i.zero, i.size, i.bytes)) = some (some (.agg #[.int .i64 0, .int .i64 0, .int .u32 0]), 3, 24) := by kernel_rfl
theorem getD_nat_ (j : Int) (h0 : 0 ≤ j) (h1 : j < 40) (W : World) : (Instr.index 192 (.agg baseA) (.int .i64 j)).run Tryz.prog W = .ok (.int .u32 (baseL.getD j.toNat 0)) W := by
  obtain ⟨n, rfl⟩ := Int.eq_ofNat_of_zero_le h0
  rw [Int.toNat_natCast]
  exact base_index n (by omega) W
set_option maxHeartbeats 16000000 in
set_option maxRecDepth 100000 in
theorem code_Encode.calls (k : Nat) (i0 i1 i2 i3 i4 i5 i6 i7 i8 i9 : Int) (r1 r2 : Int) (w : World) (h : code_Encode.f k i0 i1 i2 i3 i4 i5 i6 i7 i8 i9 = some (r1, r2)) (hTab : TabW w := by first | exact hTab | exact TabW.drew hTab | exact TabW.drewN hTab _ | exact TabW.below hTab (by repeat (first | (with_reducible first | exact HB.out | apply below_alloc | apply pw_below_drewN | apply below_drew1) | refine Below.setCell ?_ (Aside0.out (by assumption)) _ | exact HB.out | exact Below.refl _ _))) :
    Calls Tryz.prog 49 #[.agg #[.int .i64 i0, .int .i64 i1, .int .i64 i2, .int .i64 i3, .int .i64 i4, .int .i64 i5, .int .u64 i6, .int .i64 i7, .int .i64 i8, .int .i64 i9]] w fun e w' => e = .returned (.tuple #[.int .u32 r1, .int .i64 r2]) ∧ Below w.heap.size w w' := by
  unfold code_Encode.f at h
  obtain ⟨b, hb, h⟩ := Option.bind_eq_some_iff.mp h
  have HI := aq hb
  clear hb
  cases b with
  | false =>
    rw [if_neg (by decide)] at h
    injection h with h
    injection h with h1 h2
    subst h1 h2
    go_enter Tryz.func49, Tryz.ntmps49
    go_wp2_with (go_at_call 79; refine (inst_Is.calls _ _ _ _ _ _ _ _ _ _ _ _ _ HI.out (hTab := TabW.below hTab (below_alloc (Below.refl _ _) _))).mono ?_; rintro e w1 ⟨rfl, hb1⟩; have HB := aq (below_step (below_alloc (Below.refl _ _) _) hb1); clear hb1)
    go_ret2
    exact ⟨rfl, HB.out⟩
  | true =>
    rw [if_pos rfl] at h
    obtain ⟨s, hs, h⟩ := Option.bind_eq_some_iff.mp h
    obtain ⟨l, hl, h⟩ := Option.bind_eq_some_iff.mp h
    obtain ⟨v, hv, h⟩ := Option.bind_eq_some_iff.mp h
    by_cases h41 : ¬ (0 ≤ i0 ∧ i0 < 40)
    · rw [if_neg h41] at h; cases h
    have h40 : 0 ≤ i0 ∧ i0 < 40 := by omega
    rw [if_pos h40] at h
    injection h with h
    injection h with h1 h2
    subst h1 h2
    have HS := aq hs
    have HL := aq hl
    have HV := aq hv
    clear hs hl hv
    have hlen := parts_len s
    go_enter Tryz.func49, Tryz.ntmps49
    go_wp2_with (first | (go_at_call 79; refine (inst_Is.calls _ _ _ _ _ _ _ _ _ _ _ _ _ HI.out (hTab := TabW.below hTab (below_alloc (Below.refl _ _) _))).mono ?_; rintro e w1 ⟨rfl, hb1⟩; have hbox := (hb1.block w.heap.size (by simp)).trans (cd_last w _); have HB1 := aq (below_step (below_alloc (Below.refl _ _) _) hb1); have HBX := aq hbox; have hc0 := (blk_cell hbox 0).trans rfl; clear hb1 hbox) | (go_at_call 30; refine (inst_Shape.calls _ _ _ HS.out).mono ?_; rintro e w2 ⟨rfl, hb2⟩; have HB2 := aq (below_step HB1.out hb2); have HBX2 := aq ((hb2.block _ (Array.getElem?_eq_some_iff.1 HBX.out).1).trans HBX.out); clear hb2) | (go_at_call 80; refine (code_parts.calls s w.heap.size _ HB2.out.size).mono ?_; rintro e w3 ⟨A, T, R, cap, rfl, hp⟩; have HP := aq hp; have HB3 := aq (below_step HB2.out hp.below); have HBX3 := aq ((hp.below.block _ (Array.getElem?_eq_some_iff.1 HBX2.out).1).trans HBX2.out); clear hp))
    have hHP := HP.out
    obtain ⟨hne, hcap⟩ : (partsOf s ≠ [] → A = some ⟨R, 0, none⟩) ∧ (partsOf s).length ≤ cap := ⟨hHP.addr, hHP.cap⟩
    clear hHP
    generalize hpd : partsOf s = pds at *
    have HN := aq hne
    clear hne
    have HCAP := aq hcap
    clear hcap
    have HPD := aq hpd
    clear hpd
    have HL5 := aq hlen
    clear hlen
    have H40 := aq h40
    clear h40 h41
    go_loopg [4, 15] pds.length (fun kq v4 v15 wr => ∃ (i : Nat) (xs ys : List S189), v15 = .int .i64 (i : Int) ∧ i + kq = pds.length ∧ Aside0 (fieldsL k i0 i1 i2 i3 i4 i5 i6 i7 i8 i9 (pds.drop i) = some ys) ∧ Aside0 (xs ++ ys = l) ∧ Aside0 (xs.length = i) ∧ Aside0 (Kd.R k189 189 wr w3.heap.size (fun _ => True) v4 xs) ∧ Aside0 (Below w3.heap.size w3 wr))
    case atStart => exact ⟨0, [], l, rfl, by omega, ⟨by rw [List.drop_zero]; exact HL.out⟩, ⟨rfl⟩, ⟨rfl⟩, ⟨Kd.R_nil _ _ _ _ _⟩, ⟨Below.refl _ _⟩⟩
    case round =>
      obtain ⟨i, xs, ys, rfl, hik, HF, HXY, HXL, HR, HW⟩ := hrel
      cases gk with
      | zero =>
        obtain rfl : i = pds.length := by omega
        have hF := HF.out
        rw [List.drop_length] at hF
        injection hF with hF
        subst hF
        have hXY := HXY.out
        rw [List.append_nil] at hXY
        subst hXY
        obtain ⟨Ar, cr, rfl, hlr, hCr⟩ := Kd.R_reads HR.out
        have hbx : wr.heap[w.heap.size]? = _ := (HW.out.block _ (Array.getElem?_eq_some_iff.1 HBX3.out).1).trans HBX3.out
        have hc0 := (blk_cell hbx 0).trans rfl
        have HBW := aq (below_step HB3.out HW.out)
        have hz : w.heap.size < wr.heap.size := Nat.lt_of_lt_of_le (Array.getElem?_eq_some_iff.1 HBX3.out).1 HW.out.size
        have hidx := getD_nat_ i0 H40.out.1 H40.out.2
        go_wp2
        go_region_with (first | (go_at_call 114; refine (code_bases.calls _).mono ?_; rintro e w4 ⟨rfl, hb4⟩; have hc4 := pw_cell_below hb4 hc0; have HB4 := aq (below_step (show Below wr.heap.size wr _ from by repeat (first | exact Below.refl _ _ | apply pw_below_drewN | apply below_drew1 | apply below_drew)) hb4); clear hb4) | (go_at_call 113; refine (code_over.calls k _ _ _ _ _ _ ?hr hlr HV.out).mono ?_; (case hr => exact Kd.C_below hCr (by repeat (first | exact HB4.out | exact Below.refl _ _ | apply pw_below_drewN | apply below_drew1 | apply below_drew))); rintro e w5 ⟨rfl, hb5⟩; have HB5 := aq (below_step (show Below wr.heap.size wr _ from by repeat (first | exact HB4.out | exact Below.refl _ _ | apply pw_below_drewN | apply below_drew1 | apply below_drew)) hb5); clear hb5))
        all_goals go_wp2
        all_goals go_ret2
        all_goals refine ⟨by first | rfl | simp [Act.put], below_step HBW.out (show Below wr.heap.size wr _ from by repeat (first | exact HB5.out | exact Below.refl _ _ | apply pw_below_drewN | apply below_drew1 | apply below_drew))⟩
      | succ kq =>
        have hi : i < pds.length := by omega
        have HIK := aq hik
        obtain ⟨p, hp⟩ : ∃ p, pds[i]? = some p := ⟨pds[i], List.getElem?_eq_getElem hi⟩
        have hdrop : pds.drop i = p :: pds.drop (i + 1) := by rw [List.drop_eq_getElem_cons hi]; congr 1; rw [List.getElem?_eq_getElem hi] at hp; exact Option.some.inj hp
        have hF := HF.out
        rw [hdrop] at hF
        obtain ⟨u, hu, hF⟩ := Option.bind_eq_some_iff.mp hF
        obtain ⟨ys', hys, hF⟩ := Option.bind_eq_some_iff.mp hF
        injection hF with hF
        subst hF
        have hA := HN.out (by intro e; rw [e] at hi; simp at hi)
        subst hA
        have hpart := HP.out.row
        rw [HPD.out] at hpart
        obtain ⟨q, hq⟩ := hpart.get hp
        have hq := hq.below HW.out
        rw [show 0 + 5 * i = i * 5 by omega] at hq
        obtain ⟨c0, c1, c2, c3, c4, hok⟩ := hq
        have hbx : wr.heap[w.heap.size]? = _ := (HW.out.block _ (Array.getElem?_eq_some_iff.1 HBX3.out).1).trans HBX3.out
        obtain ⟨d0, d1, d2, d3, d4, d5, d6, d7, d8, d9⟩ := cells10_ hbx
        clear hdrop hp hpart hbx
        have HU := aq hu
        have HYS := aq hys
        have HOK := aq hok
        clear hu hys hok
        have hz : w.heap.size < wr.heap.size := Nat.lt_of_lt_of_le (Array.getElem?_eq_some_iff.1 HBX3.out).1 HW.out.size
        have HBW := aq (below_step HB3.out HW.out)
        have HGF := aq (fun o : Obj => GetV.below HOK.out.get (below_alloc (Below.refl _ _) o))
        have HTB := aq (fun o : Obj => TabW.below hTab (below_alloc HBW.out o))
        obtain ⟨Ao, co, rfl⟩ := Kd.R_slice HR.out
        have hx5 : xs.length < 5 := by have := HXL.out; have := HL5.out; omega
        have HX5 := aq hx5
        clear hx5
        go_wp2_with (first | (go_at_call 112; refine (code_part_field.calls k p _ _ _ i0 i1 i2 i3 i4 i5 i6 i7 i8 i9 u _ (HGF.out _) HU.out (HTB.out _)).mono ?_; rintro e w5 ⟨rfl, hb5⟩; have HB5 := aq (below_step (below_alloc HW.out _) hb5); have HR5 := aq (Kd.R_below HR.out (below_step (below_alloc (Below.refl _ _) _) hb5)); clear hb5) | ((with_reducible refine gate_builtin (b := .append) (xs := #[.tmp 19, .tmp 23]) rfl ?_); at_builtin; refine Kd.R_append k189 (w0 := w3) w3.heap.size rfl (.tmp 19) (.tmp 23) 187 189 (.agg #[.int .i64 0, .int .i64 0, .int .u32 0]) 24 rfl Tryz.underlying187 info_fld rfl (by decide) (by omega) (.slice Ao xs.length co) xs (⟨p.at_, p.n_, u⟩ : S189) [.int .i64 p.at_, .int .i64 p.n_, .int .u32 u] (fun _ => True) (fun _ => False) rfl rfl ?aP (fun _ hk => hk.elim) ?aF ?aO ?aB ?aS ?aL ?_; (case aP => exact k189_mkM _ _ _ (⟨p.at_, p.n_, u⟩ : S189)); (case aB => exact HB5.out); (case aF => exact (fun _ _ => trivial)); (case aO => exact HR5.out); (case aS => exact (below_size HB5.out)); (case aL => have := HX5.out; omega); intro v1 w6 ho hb hg hat; have HO := aq ho; have HB6 := aq hb; clear ho hb hg hat))
        go_roundg kq
        case measure => omega
        case rel => exact ⟨i + 1, xs ++ [⟨p.at_, p.n_, u⟩], ys', by rw [show wrap64 ((i : Int) + 1) = ((i + 1 : Nat) : Int) by unfold wrap64; have h5 := HL5.out; have h6 := HIK.out; omega], by have := HIK.out; omega, ⟨HYS.out⟩, ⟨by rw [List.append_assoc]; exact HXY.out⟩, ⟨by rw [List.length_append, HXL.out]; rfl⟩, ⟨HO.out⟩, ⟨HB6.out⟩⟩
def onesL (ps : List PD) : List S189 := ps.map fun p => ⟨p.at_, p.n_, IntKind.u32.wrap (IntKind.u32.wrap (2 ^ p.n_.toNat) - 1)⟩
def opGo (k : Nat) (w : Int) : Nat → Nat → Option Int
  | 0, _ => some 0
  | d + 1, i => (inst_Shape.f i).bind fun s => if i = 0 then opGo k w d (i + 1) else (code_over.f k 0 (onesL (partsOf s))).bind fun m => if Go.bits .andNot .u32 w m = baseL.getD i 0 then some i else opGo k w d (i + 1)
def code_Opcode.f (k : Nat) (w : Int) : Option Int := opGo k w 40 0
def okN (l : List PD) : Bool := l.all fun p => decide (0 ≤ p.n_ ∧ p.n_ ≤ 26)
theorem ite_okN {c : Prop} [Decidable c] {a b : List PD} (ha : okN a = true) (hb : okN b = true) : okN (if c then a else b) = true := by
  by_cases h : c
  · rw [if_pos h]; exact ha
  · rw [if_neg h]; exact hb
theorem parts_okN (s : Int) : okN (partsOf s) = true := by
  unfold partsOf
  repeat (refine ite_okN (by decide) ?_)
  decide
theorem parts_n {s : Int} {p : PD} (h : p ∈ partsOf s) : 0 ≤ p.n_ ∧ p.n_ ≤ 26 := of_decide_eq_true (List.all_eq_true.1 (parts_okN s) p h)
set_option maxHeartbeats 16000000 in
set_option maxRecDepth 100000 in
theorem code_Opcode.calls (k : Nat) (a0 r : Int) (w : World) (h : code_Opcode.f k a0 = some r) :
    Calls Tryz.prog 57 #[.int .u32 a0] w fun e w' => e = .returned (.int .i64 r) ∧ Below w.heap.size w w' := by
  have H := aq h
  clear h
  go_enter Tryz.func57, Tryz.ntmps57
  go_wp2_with (go_at_call 114; refine (code_bases.calls _).mono ?_; rintro e w1 ⟨rfl, hb1⟩; have HB1 := aq hb1; clear hb1)
  go_loopg [9] 40 (fun kq v9 wr => ∃ i : Nat, v9 = .int .i64 (i : Int) ∧ i + kq = 40 ∧ Aside0 (opGo k a0 kq i = some r) ∧ Aside0 (Below w.heap.size w wr))
  case atStart => exact ⟨0, rfl, rfl, H, HB1⟩
  case round =>
    clear H
    obtain ⟨i, rfl, hik, HG, HW⟩ := hrel
    cases gk with
    | zero =>
      obtain rfl : i = 40 := by omega
      have hG := HG.out
      injection hG with hG
      subst hG
      go_wp2
      go_ret
      exact ⟨rfl, HW.out⟩
    | succ kq =>
      have hi : i < 40 := by omega
      have HIK := aq hik
      have hG := HG.out
      clear hik HG
      obtain ⟨s, hs, hG⟩ := Option.bind_eq_some_iff.mp hG
      have HS := aq hs
      have HG := aq hG
      clear hs hG
      have hidx := base_index i hi
      obtain ⟨wo, rfl⟩ : ∃ wo : World, wo = wr := ⟨_, rfl⟩
      go_wp2_with (first | (go_at_call 30; refine (inst_Shape.calls _ _ _ HS.out).mono ?_; rintro e w2 ⟨rfl, hb2⟩; have HB2 := aq (below_step HW.out hb2); clear hb2) | (go_at_call 80; refine (code_parts.calls s w.heap.size _ HB2.out.size).mono ?_; rintro e w3 ⟨A, T, R, cap, rfl, hp⟩; have HP := aq hp; have HB3 := aq (below_step HB2.out hp.below); clear hp))
      clear hidx
      have hHP := HP.out
      have HN := aq hHP.addr
      have HPN := aq (fun p (hp : p ∈ partsOf s) => parts_n hp)
      have HL5 := aq (parts_len s)
      clear hHP
      have HROW := aq HP.out.row
      clear HP
      generalize partsOf s = pds at *
      go_loopg [5, 17] pds.length (fun kj v5 v17 wr => ∃ (j : Nat) (xs : List S189), v17 = .int .i64 (j : Int) ∧ j + kj = pds.length ∧ Aside0 (xs = onesL (pds.take j)) ∧ Aside0 (Kd.R k189 189 wr w3.heap.size (fun _ => True) v5 xs) ∧ Aside0 (Below w3.heap.size w3 wr))
      case atStart => exact ⟨0, [], rfl, by omega, ⟨rfl⟩, ⟨Kd.R_nil _ _ _ _ _⟩, ⟨Below.refl _ _⟩⟩
      case round =>
        obtain ⟨j, xs, rfl, hjk, HX, HR, HWi⟩ := hrel
        cases gk with
        | zero =>
          obtain rfl : j = pds.length := by omega
          have hX := HX.out
          rw [List.take_length] at hX
          subst hX
          obtain ⟨Ar, cr, rfl, hlr, hCr⟩ := Kd.R_reads HR.out
          have HBW := aq (below_step HB3.out HWi.out)
          have hG := HG.out
          by_cases h0 : i = 0
          · rw [if_pos h0] at hG
            have h00 : ¬ (0 : Int) < (i : Int) := by omega
            have HG2 := aq hG
            clear hG HG
            go_wp2
            go_roundg kq
            case measure => omega
            case rel => exact ⟨i + 1, by (first | go_num | (subst h0; rfl)), by have := HIK.out; omega, HG2, HBW⟩
          · rw [if_neg h0] at hG
            obtain ⟨m, hm, hG⟩ := Option.bind_eq_some_iff.mp hG
            have HM := aq hm
            have h00 : (0 : Int) < (i : Int) := by omega
            by_cases heq : Go.bits .andNot .u32 a0 m = baseL.getD i 0
            · rw [if_pos heq] at hG
              injection hG with hG
              subst hG
              have heq1 : (Go.bits .andNot .u32 a0 m == baseL[i]?.getD 0) = true := by simpa using heq
              clear heq hm HG
              go_wp2_with (go_at_call 113; refine (code_over.calls k _ _ _ _ _ _ hCr hlr HM.out).mono ?_; rintro e w5 ⟨rfl, hb5⟩; have HB5 := aq (below_step HBW.out hb5); clear hb5)
              go_ret
              exact ⟨rfl, HB5.out⟩
            · rw [if_neg heq] at hG
              have HG2 := aq hG
              have heq1 : (Go.bits .andNot .u32 a0 m == baseL[i]?.getD 0) = false := by simpa using heq
              clear heq hG hm HG
              go_wp2_with (go_at_call 113; refine (code_over.calls k _ _ _ _ _ _ hCr hlr HM.out).mono ?_; rintro e w5 ⟨rfl, hb5⟩; have HB5 := aq (below_step HBW.out hb5); clear hb5)
              go_roundg kq
              case measure => omega
              case rel => exact ⟨i + 1, by go_num, by have := HIK.out; omega, HG2, HB5⟩
        | succ kj =>
          have hj : j < pds.length := by omega
          have HJK := aq hjk
          obtain ⟨p, hp⟩ : ∃ p, pds[j]? = some p := ⟨pds[j], List.getElem?_eq_getElem hj⟩
          have hA := HN.out (by intro e; rw [e] at hj; simp at hj)
          subst hA
          obtain ⟨q, hq⟩ := HROW.out.get hp
          have hq := hq.below HWi.out
          rw [show 0 + 5 * j = j * 5 by omega] at hq
          obtain ⟨c0, c1, c2, c3, c4, hok⟩ := hq
          have hn := HPN.out p (List.mem_of_getElem? hp)
          obtain ⟨hn0, hn1⟩ := hn
          have HPJ := aq hp
          clear hp hok hjk
          obtain ⟨Ao, co, rfl⟩ := Kd.R_slice HR.out
          have hx5 : xs.length < 5 := by rw [HX.out]; unfold onesL; rw [List.length_map, List.length_take]; have := HL5.out; omega
          have HX5 := aq hx5
          clear hx5
          go_wp2
          have hB5 := below_alloc HWi.out (.cells #[.int .i64 p.at_, .int .i64 p.n_, .func (.func q.gf) #[] q.gc, .func (.func q.pf) #[] q.pc, .bool p.sg_] 135 (0, 0))
          have hR5 := Kd.R_alloc HR.out (.cells #[.int .i64 p.at_, .int .i64 p.n_, .func (.func q.gf) #[] q.gc, .func (.func q.pf) #[] q.pc, .bool p.sg_] 135 (0, 0))
          have hlast := cd_last wr (.cells #[.int .i64 p.at_, .int .i64 p.n_, .func (.func q.gf) #[] q.gc, .func (.func q.pf) #[] q.pc, .bool p.sg_] 135 (0, 0))
          generalize wr.alloc (.cells #[.int .i64 p.at_, .int .i64 p.n_, .func (.func q.gf) #[] q.gc, .func (.func q.pf) #[] q.pc, .bool p.sg_] 135 (0, 0)) = w5 at hB5 hR5 hlast ⊢
          obtain ⟨e0, e1, e2, e3, e4⟩ := cells5_ hlast
          have HB5 := aq hB5
          have HR5 := aq hR5
          clear hB5 hR5 hlast c0 c1 c2 c3 c4
          have hB6 := below_drew1 HB5.out
          have hR6 := Kd.R_drew HR5.out
          refine start_ (n := 13) (S := (fun w' => w'.cell? ⟨wr.heap.size, 0, none⟩ = some (.int .i64 p.at_) ∧ w'.cell? ⟨wr.heap.size, 1, none⟩ = some (.int .i64 p.n_))) (ds := [11, 12]) #[false, false, false, false, false, false, false, false, false, false, false, false, false] (by kernel_rfl) rfl rfl ⟨e0, e1⟩ (fun hHeld => ?_)
          generalize w5.drew = w6 at hB6 hR6 hHeld ⊢
          refine pure_ (i := 0) (N := some 21) (v := ?_) (a' := ?_) #[true, false, false, false, false, false, false, false, false, false, false, false, false] rfl rfl (by kernel_rfl) (fun _ _ _ h => h) (Or.inl ⟨by rfl, ?_⟩) ?_ ?_
          rotate_left
          · intro w'
            go_simp
            with_reducible rfl
          rotate_left
          · simp only [Act.put, List.setIfInBounds_toArray, List.set_cons_zero, List.set_cons_succ, i64_w, i32_w]
            rfl
          refine pure_ (i := 1) (N := some 22) (v := ?_) (a' := ?_) #[true, true, false, false, false, false, false, false, false, false, false, false, false] rfl rfl (by kernel_rfl) (fun _ _ _ h => h) (Or.inl ⟨by rfl, ?_⟩) ?_ ?_
          rotate_left
          · intro w'
            go_simp
            with_reducible rfl
          rotate_left
          · simp only [Act.put, List.setIfInBounds_toArray, List.set_cons_zero, List.set_cons_succ, i64_w, i32_w]
            rfl
          refine take_ (i := 2) (N := some 23) (v := ?_) (a' := ?_) #[true, true, true, false, false, false, false, false, false, false, false, false, false] rfl rfl (by kernel_rfl) (fun _ _ _ h => h) (Or.inl ⟨by rfl, ?_⟩) hHeld ?_ ?_
          rotate_left
          · rintro w' ⟨s0, s1⟩
            go_simp
            with_reducible rfl
          rotate_left
          · simp only [Act.put, List.setIfInBounds_toArray, List.set_cons_zero, List.set_cons_succ, i64_w, i32_w]
            rfl
          refine pure_ (i := 3) (N := some 24) (v := ?_) (a' := ?_) #[true, true, true, true, false, false, false, false, false, false, false, false, false] rfl rfl (by kernel_rfl) (fun _ _ _ h => h) (Or.inl ⟨by rfl, ?_⟩) ?_ ?_
          rotate_left
          · intro w'
            go_simp
            with_reducible rfl
          rotate_left
          · simp only [Act.put, List.setIfInBounds_toArray, List.set_cons_zero, List.set_cons_succ, i64_w, i32_w]
            rfl
          refine take_ (i := 4) (N := some 25) (v := ?_) (a' := ?_) #[true, true, true, true, true, false, false, false, false, false, false, false, false] rfl rfl (by kernel_rfl) (fun _ _ _ h => h) (Or.inl ⟨by rfl, ?_⟩) hHeld ?_ ?_
          rotate_left
          · rintro w' ⟨s0, s1⟩
            go_simp
            with_reducible rfl
          rotate_left
          · simp only [Act.put, List.setIfInBounds_toArray, List.set_cons_zero, List.set_cons_succ, i64_w, i32_w]
            rfl
          refine pure_ (i := 5) (N := some 26) (v := ?_) (a' := ?_) #[true, true, true, true, true, true, false, false, false, false, false, false, false] rfl rfl (by kernel_rfl) (fun _ _ _ h => h) (Or.inl ⟨by rfl, ?_⟩) ?_ ?_
          rotate_left
          · intro w'
            go_simp
            with_reducible rfl
          rotate_left
          · simp only [Act.put, List.setIfInBounds_toArray, List.set_cons_zero, List.set_cons_succ, i64_w, i32_w]
            rfl
          refine take_ (i := 6) (N := some 27) (v := ?_) (a' := ?_) #[true, true, true, true, true, true, true, false, false, false, false, false, false] rfl rfl (by kernel_rfl) (fun _ _ _ h => h) (Or.inl ⟨by rfl, ?_⟩) hHeld ?_ ?_
          rotate_left
          · rintro w' ⟨s0, s1⟩
            go_simp
            with_reducible rfl
          rotate_left
          · simp only [Act.put, List.setIfInBounds_toArray, List.set_cons_zero, List.set_cons_succ, i64_w, i32_w]
            rfl
          refine pure_ (i := 7) (N := some 28) (v := ?_) (a' := ?_) #[true, true, true, true, true, true, true, true, false, false, false, false, false] rfl rfl (by kernel_rfl) (fun _ _ _ h => h) (Or.inl ⟨by rfl, ?_⟩) ?_ ?_
          rotate_left
          · intro w'
            go_simp
            with_reducible rfl
          rotate_left
          · simp only [Act.put, List.setIfInBounds_toArray, List.set_cons_zero, List.set_cons_succ, i64_w, i32_w]
            rfl
          refine pure_ (i := 8) (N := some 29) (v := ?_) (a' := ?_) #[true, true, true, true, true, true, true, true, true, false, false, false, false] rfl rfl (by kernel_rfl) (fun _ _ _ h => h) (Or.inl ⟨by rfl, ?_⟩) ?_ ?_
          rotate_left
          · intro w'
            go_simp
            with_reducible rfl
          rotate_left
          · simp only [Act.put, List.setIfInBounds_toArray, List.set_cons_zero, List.set_cons_succ, i64_w, i32_w]
            rfl
          refine pure_ (i := 9) (N := some 30) (v := ?_) (a' := ?_) #[true, true, true, true, true, true, true, true, true, true, false, false, false] rfl rfl (by kernel_rfl) (fun _ _ _ h => h) (Or.inl ⟨by rfl, ?_⟩) ?_ ?_
          rotate_left
          · intro w'
            go_simp
            with_reducible rfl
          rotate_left
          · simp only [Act.put, List.setIfInBounds_toArray, List.set_cons_zero, List.set_cons_succ, i64_w, i32_w]
            rfl
          refine one_ (i := 10) (N := some 31) #[true, true, true, true, true, true, true, true, true, true, true, false, false] rfl rfl (by kernel_rfl) (by decide) (fun K hK => ?_)
          rw [if_pos (by rfl)]
          unfold Oper.wp
          go_simp
          refine hK.out _ _ ⟨pw_cell_below (below_alloc (Below.refl _ _) _) hHeld.1, pw_cell_below (below_alloc (Below.refl _ _) _) hHeld.2⟩ (fun hHeld => ?_)
          clear hK K
          refine last_ (i := 11) (N := some 32) #[true, true, true, true, true, true, true, true, true, true, true, true, false] rfl rfl (by kernel_rfl) (by decide) (fun K hK => ?_)
          refine Kd.R_append_step k189 (w0 := w3) w3.heap.size (by rfl) (.tmp 21) (.tmp 31) 187 189 (.agg #[.int .i64 0, .int .i64 0, .int .u32 0]) 24 rfl Tryz.underlying187 info_fld rfl (by decide) (by omega) (.slice Ao xs.length co) xs (⟨p.at_, p.n_, IntKind.u32.wrap (IntKind.u32.wrap (2 ^ p.n_.toNat) - 1)⟩ : S189) [.int .i64 p.at_, .int .i64 p.n_, .int .u32 (IntKind.u32.wrap (IntKind.u32.wrap (2 ^ p.n_.toNat) - 1))] (fun _ => True) (fun _ => False) rfl rfl ?aP (fun _ hk => hk.elim) (fun _ _ => trivial) hR6 hB6 (below_size hB6) ?aL ?_
          case aP => exact k189_mkM _ _ _ (⟨p.at_, p.n_, IntKind.u32.wrap (IntKind.u32.wrap (2 ^ p.n_.toNat) - 1)⟩ : S189)
          case aL => have := HX5.out; omega
          intro v1 w7 ho hb hg hat
          have HO := aq ho
          have HB7 := aq hb
          clear ho hb hg hat
          refine hK.out _ _ ?_
          clear hK K
          refine norm_ (a' := ?_) ?_ ?_
          rotate_left
          · show Act.put _ (some 32) _ = _
            simp only [Act.put, List.setIfInBounds_toArray, List.set_cons_zero, List.set_cons_succ, i64_w, i32_w]
            rfl
          refine pure_ (i := 12) (N := some 5) (v := ?_) (a' := ?_) #[true, true, true, true, true, true, true, true, true, true, true, true, true] rfl rfl (by kernel_rfl) (fun _ _ _ h => h) (Or.inl ⟨by rfl, ?_⟩) ?_ ?_
          rotate_left
          · intro w'
            go_simp
            with_reducible rfl
          rotate_left
          · simp only [Act.put, List.setIfInBounds_toArray, List.set_cons_zero, List.set_cons_succ, i64_w, i32_w]
            rfl
          refine done_ (by kernel_rfl) ?_
          go_wp2
          go_roundg kj
          case measure => omega
          case rel => exact ⟨j + 1, xs ++ [⟨p.at_, p.n_, IntKind.u32.wrap (IntKind.u32.wrap (2 ^ p.n_.toNat) - 1)⟩], by rw [show wrap64 ((j : Int) + 1) = ((j + 1 : Nat) : Int) by unfold wrap64; have h5 := HL5.out; have h6 := HJK.out; omega], by have := HJK.out; omega, ⟨by rw [HX.out]; unfold onesL; rw [List.take_add_one, HPJ.out, List.map_append]; rfl⟩, ⟨HO.out⟩, ⟨HB7.out⟩⟩
def bits_Field.f (a0 : Int) (a1 : Int) (a2 : Int) : Option (Int × Int) := (bits_right.f a1 a2).bind fun t156 => (if t156 = true then (if 0 ≤ a1 then ((bits_ones.f a2).bind fun t157 => (some (Go.bits .and .u32 (shr .u32 a0 a1) ((t157) % 4294967296), 0))) else (none)) else (some (0, 1)))
set_option maxHeartbeats 8000000 in
set_option maxRecDepth 100000 in
theorem bits_Field.calls (a0 : Int) (a1 : Int) (a2 : Int) (r1 : Int) (r2 : Int) (w : World) (h : bits_Field.f a0 a1 a2 = some (r1, r2)) :
    Calls Tryz.prog 81 #[.int .u32 a0, .int .i64 a1, .int .i64 a2] w fun e w' => e = .returned (.tuple #[.int .u32 r1, .int .i64 r2]) ∧ Drawn0 w w' := by
 have H : ((bits_right.f a1 a2).bind fun t156 => (if t156 = true then (if 0 ≤ a1 then ((bits_ones.f a2).bind fun t157 => (some (Go.bits .and .u32 (shr .u32 a0 a1) ((t157) % 4294967296), 0))) else (none)) else (some (0, 1)))) = some (r1, r2) := h
 clear h
 replace H := Option.bind_eq_some_iff.mp H
 obtain ⟨t156, A40, H⟩ := H
 replace H : (if t156 = true then (if 0 ≤ a1 then ((bits_ones.f a2).bind fun t157 => (some (Go.bits .and .u32 (shr .u32 a0 a1) ((t157) % 4294967296), 0))) else (none)) else (some (0, 1))) = some (r1, r2) := H
 have A4 := aq A40
 clear A40
 by_cases c5 : t156 = true
 ·
  subst c5
  have H1 : (if 0 ≤ a1 then ((bits_ones.f a2).bind fun t157 => (some (Go.bits .and .u32 (shr .u32 a0 a1) ((t157) % 4294967296), 0))) else (none)) = some (r1, r2) := by rw [if_pos rfl] at H; exact H
  clear H
  have H := H1
  clear H1
  by_cases c6 : 0 ≤ a1
  ·
   rw [if_pos c6] at H
   have c6b0 := eq_true c6
   have c6b1 : decide (0 ≤ a1) = true := decide_eq_true c6
   clear c6
   obtain ⟨ji7, hji7⟩ : ∃ j_ : Int, (shr .u32 a0 a1) = j_ := ⟨_, rfl⟩
   replace H : ((bits_ones.f a2).bind fun t157 => (some (Go.bits .and .u32 (ji7) ((t157) % 4294967296), 0))) = some (r1, r2) := by first | (rw [hji7] at H; exact H) | (simp only [hji7] at H ⊢; exact H)
   (try rw [hji7] at A4)
   have hji7_ : (a0 / 2 ^ min a1.toNat 32) = ji7 := hji7
   have hji7z : a1 ≤ 32 → (a0 / 2 ^ a1.toNat) = ji7 := shr_small hji7
   replace H := Option.bind_eq_some_iff.mp H
   obtain ⟨t157, A80, H⟩ := H
   replace H : (some (Go.bits .and .u32 (ji7) ((t157) % 4294967296), 0)) = some (r1, r2) := H
   have A8 := aq A80
   clear A80
   simp only [Option.some.injEq, Prod.mk.injEq] at H
   obtain ⟨rfl, rfl⟩ := H
   go_enter Tryz.func81, Tryz.ntmps81
   go_wp2_with (first | (go_at_call 156; (with_reducible refine (bits_right.calls a1 a2 true _ A4.out).mono ?_); rintro e w' ⟨rfl, ⟨nd, rfl⟩⟩; (try first | exact ⟨rfl, _, World.drewN_drewN _ _ _⟩ | exact ⟨rfl, _, Eq.trans (World.drewN_drewN _ _ _) (congrArg (World.drewN _) (Nat.add_assoc _ _ _))⟩)) | (go_at_call 157; (with_reducible refine (bits_ones.calls a2 t157 _ A8.out).mono ?_); rintro e w' ⟨rfl, ⟨nd, rfl⟩⟩; (try first | exact ⟨rfl, _, World.drewN_drewN _ _ _⟩ | exact ⟨rfl, _, Eq.trans (World.drewN_drewN _ _ _) (congrArg (World.drewN _) (Nat.add_assoc _ _ _))⟩)))
   repeat (go_quiet (first | (go_at_call 156; (with_reducible refine (bits_right.calls a1 a2 true _ A4.out).mono ?_); rintro e w' ⟨rfl, ⟨nd, rfl⟩⟩; (try first | exact ⟨rfl, _, World.drewN_drewN _ _ _⟩ | exact ⟨rfl, _, Eq.trans (World.drewN_drewN _ _ _) (congrArg (World.drewN _) (Nat.add_assoc _ _ _))⟩)) | (go_at_call 157; (with_reducible refine (bits_ones.calls a2 t157 _ A8.out).mono ?_); rintro e w' ⟨rfl, ⟨nd, rfl⟩⟩; (try first | exact ⟨rfl, _, World.drewN_drewN _ _ _⟩ | exact ⟨rfl, _, Eq.trans (World.drewN_drewN _ _ _) (congrArg (World.drewN _) (Nat.add_assoc _ _ _))⟩))); try go_wp2_with (first | (go_at_call 156; (with_reducible refine (bits_right.calls a1 a2 true _ A4.out).mono ?_); rintro e w' ⟨rfl, ⟨nd, rfl⟩⟩; (try first | exact ⟨rfl, _, World.drewN_drewN _ _ _⟩ | exact ⟨rfl, _, Eq.trans (World.drewN_drewN _ _ _) (congrArg (World.drewN _) (Nat.add_assoc _ _ _))⟩)) | (go_at_call 157; (with_reducible refine (bits_ones.calls a2 t157 _ A8.out).mono ?_); rintro e w' ⟨rfl, ⟨nd, rfl⟩⟩; (try first | exact ⟨rfl, _, World.drewN_drewN _ _ _⟩ | exact ⟨rfl, _, Eq.trans (World.drewN_drewN _ _ _) (congrArg (World.drewN _) (Nat.add_assoc _ _ _))⟩))))
   go_ret2
   exact ⟨by first | rfl | (simp; done) | (simp only [← hji7] <;> (first | rfl | simp)) | (simp [*]; done), by repeat (first | exact Drawn0.refl _ | apply Drawn0.step)⟩
  ·
   rw [if_neg c6] at H
   exact absurd H (by simp)
 ·
  replace c5 := Bool.eq_false_iff.mpr c5
  subst c5
  have H1 : (some (0, 1)) = some (r1, r2) := by rw [if_neg (show ¬ (false = true) by decide)] at H; exact H
  clear H
  have H := H1
  clear H1
  simp only [Option.some.injEq, Prod.mk.injEq] at H
  obtain ⟨rfl, rfl⟩ := H
  go_enter Tryz.func81, Tryz.ntmps81
  go_wp2_with (first | (go_at_call 156; (with_reducible refine (bits_right.calls a1 a2 false _ A4.out).mono ?_); rintro e w' ⟨rfl, ⟨nd, rfl⟩⟩; (try first | exact ⟨rfl, _, World.drewN_drewN _ _ _⟩ | exact ⟨rfl, _, Eq.trans (World.drewN_drewN _ _ _) (congrArg (World.drewN _) (Nat.add_assoc _ _ _))⟩)))
  repeat (go_quiet (first | (go_at_call 156; (with_reducible refine (bits_right.calls a1 a2 false _ A4.out).mono ?_); rintro e w' ⟨rfl, ⟨nd, rfl⟩⟩; (try first | exact ⟨rfl, _, World.drewN_drewN _ _ _⟩ | exact ⟨rfl, _, Eq.trans (World.drewN_drewN _ _ _) (congrArg (World.drewN _) (Nat.add_assoc _ _ _))⟩))); try go_wp2_with (first | (go_at_call 156; (with_reducible refine (bits_right.calls a1 a2 false _ A4.out).mono ?_); rintro e w' ⟨rfl, ⟨nd, rfl⟩⟩; (try first | exact ⟨rfl, _, World.drewN_drewN _ _ _⟩ | exact ⟨rfl, _, Eq.trans (World.drewN_drewN _ _ _) (congrArg (World.drewN _) (Nat.add_assoc _ _ _))⟩))))
  go_ret2
  exact ⟨by first | rfl | (simp; done) | (simp [*]; done), by repeat (first | exact Drawn0.refl _ | apply Drawn0.step)⟩
def bits_Signed.j0 : Nat → Int → Int → Bool → Option (Int × Int)
 | 0, _, _, _ => none
 | k + 1, x0, x1, x6 => if x6 = true then (some (0, 1)) else ((bits_ones.f x1).bind fun t158 => (if (IntKind.u64.wrap (x0)) > t158 then (some (0, 4)) else (if 0 ≤ (wrap64 (64 - x1)) then (some (shr .i64 (shl .i64 (wrap64 (x0)) (wrap64 (64 - x1))) (wrap64 (64 - x1)), 0)) else (none))))
def bits_Signed.f (k : Nat) (a0 : Int) (a1 : Int) : Option (Int × Int) := if a1 < 1 then (bits_Signed.j0 k a0 a1 true) else (bits_Signed.j0 k a0 a1 (decide (a1 > 32)))
set_option maxHeartbeats 8000000 in
set_option maxRecDepth 100000 in
theorem bits_Signed.calls (k : Nat) (a0 : Int) (a1 : Int) (r1 : Int) (r2 : Int) (w : World) (h : bits_Signed.f k a0 a1 = some (r1, r2)) :
    Calls Tryz.prog 83 #[.int .u32 a0, .int .i64 a1] w fun e w' => e = .returned (.tuple #[.int .i64 r1, .int .i64 r2]) ∧ Drawn0 w w' := by
 have H : (if a1 < 1 then (bits_Signed.j0 k a0 a1 true) else (bits_Signed.j0 k a0 a1 (decide (a1 > 32)))) = some (r1, r2) := h
 clear h
 have HC3 := aq H
 clear H
 go_enter Tryz.func83, Tryz.ntmps83
 go_upto_region 1 with (fail)
 go_cut [6] (fun v6 wc => ∃ (kq : Nat) (x6_2 : Bool), v6 = .bool x6_2 ∧ Aside0 (bits_Signed.j0 kq a0 a1 x6_2 = some (r1, r2)) ∧ Aside0 (kq ≤ k) ∧ Drawn0 w wc)
 case first =>
  have H := HC3.out
  clear HC3
  (try (rw [drewN_self w]; have n0_ := fun n_ => pw_below_drewN HB.out n_; clear HB; generalize hq_ : World.drewN w _ = w; have HB := aq (hq_ ▸ n0_ _); clear hq_ n0_))
  by_cases c4 : a1 < 1
  ·
   rw [if_pos c4] at H
   have c4b0 : decide (a1 < 1) = true := decide_eq_true c4
   clear c4
   (first | rw [c4b0] | (simp only [i64_w, i32_w]; rw [c4b0]) | skip)
   have H' := aq H
   clear H
   go_wp2
   go_meet
   case rel => exact ⟨_, (true), (by first | rfl | (simp; done) | (simp [*]; done)), H', ⟨by first | omega | exact Nat.le_refl _⟩, by repeat (first | exact Drawn0.refl _ | apply Drawn0.step)⟩
  ·
   rw [if_neg c4] at H
   have c4b0 : decide (a1 < 1) = false := decide_eq_false c4
   clear c4
   (first | rw [c4b0] | (simp only [i64_w, i32_w]; rw [c4b0]) | skip)
   have H' := aq H
   clear H
   go_wp2
   go_meet
   case rel => exact ⟨_, (decide (a1 > 32)), (by first | rfl | (simp; done) | (simp [*]; done)), H', ⟨by first | omega | exact Nat.le_refl _⟩, by repeat (first | exact Drawn0.refl _ | apply Drawn0.step)⟩
 case rest =>
  clear HC3
  try clear p2
  try clear c4
  try clear c4b0
  obtain ⟨kq, x6_2, rfl, HA, HJ2, ⟨mc2, rfl⟩⟩ := hcut
  cases kq with
  | zero => exact absurd HA.out (by simp [bits_Signed.j0])
  | succ kj2 =>
   have H := HA.out
   clear HA
   simp only [bits_Signed.j0] at H
   by_cases c5 : x6_2 = true
   ·
    subst c5
    have H1 : (some (0, 1)) = some (r1, r2) := by rw [if_pos rfl] at H; exact H
    clear H
    have H := H1
    clear H1
    simp only [Option.some.injEq, Prod.mk.injEq] at H
    obtain ⟨rfl, rfl⟩ := H
    go_wp2
    go_ret2
    exact ⟨by first | rfl | (simp; done) | (simp [*]; done), by repeat (first | exact Drawn0.refl _ | apply Drawn0.step)⟩
   ·
    replace c5 := Bool.eq_false_iff.mpr c5
    subst c5
    have H1 : ((bits_ones.f a1).bind fun t158 => (if (IntKind.u64.wrap (a0)) > t158 then (some (0, 4)) else (if 0 ≤ (wrap64 (64 - a1)) then (some (shr .i64 (shl .i64 (wrap64 (a0)) (wrap64 (64 - a1))) (wrap64 (64 - a1)), 0)) else (none)))) = some (r1, r2) := by rw [if_neg (show ¬ (false = true) by decide)] at H; exact H
    clear H
    have H := H1
    clear H1
    replace H := Option.bind_eq_some_iff.mp H
    obtain ⟨t158, A60, H⟩ := H
    replace H : (if (IntKind.u64.wrap (a0)) > t158 then (some (0, 4)) else (if 0 ≤ (wrap64 (64 - a1)) then (some (shr .i64 (shl .i64 (wrap64 (a0)) (wrap64 (64 - a1))) (wrap64 (64 - a1)), 0)) else (none))) = some (r1, r2) := H
    have A6 := aq A60
    clear A60
    by_cases c7 : (IntKind.u64.wrap (a0)) > t158
    ·
     rw [if_pos c7] at H
     have c7b0 : decide (t158 < (IntKind.u64.wrap (a0))) = true := decide_eq_true c7
     clear c7
     simp only [Option.some.injEq, Prod.mk.injEq] at H
     obtain ⟨rfl, rfl⟩ := H
     go_wp2_with (first | ((with_reducible refine gate_callee (f := 157) rfl ?_); refine goesL_ (some 17) rfl rfl Tryz.func157 (by kernel_rfl) rfl #[.int .i64 a1] rfl (by (try simp only [List.map_toArray, List.map_cons, List.map_nil]); first | done | rfl | (simp only [List.length_drop, List.length_take]; rfl)) ?_; (with_reducible refine (bits_ones.calls a1 t158 _ A6.out).mono ?_); rintro e w' ⟨rfl, ⟨nd, rfl⟩⟩; refine ⟨_, rfl, ?_⟩))
     go_ret2
     exact ⟨by first | rfl | (simp; done) | (simp [*]; done), by repeat (first | exact Drawn0.refl _ | apply Drawn0.step)⟩
    ·
     rw [if_neg c7] at H
     have c7b0 : decide (t158 < (IntKind.u64.wrap (a0))) = false := decide_eq_false c7
     clear c7
     obtain ⟨ji8, hji8⟩ : ∃ j_ : Int, (wrap64 (64 - a1)) = j_ := ⟨_, rfl⟩
     replace H : (if 0 ≤ (ji8) then (some (shr .i64 (shl .i64 (wrap64 (a0)) (ji8)) (ji8), 0)) else (none)) = some (r1, r2) := by first | (rw [hji8] at H; exact H) | (simp only [hji8] at H ⊢; exact H)
     (try rw [hji8] at A6)
     have hji8w : (IntKind.i64.wrap (64 - a1)) = ji8 := (i64_w _).trans hji8
     by_cases c9 : 0 ≤ (ji8)
     ·
      rw [if_pos c9] at H
      have c9b0 := eq_true c9
      have c9b1 : decide (0 ≤ (ji8)) = true := decide_eq_true c9
      clear c9
      obtain ⟨ji10, hji10⟩ : ∃ j_ : Int, (shl .i64 (wrap64 (a0)) (ji8)) = j_ := ⟨_, rfl⟩
      replace H : (some (shr .i64 (ji10) (ji8), 0)) = some (r1, r2) := by first | (rw [hji10] at H; exact H) | (simp only [hji10] at H ⊢; exact H)
      (try rw [hji10] at A6)
      have hji10_ : (IntKind.i64.wrap ((wrap64 (a0)) * 2 ^ min (ji8).toNat 64)) = ji10 := hji10
      have hji10z : (ji8) ≤ 64 → (IntKind.i64.wrap ((wrap64 (a0)) * 2 ^ (ji8).toNat)) = ji10 := shl_small hji10
      have hji10y : (wrap64 ((wrap64 (a0)) * 2 ^ min (ji8).toNat 64)) = ji10 := (i64_w _).symm.trans hji10_
      have hji10x : (ji8) ≤ 64 → (wrap64 ((wrap64 (a0)) * 2 ^ (ji8).toNat)) = ji10 := fun h_ => (i64_w _).symm.trans (hji10z h_)
      have c11b0 := eq_true (of_decide_eq_true (by first | (with_reducible assumption) | assumption) : 0 ≤ (ji8))
      obtain ⟨ji12, hji12⟩ : ∃ j_ : Int, (shr .i64 (ji10) (ji8)) = j_ := ⟨_, rfl⟩
      replace H : (some (ji12, 0)) = some (r1, r2) := by first | (rw [hji12] at H; exact H) | (simp only [hji12] at H ⊢; exact H)
      (try rw [hji12] at A6)
      have hji12_ : ((ji10) / 2 ^ min (ji8).toNat 64) = ji12 := hji12
      have hji12z : (ji8) ≤ 64 → ((ji10) / 2 ^ (ji8).toNat) = ji12 := shr_small hji12
      simp only [Option.some.injEq, Prod.mk.injEq] at H
      obtain ⟨rfl, rfl⟩ := H
      go_wp2_with (first | ((with_reducible refine gate_callee (f := 157) rfl ?_); refine goesL_ (some 17) rfl rfl Tryz.func157 (by kernel_rfl) rfl #[.int .i64 a1] rfl (by (try simp only [List.map_toArray, List.map_cons, List.map_nil]); first | done | rfl | (simp only [List.length_drop, List.length_take]; rfl)) ?_; (with_reducible refine (bits_ones.calls a1 t158 _ A6.out).mono ?_); rintro e w' ⟨rfl, ⟨nd, rfl⟩⟩; refine ⟨_, rfl, ?_⟩))
      go_ret2
      exact ⟨by first | rfl | (simp; done) | (simp only [← hji8, ← hji10, ← hji12] <;> (first | rfl | simp)) | (simp [*]; done), by repeat (first | exact Drawn0.refl _ | apply Drawn0.step)⟩
     ·
      rw [if_neg c9] at H
      exact absurd H (by simp)
end Go.Proofs.YtblnfngigdipcaaGreatDoor.P
namespace Go.Proofs.YtblnfngigdipcaaGreatDoor.M
open Go.RowKit Go.Proofs.YtblnfngigdipcaaGreatDoor.P Go.Proofs.YtblnfngigdipcaaGreatDoorW.PrintWords Go.Proofs.YtblnfngigdipcaaGreatDoorW.PrintLast Go.Proofs.YtblnfngigdipcaaGreatDoorW.PrintMore
set_option linter.unusedVariables false
set_option linter.unusedSimpArgs false
def shapeN (op : Int) : Nat := if op < 1 then 0 else if op > 39 then 0 else (inst_shape op.toNat).toNat
theorem shape_fin : ∀ n : Fin 40, (inst_shape n.val).toNat ≤ 16 ∧ 0 ≤ inst_shape n.val ∧ (1 ≤ n.val → 1 ≤ inst_shape n.val) := by decide +kernel
theorem shapeN_le (op : Int) : shapeN op ≤ 16 := by
  unfold shapeN
  split
  · omega
  · split
    · omega
    · exact (shape_fin ⟨op.toNat, by omega⟩).1
theorem shapeN_zero (op : Int) : shapeN op = 0 ↔ ¬ (1 ≤ op ∧ op ≤ 39) := by
  unfold shapeN
  split
  · omega
  · split
    · omega
    · have h := shape_fin ⟨op.toNat, by omega⟩
      have h3 := h.2.2 (by show 1 ≤ op.toNat; omega)
      simp only at h3
      omega
theorem shape_at (op : Int) : inst_Shape.f op = some ((shapeN op : Nat) : Int) := by
  unfold inst_Shape.f shapeN
  split
  · rfl
  · split
    · rfl
    · have h := (shape_fin ⟨op.toNat, by omega⟩).2.1
      simp only at h
      rw [Int.toNat_of_nonneg h]
theorem shapeOf_at (s : Nat) (h : s ≤ 16) : inst_shapeOf.f (s : Int) = some (inst_sh s) := by
  unfold inst_shapeOf.f
  rw [if_pos (by omega)]
  rfl
def regB (h : Bool) (v : Int) : Bool := if h then decide (0 ≤ v ∧ v ≤ 31) else v == 0
def stepB (lo hi m v : Int) : Bool := if m = 0 then v == 0 else decide (lo ≤ v ∧ v ≤ hi ∧ Int.tmod v m = 0)
theorem reg_at (h : Bool) (v : Int) : inst_register.f h v = some (regB h v) := by
  unfold inst_register.f regB
  cases h
  · by_cases h0 : v = 0
    · rw [if_pos h0, h0]; rfl
    · rw [if_neg h0]; simp [h0]
  · by_cases h0 : v = 0
    · subst h0; simp
    · rw [if_neg h0, if_pos rfl]
      by_cases h1 : v > 0
      · rw [if_pos h1]; congr 1; simp; omega
      · rw [if_neg h1]; congr 1; symm; simp; omega
theorem step_at (v lo hi m : Int) : inst_step.f v lo hi m = some (stepB lo hi m v) := by
  unfold inst_step.f stepB
  by_cases h0 : m = 0
  · rw [if_pos h0, if_pos h0]
  · rw [if_neg h0, if_neg h0]
    by_cases h1 : v ≥ lo
    · rw [if_pos h1]
      by_cases h2 : v ≤ hi
      · rw [if_pos h2]; congr 1
        rw [Bool.eq_iff_iff]
        simp; omega
      · rw [if_neg h2]; congr 1; symm; simp; omega
    · rw [if_neg h1]; congr 1; symm; simp; omega
def okB (op d n m a imm mask shift amount cond : Int) (mk : Bool) : Bool :=
  let t := inst_sh (shapeN op)
  !(shapeN op == 0) && regB t.1 d && regB t.2.1 n && regB t.2.2.1 m && regB t.2.2.2.1 a && stepB t.2.2.2.2.1 t.2.2.2.2.2.1 t.2.2.2.2.2.2.1 imm && stepB 0 t.2.2.2.2.2.2.2.1 t.2.2.2.2.2.2.2.2.1 amount &&
  decide (0 ≤ shift ∧ shift ≤ t.2.2.2.2.2.2.2.2.2.1) && decide (0 ≤ cond ∧ cond ≤ t.2.2.2.2.2.2.2.2.2.2.1) && (if shapeN op = 3 then mk else mask == 0)
set_option maxHeartbeats 2000000 in
theorem is_at (k : Nat) (op d n m a imm mask shift amount cond : Int) (mk : Bool) (hm : mask_Is.f k mask = some mk) : inst_Is.f (k + 2) op d n m a imm mask shift amount cond = some (okB op d n m a imm mask shift amount cond mk) := by
  unfold inst_Is.f
  rw [shape_at, Option.bind_some]
  by_cases h0 : shapeN op = 0
  · rw [h0, if_pos (by rfl)]
    simp [okB, h0]
  · rw [if_neg (by omega), shapeOf_at _ (shapeN_le op), Option.bind_some]
    have hz : (shapeN op == 0) = false := by simp [h0]
    unfold okB
    simp only [hz, Bool.not_false, Bool.true_and]
    generalize ht : inst_sh (shapeN op) = t
    generalize shapeN op = s at *
    obtain ⟨t1, t2, t3, t4, t5, t6, t7, t8, t9, t10, t11, t12⟩ := t
    simp only
    rw [reg_at, Option.bind_some, reg_at, Option.bind_some, reg_at, Option.bind_some, reg_at, Option.bind_some]
    simp only [inst_Is.j0, step_at, Option.bind_some, inst_Is.j1, hm]
    generalize regB t1 d = b1
    generalize regB t2 n = b2
    generalize regB t3 m = b3
    generalize regB t4 a = b4
    generalize stepB t5 t6 t7 imm = b5
    generalize stepB 0 t8 t9 amount = b6
    have e3 : ((s : Int) = 3) = (s = 3) := by rw [eq_iff_iff]; omega
    simp only [e3]
    obtain ⟨b7, h7⟩ : ∃ b : Bool, (0 ≤ shift) = (b = true) := ⟨decide (0 ≤ shift), by simp⟩
    obtain ⟨b8, h8⟩ : ∃ b : Bool, (shift ≤ t10) = (b = true) := ⟨decide (shift ≤ t10), by simp⟩
    obtain ⟨b9, h9⟩ : ∃ b : Bool, (0 ≤ cond) = (b = true) := ⟨decide (0 ≤ cond), by simp⟩
    obtain ⟨b10, h10⟩ : ∃ b : Bool, (cond ≤ t11) = (b = true) := ⟨decide (cond ≤ t11), by simp⟩
    simp only [ge_iff_le, h7, h8, h9, h10]
    by_cases hs3 : s = 3 <;> simp only [hs3, if_true, if_false] <;> cases b1 <;> cases b2 <;> cases b3 <;> cases b4 <;> cases b5 <;> cases b6 <;> cases b7 <;> cases b8 <;> cases b9 <;> cases b10 <;> simp
end Go.Proofs.YtblnfngigdipcaaGreatDoor.M
namespace Go.Proofs.YtblnfngigdipcaaGreatDoor.P
open Go.RowKit Go.Proofs.YtblnfngigdipcaaGreatDoorW.PrintWords Go.Proofs.YtblnfngigdipcaaGreatDoorW.PrintLast Go.Proofs.YtblnfngigdipcaaGreatDoorW.PrintMore
attribute [local go_sem] max2_int min2_int max_two min_two max_three min_three max_four min_four
set_option linter.unusedVariables false
set_option linter.unusedSimpArgs false
theorem eqA51 (d : Nat) (w : World) (x0 y0 : Int) (x1 y1 : Int) (x2 y2 : Int) (x3 y3 : Int) (x4 y4 : Int) (x5 y5 : Int) (x6 y6 : Int) (x7 y7 : Int) (x8 y8 : Int) (x9 y9 : Int) :
    (Op.equalIn (d + 2) 51 (.agg #[.int .i64 x0, .int .i64 x1, .int .i64 x2, .int .i64 x3, .int .i64 x4, .int .i64 x5, .int .u64 x6, .int .i64 x7, .int .i64 x8, .int .i64 x9]) (.agg #[.int .i64 y0, .int .i64 y1, .int .i64 y2, .int .i64 y3, .int .i64 y4, .int .i64 y5, .int .u64 y6, .int .i64 y7, .int .i64 y8, .int .i64 y9])).run Tryz.prog w = .ok (x0 == y0 && (x1 == y1 && (x2 == y2 && (x3 == y3 && (x4 == y4 && (x5 == y5 && (x6 == y6 && (x7 == y7 && (x8 == y8 && (x9 == y9)))))))))) w := by
  refine eqA_of Tryz.underlying51 (by kernel_rfl) ?_
  refine eqf_cons (by rfl) (by go_simp; rfl) (by go_simp; rfl) (by go_simp) ?_
  refine eqf_cons (by rfl) (by go_simp; rfl) (by go_simp; rfl) (by go_simp) ?_
  refine eqf_cons (by rfl) (by go_simp; rfl) (by go_simp; rfl) (by go_simp) ?_
  refine eqf_cons (by rfl) (by go_simp; rfl) (by go_simp; rfl) (by go_simp) ?_
  refine eqf_cons (by rfl) (by go_simp; rfl) (by go_simp; rfl) (by go_simp) ?_
  refine eqf_cons (by rfl) (by go_simp; rfl) (by go_simp; rfl) (by go_simp) ?_
  refine eqf_cons (by rfl) (by go_simp; rfl) (by go_simp; rfl) (by go_simp) ?_
  refine eqf_cons (by rfl) (by go_simp; rfl) (by go_simp; rfl) (by go_simp) ?_
  refine eqf_cons (by rfl) (by go_simp; rfl) (by go_simp; rfl) (by go_simp) ?_
  exact eqf_last (by rfl) (by go_simp; rfl) (by go_simp; rfl) (by go_simp)
end Go.Proofs.YtblnfngigdipcaaGreatDoor.P
