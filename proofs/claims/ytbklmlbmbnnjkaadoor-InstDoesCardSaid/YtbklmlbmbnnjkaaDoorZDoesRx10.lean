/- Written for this claim by a program of this session: what the claim uses of lemmas and proved contracts of Go functions. -/
import Derived.Test.YtbklmlbmbnnjkaaDoorZDoesRx0
namespace Go.Proofs.YtbklmlbmbnnjkaaDoor.R
open Go.RowKit Go.Proofs.YtbklmlbmbnnjkaaDoorW.PrintWords Go.Proofs.YtbklmlbmbnnjkaaDoorW.PrintLast Go.Proofs.YtbklmlbmbnnjkaaDoorW.PrintMore
attribute [local go_sem] max2_int min2_int max_two min_two max_three min_three max_four min_four   -- for this text's walks alone
set_option linter.unusedVariables false
set_option linter.unusedSimpArgs false
def cleatref04_Shape.j0 : Nat → Int → List Int → Bool → Option (Int)
 | 0, _, _, _ => none
 | k + 1, x0, x3, x10 => if x10 = true then (some 0) else (if 0 ≤ x0 then (if x0 < (x3.length : Int) then (some (rd x3 x0)) else (none)) else (none))
def cleatref04_Shape.f (k : Nat) (a0 : Int) : Option (Int) := (some (([0, 1, 1, 1, 2, 2, 2, 2, 3, 3, 3, 3, 4, 4, 4, 4, 5, 5, 5, 5, 6, 6, 7, 7, 8, 8, 9, 10, 10, 11, 11, 12, 9, 9, 13, 13, 13, 14, 15, 16] : List Int) : List Int)).bind fun y191 => (if a0 < 1 then (cleatref04_Shape.j0 k a0 y191 true) else (cleatref04_Shape.j0 k a0 y191 (decide (a0 > 39))))
theorem cleatref04_Shape.mono_l : ∀ k, (∀ y0 y1 y2, LeO (cleatref04_Shape.j0 k y0 y1 y2) (cleatref04_Shape.j0 (k + 1) y0 y1 y2))
 | 0 => fun _ _ _ r h => by simp [cleatref04_Shape.j0] at h
 | k + 1 => by
  have ih0 := cleatref04_Shape.mono_l k
  ·
   intro y0 y1 y2
   unfold cleatref04_Shape.j0
   repeat' first
   | (with_reducible exact ih0 _ _ _)
   | (with_reducible exact LeO.refl _)
   | (with_reducible exact LeO.none _)
   | (with_reducible refine LeO.ite ?_ ?_)
   | (with_reducible refine LeO.bind ?_ (fun _ => ?_))
   | exact ih0 _ _ _
   | exact LeO.none _
   | refine LeO.ite ?_ ?_
   | refine LeO.bind ?_ (fun _ => ?_)
theorem cleatref04_Shape.mono : ∀ a0 k, LeO (cleatref04_Shape.f k a0) (cleatref04_Shape.f (k + 1) a0) := by
 intro a0 k
 have ih0 := cleatref04_Shape.mono_l k
 unfold cleatref04_Shape.f
 repeat' first
   | (with_reducible exact ih0 _ _ _)
   | (with_reducible exact LeO.refl _)
   | (with_reducible exact LeO.none _)
   | (with_reducible refine LeO.ite ?_ ?_)
   | (with_reducible refine LeO.bind ?_ (fun _ => ?_))
   | exact ih0 _ _ _
   | exact LeO.none _
   | refine LeO.ite ?_ ?_
   | refine LeO.bind ?_ (fun _ => ?_)
set_option maxHeartbeats 8000000 in
set_option maxRecDepth 100000 in
theorem cleatref04_Shape.calls (k : Nat) (a0 : Int) (r : Int) (w : World) (h : cleatref04_Shape.f k a0 = some r) :
    Calls Tryd.prog 40 #[.int .i64 a0] w fun e w' => e = .returned (.int .i64 r) ∧ Below w.heap.size w w' := by
 have HB := Aside0.mk (Below.refl w.heap.size w)
 have H : ((some (([0, 1, 1, 1, 2, 2, 2, 2, 3, 3, 3, 3, 4, 4, 4, 4, 5, 5, 5, 5, 6, 6, 7, 7, 8, 8, 9, 10, 10, 11, 11, 12, 9, 9, 13, 13, 13, 14, 15, 16] : List Int) : List Int)).bind fun y191 => (if a0 < 1 then (cleatref04_Shape.j0 k a0 y191 true) else (cleatref04_Shape.j0 k a0 y191 (decide (a0 > 39))))) = some r := h
 clear h
 obtain ⟨y191, hy191⟩ : ∃ y_ : List Int, y_ = (([0, 1, 1, 1, 2, 2, 2, 2, 3, 3, 3, 3, 4, 4, 4, 4, 5, 5, 5, 5, 6, 6, 7, 7, 8, 8, 9, 10, 10, 11, 11, 12, 9, 9, 13, 13, 13, 14, 15, 16] : List Int)) := ⟨_, rfl⟩
 replace H : (if a0 < 1 then (cleatref04_Shape.j0 k a0 y191 true) else (cleatref04_Shape.j0 k a0 y191 (decide (a0 > 39)))) = some r := by first | (rw [hy191]; with_reducible exact H) | (have H2_ := (Option.bind_some _ _).symm.trans H; rw [hy191]; with_reducible exact H2_) | (have H2_ := (Option.bind_some _ _).symm.trans H; with_reducible exact H2_) | with_reducible exact H | (rw [hy191]; exact H) | exact H
 have Ny191 := Aside0.mk hy191
 clear hy191
 have HC2 := Aside0.mk H
 clear H
 go_enter Tryd.func40, Tryd.ntmps40
 go_upto_region 2 with (first | ((with_reducible refine gate_dst (N := 4) rfl ?_); refine Kd.R_lit (Kd.int .i64) _ 3 ?hg (N := 4) ?hd (xs := ([0, 1, 1, 1, 2, 2, 2, 2, 3, 3, 3, 3, 4, 4, 4, 4, 5, 5, 5, 5, 6, 6, 7, 7, 8, 8, 9, 10, 10, 11, 11, 12, 9, 9, 13, 13, 13, 14, 15, 16] : List Int)) (inner := [.int .i64 0, .int .i64 1, .int .i64 1, .int .i64 1, .int .i64 2, .int .i64 2, .int .i64 2, .int .i64 2, .int .i64 3, .int .i64 3, .int .i64 3, .int .i64 3, .int .i64 4, .int .i64 4, .int .i64 4, .int .i64 4, .int .i64 5, .int .i64 5, .int .i64 5, .int .i64 5, .int .i64 6, .int .i64 6, .int .i64 7, .int .i64 7, .int .i64 8, .int .i64 8, .int .i64 9, .int .i64 10, .int .i64 10, .int .i64 11, .int .i64 11, .int .i64 12, .int .i64 9, .int .i64 9, .int .i64 13, .int .i64 13, .int .i64 13, .int .i64 14, .int .i64 15, .int .i64 16]) (ok := fun _ => True) (okp := fun _ => True) ?hr ?hp (fun _ hk => hk) trivial (Below.refl _ _) (Nat.le_refl _) (by simp) ?_; (case hd => rfl); (case hg => rfl); (case hr => first | (go_simp; done) | (go_simp; rfl)); (case hp => exact (Reps.one (show Kd.M (Kd.int .i64) _ _ _ 0 [.int .i64 0] from rfl) (Reps.one (show Kd.M (Kd.int .i64) _ _ _ 1 [.int .i64 1] from rfl) (Reps.one (show Kd.M (Kd.int .i64) _ _ _ 1 [.int .i64 1] from rfl) (Reps.one (show Kd.M (Kd.int .i64) _ _ _ 1 [.int .i64 1] from rfl) (Reps.one (show Kd.M (Kd.int .i64) _ _ _ 2 [.int .i64 2] from rfl) (Reps.one (show Kd.M (Kd.int .i64) _ _ _ 2 [.int .i64 2] from rfl) (Reps.one (show Kd.M (Kd.int .i64) _ _ _ 2 [.int .i64 2] from rfl) (Reps.one (show Kd.M (Kd.int .i64) _ _ _ 2 [.int .i64 2] from rfl) (Reps.one (show Kd.M (Kd.int .i64) _ _ _ 3 [.int .i64 3] from rfl) (Reps.one (show Kd.M (Kd.int .i64) _ _ _ 3 [.int .i64 3] from rfl) (Reps.one (show Kd.M (Kd.int .i64) _ _ _ 3 [.int .i64 3] from rfl) (Reps.one (show Kd.M (Kd.int .i64) _ _ _ 3 [.int .i64 3] from rfl) (Reps.one (show Kd.M (Kd.int .i64) _ _ _ 4 [.int .i64 4] from rfl) (Reps.one (show Kd.M (Kd.int .i64) _ _ _ 4 [.int .i64 4] from rfl) (Reps.one (show Kd.M (Kd.int .i64) _ _ _ 4 [.int .i64 4] from rfl) (Reps.one (show Kd.M (Kd.int .i64) _ _ _ 4 [.int .i64 4] from rfl) (Reps.one (show Kd.M (Kd.int .i64) _ _ _ 5 [.int .i64 5] from rfl) (Reps.one (show Kd.M (Kd.int .i64) _ _ _ 5 [.int .i64 5] from rfl) (Reps.one (show Kd.M (Kd.int .i64) _ _ _ 5 [.int .i64 5] from rfl) (Reps.one (show Kd.M (Kd.int .i64) _ _ _ 5 [.int .i64 5] from rfl) (Reps.one (show Kd.M (Kd.int .i64) _ _ _ 6 [.int .i64 6] from rfl) (Reps.one (show Kd.M (Kd.int .i64) _ _ _ 6 [.int .i64 6] from rfl) (Reps.one (show Kd.M (Kd.int .i64) _ _ _ 7 [.int .i64 7] from rfl) (Reps.one (show Kd.M (Kd.int .i64) _ _ _ 7 [.int .i64 7] from rfl) (Reps.one (show Kd.M (Kd.int .i64) _ _ _ 8 [.int .i64 8] from rfl) (Reps.one (show Kd.M (Kd.int .i64) _ _ _ 8 [.int .i64 8] from rfl) (Reps.one (show Kd.M (Kd.int .i64) _ _ _ 9 [.int .i64 9] from rfl) (Reps.one (show Kd.M (Kd.int .i64) _ _ _ 10 [.int .i64 10] from rfl) (Reps.one (show Kd.M (Kd.int .i64) _ _ _ 10 [.int .i64 10] from rfl) (Reps.one (show Kd.M (Kd.int .i64) _ _ _ 11 [.int .i64 11] from rfl) (Reps.one (show Kd.M (Kd.int .i64) _ _ _ 11 [.int .i64 11] from rfl) (Reps.one (show Kd.M (Kd.int .i64) _ _ _ 12 [.int .i64 12] from rfl) (Reps.one (show Kd.M (Kd.int .i64) _ _ _ 9 [.int .i64 9] from rfl) (Reps.one (show Kd.M (Kd.int .i64) _ _ _ 9 [.int .i64 9] from rfl) (Reps.one (show Kd.M (Kd.int .i64) _ _ _ 13 [.int .i64 13] from rfl) (Reps.one (show Kd.M (Kd.int .i64) _ _ _ 13 [.int .i64 13] from rfl) (Reps.one (show Kd.M (Kd.int .i64) _ _ _ 13 [.int .i64 13] from rfl) (Reps.one (show Kd.M (Kd.int .i64) _ _ _ 14 [.int .i64 14] from rfl) (Reps.one (show Kd.M (Kd.int .i64) _ _ _ 15 [.int .i64 15] from rfl) (Reps.one (show Kd.M (Kd.int .i64) _ _ _ 16 [.int .i64 16] from rfl) (Reps.none _ _)))))))))))))))))))))))))))))))))))))))))); intro v192 w3 ho4 hb hg_ hnew_; clear hg_ hnew_; (first | rw [← Ny191.out] at ho4 | (simp only [Int.reduceToNat] at ho4; rw [← Ny191.out] at ho4)); have n0_ := Aside0.mk (Kd.R_lower ho4 (below_size (by repeat (first | (with_reducible first | exact HB.out | apply below_alloc | apply pw_below_drewN | apply below_drew1) | exact HB.out)))); have n1_ := Aside0.mk (below_step (by repeat (first | (with_reducible first | exact HB.out | apply below_alloc | apply pw_below_drewN | apply below_drew1) | exact HB.out)) hb); clear HB; have HO193 := n0_; have HB := n1_; clear n0_ n1_; clear hb ho4))
 (try simp only [Act.put, List.setIfInBounds_toArray, List.set_cons_zero, List.set_cons_succ])
 go_cut [10] (fun v10 wc => ∃ (kq : Nat) (x10_1 : Bool), v10 = .bool x10_1 ∧ Aside0 (cleatref04_Shape.j0 kq a0 y191 x10_1 = some r) ∧ Aside0 (kq ≤ k) ∧ Aside0 (Kd.R (Kd.int .i64) 3 wc w.heap.size (fun _ => True) v192 y191) ∧ Aside0 (Below w.heap.size w wc))
 case first =>
  have H := HC2.out
  clear HC2
  (try (rw [drewN_self w]; have n0_ := fun n_ => pw_below_drewN HB.out n_; clear HB; generalize hq_ : World.drewN w _ = w; have HB := Aside0.mk (hq_ ▸ n0_ _); clear hq_ n0_))
  by_cases c5 : a0 < 1
  ·
   rw [if_pos c5] at H
   have c5b0 : decide (a0 < 1) = true := decide_eq_true c5
   clear c5
   (first | rw [c5b0] | (simp only [i64_w, i32_w]; rw [c5b0]) | skip)
   have H' := Aside0.mk H
   clear H
   go_wp2
   go_meet
   case rel => exact ⟨_, (true), (by first | rfl | (simp; done) | (simp [*]; done)), H', ⟨by first | omega | exact Nat.le_refl _⟩, ⟨by (with_reducible repeat (first | apply Kd.R_alloc | apply Kd.R_drewN | apply Kd.R_drew)); exact HO193.out⟩, ⟨by repeat (first | (with_reducible first | exact HB.out | apply below_alloc | apply pw_below_drewN | apply below_drew1) | exact HB.out)⟩⟩
  ·
   rw [if_neg c5] at H
   have c5b0 : decide (a0 < 1) = false := decide_eq_false c5
   clear c5
   (first | rw [c5b0] | (simp only [i64_w, i32_w]; rw [c5b0]) | skip)
   have H' := Aside0.mk H
   clear H
   go_wp2
   go_meet
   case rel => exact ⟨_, (decide (a0 > 39)), (by first | rfl | (simp; done) | (simp [*]; done)), H', ⟨by first | omega | exact Nat.le_refl _⟩, ⟨by (with_reducible repeat (first | apply Kd.R_alloc | apply Kd.R_drewN | apply Kd.R_drew)); exact HO193.out⟩, ⟨by repeat (first | (with_reducible first | exact HB.out | apply below_alloc | apply pw_below_drewN | apply below_drew1) | exact HB.out)⟩⟩
 case rest =>
  clear HC2
  try clear p2
  try clear c4
  try clear c5
  try clear c5b0
  obtain ⟨kq, x10_1, rfl, HA, HJ1, HO_3, HB⟩ := hcut
  cases kq with
  | zero => exact absurd HA.out (by simp [cleatref04_Shape.j0])
  | succ kj1 =>
   have H := HA.out
   clear HA
   simp only [cleatref04_Shape.j0] at H
   by_cases c6 : x10_1 = true
   ·
    subst c6
    have H1 : (some 0) = some r := by rw [if_pos rfl] at H; exact H
    clear H
    have H := H1
    clear H1
    obtain rfl := Option.some.inj H
    go_wp2
    go_ret
    exact ⟨by first | rfl | (simp [errW_none, errW_some] <;> rfl) | (simp [*, errW_none, errW_some] <;> rfl), by repeat (first | (with_reducible first | exact HB.out | apply below_alloc | apply pw_below_drewN | apply below_drew1) | exact HB.out)⟩
   ·
    replace c6 := Bool.eq_false_iff.mpr c6
    subst c6
    have H1 : (if 0 ≤ a0 then (if a0 < (y191.length : Int) then (some (rd y191 a0)) else (none)) else (none)) = some r := by rw [if_neg (show ¬ (false = true) by decide)] at H; exact H
    clear H
    have H := H1
    clear H1
    by_cases c7 : 0 ≤ a0
    ·
     rw [if_pos c7] at H
     have c7b0 : decide (0 ≤ a0) = true := decide_eq_true c7
     clear c7
     by_cases c8 : a0 < (y191.length : Int)
     ·
      rw [if_pos c8] at H
      have c8b0 : decide (a0 < (y191.length : Int)) = true := decide_eq_true c8
      clear c8
      obtain rfl := Option.some.inj H
      obtain ⟨Ao9, co9, eo9⟩ := Kd.R_slice HO_3.out
      subst eo9
      have p194 : 0 ≤ (a0 : Int) := of_decide_eq_true (by first | (with_reducible assumption) | assumption)
      have q194 : a0 < (y191.length : Int) := of_decide_eq_true (by first | (with_reducible assumption) | assumption)
      obtain ⟨ad194, e194, hx194_0⟩ := Kd.at_int (Kd.R_reads' HO_3.out).2.2 a0 p194 q194
      cases e194
      replace p194 := eq_true p194
      replace q194 := eq_true q194
      go_wp2
      go_ret
      exact ⟨by first | rfl | (simp [errW_none, errW_some] <;> rfl) | (simp [*, errW_none, errW_some] <;> rfl), by repeat (first | (with_reducible first | exact HB.out | apply below_alloc | apply pw_below_drewN | apply below_drew1) | exact HB.out)⟩
     ·
      rw [if_neg c8] at H
      exact absurd H (by simp)
    ·
     rw [if_neg c7] at H
     exact absurd H (by simp)
mutual
def cleatref04_Has.j0 : Nat → Int → ByteArray → List ByteArray → Bool → Option (Bool)
 | 0, _, _, _, _ => none
 | k + 1, x0, x1, x5, x14 => if x14 = true then (some false) else (if 0 ≤ x0 then (if x0 < (x5.length : Int) then (cleatref04_Has.l0 k x1 (rdOf ByteArray.empty x5 x0) 0) else (none)) else (none))
def cleatref04_Has.l0 : Nat → ByteArray → ByteArray → Int → Option (Bool)
 | 0, _, _, _ => none
 | k + 1, x1, x6, x7 => if x7 < (x6.size : Int) then (if 0 ≤ x7 then (if x7 ≤ (wrap64 (x7 + 1)) then (if (wrap64 (x7 + 1)) ≤ (x6.size : Int) then (if (x6.extract (x7 : Int).toNat ((wrap64 (x7 + 1)) : Int).toNat).toList = x1.toList then (some true) else (cleatref04_Has.l0 k x1 x6 (wrap64 (x7 + 1)))) else (none)) else (none)) else (none)) else (some false)
end
def cleatref04_Has.f (k : Nat) (a0 : Int) (a1 : ByteArray) : Option (Bool) := (some (([(⟨#[]⟩ : ByteArray), (⟨#[100, 105, 119]⟩ : ByteArray), (⟨#[100, 110, 105, 119]⟩ : ByteArray), (⟨#[100, 110, 107]⟩ : ByteArray), (⟨#[100, 110, 109, 115, 119]⟩ : ByteArray), (⟨#[100, 110, 109, 115, 119]⟩ : ByteArray), (⟨#[100, 110, 109, 97]⟩ : ByteArray), (⟨#[100, 110, 105]⟩ : ByteArray), (⟨#[100, 110, 105]⟩ : ByteArray), (⟨#[100, 105]⟩ : ByteArray), (⟨#[100, 105]⟩ : ByteArray), (⟨#[105]⟩ : ByteArray), (⟨#[99, 105]⟩ : ByteArray), (⟨#[110]⟩ : ByteArray), (⟨#[105]⟩ : ByteArray), (⟨#[]⟩ : ByteArray), (⟨#[100, 110, 109, 99]⟩ : ByteArray)] : List ByteArray) : List ByteArray)).bind fun y195 => (if a0 < 0 then (cleatref04_Has.j0 k a0 a1 y195 true) else (cleatref04_Has.j0 k a0 a1 y195 (decide (a0 > 16))))
theorem cleatref04_Has.mono_l : ∀ k, (∀ y0 y1 y2 y3, LeO (cleatref04_Has.j0 k y0 y1 y2 y3) (cleatref04_Has.j0 (k + 1) y0 y1 y2 y3)) ∧ (∀ y0 y1 y2, LeO (cleatref04_Has.l0 k y0 y1 y2) (cleatref04_Has.l0 (k + 1) y0 y1 y2))
 | 0 => ⟨fun _ _ _ _ r h => by simp [cleatref04_Has.j0] at h, fun _ _ _ r h => by simp [cleatref04_Has.l0] at h⟩
 | k + 1 => by
  obtain ⟨ih0, ih1⟩ := cleatref04_Has.mono_l k
  refine ⟨?_, ?_⟩
  ·
   intro y0 y1 y2 y3
   unfold cleatref04_Has.j0
   repeat' first
   | (with_reducible exact ih0 _ _ _ _)
   | (with_reducible exact ih1 _ _ _)
   | (with_reducible exact LeO.refl _)
   | (with_reducible exact LeO.none _)
   | (with_reducible refine LeO.ite ?_ ?_)
   | (with_reducible refine LeO.bind ?_ (fun _ => ?_))
   | exact ih0 _ _ _ _
   | exact ih1 _ _ _
   | exact LeO.none _
   | refine LeO.ite ?_ ?_
   | refine LeO.bind ?_ (fun _ => ?_)
  ·
   intro y0 y1 y2
   unfold cleatref04_Has.l0
   repeat' first
   | (with_reducible exact ih0 _ _ _ _)
   | (with_reducible exact ih1 _ _ _)
   | (with_reducible exact LeO.refl _)
   | (with_reducible exact LeO.none _)
   | (with_reducible refine LeO.ite ?_ ?_)
   | (with_reducible refine LeO.bind ?_ (fun _ => ?_))
   | exact ih0 _ _ _ _
   | exact ih1 _ _ _
   | exact LeO.none _
   | refine LeO.ite ?_ ?_
   | refine LeO.bind ?_ (fun _ => ?_)
theorem cleatref04_Has.mono : ∀ a0 a1 k, LeO (cleatref04_Has.f k a0 a1) (cleatref04_Has.f (k + 1) a0 a1) := by
 intro a0 a1 k
 obtain ⟨ih0, ih1⟩ := cleatref04_Has.mono_l k
 unfold cleatref04_Has.f
 repeat' first
   | (with_reducible exact ih0 _ _ _ _)
   | (with_reducible exact ih1 _ _ _)
   | (with_reducible exact LeO.refl _)
   | (with_reducible exact LeO.none _)
   | (with_reducible refine LeO.ite ?_ ?_)
   | (with_reducible refine LeO.bind ?_ (fun _ => ?_))
   | exact ih0 _ _ _ _
   | exact ih1 _ _ _
   | exact LeO.none _
   | refine LeO.ite ?_ ?_
   | refine LeO.bind ?_ (fun _ => ?_)
set_option maxHeartbeats 8000000 in
set_option maxRecDepth 100000 in
theorem cleatref04_Has.calls (k : Nat) (a0 : Int) (a1 : ByteArray) (r : Bool) (w : World) (h : cleatref04_Has.f k a0 a1 = some r) :
    Calls Tryd.prog 58 #[.int .i64 a0, .string a1] w fun e w' => e = .returned (.bool r) ∧ Below w.heap.size w w' := by
 have HB := Aside0.mk (Below.refl w.heap.size w)
 have H : ((some (([(⟨#[]⟩ : ByteArray), (⟨#[100, 105, 119]⟩ : ByteArray), (⟨#[100, 110, 105, 119]⟩ : ByteArray), (⟨#[100, 110, 107]⟩ : ByteArray), (⟨#[100, 110, 109, 115, 119]⟩ : ByteArray), (⟨#[100, 110, 109, 115, 119]⟩ : ByteArray), (⟨#[100, 110, 109, 97]⟩ : ByteArray), (⟨#[100, 110, 105]⟩ : ByteArray), (⟨#[100, 110, 105]⟩ : ByteArray), (⟨#[100, 105]⟩ : ByteArray), (⟨#[100, 105]⟩ : ByteArray), (⟨#[105]⟩ : ByteArray), (⟨#[99, 105]⟩ : ByteArray), (⟨#[110]⟩ : ByteArray), (⟨#[105]⟩ : ByteArray), (⟨#[]⟩ : ByteArray), (⟨#[100, 110, 109, 99]⟩ : ByteArray)] : List ByteArray) : List ByteArray)).bind fun y195 => (if a0 < 0 then (cleatref04_Has.j0 k a0 a1 y195 true) else (cleatref04_Has.j0 k a0 a1 y195 (decide (a0 > 16))))) = some r := h
 clear h
 obtain ⟨y195, hy195⟩ : ∃ y_ : List ByteArray, y_ = (([(⟨#[]⟩ : ByteArray), (⟨#[100, 105, 119]⟩ : ByteArray), (⟨#[100, 110, 105, 119]⟩ : ByteArray), (⟨#[100, 110, 107]⟩ : ByteArray), (⟨#[100, 110, 109, 115, 119]⟩ : ByteArray), (⟨#[100, 110, 109, 115, 119]⟩ : ByteArray), (⟨#[100, 110, 109, 97]⟩ : ByteArray), (⟨#[100, 110, 105]⟩ : ByteArray), (⟨#[100, 110, 105]⟩ : ByteArray), (⟨#[100, 105]⟩ : ByteArray), (⟨#[100, 105]⟩ : ByteArray), (⟨#[105]⟩ : ByteArray), (⟨#[99, 105]⟩ : ByteArray), (⟨#[110]⟩ : ByteArray), (⟨#[105]⟩ : ByteArray), (⟨#[]⟩ : ByteArray), (⟨#[100, 110, 109, 99]⟩ : ByteArray)] : List ByteArray)) := ⟨_, rfl⟩
 replace H : (if a0 < 0 then (cleatref04_Has.j0 k a0 a1 y195 true) else (cleatref04_Has.j0 k a0 a1 y195 (decide (a0 > 16)))) = some r := by first | (rw [hy195]; with_reducible exact H) | (have H2_ := (Option.bind_some _ _).symm.trans H; rw [hy195]; with_reducible exact H2_) | (have H2_ := (Option.bind_some _ _).symm.trans H; with_reducible exact H2_) | with_reducible exact H | (rw [hy195]; exact H) | exact H
 have Ny195 := Aside0.mk hy195
 clear hy195
 have HC3 := Aside0.mk H
 clear H
 go_enter Tryd.func58, Tryd.ntmps58
 go_upto_region 2 with (first | ((with_reducible refine gate_dst (N := 8) rfl ?_); refine Kd.R_lit Kd.string _ 9 ?hg (N := 8) ?hd (xs := ([(⟨#[]⟩ : ByteArray), (⟨#[100, 105, 119]⟩ : ByteArray), (⟨#[100, 110, 105, 119]⟩ : ByteArray), (⟨#[100, 110, 107]⟩ : ByteArray), (⟨#[100, 110, 109, 115, 119]⟩ : ByteArray), (⟨#[100, 110, 109, 115, 119]⟩ : ByteArray), (⟨#[100, 110, 109, 97]⟩ : ByteArray), (⟨#[100, 110, 105]⟩ : ByteArray), (⟨#[100, 110, 105]⟩ : ByteArray), (⟨#[100, 105]⟩ : ByteArray), (⟨#[100, 105]⟩ : ByteArray), (⟨#[105]⟩ : ByteArray), (⟨#[99, 105]⟩ : ByteArray), (⟨#[110]⟩ : ByteArray), (⟨#[105]⟩ : ByteArray), (⟨#[]⟩ : ByteArray), (⟨#[100, 110, 109, 99]⟩ : ByteArray)] : List ByteArray)) (inner := [.string (⟨#[]⟩ : ByteArray), .string (⟨#[100, 105, 119]⟩ : ByteArray), .string (⟨#[100, 110, 105, 119]⟩ : ByteArray), .string (⟨#[100, 110, 107]⟩ : ByteArray), .string (⟨#[100, 110, 109, 115, 119]⟩ : ByteArray), .string (⟨#[100, 110, 109, 115, 119]⟩ : ByteArray), .string (⟨#[100, 110, 109, 97]⟩ : ByteArray), .string (⟨#[100, 110, 105]⟩ : ByteArray), .string (⟨#[100, 110, 105]⟩ : ByteArray), .string (⟨#[100, 105]⟩ : ByteArray), .string (⟨#[100, 105]⟩ : ByteArray), .string (⟨#[105]⟩ : ByteArray), .string (⟨#[99, 105]⟩ : ByteArray), .string (⟨#[110]⟩ : ByteArray), .string (⟨#[105]⟩ : ByteArray), .string (⟨#[]⟩ : ByteArray), .string (⟨#[100, 110, 109, 99]⟩ : ByteArray)]) (ok := fun _ => True) (okp := fun _ => True) ?hr ?hp (fun _ hk => hk) trivial (Below.refl _ _) (Nat.le_refl _) (by simp) ?_; (case hd => rfl); (case hg => rfl); (case hr => first | (go_simp; done) | (go_simp; rfl)); (case hp => exact (Reps.one (show Kd.M Kd.string _ _ _ (⟨#[]⟩ : ByteArray) [.string (⟨#[]⟩ : ByteArray)] from rfl) (Reps.one (show Kd.M Kd.string _ _ _ (⟨#[100, 105, 119]⟩ : ByteArray) [.string (⟨#[100, 105, 119]⟩ : ByteArray)] from rfl) (Reps.one (show Kd.M Kd.string _ _ _ (⟨#[100, 110, 105, 119]⟩ : ByteArray) [.string (⟨#[100, 110, 105, 119]⟩ : ByteArray)] from rfl) (Reps.one (show Kd.M Kd.string _ _ _ (⟨#[100, 110, 107]⟩ : ByteArray) [.string (⟨#[100, 110, 107]⟩ : ByteArray)] from rfl) (Reps.one (show Kd.M Kd.string _ _ _ (⟨#[100, 110, 109, 115, 119]⟩ : ByteArray) [.string (⟨#[100, 110, 109, 115, 119]⟩ : ByteArray)] from rfl) (Reps.one (show Kd.M Kd.string _ _ _ (⟨#[100, 110, 109, 115, 119]⟩ : ByteArray) [.string (⟨#[100, 110, 109, 115, 119]⟩ : ByteArray)] from rfl) (Reps.one (show Kd.M Kd.string _ _ _ (⟨#[100, 110, 109, 97]⟩ : ByteArray) [.string (⟨#[100, 110, 109, 97]⟩ : ByteArray)] from rfl) (Reps.one (show Kd.M Kd.string _ _ _ (⟨#[100, 110, 105]⟩ : ByteArray) [.string (⟨#[100, 110, 105]⟩ : ByteArray)] from rfl) (Reps.one (show Kd.M Kd.string _ _ _ (⟨#[100, 110, 105]⟩ : ByteArray) [.string (⟨#[100, 110, 105]⟩ : ByteArray)] from rfl) (Reps.one (show Kd.M Kd.string _ _ _ (⟨#[100, 105]⟩ : ByteArray) [.string (⟨#[100, 105]⟩ : ByteArray)] from rfl) (Reps.one (show Kd.M Kd.string _ _ _ (⟨#[100, 105]⟩ : ByteArray) [.string (⟨#[100, 105]⟩ : ByteArray)] from rfl) (Reps.one (show Kd.M Kd.string _ _ _ (⟨#[105]⟩ : ByteArray) [.string (⟨#[105]⟩ : ByteArray)] from rfl) (Reps.one (show Kd.M Kd.string _ _ _ (⟨#[99, 105]⟩ : ByteArray) [.string (⟨#[99, 105]⟩ : ByteArray)] from rfl) (Reps.one (show Kd.M Kd.string _ _ _ (⟨#[110]⟩ : ByteArray) [.string (⟨#[110]⟩ : ByteArray)] from rfl) (Reps.one (show Kd.M Kd.string _ _ _ (⟨#[105]⟩ : ByteArray) [.string (⟨#[105]⟩ : ByteArray)] from rfl) (Reps.one (show Kd.M Kd.string _ _ _ (⟨#[]⟩ : ByteArray) [.string (⟨#[]⟩ : ByteArray)] from rfl) (Reps.one (show Kd.M Kd.string _ _ _ (⟨#[100, 110, 109, 99]⟩ : ByteArray) [.string (⟨#[100, 110, 109, 99]⟩ : ByteArray)] from rfl) (Reps.none _ _))))))))))))))))))); intro v196 w4 ho5 hb hg_ hnew_; clear hg_ hnew_; (first | rw [← Ny195.out] at ho5 | (simp only [Int.reduceToNat] at ho5; rw [← Ny195.out] at ho5)); have n0_ := Aside0.mk (Kd.R_lower ho5 (below_size (by repeat (first | (with_reducible first | exact HB.out | apply below_alloc | apply pw_below_drewN | apply below_drew1) | exact HB.out)))); have n1_ := Aside0.mk (below_step (by repeat (first | (with_reducible first | exact HB.out | apply below_alloc | apply pw_below_drewN | apply below_drew1) | exact HB.out)) hb); clear HB; have HO197 := n0_; have HB := n1_; clear n0_ n1_; clear hb ho5))
 (try simp only [Act.put, List.setIfInBounds_toArray, List.set_cons_zero, List.set_cons_succ])
 go_cut [14] (fun v14 wc => ∃ (kq : Nat) (x14_2 : Bool), v14 = .bool x14_2 ∧ Aside0 (cleatref04_Has.j0 kq a0 a1 y195 x14_2 = some r) ∧ Aside0 (kq ≤ k) ∧ Aside0 (Kd.R Kd.string 9 wc w.heap.size (fun _ => True) v196 y195) ∧ Aside0 (Below w.heap.size w wc))
 case first =>
  have H := HC3.out
  clear HC3
  (try (rw [drewN_self w]; have n0_ := fun n_ => pw_below_drewN HB.out n_; clear HB; generalize hq_ : World.drewN w _ = w; have HB := Aside0.mk (hq_ ▸ n0_ _); clear hq_ n0_))
  by_cases c6 : a0 < 0
  ·
   rw [if_pos c6] at H
   have c6b0 : decide (a0 < 0) = true := decide_eq_true c6
   clear c6
   (first | rw [c6b0] | (simp only [i64_w, i32_w]; rw [c6b0]) | skip)
   have H' := Aside0.mk H
   clear H
   go_wp2
   go_meet
   case rel => exact ⟨_, (true), (by first | rfl | (simp; done) | (simp [*]; done)), H', ⟨by first | omega | exact Nat.le_refl _⟩, ⟨by (with_reducible repeat (first | apply Kd.R_alloc | apply Kd.R_drewN | apply Kd.R_drew)); exact HO197.out⟩, ⟨by repeat (first | (with_reducible first | exact HB.out | apply below_alloc | apply pw_below_drewN | apply below_drew1) | exact HB.out)⟩⟩
  ·
   rw [if_neg c6] at H
   have c6b0 : decide (a0 < 0) = false := decide_eq_false c6
   clear c6
   (first | rw [c6b0] | (simp only [i64_w, i32_w]; rw [c6b0]) | skip)
   have H' := Aside0.mk H
   clear H
   go_wp2
   go_meet
   case rel => exact ⟨_, (decide (a0 > 16)), (by first | rfl | (simp; done) | (simp [*]; done)), H', ⟨by first | omega | exact Nat.le_refl _⟩, ⟨by (with_reducible repeat (first | apply Kd.R_alloc | apply Kd.R_drewN | apply Kd.R_drew)); exact HO197.out⟩, ⟨by repeat (first | (with_reducible first | exact HB.out | apply below_alloc | apply pw_below_drewN | apply below_drew1) | exact HB.out)⟩⟩
 case rest =>
  clear HC3
  try clear p2
  try clear c5
  try clear c6
  try clear c6b0
  obtain ⟨kq, x14_2, rfl, HA, HJ2, HO_5, HB⟩ := hcut
  cases kq with
  | zero => exact absurd HA.out (by simp [cleatref04_Has.j0])
  | succ kj2 =>
   have H := HA.out
   clear HA
   simp only [cleatref04_Has.j0] at H
   by_cases c7 : x14_2 = true
   ·
    subst c7
    have H1 : (some false) = some r := by rw [if_pos rfl] at H; exact H
    clear H
    have H := H1
    clear H1
    obtain rfl := Option.some.inj H
    go_wp2
    go_ret
    exact ⟨by first | rfl | (simp [errW_none, errW_some] <;> rfl) | (simp [*, errW_none, errW_some] <;> rfl), by repeat (first | (with_reducible first | exact HB.out | apply below_alloc | apply pw_below_drewN | apply below_drew1) | exact HB.out)⟩
   ·
    replace c7 := Bool.eq_false_iff.mpr c7
    subst c7
    have H1 : (if 0 ≤ a0 then (if a0 < (y195.length : Int) then (cleatref04_Has.l0 kj2 a1 (rdOf ByteArray.empty y195 a0) 0) else (none)) else (none)) = some r := by rw [if_neg (show ¬ (false = true) by decide)] at H; exact H
    clear H
    have H := H1
    clear H1
    by_cases c8 : 0 ≤ a0
    ·
     rw [if_pos c8] at H
     have c8b0 : decide (0 ≤ a0) = true := decide_eq_true c8
     clear c8
     by_cases c9 : a0 < (y195.length : Int)
     ·
      rw [if_pos c9] at H
      have c9b0 : decide (a0 < (y195.length : Int)) = true := decide_eq_true c9
      clear c9
      have H' := Aside0.mk H
      clear H
      obtain ⟨Ao10, co10, eo10⟩ := Kd.R_slice HO_5.out
      subst eo10
      have p198 : 0 ≤ (a0 : Int) := of_decide_eq_true (by first | (with_reducible assumption) | assumption)
      have q198 : a0 < (y195.length : Int) := of_decide_eq_true (by first | (with_reducible assumption) | assumption)
      obtain ⟨ad198, e198, hx198_0⟩ := Kd.at_string (Kd.R_reads' HO_5.out).2.2 a0 p198 q198
      cases e198
      replace p198 := eq_true p198
      replace q198 := eq_true q198
      go_wp2
      go_loopg [7] kj2 (fun kq v7 w' => ∃ (x7_2 : Int), v7 = .int .i64 x7_2 ∧ Aside0 (cleatref04_Has.l0 kq a1 (rdOf ByteArray.empty y195 a0) x7_2 = some r) ∧ Aside0 (kq ≤ kj2) ∧ Aside0 (Below w.heap.size w w'))
      case atStart => exact ⟨(0), (by first | rfl | (simp; done) | (simp [*]; done)), H', ⟨Nat.le_refl _⟩, ⟨by repeat (first | (with_reducible first | exact HB.out | apply below_alloc | apply pw_below_drewN | apply below_drew1) | exact HB.out)⟩⟩
      case round =>
       clear H'
       try clear p1
       try clear q1
       try clear hx1
       try clear p2
       try clear c5
       try clear c6
       try clear c6b0
       try clear c7
       try clear c8
       try clear c8b0
       try clear c9
       try clear c9b0
       try clear hx198_0
       try clear p198
       try clear p2
       try clear q198
       obtain ⟨x7_2, rfl, HA, HK2, HB⟩ := hrel
       cases gk with
       | zero => exact absurd HA.out (by simp [cleatref04_Has.l0])
       | succ k2 =>
        have H := HA.out
        clear HA
        simp only [cleatref04_Has.l0] at H
        by_cases c11 : x7_2 < ((rdOf ByteArray.empty y195 a0).size : Int)
        ·
         rw [if_pos c11] at H
         have c11b0 : decide (x7_2 < ((rdOf ByteArray.empty y195 a0).size : Int)) = true := decide_eq_true c11
         clear c11
         by_cases c12 : 0 ≤ x7_2
         ·
          rw [if_pos c12] at H
          have c12b0 := eq_true c12
          have c12b1 : decide (0 ≤ x7_2) = true := decide_eq_true c12
          clear c12
          by_cases c13 : x7_2 ≤ (wrap64 (x7_2 + 1))
          ·
           rw [if_pos c13] at H
           have c13b0 := eq_true c13
           have c13b1 : decide (x7_2 ≤ (wrap64 (x7_2 + 1))) = true := decide_eq_true c13
           by_cases c14 : (wrap64 (x7_2 + 1)) ≤ ((rdOf ByteArray.empty y195 a0).size : Int)
           ·
            rw [if_pos c14] at H
            have c14b0 := eq_true c14
            have c14b1 : decide ((wrap64 (x7_2 + 1)) ≤ ((rdOf ByteArray.empty y195 a0).size : Int)) = true := decide_eq_true c14
            by_cases c15 : ((rdOf ByteArray.empty y195 a0).extract (x7_2 : Int).toNat ((wrap64 (x7_2 + 1)) : Int).toNat).toList = a1.toList
            ·
             rw [if_pos c15] at H
             have c15b0 : (((rdOf ByteArray.empty y195 a0).extract (x7_2 : Int).toNat ((wrap64 (x7_2 + 1)) : Int).toNat).toList == a1.toList) = true := beq_iff_eq.mpr c15
             have c15b1 : (((rdOf ByteArray.empty y195 a0).extract (x7_2 : Int).toNat ((wrap64 (x7_2 + 1)) : Int).toNat).toList != a1.toList) = false := bne_eq_false_iff_eq.mpr c15
             clear c15
             obtain rfl := Option.some.inj H
             go_wp2
             go_ret
             exact ⟨by first | rfl | (simp [errW_none, errW_some] <;> rfl) | (simp [*, errW_none, errW_some] <;> rfl), by repeat (first | (with_reducible first | exact HB.out | apply below_alloc | apply pw_below_drewN | apply below_drew1) | exact HB.out)⟩
            ·
             rw [if_neg c15] at H
             have c15b0 : (((rdOf ByteArray.empty y195 a0).extract (x7_2 : Int).toNat ((wrap64 (x7_2 + 1)) : Int).toNat).toList == a1.toList) = false := beq_eq_false_iff_ne.mpr c15
             have c15b1 : (((rdOf ByteArray.empty y195 a0).extract (x7_2 : Int).toNat ((wrap64 (x7_2 + 1)) : Int).toNat).toList != a1.toList) = true := bne_iff_ne.mpr c15
             have H' := Aside0.mk H
             clear H
             go_wp2
             go_roundg k2
             case measure => have := HJ2.out; have := HK2.out; omega
             case rel => exact ⟨(wrap64 (x7_2 + 1)), (by first | rfl | (simp; done) | (simp [*]; done)), H', ⟨by have := HJ2.out; have := HK2.out; omega⟩, ⟨by repeat (first | (with_reducible first | exact HB.out | apply below_alloc | apply pw_below_drewN | apply below_drew1) | exact HB.out)⟩⟩
           ·
            rw [if_neg c14] at H
            exact absurd H (by simp)
          ·
           rw [if_neg c13] at H
           exact absurd H (by simp)
         ·
          rw [if_neg c12] at H
          exact absurd H (by simp)
        ·
         rw [if_neg c11] at H
         have c11b0 : decide (x7_2 < ((rdOf ByteArray.empty y195 a0).size : Int)) = false := decide_eq_false c11
         clear c11
         obtain rfl := Option.some.inj H
         go_wp2
         go_ret
         exact ⟨by first | rfl | (simp [errW_none, errW_some] <;> rfl) | (simp [*, errW_none, errW_some] <;> rfl), by repeat (first | (with_reducible first | exact HB.out | apply below_alloc | apply pw_below_drewN | apply below_drew1) | exact HB.out)⟩
     ·
      rw [if_neg c9] at H
      exact absurd H (by simp)
    ·
     rw [if_neg c8] at H
     exact absurd H (by simp)
def cleatref04_reg.f (k : Nat) (a0 : Int) (a1 : ByteArray) (a2 : Int) : Option (Bool) := (cleatref04_Has.f k a0 a1).bind fun t199 => (if t199 = true then (if a2 ≥ 0 then (some (decide (a2 ≤ 31))) else (some false)) else (some (a2 == 0)))
set_option maxHeartbeats 8000000 in
set_option maxRecDepth 100000 in
theorem cleatref04_reg.calls (k : Nat) (a0 : Int) (a1 : ByteArray) (a2 : Int) (r : Bool) (w : World) (h : cleatref04_reg.f k a0 a1 a2 = some r) :
    Calls Tryd.prog 61 #[.int .i64 a0, .string a1, .int .i64 a2] w fun e w' => e = .returned (.bool r) ∧ Below w.heap.size w w' := by
 have HB := Aside0.mk (Below.refl w.heap.size w)
 have H : ((cleatref04_Has.f k a0 a1).bind fun t199 => (if t199 = true then (if a2 ≥ 0 then (some (decide (a2 ≤ 31))) else (some false)) else (some (a2 == 0)))) = some r := h
 clear h
 replace H := Option.bind_eq_some_iff.mp H
 obtain ⟨t199, A40, H⟩ := H
 replace H : (if t199 = true then (if a2 ≥ 0 then (some (decide (a2 ≤ 31))) else (some false)) else (some (a2 == 0))) = some r := H
 have A4 := Aside0.mk A40
 clear A40
 by_cases c5 : t199 = true
 ·
  subst c5
  have H1 : (if a2 ≥ 0 then (some (decide (a2 ≤ 31))) else (some false)) = some r := by rw [if_pos rfl] at H; exact H
  clear H
  have H := H1
  clear H1
  by_cases c6 : a2 ≥ 0
  ·
   rw [if_pos c6] at H
   have c6b0 : decide (0 ≤ a2) = true := decide_eq_true c6
   clear c6
   obtain rfl := Option.some.inj H
   go_enter Tryd.func61, Tryd.ntmps61
   go_wp2_with (first | ((with_reducible refine gate_callee (f := 58) rfl ?_); refine goesL_ (some 9) rfl rfl Tryd.func58 (by kernel_rfl) rfl #[.int .i64 a0, .string a1] rfl (by (try simp only [List.map_toArray, List.map_cons, List.map_nil]); first | done | rfl | (simp only [List.length_drop, List.length_take]; rfl)) ?_; (with_reducible refine (cleatref04_Has.calls k a0 a1 true _ A4.out).mono ?_); rintro e w7 ⟨rfl, hb⟩; refine ⟨_, rfl, ?_⟩; have n0_ := Aside0.mk (below_step (by repeat (first | (with_reducible first | exact HB.out | apply below_alloc | apply pw_below_drewN | apply below_drew1) | exact HB.out)) hb); clear HB; have HB := n0_; clear n0_; (try clear hb); (try clear hb2); (try clear hk); (try clear hi)))
   go_ret
   exact ⟨by first | rfl | (simp [errW_none, errW_some] <;> rfl) | (simp [*, errW_none, errW_some] <;> rfl), by repeat (first | (with_reducible first | exact HB.out | apply below_alloc | apply pw_below_drewN | apply below_drew1) | exact HB.out)⟩
  ·
   rw [if_neg c6] at H
   have c6b0 : decide (0 ≤ a2) = false := decide_eq_false c6
   clear c6
   obtain rfl := Option.some.inj H
   go_enter Tryd.func61, Tryd.ntmps61
   go_wp2_with (first | ((with_reducible refine gate_callee (f := 58) rfl ?_); refine goesL_ (some 9) rfl rfl Tryd.func58 (by kernel_rfl) rfl #[.int .i64 a0, .string a1] rfl (by (try simp only [List.map_toArray, List.map_cons, List.map_nil]); first | done | rfl | (simp only [List.length_drop, List.length_take]; rfl)) ?_; (with_reducible refine (cleatref04_Has.calls k a0 a1 true _ A4.out).mono ?_); rintro e w8 ⟨rfl, hb⟩; refine ⟨_, rfl, ?_⟩; have n0_ := Aside0.mk (below_step (by repeat (first | (with_reducible first | exact HB.out | apply below_alloc | apply pw_below_drewN | apply below_drew1) | exact HB.out)) hb); clear HB; have HB := n0_; clear n0_; (try clear hb); (try clear hb2); (try clear hk); (try clear hi)))
   go_ret
   exact ⟨by first | rfl | (simp [errW_none, errW_some] <;> rfl) | (simp [*, errW_none, errW_some] <;> rfl), by repeat (first | (with_reducible first | exact HB.out | apply below_alloc | apply pw_below_drewN | apply below_drew1) | exact HB.out)⟩
 ·
  replace c5 := Bool.eq_false_iff.mpr c5
  subst c5
  have H1 : (some (a2 == 0)) = some r := by rw [if_neg (show ¬ (false = true) by decide)] at H; exact H
  clear H
  have H := H1
  clear H1
  obtain rfl := Option.some.inj H
  go_enter Tryd.func61, Tryd.ntmps61
  go_wp2_with (first | ((with_reducible refine gate_callee (f := 58) rfl ?_); refine goesL_ (some 9) rfl rfl Tryd.func58 (by kernel_rfl) rfl #[.int .i64 a0, .string a1] rfl (by (try simp only [List.map_toArray, List.map_cons, List.map_nil]); first | done | rfl | (simp only [List.length_drop, List.length_take]; rfl)) ?_; (with_reducible refine (cleatref04_Has.calls k a0 a1 false _ A4.out).mono ?_); rintro e w9 ⟨rfl, hb⟩; refine ⟨_, rfl, ?_⟩; have n0_ := Aside0.mk (below_step (by repeat (first | (with_reducible first | exact HB.out | apply below_alloc | apply pw_below_drewN | apply below_drew1) | exact HB.out)) hb); clear HB; have HB := n0_; clear n0_; (try clear hb); (try clear hb2); (try clear hk); (try clear hi)))
  go_ret
  exact ⟨by first | rfl | (simp [errW_none, errW_some] <;> rfl) | (simp [*, errW_none, errW_some] <;> rfl), by repeat (first | (with_reducible first | exact HB.out | apply below_alloc | apply pw_below_drewN | apply below_drew1) | exact HB.out)⟩
def cleatref04_between.f (a0 : Int) (a1 : Int) (a2 : Int) (a3 : Int) : Option (Bool) := if a0 ≥ a1 then (if a0 ≤ a2 then (if a3 = 0 then (none) else (some ((Int.tmod a0 a3) == 0))) else (some false)) else (some false)
set_option maxHeartbeats 8000000 in
set_option maxRecDepth 100000 in
theorem cleatref04_between.calls (a0 : Int) (a1 : Int) (a2 : Int) (a3 : Int) (r : Bool) (w : World) (h : cleatref04_between.f a0 a1 a2 a3 = some r) :
    Calls Tryd.prog 75 #[.int .i64 a0, .int .i64 a1, .int .i64 a2, .int .i64 a3] w fun e w' => e = .returned (.bool r) ∧ Drawn0 w w' := by
 have H : (if a0 ≥ a1 then (if a0 ≤ a2 then (if a3 = 0 then (none) else (some ((Int.tmod a0 a3) == 0))) else (some false)) else (some false)) = some r := h
 clear h
 by_cases c5 : a0 ≥ a1
 ·
  rw [if_pos c5] at H
  have c5b0 : decide (a1 ≤ a0) = true := decide_eq_true c5
  clear c5
  by_cases c6 : a0 ≤ a2
  ·
   rw [if_pos c6] at H
   have c6b0 : decide (a0 ≤ a2) = true := decide_eq_true c6
   clear c6
   by_cases c7 : a3 = 0
   ·
    rw [if_pos c7] at H
    exact absurd H (by simp)
   ·
    rw [if_neg c7] at H
    have c7b0 : (a3 == 0) = false := beq_eq_false_iff_ne.mpr c7
    have c7b1 : (a3 != 0) = true := bne_iff_ne.mpr c7
    obtain rfl := Option.some.inj H
    go_enter Tryd.func75, Tryd.ntmps75
    go_wp2
    go_ret
    exact ⟨by first | rfl | (simp; done) | (simp [*]; done), by repeat (first | exact Drawn0.refl _ | apply Drawn0.step)⟩
  ·
   rw [if_neg c6] at H
   have c6b0 : decide (a0 ≤ a2) = false := decide_eq_false c6
   clear c6
   obtain rfl := Option.some.inj H
   go_enter Tryd.func75, Tryd.ntmps75
   go_wp2
   go_ret
   exact ⟨by first | rfl | (simp; done) | (simp [*]; done), by repeat (first | exact Drawn0.refl _ | apply Drawn0.step)⟩
 ·
  rw [if_neg c5] at H
  have c5b0 : decide (a1 ≤ a0) = false := decide_eq_false c5
  clear c5
  obtain rfl := Option.some.inj H
  go_enter Tryd.func75, Tryd.ntmps75
  go_wp2
  go_ret
  exact ⟨by first | rfl | (simp; done) | (simp [*]; done), by repeat (first | exact Drawn0.refl _ | apply Drawn0.step)⟩
mutual
def cleatref04_imm.j0 : Nat → Int → Int → Bool → Option (Bool)
 | 0, _, _, _ => none
 | k + 1, x1, x5, x6 => if x6 = true then ((cleatref04_between.f x1 0 65535 1).bind fun t200 => (some t200)) else (if x5 = 2 then (cleatref04_imm.j1 k x1 x5 (x5 == 2)) else (cleatref04_imm.j1 k x1 x5 (x5 == 8)))
def cleatref04_imm.j1 : Nat → Int → Int → Bool → Option (Bool)
 | 0, _, _, _ => none
 | k + 1, x1, x5, x11 => if x11 = true then ((cleatref04_between.f x1 0 4095 1).bind fun t201 => (some t201)) else (if x5 = 7 then ((cleatref04_between.f x1 0 32760 8).bind fun t202 => (some t202)) else (if x5 = 9 then (cleatref04_imm.j2 k x1 x5 (x5 == 9)) else (cleatref04_imm.j2 k x1 x5 (x5 == 12))))
def cleatref04_imm.j2 : Nat → Int → Int → Bool → Option (Bool)
 | 0, _, _, _ => none
 | k + 1, x1, x5, x20 => if x20 = true then ((cleatref04_between.f x1 (-1048576) 1048572 4).bind fun t203 => (some t203)) else (if x5 = 10 then ((cleatref04_between.f x1 (-1048576) 1048575 1).bind fun t204 => (some t204)) else (if x5 = 11 then ((cleatref04_between.f x1 (-134217728) 134217724 4).bind fun t205 => (some t205)) else (some (x1 == 0))))
end
def cleatref04_imm.f (k : Nat) (a0 : Int) (a1 : Int) : Option (Bool) := if a0 = 1 then (cleatref04_imm.j0 k a1 a0 (a0 == 1)) else (cleatref04_imm.j0 k a1 a0 (a0 == 14))
set_option maxHeartbeats 8000000 in
set_option maxRecDepth 100000 in
theorem cleatref04_imm.calls (k : Nat) (a0 : Int) (a1 : Int) (r : Bool) (w : World) (h : cleatref04_imm.f k a0 a1 = some r) :
    Calls Tryd.prog 62 #[.int .i64 a0, .int .i64 a1] w fun e w' => e = .returned (.bool r) ∧ Drawn0 w w' := by
 have H : (if a0 = 1 then (cleatref04_imm.j0 k a1 a0 (a0 == 1)) else (cleatref04_imm.j0 k a1 a0 (a0 == 14))) = some r := h
 clear h
 have HC3 := Aside0.mk H
 clear H
 go_enter Tryd.func62, Tryd.ntmps62
 go_upto_if 6 with (fail)
 go_cut [6] (fun v6 wc => ∃ (kq : Nat) (x6_2 : Bool), v6 = .bool x6_2 ∧ Aside0 (cleatref04_imm.j0 kq a1 a0 x6_2 = some r) ∧ Aside0 (kq ≤ k) ∧ Drawn0 w wc)
 case first =>
  have H := HC3.out
  clear HC3
  (try (rw [drewN_self w]; have n0_ := fun n_ => pw_below_drewN HB.out n_; clear HB; generalize hq_ : World.drewN w _ = w; have HB := Aside0.mk (hq_ ▸ n0_ _); clear hq_ n0_))
  by_cases c4 : a0 = 1
  ·
   rw [if_pos c4] at H
   have c4b0 : (a0 == 1) = true := beq_iff_eq.mpr c4
   have c4b1 : (a0 != 1) = false := bne_eq_false_iff_eq.mpr c4
   clear c4
   (first | rw [c4b0] | (simp only [i64_w, i32_w]; rw [c4b0]) | skip)
   have H' := Aside0.mk H
   clear H
   go_wp2
   go_meet
   case rel => exact ⟨_, ((a0 == 1)), (by first | rfl | (simp; done) | (simp [*]; done)), H', ⟨by first | omega | exact Nat.le_refl _⟩, by repeat (first | exact Drawn0.refl _ | apply Drawn0.step)⟩
  ·
   rw [if_neg c4] at H
   have c4b0 : (a0 == 1) = false := beq_eq_false_iff_ne.mpr c4
   have c4b1 : (a0 != 1) = true := bne_iff_ne.mpr c4
   (first | rw [c4b0] | (simp only [i64_w, i32_w]; rw [c4b0]) | skip)
   have H' := Aside0.mk H
   clear H
   go_wp2
   go_meet
   case rel => exact ⟨_, ((a0 == 14)), (by first | rfl | (simp; done) | (simp [*]; done)), H', ⟨by first | omega | exact Nat.le_refl _⟩, by repeat (first | exact Drawn0.refl _ | apply Drawn0.step)⟩
 case rest =>
  clear HC3
  try clear p2
  try clear c4
  try clear c4b0
  try clear c4b1
  obtain ⟨kq, x6_2, rfl, HA, HJ2, ⟨mc2, rfl⟩⟩ := hcut
  cases kq with
  | zero => exact absurd HA.out (by simp [cleatref04_imm.j0])
  | succ kj2 =>
   have H := HA.out
   clear HA
   simp only [cleatref04_imm.j0] at H
   by_cases c5 : x6_2 = true
   ·
    subst c5
    have H1 : ((cleatref04_between.f a1 0 65535 1).bind fun t200 => (some t200)) = some r := by rw [if_pos rfl] at H; exact H
    clear H
    have H := H1
    clear H1
    replace H := Option.bind_eq_some_iff.mp H
    obtain ⟨t200, A60, H⟩ := H
    replace H : (some t200) = some r := H
    have A6 := Aside0.mk A60
    clear A60
    obtain rfl := Option.some.inj H
    go_wp2_with (first | ((with_reducible refine gate_callee (f := 75) rfl ?_); refine goesL_ (some 10) rfl rfl Tryd.func75 (by kernel_rfl) rfl #[.int .i64 a1, .int .i64 0, .int .i64 65535, .int .i64 1] rfl (by (try simp only [List.map_toArray, List.map_cons, List.map_nil]); first | done | rfl | (simp only [List.length_drop, List.length_take]; rfl)) ?_; (with_reducible refine (cleatref04_between.calls a1 0 65535 1 t200 _ A6.out).mono ?_); rintro e w' ⟨rfl, ⟨nd, rfl⟩⟩; refine ⟨_, rfl, ?_⟩))
    go_ret
    exact ⟨by first | rfl | (simp; done) | (simp [*]; done), by repeat (first | exact Drawn0.refl _ | apply Drawn0.step)⟩
   ·
    replace c5 := Bool.eq_false_iff.mpr c5
    subst c5
    have H1 : (if a0 = 2 then (cleatref04_imm.j1 kj2 a1 a0 (a0 == 2)) else (cleatref04_imm.j1 kj2 a1 a0 (a0 == 8))) = some r := by rw [if_neg (show ¬ (false = true) by decide)] at H; exact H
    clear H
    have H := H1
    clear H1
    have HC7 := Aside0.mk H
    clear H
    go_upto_if 11 with (fail)
    go_cut [11] (fun v11 wc => ∃ (kq : Nat) (x11_6 : Bool), v11 = .bool x11_6 ∧ Aside0 (cleatref04_imm.j1 kq a1 a0 x11_6 = some r) ∧ Aside0 (kq ≤ kj2) ∧ Drawn0 w wc)
    case first =>
     have H := HC7.out
     clear HC7
     (try (rw [drewN_self w]; have n0_ := fun n_ => pw_below_drewN HB.out n_; clear HB; generalize hq_ : World.drewN w _ = w; have HB := Aside0.mk (hq_ ▸ n0_ _); clear hq_ n0_))
     by_cases c8 : a0 = 2
     ·
      rw [if_pos c8] at H
      have c8b0 : (a0 == 2) = true := beq_iff_eq.mpr c8
      have c8b1 : (a0 != 2) = false := bne_eq_false_iff_eq.mpr c8
      clear c8
      (first | rw [c8b0] | (simp only [i64_w, i32_w]; rw [c8b0]) | skip)
      have H' := Aside0.mk H
      clear H
      go_wp2
      go_meet
      case rel => exact ⟨_, ((a0 == 2)), (by first | rfl | (simp; done) | (simp [*]; done)), H', ⟨by have := HJ2.out; first | omega | exact Nat.le_refl _⟩, by repeat (first | exact Drawn0.refl _ | apply Drawn0.step)⟩
     ·
      rw [if_neg c8] at H
      have c8b0 : (a0 == 2) = false := beq_eq_false_iff_ne.mpr c8
      have c8b1 : (a0 != 2) = true := bne_iff_ne.mpr c8
      (first | rw [c8b0] | (simp only [i64_w, i32_w]; rw [c8b0]) | skip)
      have H' := Aside0.mk H
      clear H
      go_wp2
      go_meet
      case rel => exact ⟨_, ((a0 == 8)), (by first | rfl | (simp; done) | (simp [*]; done)), H', ⟨by have := HJ2.out; first | omega | exact Nat.le_refl _⟩, by repeat (first | exact Drawn0.refl _ | apply Drawn0.step)⟩
    case rest =>
     clear HC7
     try clear c2
     try clear p2
     try clear c4
     try clear c4b0
     try clear c4b1
     try clear c5
     try clear c6
     try clear c7
     try clear c8
     try clear c8b0
     try clear c8b1
     try clear p2
     obtain ⟨kq, x11_6, rfl, HA, HJ6, ⟨mc6, rfl⟩⟩ := hcut
     cases kq with
     | zero => exact absurd HA.out (by simp [cleatref04_imm.j1])
     | succ kj6 =>
      have H := HA.out
      clear HA
      simp only [cleatref04_imm.j1] at H
      by_cases c9 : x11_6 = true
      ·
       subst c9
       have H1 : ((cleatref04_between.f a1 0 4095 1).bind fun t201 => (some t201)) = some r := by rw [if_pos rfl] at H; exact H
       clear H
       have H := H1
       clear H1
       replace H := Option.bind_eq_some_iff.mp H
       obtain ⟨t201, A100, H⟩ := H
       replace H : (some t201) = some r := H
       have A10 := Aside0.mk A100
       clear A100
       obtain rfl := Option.some.inj H
       go_wp2_with (first | ((with_reducible refine gate_callee (f := 75) rfl ?_); refine goesL_ (some 15) rfl rfl Tryd.func75 (by kernel_rfl) rfl #[.int .i64 a1, .int .i64 0, .int .i64 4095, .int .i64 1] rfl (by (try simp only [List.map_toArray, List.map_cons, List.map_nil]); first | done | rfl | (simp only [List.length_drop, List.length_take]; rfl)) ?_; (with_reducible refine (cleatref04_between.calls a1 0 4095 1 t201 _ A10.out).mono ?_); rintro e w' ⟨rfl, ⟨nd, rfl⟩⟩; refine ⟨_, rfl, ?_⟩))
       go_ret
       exact ⟨by first | rfl | (simp; done) | (simp [*]; done), by repeat (first | exact Drawn0.refl _ | apply Drawn0.step)⟩
      ·
       replace c9 := Bool.eq_false_iff.mpr c9
       subst c9
       have H1 : (if a0 = 7 then ((cleatref04_between.f a1 0 32760 8).bind fun t202 => (some t202)) else (if a0 = 9 then (cleatref04_imm.j2 kj6 a1 a0 (a0 == 9)) else (cleatref04_imm.j2 kj6 a1 a0 (a0 == 12)))) = some r := by rw [if_neg (show ¬ (false = true) by decide)] at H; exact H
       clear H
       have H := H1
       clear H1
       by_cases c11 : a0 = 7
       ·
        rw [if_pos c11] at H
        have c11b0 : (a0 == 7) = true := beq_iff_eq.mpr c11
        have c11b1 : (a0 != 7) = false := bne_eq_false_iff_eq.mpr c11
        clear c11
        replace H := Option.bind_eq_some_iff.mp H
        obtain ⟨t202, A120, H⟩ := H
        replace H : (some t202) = some r := H
        have A12 := Aside0.mk A120
        clear A120
        obtain rfl := Option.some.inj H
        go_wp2_with (first | ((with_reducible refine gate_callee (f := 75) rfl ?_); refine goesL_ (some 19) rfl rfl Tryd.func75 (by kernel_rfl) rfl #[.int .i64 a1, .int .i64 0, .int .i64 32760, .int .i64 8] rfl (by (try simp only [List.map_toArray, List.map_cons, List.map_nil]); first | done | rfl | (simp only [List.length_drop, List.length_take]; rfl)) ?_; (with_reducible refine (cleatref04_between.calls a1 0 32760 8 t202 _ A12.out).mono ?_); rintro e w' ⟨rfl, ⟨nd, rfl⟩⟩; refine ⟨_, rfl, ?_⟩))
        go_ret
        exact ⟨by first | rfl | (simp; done) | (simp [*]; done), by repeat (first | exact Drawn0.refl _ | apply Drawn0.step)⟩
       ·
        rw [if_neg c11] at H
        have c11b0 : (a0 == 7) = false := beq_eq_false_iff_ne.mpr c11
        have c11b1 : (a0 != 7) = true := bne_iff_ne.mpr c11
        have HC13 := Aside0.mk H
        clear H
        go_upto_if 20 with (fail)
        go_cut [20] (fun v20 wc => ∃ (kq : Nat) (x20_12 : Bool), v20 = .bool x20_12 ∧ Aside0 (cleatref04_imm.j2 kq a1 a0 x20_12 = some r) ∧ Aside0 (kq ≤ kj6) ∧ Drawn0 w wc)
        case first =>
         have H := HC13.out
         clear HC13
         (try (rw [drewN_self wc]; have n0_ := fun n_ => pw_below_drewN HB.out n_; clear HB; generalize hq_ : World.drewN wc _ = wc; have HB := Aside0.mk (hq_ ▸ n0_ _); clear hq_ n0_))
         by_cases c14 : a0 = 9
         ·
          rw [if_pos c14] at H
          have c14b0 : (a0 == 9) = true := beq_iff_eq.mpr c14
          have c14b1 : (a0 != 9) = false := bne_eq_false_iff_eq.mpr c14
          clear c14
          (first | rw [c14b0] | (simp only [i64_w, i32_w]; rw [c14b0]) | skip)
          have H' := Aside0.mk H
          clear H
          go_wp2
          go_meet
          case rel => exact ⟨_, ((a0 == 9)), (by first | rfl | (simp; done) | (simp [*]; done)), H', ⟨by have := HJ2.out; have := HJ6.out; first | omega | exact Nat.le_refl _⟩, by repeat (first | exact Drawn0.refl _ | apply Drawn0.step)⟩
         ·
          rw [if_neg c14] at H
          have c14b0 : (a0 == 9) = false := beq_eq_false_iff_ne.mpr c14
          have c14b1 : (a0 != 9) = true := bne_iff_ne.mpr c14
          (first | rw [c14b0] | (simp only [i64_w, i32_w]; rw [c14b0]) | skip)
          have H' := Aside0.mk H
          clear H
          go_wp2
          go_meet
          case rel => exact ⟨_, ((a0 == 12)), (by first | rfl | (simp; done) | (simp [*]; done)), H', ⟨by have := HJ2.out; have := HJ6.out; first | omega | exact Nat.le_refl _⟩, by repeat (first | exact Drawn0.refl _ | apply Drawn0.step)⟩
        case rest =>
         clear HC13
         try clear c1
         try clear c2
         try clear p2
         try clear c4
         try clear c4b0
         try clear c4b1
         try clear c5
         try clear c6
         try clear c7
         try clear c8
         try clear c8b0
         try clear c8b1
         try clear c9
         try clear c11
         try clear c11b0
         try clear c11b1
         try clear c14
         try clear c14b0
         try clear c14b1
         try clear p2
         obtain ⟨kq, x20_12, rfl, HA, HJ12, ⟨mc12, rfl⟩⟩ := hcut
         cases kq with
         | zero => exact absurd HA.out (by simp [cleatref04_imm.j2])
         | succ kj12 =>
          have H := HA.out
          clear HA
          simp only [cleatref04_imm.j2] at H
          by_cases c15 : x20_12 = true
          ·
           subst c15
           have H1 : ((cleatref04_between.f a1 (-1048576) 1048572 4).bind fun t203 => (some t203)) = some r := by rw [if_pos rfl] at H; exact H
           clear H
           have H := H1
           clear H1
           replace H := Option.bind_eq_some_iff.mp H
           obtain ⟨t203, A160, H⟩ := H
           replace H : (some t203) = some r := H
           have A16 := Aside0.mk A160
           clear A160
           obtain rfl := Option.some.inj H
           go_wp2_with (first | ((with_reducible refine gate_callee (f := 75) rfl ?_); refine goesL_ (some 24) rfl rfl Tryd.func75 (by kernel_rfl) rfl #[.int .i64 a1, .int .i64 (-1048576), .int .i64 1048572, .int .i64 4] rfl (by (try simp only [List.map_toArray, List.map_cons, List.map_nil]); first | done | rfl | (simp only [List.length_drop, List.length_take]; rfl)) ?_; (with_reducible refine (cleatref04_between.calls a1 (-1048576) 1048572 4 t203 _ A16.out).mono ?_); rintro e w' ⟨rfl, ⟨nd, rfl⟩⟩; refine ⟨_, rfl, ?_⟩))
           go_ret
           exact ⟨by first | rfl | (simp; done) | (simp [*]; done), by repeat (first | exact Drawn0.refl _ | apply Drawn0.step)⟩
          ·
           replace c15 := Bool.eq_false_iff.mpr c15
           subst c15
           have H1 : (if a0 = 10 then ((cleatref04_between.f a1 (-1048576) 1048575 1).bind fun t204 => (some t204)) else (if a0 = 11 then ((cleatref04_between.f a1 (-134217728) 134217724 4).bind fun t205 => (some t205)) else (some (a1 == 0)))) = some r := by rw [if_neg (show ¬ (false = true) by decide)] at H; exact H
           clear H
           have H := H1
           clear H1
           by_cases c17 : a0 = 10
           ·
            rw [if_pos c17] at H
            have c17b0 : (a0 == 10) = true := beq_iff_eq.mpr c17
            have c17b1 : (a0 != 10) = false := bne_eq_false_iff_eq.mpr c17
            clear c17
            replace H := Option.bind_eq_some_iff.mp H
            obtain ⟨t204, A180, H⟩ := H
            replace H : (some t204) = some r := H
            have A18 := Aside0.mk A180
            clear A180
            obtain rfl := Option.some.inj H
            go_wp2_with (first | ((with_reducible refine gate_callee (f := 75) rfl ?_); refine goesL_ (some 28) rfl rfl Tryd.func75 (by kernel_rfl) rfl #[.int .i64 a1, .int .i64 (-1048576), .int .i64 1048575, .int .i64 1] rfl (by (try simp only [List.map_toArray, List.map_cons, List.map_nil]); first | done | rfl | (simp only [List.length_drop, List.length_take]; rfl)) ?_; (with_reducible refine (cleatref04_between.calls a1 (-1048576) 1048575 1 t204 _ A18.out).mono ?_); rintro e w' ⟨rfl, ⟨nd, rfl⟩⟩; refine ⟨_, rfl, ?_⟩))
            go_ret
            exact ⟨by first | rfl | (simp; done) | (simp [*]; done), by repeat (first | exact Drawn0.refl _ | apply Drawn0.step)⟩
           ·
            rw [if_neg c17] at H
            have c17b0 : (a0 == 10) = false := beq_eq_false_iff_ne.mpr c17
            have c17b1 : (a0 != 10) = true := bne_iff_ne.mpr c17
            by_cases c19 : a0 = 11
            ·
             rw [if_pos c19] at H
             have c19b0 : (a0 == 11) = true := beq_iff_eq.mpr c19
             have c19b1 : (a0 != 11) = false := bne_eq_false_iff_eq.mpr c19
             clear c19
             replace H := Option.bind_eq_some_iff.mp H
             obtain ⟨t205, A200, H⟩ := H
             replace H : (some t205) = some r := H
             have A20 := Aside0.mk A200
             clear A200
             obtain rfl := Option.some.inj H
             go_wp2_with (first | ((with_reducible refine gate_callee (f := 75) rfl ?_); refine goesL_ (some 32) rfl rfl Tryd.func75 (by kernel_rfl) rfl #[.int .i64 a1, .int .i64 (-134217728), .int .i64 134217724, .int .i64 4] rfl (by (try simp only [List.map_toArray, List.map_cons, List.map_nil]); first | done | rfl | (simp only [List.length_drop, List.length_take]; rfl)) ?_; (with_reducible refine (cleatref04_between.calls a1 (-134217728) 134217724 4 t205 _ A20.out).mono ?_); rintro e w' ⟨rfl, ⟨nd, rfl⟩⟩; refine ⟨_, rfl, ?_⟩))
             go_ret
             exact ⟨by first | rfl | (simp; done) | (simp [*]; done), by repeat (first | exact Drawn0.refl _ | apply Drawn0.step)⟩
            ·
             rw [if_neg c19] at H
             have c19b0 : (a0 == 11) = false := beq_eq_false_iff_ne.mpr c19
             have c19b1 : (a0 != 11) = true := bne_iff_ne.mpr c19
             obtain rfl := Option.some.inj H
             go_wp2
             go_ret
             exact ⟨by first | rfl | (simp; done) | (simp [*]; done), by repeat (first | exact Drawn0.refl _ | apply Drawn0.step)⟩
end Go.Proofs.YtbklmlbmbnnjkaaDoor.R
