/- Written for this claim by a program of this session (drive.py, over the print of the kit): Lean functions with the answers of Go functions, and the proofs that the Go code comes to these answers, under no condition but the readings of the arguments that each theorem names. -/
import Derived.Test.YtclomjndhcpmfaaPx0
import Derived.Test.YtclomjndhcpmfaaPx3
import Derived.Test.YtclomjndhcpmfaaPx8
import Derived.Test.YtclomjndhcpmfaaPx9
namespace Go.Proofs.Ytclomjndhcpmfaa.P
open Go.RowKit Go.Proofs.YtclomjndhcpmfaaW.PrintWords Go.Proofs.YtclomjndhcpmfaaW.PrintLast Go.Proofs.YtclomjndhcpmfaaW.PrintMore
attribute [local go_sem] max2_int min2_int max_two min_two max_three min_three max_four min_four   -- for this text's walks alone
set_option linter.unusedVariables false
set_option linter.unusedSimpArgs false

/-! ### cleatlaw01_told: function 30 -/
def cleatlaw01_told.f (k : Nat)  : Option (Bool) := (bits_Word.f k (([(⟨0, 5, 5⟩ : S56), (⟨16, 5, 3⟩ : S56)] : List (S56)))).bind fun bt296 => ((bits_Signed.f k 7 3).bind fun bt298 => ((bits_Pack.f k (-4) 3).bind fun bt300 => ((bits_Rotate.f k 1 1 8).bind fun bt302 => ((bits_Word.f k (([(⟨0, 5, 0⟩ : S56), (⟨4, 1, 0⟩ : S56)] : List (S56)))).bind fun bt307 => ((bits_Pack.f k 4 3).bind fun bt309 => (if bt296.2 = 0 then (if bt296.1 = 196613 then (if bt298.2 = bt296.2 then (if bt298.1 = (-1) then (if bt300.2 = bt296.2 then (if bt300.1 = 4 then (if bt302.2 = bt296.2 then (if bt302.1 = 128 then (if bt307.2 = 1 then (if bt309.2 = 4 then ((bits_Low.f 255 4).bind fun t311 => (some (t311 == 15))) else (none)) else (none)) else (none)) else (none)) else (none)) else (none)) else (none)) else (none)) else (none)) else (none)))))))
theorem cleatlaw01_told.mono : ∀ k, LeO (cleatlaw01_told.f k ) (cleatlaw01_told.f (k + 1) ) := by
  intro  k
  unfold cleatlaw01_told.f
  repeat' first
      | (with_reducible exact bits_Pack.mono _ _ _)
      | (with_reducible exact bits_Rotate.mono _ _ _ _)
      | (with_reducible exact bits_Signed.mono _ _ _)
      | (with_reducible exact bits_Word.mono _ _)
      | (with_reducible exact LeO.refl _)
      | (with_reducible exact LeO.none _)
      | (with_reducible refine LeO.ite ?_ ?_)
      | (with_reducible refine LeO.bind ?_ (fun _ => ?_))
      | exact bits_Pack.mono _ _ _
      | exact bits_Rotate.mono _ _ _ _
      | exact bits_Signed.mono _ _ _
      | exact bits_Word.mono _ _
      | exact LeO.none _
      | refine LeO.ite ?_ ?_
      | refine LeO.bind ?_ (fun _ => ?_)
set_option maxHeartbeats 8000000 in
set_option maxRecDepth 100000 in
theorem cleatlaw01_told.calls (k : Nat)  (r : Bool) (w : World) (h : cleatlaw01_told.f k  = some r) :
    Calls Try.prog 30 #[] w fun e w' => e = .returned (.bool r) ∧ Below w.heap.size w w' := by
  have hu56 := Try.underlying56
  have HB := Aside0.mk (Below.refl w.heap.size w)
  have H : ((bits_Word.f k (([(⟨0, 5, 5⟩ : S56), (⟨16, 5, 3⟩ : S56)] : List (S56)))).bind fun bt296 => ((bits_Signed.f k 7 3).bind fun bt298 => ((bits_Pack.f k (-4) 3).bind fun bt300 => ((bits_Rotate.f k 1 1 8).bind fun bt302 => ((bits_Word.f k (([(⟨0, 5, 0⟩ : S56), (⟨4, 1, 0⟩ : S56)] : List (S56)))).bind fun bt307 => ((bits_Pack.f k 4 3).bind fun bt309 => (if bt296.2 = 0 then (if bt296.1 = 196613 then (if bt298.2 = bt296.2 then (if bt298.1 = (-1) then (if bt300.2 = bt296.2 then (if bt300.1 = 4 then (if bt302.2 = bt296.2 then (if bt302.1 = 128 then (if bt307.2 = 1 then (if bt309.2 = 4 then ((bits_Low.f 255 4).bind fun t311 => (some (t311 == 15))) else (none)) else (none)) else (none)) else (none)) else (none)) else (none)) else (none)) else (none)) else (none)) else (none)))))))) = some r := h
  clear h
  obtain ⟨y293, hy293⟩ : ∃ y_ : List (S56), y_ = (([(⟨0, 5, 5⟩ : S56), (⟨16, 5, 3⟩ : S56)] : List (S56))) := ⟨_, rfl⟩
  replace H : ((bits_Word.f k y293).bind fun bt296 => ((bits_Signed.f k 7 3).bind fun bt298 => ((bits_Pack.f k (-4) 3).bind fun bt300 => ((bits_Rotate.f k 1 1 8).bind fun bt302 => ((bits_Word.f k (([(⟨0, 5, 0⟩ : S56), (⟨4, 1, 0⟩ : S56)] : List (S56)))).bind fun bt307 => ((bits_Pack.f k 4 3).bind fun bt309 => (if bt296.2 = 0 then (if bt296.1 = 196613 then (if bt298.2 = bt296.2 then (if bt298.1 = (-1) then (if bt300.2 = bt296.2 then (if bt300.1 = 4 then (if bt302.2 = bt296.2 then (if bt302.1 = 128 then (if bt307.2 = 1 then (if bt309.2 = 4 then ((bits_Low.f 255 4).bind fun t311 => (some (t311 == 15))) else (none)) else (none)) else (none)) else (none)) else (none)) else (none)) else (none)) else (none)) else (none)) else (none)))))))) = some r := by first | (rw [hy293]; with_reducible exact H) | (have H2_ := (Option.bind_some _ _).symm.trans H; rw [hy293]; with_reducible exact H2_) | (have H2_ := (Option.bind_some _ _).symm.trans H; with_reducible exact H2_) | with_reducible exact H | (rw [hy293]; exact H) | exact H
  have Ny293 := Aside0.mk hy293
  clear hy293
  replace H := Option.bind_eq_some_iff.mp H
  obtain ⟨⟨t296, t297⟩, A10, H⟩ := H
  replace H : ((bits_Signed.f k 7 3).bind fun bt298 => ((bits_Pack.f k (-4) 3).bind fun bt300 => ((bits_Rotate.f k 1 1 8).bind fun bt302 => ((bits_Word.f k (([(⟨0, 5, 0⟩ : S56), (⟨4, 1, 0⟩ : S56)] : List (S56)))).bind fun bt307 => ((bits_Pack.f k 4 3).bind fun bt309 => (if t297 = 0 then (if t296 = 196613 then (if bt298.2 = t297 then (if bt298.1 = (-1) then (if bt300.2 = t297 then (if bt300.1 = 4 then (if bt302.2 = t297 then (if bt302.1 = 128 then (if bt307.2 = 1 then (if bt309.2 = 4 then ((bits_Low.f 255 4).bind fun t311 => (some (t311 == 15))) else (none)) else (none)) else (none)) else (none)) else (none)) else (none)) else (none)) else (none)) else (none)) else (none))))))) = some r := H
  have A1 := Aside0.mk A10
  clear A10
  replace H := Option.bind_eq_some_iff.mp H
  obtain ⟨⟨t298, t299⟩, A20, H⟩ := H
  replace H : ((bits_Pack.f k (-4) 3).bind fun bt300 => ((bits_Rotate.f k 1 1 8).bind fun bt302 => ((bits_Word.f k (([(⟨0, 5, 0⟩ : S56), (⟨4, 1, 0⟩ : S56)] : List (S56)))).bind fun bt307 => ((bits_Pack.f k 4 3).bind fun bt309 => (if t297 = 0 then (if t296 = 196613 then (if t299 = t297 then (if t298 = (-1) then (if bt300.2 = t297 then (if bt300.1 = 4 then (if bt302.2 = t297 then (if bt302.1 = 128 then (if bt307.2 = 1 then (if bt309.2 = 4 then ((bits_Low.f 255 4).bind fun t311 => (some (t311 == 15))) else (none)) else (none)) else (none)) else (none)) else (none)) else (none)) else (none)) else (none)) else (none)) else (none)))))) = some r := H
  have A2 := Aside0.mk A20
  clear A20
  replace H := Option.bind_eq_some_iff.mp H
  obtain ⟨⟨t300, t301⟩, A30, H⟩ := H
  replace H : ((bits_Rotate.f k 1 1 8).bind fun bt302 => ((bits_Word.f k (([(⟨0, 5, 0⟩ : S56), (⟨4, 1, 0⟩ : S56)] : List (S56)))).bind fun bt307 => ((bits_Pack.f k 4 3).bind fun bt309 => (if t297 = 0 then (if t296 = 196613 then (if t299 = t297 then (if t298 = (-1) then (if t301 = t297 then (if t300 = 4 then (if bt302.2 = t297 then (if bt302.1 = 128 then (if bt307.2 = 1 then (if bt309.2 = 4 then ((bits_Low.f 255 4).bind fun t311 => (some (t311 == 15))) else (none)) else (none)) else (none)) else (none)) else (none)) else (none)) else (none)) else (none)) else (none)) else (none))))) = some r := H
  have A3 := Aside0.mk A30
  clear A30
  replace H := Option.bind_eq_some_iff.mp H
  obtain ⟨⟨t302, t303⟩, A40, H⟩ := H
  replace H : ((bits_Word.f k (([(⟨0, 5, 0⟩ : S56), (⟨4, 1, 0⟩ : S56)] : List (S56)))).bind fun bt307 => ((bits_Pack.f k 4 3).bind fun bt309 => (if t297 = 0 then (if t296 = 196613 then (if t299 = t297 then (if t298 = (-1) then (if t301 = t297 then (if t300 = 4 then (if t303 = t297 then (if t302 = 128 then (if bt307.2 = 1 then (if bt309.2 = 4 then ((bits_Low.f 255 4).bind fun t311 => (some (t311 == 15))) else (none)) else (none)) else (none)) else (none)) else (none)) else (none)) else (none)) else (none)) else (none)) else (none)))) = some r := H
  have A4 := Aside0.mk A40
  clear A40
  obtain ⟨y304, hy304⟩ : ∃ y_ : List (S56), y_ = (([(⟨0, 5, 0⟩ : S56), (⟨4, 1, 0⟩ : S56)] : List (S56))) := ⟨_, rfl⟩
  replace H : ((bits_Word.f k y304).bind fun bt307 => ((bits_Pack.f k 4 3).bind fun bt309 => (if t297 = 0 then (if t296 = 196613 then (if t299 = t297 then (if t298 = (-1) then (if t301 = t297 then (if t300 = 4 then (if t303 = t297 then (if t302 = 128 then (if bt307.2 = 1 then (if bt309.2 = 4 then ((bits_Low.f 255 4).bind fun t311 => (some (t311 == 15))) else (none)) else (none)) else (none)) else (none)) else (none)) else (none)) else (none)) else (none)) else (none)) else (none)))) = some r := by first | (rw [hy304]; with_reducible exact H) | (have H2_ := (Option.bind_some _ _).symm.trans H; rw [hy304]; with_reducible exact H2_) | (have H2_ := (Option.bind_some _ _).symm.trans H; with_reducible exact H2_) | with_reducible exact H | (rw [hy304]; exact H) | exact H
  have Ny304 := Aside0.mk hy304
  clear hy304
  replace H := Option.bind_eq_some_iff.mp H
  obtain ⟨⟨t307, t308⟩, A50, H⟩ := H
  replace H : ((bits_Pack.f k 4 3).bind fun bt309 => (if t297 = 0 then (if t296 = 196613 then (if t299 = t297 then (if t298 = (-1) then (if t301 = t297 then (if t300 = 4 then (if t303 = t297 then (if t302 = 128 then (if t308 = 1 then (if bt309.2 = 4 then ((bits_Low.f 255 4).bind fun t311 => (some (t311 == 15))) else (none)) else (none)) else (none)) else (none)) else (none)) else (none)) else (none)) else (none)) else (none)) else (none))) = some r := H
  have A5 := Aside0.mk A50
  clear A50
  replace H := Option.bind_eq_some_iff.mp H
  obtain ⟨⟨t309, t310⟩, A60, H⟩ := H
  replace H : (if t297 = 0 then (if t296 = 196613 then (if t299 = t297 then (if t298 = (-1) then (if t301 = t297 then (if t300 = 4 then (if t303 = t297 then (if t302 = 128 then (if t308 = 1 then (if t310 = 4 then ((bits_Low.f 255 4).bind fun t311 => (some (t311 == 15))) else (none)) else (none)) else (none)) else (none)) else (none)) else (none)) else (none)) else (none)) else (none)) else (none)) = some r := H
  have A6 := Aside0.mk A60
  clear A60
  by_cases c7 : t297 = 0
  · rw [if_pos c7] at H
    have c7b0 : (t297 == 0) = true := beq_iff_eq.mpr c7
    have c7b1 : (t297 != 0) = false := bne_eq_false_iff_eq.mpr c7
    clear c7
    by_cases c8 : t296 = 196613
    · rw [if_pos c8] at H
      have c8b0 : (t296 == 196613) = true := beq_iff_eq.mpr c8
      have c8b1 : (t296 != 196613) = false := bne_eq_false_iff_eq.mpr c8
      clear c8
      by_cases c9 : t299 = t297
      · rw [if_pos c9] at H
        have c9b0 : (t299 == t297) = true := beq_iff_eq.mpr c9
        have c9b1 : (t299 != t297) = false := bne_eq_false_iff_eq.mpr c9
        clear c9
        by_cases c10 : t298 = (-1)
        · rw [if_pos c10] at H
          have c10b0 : (t298 == (-1)) = true := beq_iff_eq.mpr c10
          have c10b1 : (t298 != (-1)) = false := bne_eq_false_iff_eq.mpr c10
          clear c10
          by_cases c11 : t301 = t297
          · rw [if_pos c11] at H
            have c11b0 : (t301 == t297) = true := beq_iff_eq.mpr c11
            have c11b1 : (t301 != t297) = false := bne_eq_false_iff_eq.mpr c11
            clear c11
            by_cases c12 : t300 = 4
            · rw [if_pos c12] at H
              have c12b0 : (t300 == 4) = true := beq_iff_eq.mpr c12
              have c12b1 : (t300 != 4) = false := bne_eq_false_iff_eq.mpr c12
              clear c12
              by_cases c13 : t303 = t297
              · rw [if_pos c13] at H
                have c13b0 : (t303 == t297) = true := beq_iff_eq.mpr c13
                have c13b1 : (t303 != t297) = false := bne_eq_false_iff_eq.mpr c13
                clear c13
                by_cases c14 : t302 = 128
                · rw [if_pos c14] at H
                  have c14b0 : (t302 == 128) = true := beq_iff_eq.mpr c14
                  have c14b1 : (t302 != 128) = false := bne_eq_false_iff_eq.mpr c14
                  clear c14
                  by_cases c15 : t308 = 1
                  · rw [if_pos c15] at H
                    have c15b0 : (t308 == 1) = true := beq_iff_eq.mpr c15
                    have c15b1 : (t308 != 1) = false := bne_eq_false_iff_eq.mpr c15
                    clear c15
                    by_cases c16 : t310 = 4
                    · rw [if_pos c16] at H
                      have c16b0 : (t310 == 4) = true := beq_iff_eq.mpr c16
                      have c16b1 : (t310 != 4) = false := bne_eq_false_iff_eq.mpr c16
                      clear c16
                      replace H := Option.bind_eq_some_iff.mp H
                      obtain ⟨t311, A170, H⟩ := H
                      replace H : (some (t311 == 15)) = some r := H
                      have A17 := Aside0.mk A170
                      clear A170
                      obtain rfl := Option.some.inj H
                      go_enter Try.func30, Try.ntmps30
                      go_wp2_with (first | ((with_reducible refine gate_dst (N := 16) rfl ?_); refine Kd.R_lit k56 _ 56 ?hg (N := 16) ?hd (xs := ([(⟨0, 5, 5⟩ : S56), (⟨16, 5, 3⟩ : S56)] : List (S56))) (inner := [.int .i64 0, .int .i64 5, .int .u32 5, .int .i64 16, .int .i64 5, .int .u32 3]) (ok := fun _ => True) (okp := fun _ => True) ?hr ?hp (fun _ hk => hk) trivial (Below.refl _ _) (Nat.le_refl _) (by simp) ?_; (case hd => rfl); (case hg => rfl); (case hr => first | (go_simp; done) | (go_simp; rfl)); (case hp => exact (Reps.c3 (show Kd.M k56 _ _ _ (⟨0, 5, 5⟩ : S56) [.int .i64 0, .int .i64 5, .int .u32 5] from (k56_mkM _ _ _ (⟨0, 5, 5⟩ : S56) )) (Reps.c3 (show Kd.M k56 _ _ _ (⟨16, 5, 3⟩ : S56) [.int .i64 16, .int .i64 5, .int .u32 3] from (k56_mkM _ _ _ (⟨16, 5, 3⟩ : S56) )) (Reps.none _ _)))); intro v294 w18 ho19 hb hg_ hnew_; clear hg_ hnew_; (first | rw [← Ny293.out] at ho19 | (simp only [Int.reduceToNat] at ho19; rw [← Ny293.out] at ho19)); have n0_ := Aside0.mk (Kd.R_lower ho19 (below_size (by repeat (first | (with_reducible first | exact HB.out | apply below_alloc | apply pw_below_drewN | apply below_drew1) | exact HB.out)))); have n1_ := Aside0.mk (below_step (by repeat (first | (with_reducible first | exact HB.out | apply below_alloc | apply pw_below_drewN | apply below_drew1) | exact HB.out)) hb); clear HB; have HO295 := n0_; have HB := n1_; clear n0_ n1_; clear hb ho19; obtain ⟨Ao20, co20, eo20⟩ := Kd.R_slice HO295.out; subst eo20) | ((with_reducible refine gate_callee (f := 38) rfl ?_); refine goesL_ (some 17) rfl rfl Try.func38 (by kernel_rfl) rfl #[.slice Ao20 y293.length co20] rfl (by (try simp only [List.map_toArray, List.map_cons, List.map_nil]); first | done | rfl | (simp only [List.length_drop, List.length_take]; rfl)) ?_; (with_reducible refine (bits_Word.calls k _ _ y293 t296 t297 _ ?side1 ?side2 A1.out).mono ?_); (case side1 => repeat (first | exact (Kd.R_reads' HO295.out).2.2 | (with_reducible refine Kd.C_alloc ?_ _) | (with_reducible refine Kd.C_drewN ?_ _) | (with_reducible refine Kd.C_drew ?_))); (case side2 => exact (Kd.R_reads' HO295.out).2.1); rintro e w21 ⟨rfl, hb⟩; refine ⟨_, rfl, ?_⟩; have n0_ := Aside0.mk (Kd.R_below (by (with_reducible repeat (first | apply Kd.R_alloc | apply Kd.R_drewN | apply Kd.R_drew)); exact HO295.out) hb); have n1_ := Aside0.mk (below_step (by repeat (first | (with_reducible first | exact HB.out | apply below_alloc | apply pw_below_drewN | apply below_drew1) | exact HB.out)) hb); clear HO295; clear HB; have HO295 := n0_; have HB := n1_; clear n0_ n1_; (try clear hb); (try clear hb2); (try clear hk); (try clear hi)) | ((with_reducible refine gate_callee (f := 26) rfl ?_); refine goesL_ (some 21) rfl rfl Try.func26 (by kernel_rfl) rfl #[.int .u32 7, .int .i64 3] rfl (by (try simp only [List.map_toArray, List.map_cons, List.map_nil]); first | done | rfl | (simp only [List.length_drop, List.length_take]; rfl)) ?_; (with_reducible refine (bits_Signed.calls k 7 3 t298 t299 _ A2.out).mono ?_); rintro e w' ⟨rfl, ⟨nd, rfl⟩⟩; refine ⟨_, rfl, ?_⟩) | ((with_reducible refine gate_callee (f := 28) rfl ?_); refine goesL_ (some 25) rfl rfl Try.func28 (by kernel_rfl) rfl #[.int .i64 (-4), .int .i64 3] rfl (by (try simp only [List.map_toArray, List.map_cons, List.map_nil]); first | done | rfl | (simp only [List.length_drop, List.length_take]; rfl)) ?_; (with_reducible refine (bits_Pack.calls k (-4) 3 t300 t301 _ A3.out).mono ?_); rintro e w' ⟨rfl, ⟨nd, rfl⟩⟩; refine ⟨_, rfl, ?_⟩) | ((with_reducible refine gate_callee (f := 31) rfl ?_); refine goesL_ (some 29) rfl rfl Try.func31 (by kernel_rfl) rfl #[.int .u64 1, .int .i64 1, .int .i64 8] rfl (by (try simp only [List.map_toArray, List.map_cons, List.map_nil]); first | done | rfl | (simp only [List.length_drop, List.length_take]; rfl)) ?_; (with_reducible refine (bits_Rotate.calls k 1 1 8 t302 t303 _ A4.out).mono ?_); rintro e w22 ⟨rfl, hb⟩; refine ⟨_, rfl, ?_⟩; have n0_ := Aside0.mk (Kd.R_below (by (with_reducible repeat (first | apply Kd.R_alloc | apply Kd.R_drewN | apply Kd.R_drew)); exact HO295.out) hb); have n1_ := Aside0.mk (below_step (by repeat (first | (with_reducible first | exact HB.out | apply below_alloc | apply pw_below_drewN | apply below_drew1) | exact HB.out)) hb); clear HO295; clear HB; have HO295 := n0_; have HB := n1_; clear n0_ n1_; (try clear hb); (try clear hb2); (try clear hk); (try clear hi)) | ((with_reducible refine gate_dst (N := 35) rfl ?_); refine Kd.R_lit k56 _ 56 ?hg (N := 35) ?hd (xs := ([(⟨0, 5, 0⟩ : S56), (⟨4, 1, 0⟩ : S56)] : List (S56))) (inner := [.int .i64 0, .int .i64 5, .int .u32 0, .int .i64 4, .int .i64 1, .int .u32 0]) (ok := fun _ => True) (okp := fun _ => True) ?hr ?hp (fun _ hk => hk) trivial (Below.refl _ _) (Nat.le_refl _) (by simp) ?_; (case hd => rfl); (case hg => rfl); (case hr => first | (go_simp; done) | (go_simp; rfl)); (case hp => exact (Reps.c3 (show Kd.M k56 _ _ _ (⟨0, 5, 0⟩ : S56) [.int .i64 0, .int .i64 5, .int .u32 0] from (k56_mkM _ _ _ (⟨0, 5, 0⟩ : S56) )) (Reps.c3 (show Kd.M k56 _ _ _ (⟨4, 1, 0⟩ : S56) [.int .i64 4, .int .i64 1, .int .u32 0] from (k56_mkM _ _ _ (⟨4, 1, 0⟩ : S56) )) (Reps.none _ _)))); intro v305 w23 ho24 hb hg_ hnew_; clear hg_ hnew_; (first | rw [← Ny304.out] at ho24 | (simp only [Int.reduceToNat] at ho24; rw [← Ny304.out] at ho24)); have n0_ := Aside0.mk (Kd.R_elder' (by (with_reducible repeat (first | apply Kd.R_alloc | apply Kd.R_drewN | apply Kd.R_drew)); exact HO295.out) (Kd.R_base ho24) hb); have n1_ := Aside0.mk (Kd.R_lower (Kd.R_new' ho24 (Kd.R_lt (by (with_reducible repeat (first | apply Kd.R_alloc | apply Kd.R_drewN | apply Kd.R_drew)); exact HO295.out))) (below_size (by repeat (first | (with_reducible first | exact HB.out | apply below_alloc | apply pw_below_drewN | apply below_drew1) | exact HB.out)))); have n2_ := Aside0.mk (below_step (by repeat (first | (with_reducible first | exact HB.out | apply below_alloc | apply pw_below_drewN | apply below_drew1) | exact HB.out)) hb); clear HO295; clear HB; have HO295 := n0_; have HO306 := n1_; have HB := n2_; clear n0_ n1_ n2_; clear hb ho24; obtain ⟨Ao25, co25, eo25⟩ := Kd.R_slice HO306.out; subst eo25) | ((with_reducible refine gate_callee (f := 38) rfl ?_); refine goesL_ (some 36) rfl rfl Try.func38 (by kernel_rfl) rfl #[.slice Ao25 y304.length co25] rfl (by (try simp only [List.map_toArray, List.map_cons, List.map_nil]); first | done | rfl | (simp only [List.length_drop, List.length_take]; rfl)) ?_; (with_reducible refine (bits_Word.calls k _ _ y304 t307 t308 _ ?side1 ?side2 A5.out).mono ?_); (case side1 => repeat (first | exact (Kd.R_reads' HO306.out).2.2 | (with_reducible refine Kd.C_alloc ?_ _) | (with_reducible refine Kd.C_drewN ?_ _) | (with_reducible refine Kd.C_drew ?_))); (case side2 => exact (Kd.R_reads' HO306.out).2.1); rintro e w26 ⟨rfl, hb⟩; refine ⟨_, rfl, ?_⟩; have n0_ := Aside0.mk (Kd.R_below (by (with_reducible repeat (first | apply Kd.R_alloc | apply Kd.R_drewN | apply Kd.R_drew)); exact HO295.out) hb); have n1_ := Aside0.mk (Kd.R_below (by (with_reducible repeat (first | apply Kd.R_alloc | apply Kd.R_drewN | apply Kd.R_drew)); exact HO306.out) hb); have n2_ := Aside0.mk (below_step (by repeat (first | (with_reducible first | exact HB.out | apply below_alloc | apply pw_below_drewN | apply below_drew1) | exact HB.out)) hb); clear HO295; clear HO306; clear HB; have HO295 := n0_; have HO306 := n1_; have HB := n2_; clear n0_ n1_ n2_; (try clear hb); (try clear hb2); (try clear hk); (try clear hi)) | ((with_reducible refine gate_callee (f := 28) rfl ?_); refine goesL_ (some 40) rfl rfl Try.func28 (by kernel_rfl) rfl #[.int .i64 4, .int .i64 3] rfl (by (try simp only [List.map_toArray, List.map_cons, List.map_nil]); first | done | rfl | (simp only [List.length_drop, List.length_take]; rfl)) ?_; (with_reducible refine (bits_Pack.calls k 4 3 t309 t310 _ A6.out).mono ?_); rintro e w' ⟨rfl, ⟨nd, rfl⟩⟩; refine ⟨_, rfl, ?_⟩) | (go_at_call 33; (with_reducible refine (bits_Low.calls 255 4 t311 _ A17.out).mono ?_); rintro e w27 ⟨rfl, hb⟩; have n0_ := Aside0.mk (Kd.R_below (by (with_reducible repeat (first | apply Kd.R_alloc | apply Kd.R_drewN | apply Kd.R_drew)); exact HO295.out) hb); have n1_ := Aside0.mk (Kd.R_below (by (with_reducible repeat (first | apply Kd.R_alloc | apply Kd.R_drewN | apply Kd.R_drew)); exact HO306.out) hb); have n2_ := Aside0.mk (below_step (by repeat (first | (with_reducible first | exact HB.out | apply below_alloc | apply pw_below_drewN | apply below_drew1) | exact HB.out)) hb); clear HO295; clear HO306; clear HB; have HO295 := n0_; have HO306 := n1_; have HB := n2_; clear n0_ n1_ n2_; (try clear hb); (try clear hb2); (try clear hk); (try clear hi)))
                      go_ret
                      exact ⟨by first | rfl | (simp [errW_none, errW_some] <;> rfl) | (simp [*, errW_none, errW_some] <;> rfl), by repeat (first | (with_reducible first | exact HB.out | apply below_alloc | apply pw_below_drewN | apply below_drew1) | exact HB.out)⟩
                    · rw [if_neg c16] at H
                      exact absurd H (by simp)
                  · rw [if_neg c15] at H
                    exact absurd H (by simp)
                · rw [if_neg c14] at H
                  exact absurd H (by simp)
              · rw [if_neg c13] at H
                exact absurd H (by simp)
            · rw [if_neg c12] at H
              exact absurd H (by simp)
          · rw [if_neg c11] at H
            exact absurd H (by simp)
        · rw [if_neg c10] at H
          exact absurd H (by simp)
      · rw [if_neg c9] at H
        exact absurd H (by simp)
    · rw [if_neg c8] at H
      exact absurd H (by simp)
  · rw [if_neg c7] at H
    exact absurd H (by simp)

/-! ### cleatlaw01_BitsSigned: function 7 -/
def cleatlaw01_BitsSigned.f (k : Nat) (a0 : Int) (a1 : Int) (a2 : Int) : Option (Bool) := (bits_Signed.f k a0 a2).bind fun bt312 => ((cleatref01_Signed.f k a0 a2).bind fun bt314 => ((bits_Pack.f k a1 a2).bind fun bt316 => ((cleatref01_Pack.f k a1 a2).bind fun bt318 => ((cleatlaw01_told.f k).bind fun t320 => (if t320 = true then (if bt312.1 = bt314.1 then (if bt312.2 = bt314.2 then (if bt316.1 = bt318.1 then (some (bt316.2 == bt318.2)) else (none)) else (none)) else (none)) else (none))))))
theorem cleatlaw01_BitsSigned.mono : ∀ a0 a1 a2 k, LeO (cleatlaw01_BitsSigned.f k a0 a1 a2) (cleatlaw01_BitsSigned.f (k + 1) a0 a1 a2) := by
  intro a0 a1 a2 k
  unfold cleatlaw01_BitsSigned.f
  repeat' first
      | (with_reducible exact bits_Pack.mono _ _ _)
      | (with_reducible exact bits_Signed.mono _ _ _)
      | (with_reducible exact cleatlaw01_told.mono _)
      | (with_reducible exact cleatref01_Pack.mono _ _ _)
      | (with_reducible exact cleatref01_Signed.mono _ _ _)
      | (with_reducible exact LeO.refl _)
      | (with_reducible exact LeO.none _)
      | (with_reducible refine LeO.ite ?_ ?_)
      | (with_reducible refine LeO.bind ?_ (fun _ => ?_))
      | exact bits_Pack.mono _ _ _
      | exact bits_Signed.mono _ _ _
      | exact cleatlaw01_told.mono _
      | exact cleatref01_Pack.mono _ _ _
      | exact cleatref01_Signed.mono _ _ _
      | exact LeO.none _
      | refine LeO.ite ?_ ?_
      | refine LeO.bind ?_ (fun _ => ?_)
set_option maxHeartbeats 8000000 in
set_option maxRecDepth 100000 in
theorem cleatlaw01_BitsSigned.calls (k : Nat) (a0 : Int) (a1 : Int) (a2 : Int) (r : Bool) (w : World) (h : cleatlaw01_BitsSigned.f k a0 a1 a2 = some r) :
    Calls Try.prog 7 #[.int .u32 a0, .int .i64 a1, .int .i64 a2] w fun e w' => e = .returned (.bool r) ∧ Below w.heap.size w w' := by
  have HB := Aside0.mk (Below.refl w.heap.size w)
  have H : ((bits_Signed.f k a0 a2).bind fun bt312 => ((cleatref01_Signed.f k a0 a2).bind fun bt314 => ((bits_Pack.f k a1 a2).bind fun bt316 => ((cleatref01_Pack.f k a1 a2).bind fun bt318 => ((cleatlaw01_told.f k).bind fun t320 => (if t320 = true then (if bt312.1 = bt314.1 then (if bt312.2 = bt314.2 then (if bt316.1 = bt318.1 then (some (bt316.2 == bt318.2)) else (none)) else (none)) else (none)) else (none))))))) = some r := h
  clear h
  replace H := Option.bind_eq_some_iff.mp H
  obtain ⟨⟨t312, t313⟩, A40, H⟩ := H
  replace H : ((cleatref01_Signed.f k a0 a2).bind fun bt314 => ((bits_Pack.f k a1 a2).bind fun bt316 => ((cleatref01_Pack.f k a1 a2).bind fun bt318 => ((cleatlaw01_told.f k).bind fun t320 => (if t320 = true then (if t312 = bt314.1 then (if t313 = bt314.2 then (if bt316.1 = bt318.1 then (some (bt316.2 == bt318.2)) else (none)) else (none)) else (none)) else (none)))))) = some r := H
  have A4 := Aside0.mk A40
  clear A40
  replace H := Option.bind_eq_some_iff.mp H
  obtain ⟨⟨t314, t315⟩, A50, H⟩ := H
  replace H : ((bits_Pack.f k a1 a2).bind fun bt316 => ((cleatref01_Pack.f k a1 a2).bind fun bt318 => ((cleatlaw01_told.f k).bind fun t320 => (if t320 = true then (if t312 = t314 then (if t313 = t315 then (if bt316.1 = bt318.1 then (some (bt316.2 == bt318.2)) else (none)) else (none)) else (none)) else (none))))) = some r := H
  have A5 := Aside0.mk A50
  clear A50
  replace H := Option.bind_eq_some_iff.mp H
  obtain ⟨⟨t316, t317⟩, A60, H⟩ := H
  replace H : ((cleatref01_Pack.f k a1 a2).bind fun bt318 => ((cleatlaw01_told.f k).bind fun t320 => (if t320 = true then (if t312 = t314 then (if t313 = t315 then (if t316 = bt318.1 then (some (t317 == bt318.2)) else (none)) else (none)) else (none)) else (none)))) = some r := H
  have A6 := Aside0.mk A60
  clear A60
  replace H := Option.bind_eq_some_iff.mp H
  obtain ⟨⟨t318, t319⟩, A70, H⟩ := H
  replace H : ((cleatlaw01_told.f k).bind fun t320 => (if t320 = true then (if t312 = t314 then (if t313 = t315 then (if t316 = t318 then (some (t317 == t319)) else (none)) else (none)) else (none)) else (none))) = some r := H
  have A7 := Aside0.mk A70
  clear A70
  replace H := Option.bind_eq_some_iff.mp H
  obtain ⟨t320, A80, H⟩ := H
  replace H : (if t320 = true then (if t312 = t314 then (if t313 = t315 then (if t316 = t318 then (some (t317 == t319)) else (none)) else (none)) else (none)) else (none)) = some r := H
  have A8 := Aside0.mk A80
  clear A80
  by_cases c9 : t320 = true
  · subst c9
    have H1 : (if t312 = t314 then (if t313 = t315 then (if t316 = t318 then (some (t317 == t319)) else (none)) else (none)) else (none)) = some r := by rw [if_pos rfl] at H; exact H
    clear H
    have H := H1
    clear H1
    by_cases c10 : t312 = t314
    · rw [if_pos c10] at H
      have c10b0 : (t312 == t314) = true := beq_iff_eq.mpr c10
      have c10b1 : (t312 != t314) = false := bne_eq_false_iff_eq.mpr c10
      clear c10
      by_cases c11 : t313 = t315
      · rw [if_pos c11] at H
        have c11b0 : (t313 == t315) = true := beq_iff_eq.mpr c11
        have c11b1 : (t313 != t315) = false := bne_eq_false_iff_eq.mpr c11
        clear c11
        by_cases c12 : t316 = t318
        · rw [if_pos c12] at H
          have c12b0 : (t316 == t318) = true := beq_iff_eq.mpr c12
          have c12b1 : (t316 != t318) = false := bne_eq_false_iff_eq.mpr c12
          clear c12
          obtain rfl := Option.some.inj H
          go_enter Try.func7, Try.ntmps7
          go_wp2_with (first | ((with_reducible refine gate_callee (f := 26) rfl ?_); refine goesL_ (some 18) rfl rfl Try.func26 (by kernel_rfl) rfl #[.int .u32 a0, .int .i64 a2] rfl (by (try simp only [List.map_toArray, List.map_cons, List.map_nil]); first | done | rfl | (simp only [List.length_drop, List.length_take]; rfl)) ?_; (with_reducible refine (bits_Signed.calls k a0 a2 t312 t313 _ A4.out).mono ?_); rintro e w' ⟨rfl, ⟨nd, rfl⟩⟩; refine ⟨_, rfl, ?_⟩) | ((with_reducible refine gate_callee (f := 27) rfl ?_); refine goesL_ (some 24) rfl rfl Try.func27 (by kernel_rfl) rfl #[.int .u32 a0, .int .i64 a2] rfl (by (try simp only [List.map_toArray, List.map_cons, List.map_nil]); first | done | rfl | (simp only [List.length_drop, List.length_take]; rfl)) ?_; (with_reducible refine (cleatref01_Signed.calls k a0 a2 t314 t315 _ A5.out).mono ?_); rintro e w' ⟨rfl, ⟨nd, rfl⟩⟩; refine ⟨_, rfl, ?_⟩) | ((with_reducible refine gate_callee (f := 28) rfl ?_); refine goesL_ (some 30) rfl rfl Try.func28 (by kernel_rfl) rfl #[.int .i64 a1, .int .i64 a2] rfl (by (try simp only [List.map_toArray, List.map_cons, List.map_nil]); first | done | rfl | (simp only [List.length_drop, List.length_take]; rfl)) ?_; (with_reducible refine (bits_Pack.calls k a1 a2 t316 t317 _ A6.out).mono ?_); rintro e w' ⟨rfl, ⟨nd, rfl⟩⟩; refine ⟨_, rfl, ?_⟩) | ((with_reducible refine gate_callee (f := 29) rfl ?_); refine goesL_ (some 36) rfl rfl Try.func29 (by kernel_rfl) rfl #[.int .i64 a1, .int .i64 a2] rfl (by (try simp only [List.map_toArray, List.map_cons, List.map_nil]); first | done | rfl | (simp only [List.length_drop, List.length_take]; rfl)) ?_; (with_reducible refine (cleatref01_Pack.calls k a1 a2 t318 t319 _ A7.out).mono ?_); rintro e w' ⟨rfl, ⟨nd, rfl⟩⟩; refine ⟨_, rfl, ?_⟩) | ((with_reducible refine gate_callee (f := 30) rfl ?_); refine goesL_ (some 39) rfl rfl Try.func30 (by kernel_rfl) rfl #[] rfl (by (try simp only [List.map_toArray, List.map_cons, List.map_nil]); first | done | rfl | (simp only [List.length_drop, List.length_take]; rfl)) ?_; (with_reducible refine (cleatlaw01_told.calls k  true _ A8.out).mono ?_); rintro e w13 ⟨rfl, hb⟩; refine ⟨_, rfl, ?_⟩; have n0_ := Aside0.mk (below_step (by repeat (first | (with_reducible first | exact HB.out | apply below_alloc | apply pw_below_drewN | apply below_drew1) | exact HB.out)) hb); clear HB; have HB := n0_; clear n0_; (try clear hb); (try clear hb2); (try clear hk); (try clear hi)))
          go_ret
          exact ⟨by first | rfl | (simp [errW_none, errW_some] <;> rfl) | (simp [*, errW_none, errW_some] <;> rfl), by repeat (first | (with_reducible first | exact HB.out | apply below_alloc | apply pw_below_drewN | apply below_drew1) | exact HB.out)⟩
        · rw [if_neg c12] at H
          exact absurd H (by simp)
      · rw [if_neg c11] at H
        exact absurd H (by simp)
    · rw [if_neg c10] at H
      exact absurd H (by simp)
  · replace c9 := Bool.eq_false_iff.mpr c9
    subst c9
    have H1 : (none) = some r := by rw [if_neg (show ¬ (false = true) by decide)] at H; exact H
    clear H
    have H := H1
    clear H1
    exact absurd H (by simp)

/-- THE ONE PURE STATEMENT of cleatlaw01_BitsSigned: yours. -/
def cleatlaw01_BitsSigned.Pure : Prop := ∀ (a0 : Int) (a1 : Int) (a2 : Int), (Lit.int .u32 a0).wf = true → (Lit.int .i64 a1).wf = true → (Lit.int .i64 a2).wf = true → ∃ k, cleatlaw01_BitsSigned.f k a0 a1 a2 = some true
theorem cleatlaw01_BitsSigned.walk (P : cleatlaw01_BitsSigned.Pure) (a0 : Int) (a1 : Int) (a2 : Int) (w : World) (w0 : (Lit.int .u32 a0).wf = true) (w1 : (Lit.int .i64 a1).wf = true) (w2 : (Lit.int .i64 a2).wf = true) :
    Calls Try.prog 7 #[.int .u32 a0, .int .i64 a1, .int .i64 a2] w fun e w' => e = .returned (.bool true) ∧ Below w.heap.size w w' := by
  obtain ⟨k, h⟩ := P a0 a1 a2 w0 w1 w2
  refine (cleatlaw01_BitsSigned.calls k a0 a1 a2 true w h).mono ?_
  rintro e w' ⟨rfl, hd⟩
  exact ⟨rfl, hd⟩

/-! ### cleatref01_Rotate: function 32 -/
mutual
def cleatref01_Rotate.j0 : Nat → Int → Int → Int → Bool → Option (Int × Int)
  | 0, _, _, _, _ => none
  | k + 1, x0, x1, x2, x40 => if x40 = true then (some (0, 1)) else ((cleatref01_Small.f k x0 x2).bind fun t321 => (if t321 = true then (cleatref01_Rotate.l0 k x0 x1 x2 0 0) else (some (0, 4))))
def cleatref01_Rotate.l0 : Nat → Int → Int → Int → Int → Int → Option (Int × Int)
  | 0, _, _, _, _, _ => none
  | k + 1, x0, x1, x2, x8, x9 => if x9 < x2 then (if x2 = 0 then (none) else ((cleatref01_Bit.f k x0 (Int.tmod (wrap64 (x9 + x1)) x2)).bind fun t322 => (if t322 = true then ((cleatref01_Power.f k x9).bind fun t323 => (cleatref01_Rotate.l0 k x0 x1 x2 (IntKind.u64.wrap (x8 + t323)) (wrap64 (x9 + 1)))) else (cleatref01_Rotate.l0 k x0 x1 x2 x8 (wrap64 (x9 + 1)))))) else (some (x8, 0))
end
def cleatref01_Rotate.f (k : Nat) (a0 : Int) (a1 : Int) (a2 : Int) : Option (Int × Int) := if a2 = 2 then (if a1 < 0 then (cleatref01_Rotate.j0 k a0 a1 a2 true) else (cleatref01_Rotate.j0 k a0 a1 a2 (decide (a1 ≥ a2)))) else (if a2 = 4 then (if a1 < 0 then (cleatref01_Rotate.j0 k a0 a1 a2 true) else (cleatref01_Rotate.j0 k a0 a1 a2 (decide (a1 ≥ a2)))) else (if a2 = 8 then (if a1 < 0 then (cleatref01_Rotate.j0 k a0 a1 a2 true) else (cleatref01_Rotate.j0 k a0 a1 a2 (decide (a1 ≥ a2)))) else (if a2 = 16 then (if a1 < 0 then (cleatref01_Rotate.j0 k a0 a1 a2 true) else (cleatref01_Rotate.j0 k a0 a1 a2 (decide (a1 ≥ a2)))) else (if a2 = 32 then (if a1 < 0 then (cleatref01_Rotate.j0 k a0 a1 a2 true) else (cleatref01_Rotate.j0 k a0 a1 a2 (decide (a1 ≥ a2)))) else (if a2 = 64 then (if a1 < 0 then (cleatref01_Rotate.j0 k a0 a1 a2 true) else (cleatref01_Rotate.j0 k a0 a1 a2 (decide (a1 ≥ a2)))) else (cleatref01_Rotate.j0 k a0 a1 a2 true))))))
theorem cleatref01_Rotate.mono_l : ∀ k, (∀ y0 y1 y2 y3, LeO (cleatref01_Rotate.j0 k y0 y1 y2 y3) (cleatref01_Rotate.j0 (k + 1) y0 y1 y2 y3)) ∧ (∀ y0 y1 y2 y3 y4, LeO (cleatref01_Rotate.l0 k y0 y1 y2 y3 y4) (cleatref01_Rotate.l0 (k + 1) y0 y1 y2 y3 y4))
  | 0 => ⟨fun _ _ _ _ r h => by simp [cleatref01_Rotate.j0] at h, fun _ _ _ _ _ r h => by simp [cleatref01_Rotate.l0] at h⟩
  | k + 1 => by
    obtain ⟨ih0, ih1⟩ := cleatref01_Rotate.mono_l k
    refine ⟨?_, ?_⟩
    · intro y0 y1 y2 y3
      unfold cleatref01_Rotate.j0
      repeat' first
      | (with_reducible exact ih0 _ _ _ _)
      | (with_reducible exact ih1 _ _ _ _ _)
      | (with_reducible exact cleatref01_Bit.mono _ _ _)
      | (with_reducible exact cleatref01_Power.mono _ _)
      | (with_reducible exact cleatref01_Small.mono _ _ _)
      | (with_reducible exact LeO.refl _)
      | (with_reducible exact LeO.none _)
      | (with_reducible refine LeO.ite ?_ ?_)
      | (with_reducible refine LeO.bind ?_ (fun _ => ?_))
      | exact ih0 _ _ _ _
      | exact ih1 _ _ _ _ _
      | exact cleatref01_Bit.mono _ _ _
      | exact cleatref01_Power.mono _ _
      | exact cleatref01_Small.mono _ _ _
      | exact LeO.none _
      | refine LeO.ite ?_ ?_
      | refine LeO.bind ?_ (fun _ => ?_)
    · intro y0 y1 y2 y3 y4
      unfold cleatref01_Rotate.l0
      repeat' first
      | (with_reducible exact ih0 _ _ _ _)
      | (with_reducible exact ih1 _ _ _ _ _)
      | (with_reducible exact cleatref01_Bit.mono _ _ _)
      | (with_reducible exact cleatref01_Power.mono _ _)
      | (with_reducible exact cleatref01_Small.mono _ _ _)
      | (with_reducible exact LeO.refl _)
      | (with_reducible exact LeO.none _)
      | (with_reducible refine LeO.ite ?_ ?_)
      | (with_reducible refine LeO.bind ?_ (fun _ => ?_))
      | exact ih0 _ _ _ _
      | exact ih1 _ _ _ _ _
      | exact cleatref01_Bit.mono _ _ _
      | exact cleatref01_Power.mono _ _
      | exact cleatref01_Small.mono _ _ _
      | exact LeO.none _
      | refine LeO.ite ?_ ?_
      | refine LeO.bind ?_ (fun _ => ?_)
theorem cleatref01_Rotate.mono : ∀ a0 a1 a2 k, LeO (cleatref01_Rotate.f k a0 a1 a2) (cleatref01_Rotate.f (k + 1) a0 a1 a2) := by
  intro a0 a1 a2 k
  obtain ⟨ih0, ih1⟩ := cleatref01_Rotate.mono_l k
  unfold cleatref01_Rotate.f
  repeat' first
      | (with_reducible exact ih0 _ _ _ _)
      | (with_reducible exact ih1 _ _ _ _ _)
      | (with_reducible exact cleatref01_Bit.mono _ _ _)
      | (with_reducible exact cleatref01_Power.mono _ _)
      | (with_reducible exact cleatref01_Small.mono _ _ _)
      | (with_reducible exact LeO.refl _)
      | (with_reducible exact LeO.none _)
      | (with_reducible refine LeO.ite ?_ ?_)
      | (with_reducible refine LeO.bind ?_ (fun _ => ?_))
      | exact ih0 _ _ _ _
      | exact ih1 _ _ _ _ _
      | exact cleatref01_Bit.mono _ _ _
      | exact cleatref01_Power.mono _ _
      | exact cleatref01_Small.mono _ _ _
      | exact LeO.none _
      | refine LeO.ite ?_ ?_
      | refine LeO.bind ?_ (fun _ => ?_)
set_option maxHeartbeats 8000000 in
set_option maxRecDepth 100000 in
theorem cleatref01_Rotate.calls (k : Nat) (a0 : Int) (a1 : Int) (a2 : Int) (r1 : Int) (r2 : Int) (w : World) (h : cleatref01_Rotate.f k a0 a1 a2 = some (r1, r2)) :
    Calls Try.prog 32 #[.int .u64 a0, .int .i64 a1, .int .i64 a2] w fun e w' => e = .returned (.tuple #[.int .u64 r1, .int .i64 r2]) ∧ Drawn0 w w' := by
  have H : (if a2 = 2 then (if a1 < 0 then (cleatref01_Rotate.j0 k a0 a1 a2 true) else (cleatref01_Rotate.j0 k a0 a1 a2 (decide (a1 ≥ a2)))) else (if a2 = 4 then (if a1 < 0 then (cleatref01_Rotate.j0 k a0 a1 a2 true) else (cleatref01_Rotate.j0 k a0 a1 a2 (decide (a1 ≥ a2)))) else (if a2 = 8 then (if a1 < 0 then (cleatref01_Rotate.j0 k a0 a1 a2 true) else (cleatref01_Rotate.j0 k a0 a1 a2 (decide (a1 ≥ a2)))) else (if a2 = 16 then (if a1 < 0 then (cleatref01_Rotate.j0 k a0 a1 a2 true) else (cleatref01_Rotate.j0 k a0 a1 a2 (decide (a1 ≥ a2)))) else (if a2 = 32 then (if a1 < 0 then (cleatref01_Rotate.j0 k a0 a1 a2 true) else (cleatref01_Rotate.j0 k a0 a1 a2 (decide (a1 ≥ a2)))) else (if a2 = 64 then (if a1 < 0 then (cleatref01_Rotate.j0 k a0 a1 a2 true) else (cleatref01_Rotate.j0 k a0 a1 a2 (decide (a1 ≥ a2)))) else (cleatref01_Rotate.j0 k a0 a1 a2 true))))))) = some (r1, r2) := h
  clear h
  have HC4 := Aside0.mk H
  clear H
  go_enter Try.func32, Try.ntmps32
  go_upto_region 1 with (fail)
  go_cut [40] (fun v40 wc => ∃ (kq : Nat) (x40_3 : Bool), v40 = .bool x40_3 ∧ Aside0 (cleatref01_Rotate.j0 kq a0 a1 a2 x40_3 = some (r1, r2)) ∧ Aside0 (kq ≤ k) ∧ Drawn0 w wc)
  case first =>
    have H := HC4.out
    clear HC4
    by_cases c5 : a2 = 2
    · rw [if_pos c5] at H
      have c5b0 : (a2 == 2) = true := beq_iff_eq.mpr c5
      have c5b1 : (a2 != 2) = false := bne_eq_false_iff_eq.mpr c5
      clear c5
      (first | rw [c5b0] | (simp only [i64_w, i32_w]; rw [c5b0]) | skip)
      by_cases c6 : a1 < 0
      · rw [if_pos c6] at H
        have c6b0 : decide (a1 < 0) = true := decide_eq_true c6
        clear c6
        have H' := Aside0.mk H
        clear H
        go_wp2
        go_meet
        case rel => exact ⟨_, (true), (by first | rfl | (simp; done) | (simp [*]; done)), H', ⟨by first | omega | exact Nat.le_refl _⟩, by repeat (first | exact Drawn0.refl _ | apply Drawn0.step)⟩
      · rw [if_neg c6] at H
        have c6b0 : decide (a1 < 0) = false := decide_eq_false c6
        clear c6
        have H' := Aside0.mk H
        clear H
        go_wp2
        go_meet
        case rel => exact ⟨_, (decide (a1 ≥ a2)), (by first | rfl | (simp; done) | (simp [*]; done)), H', ⟨by first | omega | exact Nat.le_refl _⟩, by repeat (first | exact Drawn0.refl _ | apply Drawn0.step)⟩
    · rw [if_neg c5] at H
      have c5b0 : (a2 == 2) = false := beq_eq_false_iff_ne.mpr c5
      have c5b1 : (a2 != 2) = true := bne_iff_ne.mpr c5
      (first | rw [c5b0] | (simp only [i64_w, i32_w]; rw [c5b0]) | skip)
      by_cases c7 : a2 = 4
      · rw [if_pos c7] at H
        have c7b0 : (a2 == 4) = true := beq_iff_eq.mpr c7
        have c7b1 : (a2 != 4) = false := bne_eq_false_iff_eq.mpr c7
        clear c7
        by_cases c8 : a1 < 0
        · rw [if_pos c8] at H
          have c8b0 : decide (a1 < 0) = true := decide_eq_true c8
          clear c8
          have H' := Aside0.mk H
          clear H
          go_wp2
          go_meet
          case rel => exact ⟨_, (true), (by first | rfl | (simp; done) | (simp [*]; done)), H', ⟨by first | omega | exact Nat.le_refl _⟩, by repeat (first | exact Drawn0.refl _ | apply Drawn0.step)⟩
        · rw [if_neg c8] at H
          have c8b0 : decide (a1 < 0) = false := decide_eq_false c8
          clear c8
          have H' := Aside0.mk H
          clear H
          go_wp2
          go_meet
          case rel => exact ⟨_, (decide (a1 ≥ a2)), (by first | rfl | (simp; done) | (simp [*]; done)), H', ⟨by first | omega | exact Nat.le_refl _⟩, by repeat (first | exact Drawn0.refl _ | apply Drawn0.step)⟩
      · rw [if_neg c7] at H
        have c7b0 : (a2 == 4) = false := beq_eq_false_iff_ne.mpr c7
        have c7b1 : (a2 != 4) = true := bne_iff_ne.mpr c7
        by_cases c9 : a2 = 8
        · rw [if_pos c9] at H
          have c9b0 : (a2 == 8) = true := beq_iff_eq.mpr c9
          have c9b1 : (a2 != 8) = false := bne_eq_false_iff_eq.mpr c9
          clear c9
          by_cases c10 : a1 < 0
          · rw [if_pos c10] at H
            have c10b0 : decide (a1 < 0) = true := decide_eq_true c10
            clear c10
            have H' := Aside0.mk H
            clear H
            go_wp2
            go_meet
            case rel => exact ⟨_, (true), (by first | rfl | (simp; done) | (simp [*]; done)), H', ⟨by first | omega | exact Nat.le_refl _⟩, by repeat (first | exact Drawn0.refl _ | apply Drawn0.step)⟩
          · rw [if_neg c10] at H
            have c10b0 : decide (a1 < 0) = false := decide_eq_false c10
            clear c10
            have H' := Aside0.mk H
            clear H
            go_wp2
            go_meet
            case rel => exact ⟨_, (decide (a1 ≥ a2)), (by first | rfl | (simp; done) | (simp [*]; done)), H', ⟨by first | omega | exact Nat.le_refl _⟩, by repeat (first | exact Drawn0.refl _ | apply Drawn0.step)⟩
        · rw [if_neg c9] at H
          have c9b0 : (a2 == 8) = false := beq_eq_false_iff_ne.mpr c9
          have c9b1 : (a2 != 8) = true := bne_iff_ne.mpr c9
          by_cases c11 : a2 = 16
          · rw [if_pos c11] at H
            have c11b0 : (a2 == 16) = true := beq_iff_eq.mpr c11
            have c11b1 : (a2 != 16) = false := bne_eq_false_iff_eq.mpr c11
            clear c11
            by_cases c12 : a1 < 0
            · rw [if_pos c12] at H
              have c12b0 : decide (a1 < 0) = true := decide_eq_true c12
              clear c12
              have H' := Aside0.mk H
              clear H
              go_wp2
              go_meet
              case rel => exact ⟨_, (true), (by first | rfl | (simp; done) | (simp [*]; done)), H', ⟨by first | omega | exact Nat.le_refl _⟩, by repeat (first | exact Drawn0.refl _ | apply Drawn0.step)⟩
            · rw [if_neg c12] at H
              have c12b0 : decide (a1 < 0) = false := decide_eq_false c12
              clear c12
              have H' := Aside0.mk H
              clear H
              go_wp2
              go_meet
              case rel => exact ⟨_, (decide (a1 ≥ a2)), (by first | rfl | (simp; done) | (simp [*]; done)), H', ⟨by first | omega | exact Nat.le_refl _⟩, by repeat (first | exact Drawn0.refl _ | apply Drawn0.step)⟩
          · rw [if_neg c11] at H
            have c11b0 : (a2 == 16) = false := beq_eq_false_iff_ne.mpr c11
            have c11b1 : (a2 != 16) = true := bne_iff_ne.mpr c11
            by_cases c13 : a2 = 32
            · rw [if_pos c13] at H
              have c13b0 : (a2 == 32) = true := beq_iff_eq.mpr c13
              have c13b1 : (a2 != 32) = false := bne_eq_false_iff_eq.mpr c13
              clear c13
              by_cases c14 : a1 < 0
              · rw [if_pos c14] at H
                have c14b0 : decide (a1 < 0) = true := decide_eq_true c14
                clear c14
                have H' := Aside0.mk H
                clear H
                go_wp2
                go_meet
                case rel => exact ⟨_, (true), (by first | rfl | (simp; done) | (simp [*]; done)), H', ⟨by first | omega | exact Nat.le_refl _⟩, by repeat (first | exact Drawn0.refl _ | apply Drawn0.step)⟩
              · rw [if_neg c14] at H
                have c14b0 : decide (a1 < 0) = false := decide_eq_false c14
                clear c14
                have H' := Aside0.mk H
                clear H
                go_wp2
                go_meet
                case rel => exact ⟨_, (decide (a1 ≥ a2)), (by first | rfl | (simp; done) | (simp [*]; done)), H', ⟨by first | omega | exact Nat.le_refl _⟩, by repeat (first | exact Drawn0.refl _ | apply Drawn0.step)⟩
            · rw [if_neg c13] at H
              have c13b0 : (a2 == 32) = false := beq_eq_false_iff_ne.mpr c13
              have c13b1 : (a2 != 32) = true := bne_iff_ne.mpr c13
              by_cases c15 : a2 = 64
              · rw [if_pos c15] at H
                have c15b0 : (a2 == 64) = true := beq_iff_eq.mpr c15
                have c15b1 : (a2 != 64) = false := bne_eq_false_iff_eq.mpr c15
                clear c15
                by_cases c16 : a1 < 0
                · rw [if_pos c16] at H
                  have c16b0 : decide (a1 < 0) = true := decide_eq_true c16
                  clear c16
                  have H' := Aside0.mk H
                  clear H
                  go_wp2
                  go_meet
                  case rel => exact ⟨_, (true), (by first | rfl | (simp; done) | (simp [*]; done)), H', ⟨by first | omega | exact Nat.le_refl _⟩, by repeat (first | exact Drawn0.refl _ | apply Drawn0.step)⟩
                · rw [if_neg c16] at H
                  have c16b0 : decide (a1 < 0) = false := decide_eq_false c16
                  clear c16
                  have H' := Aside0.mk H
                  clear H
                  go_wp2
                  go_meet
                  case rel => exact ⟨_, (decide (a1 ≥ a2)), (by first | rfl | (simp; done) | (simp [*]; done)), H', ⟨by first | omega | exact Nat.le_refl _⟩, by repeat (first | exact Drawn0.refl _ | apply Drawn0.step)⟩
              · rw [if_neg c15] at H
                have c15b0 : (a2 == 64) = false := beq_eq_false_iff_ne.mpr c15
                have c15b1 : (a2 != 64) = true := bne_iff_ne.mpr c15
                have H' := Aside0.mk H
                clear H
                go_wp2
                go_meet
                case rel => exact ⟨_, (true), (by first | rfl | (simp; done) | (simp [*]; done)), H', ⟨by first | omega | exact Nat.le_refl _⟩, by repeat (first | exact Drawn0.refl _ | apply Drawn0.step)⟩
  case rest =>
    clear HC4
    try clear c1
    try clear p2
    try clear c3
    try clear c5
    try clear c5b0
    try clear c5b1
    try clear c6
    try clear c6b0
    try clear c7
    try clear c7b0
    try clear c7b1
    try clear c8
    try clear c8b0
    try clear c9
    try clear c9b0
    try clear c9b1
    try clear c10
    try clear c10b0
    try clear c11
    try clear c11b0
    try clear c11b1
    try clear c12
    try clear c12b0
    try clear c13
    try clear c13b0
    try clear c13b1
    try clear c14
    try clear c14b0
    try clear c15
    try clear c15b0
    try clear c15b1
    try clear c16
    try clear c16b0
    obtain ⟨kq, x40_3, rfl, HA, HJ3, ⟨mc3, rfl⟩⟩ := hcut
    cases kq with
    | zero => exact absurd HA.out (by simp [cleatref01_Rotate.j0])
    | succ kj3 =>
      have H := HA.out
      clear HA
      simp only [cleatref01_Rotate.j0] at H
      by_cases c17 : x40_3 = true
      · subst c17
        have H1 : (some (0, 1)) = some (r1, r2) := by rw [if_pos rfl] at H; exact H
        clear H
        have H := H1
        clear H1
        simp only [Option.some.injEq, Prod.mk.injEq] at H
        obtain ⟨rfl, rfl⟩ := H
        go_wp2
        go_ret2
        exact ⟨by first | rfl | (simp; done) | (simp [*]; done), by repeat (first | exact Drawn0.refl _ | apply Drawn0.step)⟩
      · replace c17 := Bool.eq_false_iff.mpr c17
        subst c17
        have H1 : ((cleatref01_Small.f kj3 a0 a2).bind fun t321 => (if t321 = true then (cleatref01_Rotate.l0 kj3 a0 a1 a2 0 0) else (some (0, 4)))) = some (r1, r2) := by rw [if_neg (show ¬ (false = true) by decide)] at H; exact H
        clear H
        have H := H1
        clear H1
        replace H := Option.bind_eq_some_iff.mp H
        obtain ⟨t321, A180, H⟩ := H
        replace H : (if t321 = true then (cleatref01_Rotate.l0 kj3 a0 a1 a2 0 0) else (some (0, 4))) = some (r1, r2) := H
        have A18 := Aside0.mk A180
        clear A180
        by_cases c19 : t321 = true
        · subst c19
          have H1 : (cleatref01_Rotate.l0 kj3 a0 a1 a2 0 0) = some (r1, r2) := by rw [if_pos rfl] at H; exact H
          clear H
          have H := H1
          clear H1
          have H' := Aside0.mk H
          clear H
          go_wp2_with (first | ((with_reducible refine gate_callee (f := 53) rfl ?_); refine goesL_ (some 43) rfl rfl Try.func53 (by kernel_rfl) rfl #[.int .u64 a0, .int .i64 a2] rfl (by (try simp only [List.map_toArray, List.map_cons, List.map_nil]); first | done | rfl | (simp only [List.length_drop, List.length_take]; rfl)) ?_; (with_reducible refine (cleatref01_Small.calls kj3 a0 a2 true _ A18.out).mono ?_); rintro e w' ⟨rfl, ⟨nd, rfl⟩⟩; refine ⟨_, rfl, ?_⟩))
          go_loopg [8, 9] kj3 (fun kq v8 v9 w' => ∃ (x8_2 : Int) (x9_2 : Int), v8 = .int .u64 x8_2 ∧ v9 = .int .i64 x9_2 ∧ Aside0 (cleatref01_Rotate.l0 kq a0 a1 a2 x8_2 x9_2 = some (r1, r2)) ∧ Aside0 (kq ≤ kj3) ∧ Drawn0 w w')
          case atStart => exact ⟨(0), (0), (by first | rfl | (simp; done) | (simp [*]; done)), (by first | rfl | (simp; done) | (simp [*]; done)), H', ⟨Nat.le_refl _⟩, by repeat (first | exact Drawn0.refl _ | apply Drawn0.step)⟩
          case round =>
            clear H'
            try clear c1
            try clear p2
            try clear c3
            try clear c5
            try clear c5b0
            try clear c5b1
            try clear c6
            try clear c6b0
            try clear c7
            try clear c7b0
            try clear c7b1
            try clear c8
            try clear c8b0
            try clear c9
            try clear c9b0
            try clear c9b1
            try clear c10
            try clear c10b0
            try clear c11
            try clear c11b0
            try clear c11b1
            try clear c12
            try clear c12b0
            try clear c13
            try clear c13b0
            try clear c13b1
            try clear c14
            try clear c14b0
            try clear c15
            try clear c15b0
            try clear c15b1
            try clear c16
            try clear c16b0
            try clear c17
            try clear c19
            try clear p2
            obtain ⟨x8_2, x9_2, rfl, rfl, HA, HK2, ⟨m2, rfl⟩⟩ := hrel
            cases gk with
            | zero => exact absurd HA.out (by simp [cleatref01_Rotate.l0])
            | succ k2 =>
              have H := HA.out
              clear HA
              simp only [cleatref01_Rotate.l0] at H
              by_cases c20 : x9_2 < a2
              · rw [if_pos c20] at H
                have c20b0 : decide (x9_2 < a2) = true := decide_eq_true c20
                clear c20
                by_cases c21 : a2 = 0
                · rw [if_pos c21] at H
                  exact absurd H (by simp)
                · rw [if_neg c21] at H
                  have c21b0 : (a2 == 0) = false := beq_eq_false_iff_ne.mpr c21
                  have c21b1 : (a2 != 0) = true := bne_iff_ne.mpr c21
                  replace H := Option.bind_eq_some_iff.mp H
                  obtain ⟨t322, A220, H⟩ := H
                  replace H : (if t322 = true then ((cleatref01_Power.f k2 x9_2).bind fun t323 => (cleatref01_Rotate.l0 k2 a0 a1 a2 (IntKind.u64.wrap (x8_2 + t323)) (wrap64 (x9_2 + 1)))) else (cleatref01_Rotate.l0 k2 a0 a1 a2 x8_2 (wrap64 (x9_2 + 1)))) = some (r1, r2) := H
                  have A22 := Aside0.mk A220
                  clear A220
                  by_cases c23 : t322 = true
                  · subst c23
                    have H1 : ((cleatref01_Power.f k2 x9_2).bind fun t323 => (cleatref01_Rotate.l0 k2 a0 a1 a2 (IntKind.u64.wrap (x8_2 + t323)) (wrap64 (x9_2 + 1)))) = some (r1, r2) := by rw [if_pos rfl] at H; exact H
                    clear H
                    have H := H1
                    clear H1
                    replace H := Option.bind_eq_some_iff.mp H
                    obtain ⟨t323, A240, H⟩ := H
                    replace H : (cleatref01_Rotate.l0 k2 a0 a1 a2 (IntKind.u64.wrap (x8_2 + t323)) (wrap64 (x9_2 + 1))) = some (r1, r2) := H
                    have A24 := Aside0.mk A240
                    clear A240
                    have H' := Aside0.mk H
                    clear H
                    go_wp2_with (first | ((with_reducible refine gate_callee (f := 42) rfl ?_); refine goesL_ (some 56) rfl rfl Try.func42 (by kernel_rfl) rfl #[.int .u64 a0, .int .i64 (Int.tmod (wrap64 (x9_2 + a1)) a2)] rfl (by (try simp only [List.map_toArray, List.map_cons, List.map_nil]); first | done | rfl | (simp only [List.length_drop, List.length_take]; rfl)) ?_; (with_reducible refine (cleatref01_Bit.calls k2 a0 (Int.tmod (wrap64 (x9_2 + a1)) a2) true _ A22.out).mono ?_); rintro e w' ⟨rfl, ⟨nd, rfl⟩⟩; refine ⟨_, rfl, ?_⟩) | ((with_reducible refine gate_callee (f := 43) rfl ?_); refine goesL_ (some 59) rfl rfl Try.func43 (by kernel_rfl) rfl #[.int .i64 x9_2] rfl (by (try simp only [List.map_toArray, List.map_cons, List.map_nil]); first | done | rfl | (simp only [List.length_drop, List.length_take]; rfl)) ?_; (with_reducible refine (cleatref01_Power.calls k2 x9_2 t323 _ A24.out).mono ?_); rintro e w' ⟨rfl, ⟨nd, rfl⟩⟩; refine ⟨_, rfl, ?_⟩))
                    go_roundg k2
                    case measure => have := HJ3.out; have := HK2.out; omega
                    case rel => exact ⟨(IntKind.u64.wrap (x8_2 + t323)), (wrap64 (x9_2 + 1)), (by first | rfl | (simp; done) | (simp [*]; done)), (by first | rfl | (simp; done) | (simp [*]; done)), H', ⟨by have := HJ3.out; have := HK2.out; omega⟩, by repeat (first | exact Drawn0.refl _ | apply Drawn0.step)⟩
                  · replace c23 := Bool.eq_false_iff.mpr c23
                    subst c23
                    have H1 : (cleatref01_Rotate.l0 k2 a0 a1 a2 x8_2 (wrap64 (x9_2 + 1))) = some (r1, r2) := by rw [if_neg (show ¬ (false = true) by decide)] at H; exact H
                    clear H
                    have H := H1
                    clear H1
                    have H' := Aside0.mk H
                    clear H
                    go_wp2_with (first | ((with_reducible refine gate_callee (f := 42) rfl ?_); refine goesL_ (some 56) rfl rfl Try.func42 (by kernel_rfl) rfl #[.int .u64 a0, .int .i64 (Int.tmod (wrap64 (x9_2 + a1)) a2)] rfl (by (try simp only [List.map_toArray, List.map_cons, List.map_nil]); first | done | rfl | (simp only [List.length_drop, List.length_take]; rfl)) ?_; (with_reducible refine (cleatref01_Bit.calls k2 a0 (Int.tmod (wrap64 (x9_2 + a1)) a2) false _ A22.out).mono ?_); rintro e w' ⟨rfl, ⟨nd, rfl⟩⟩; refine ⟨_, rfl, ?_⟩))
                    go_roundg k2
                    case measure => have := HJ3.out; have := HK2.out; omega
                    case rel => exact ⟨(x8_2), (wrap64 (x9_2 + 1)), (by first | rfl | (simp; done) | (simp [*]; done)), (by first | rfl | (simp; done) | (simp [*]; done)), H', ⟨by have := HJ3.out; have := HK2.out; omega⟩, by repeat (first | exact Drawn0.refl _ | apply Drawn0.step)⟩
              · rw [if_neg c20] at H
                have c20b0 : decide (x9_2 < a2) = false := decide_eq_false c20
                clear c20
                simp only [Option.some.injEq, Prod.mk.injEq] at H
                obtain ⟨rfl, rfl⟩ := H
                go_wp2
                go_ret2
                exact ⟨by first | rfl | (simp; done) | (simp [*]; done), by repeat (first | exact Drawn0.refl _ | apply Drawn0.step)⟩
        · replace c19 := Bool.eq_false_iff.mpr c19
          subst c19
          have H1 : (some (0, 4)) = some (r1, r2) := by rw [if_neg (show ¬ (false = true) by decide)] at H; exact H
          clear H
          have H := H1
          clear H1
          simp only [Option.some.injEq, Prod.mk.injEq] at H
          obtain ⟨rfl, rfl⟩ := H
          go_wp2_with (first | ((with_reducible refine gate_callee (f := 53) rfl ?_); refine goesL_ (some 43) rfl rfl Try.func53 (by kernel_rfl) rfl #[.int .u64 a0, .int .i64 a2] rfl (by (try simp only [List.map_toArray, List.map_cons, List.map_nil]); first | done | rfl | (simp only [List.length_drop, List.length_take]; rfl)) ?_; (with_reducible refine (cleatref01_Small.calls kj3 a0 a2 false _ A18.out).mono ?_); rintro e w' ⟨rfl, ⟨nd, rfl⟩⟩; refine ⟨_, rfl, ?_⟩))
          go_ret2
          exact ⟨by first | rfl | (simp; done) | (simp [*]; done), by repeat (first | exact Drawn0.refl _ | apply Drawn0.step)⟩

/-! ### cleatref01_Low: function 34 -/
def cleatref01_Low.f (k : Nat) (a0 : Int) (a1 : Int) : Option (Int) := if a1 ≤ 0 then (some 0) else (if a1 ≥ 64 then (some a0) else ((cleatref01_Power.f k a1).bind fun t324 => (if t324 = 0 then (none) else (some (Int.tmod a0 t324)))))
theorem cleatref01_Low.mono : ∀ a0 a1 k, LeO (cleatref01_Low.f k a0 a1) (cleatref01_Low.f (k + 1) a0 a1) := by
  intro a0 a1 k
  unfold cleatref01_Low.f
  repeat' first
      | (with_reducible exact cleatref01_Power.mono _ _)
      | (with_reducible exact LeO.refl _)
      | (with_reducible exact LeO.none _)
      | (with_reducible refine LeO.ite ?_ ?_)
      | (with_reducible refine LeO.bind ?_ (fun _ => ?_))
      | exact cleatref01_Power.mono _ _
      | exact LeO.none _
      | refine LeO.ite ?_ ?_
      | refine LeO.bind ?_ (fun _ => ?_)
set_option maxHeartbeats 8000000 in
set_option maxRecDepth 100000 in
theorem cleatref01_Low.calls (k : Nat) (a0 : Int) (a1 : Int) (r : Int) (w : World) (h : cleatref01_Low.f k a0 a1 = some r) :
    Calls Try.prog 34 #[.int .u64 a0, .int .i64 a1] w fun e w' => e = .returned (.int .u64 r) ∧ Drawn0 w w' := by
  have H : (if a1 ≤ 0 then (some 0) else (if a1 ≥ 64 then (some a0) else ((cleatref01_Power.f k a1).bind fun t324 => (if t324 = 0 then (none) else (some (Int.tmod a0 t324)))))) = some r := h
  clear h
  by_cases c3 : a1 ≤ 0
  · rw [if_pos c3] at H
    have c3b0 : decide (a1 ≤ 0) = true := decide_eq_true c3
    clear c3
    obtain rfl := Option.some.inj H
    go_enter Try.func34, Try.ntmps34
    go_wp2
    go_ret
    exact ⟨by first | rfl | (simp; done) | (simp [*]; done), by repeat (first | exact Drawn0.refl _ | apply Drawn0.step)⟩
  · rw [if_neg c3] at H
    have c3b0 : decide (a1 ≤ 0) = false := decide_eq_false c3
    clear c3
    by_cases c4 : a1 ≥ 64
    · rw [if_pos c4] at H
      have c4b0 : decide (64 ≤ a1) = true := decide_eq_true c4
      clear c4
      obtain rfl := Option.some.inj H
      go_enter Try.func34, Try.ntmps34
      go_wp2
      go_ret
      exact ⟨by first | rfl | (simp; done) | (simp [*]; done), by repeat (first | exact Drawn0.refl _ | apply Drawn0.step)⟩
    · rw [if_neg c4] at H
      have c4b0 : decide (64 ≤ a1) = false := decide_eq_false c4
      clear c4
      replace H := Option.bind_eq_some_iff.mp H
      obtain ⟨t324, A50, H⟩ := H
      replace H : (if t324 = 0 then (none) else (some (Int.tmod a0 t324))) = some r := H
      have A5 := Aside0.mk A50
      clear A50
      by_cases c6 : t324 = 0
      · rw [if_pos c6] at H
        exact absurd H (by simp)
      · rw [if_neg c6] at H
        have c6b0 : (t324 == 0) = false := beq_eq_false_iff_ne.mpr c6
        have c6b1 : (t324 != 0) = true := bne_iff_ne.mpr c6
        obtain rfl := Option.some.inj H
        go_enter Try.func34, Try.ntmps34
        go_wp2_with (first | ((with_reducible refine gate_callee (f := 43) rfl ?_); refine goesL_ (some 12) rfl rfl Try.func43 (by kernel_rfl) rfl #[.int .i64 a1] rfl (by (try simp only [List.map_toArray, List.map_cons, List.map_nil]); first | done | rfl | (simp only [List.length_drop, List.length_take]; rfl)) ?_; (with_reducible refine (cleatref01_Power.calls k a1 t324 _ A5.out).mono ?_); rintro e w' ⟨rfl, ⟨nd, rfl⟩⟩; refine ⟨_, rfl, ?_⟩))
        go_ret
        exact ⟨by first | rfl | (simp; done) | (simp [*]; done), by repeat (first | exact Drawn0.refl _ | apply Drawn0.step)⟩

/-! ### cleatlaw01_BitsTurned: function 8 -/
def cleatlaw01_BitsTurned.f (k : Nat) (a0 : Int) (a1 : Int) (a2 : Int) (a3 : Int) : Option (Bool) := (bits_Rotate.f k a0 a1 a2).bind fun bt325 => ((cleatref01_Rotate.f k a0 a1 a2).bind fun bt327 => ((cleatlaw01_told.f k).bind fun t329 => (if t329 = true then (if bt325.1 = bt327.1 then (if bt325.2 = bt327.2 then ((bits_Low.f a0 a3).bind fun t330 => ((cleatref01_Low.f k a0 a3).bind fun t331 => (some (t330 == t331)))) else (none)) else (none)) else (none))))
theorem cleatlaw01_BitsTurned.mono : ∀ a0 a1 a2 a3 k, LeO (cleatlaw01_BitsTurned.f k a0 a1 a2 a3) (cleatlaw01_BitsTurned.f (k + 1) a0 a1 a2 a3) := by
  intro a0 a1 a2 a3 k
  unfold cleatlaw01_BitsTurned.f
  repeat' first
      | (with_reducible exact bits_Rotate.mono _ _ _ _)
      | (with_reducible exact cleatlaw01_told.mono _)
      | (with_reducible exact cleatref01_Low.mono _ _ _)
      | (with_reducible exact cleatref01_Rotate.mono _ _ _ _)
      | (with_reducible exact LeO.refl _)
      | (with_reducible exact LeO.none _)
      | (with_reducible refine LeO.ite ?_ ?_)
      | (with_reducible refine LeO.bind ?_ (fun _ => ?_))
      | exact bits_Rotate.mono _ _ _ _
      | exact cleatlaw01_told.mono _
      | exact cleatref01_Low.mono _ _ _
      | exact cleatref01_Rotate.mono _ _ _ _
      | exact LeO.none _
      | refine LeO.ite ?_ ?_
      | refine LeO.bind ?_ (fun _ => ?_)
set_option maxHeartbeats 8000000 in
set_option maxRecDepth 100000 in
theorem cleatlaw01_BitsTurned.calls (k : Nat) (a0 : Int) (a1 : Int) (a2 : Int) (a3 : Int) (r : Bool) (w : World) (h : cleatlaw01_BitsTurned.f k a0 a1 a2 a3 = some r) :
    Calls Try.prog 8 #[.int .u64 a0, .int .i64 a1, .int .i64 a2, .int .i64 a3] w fun e w' => e = .returned (.bool r) ∧ Below w.heap.size w w' := by
  have HB := Aside0.mk (Below.refl w.heap.size w)
  have H : ((bits_Rotate.f k a0 a1 a2).bind fun bt325 => ((cleatref01_Rotate.f k a0 a1 a2).bind fun bt327 => ((cleatlaw01_told.f k).bind fun t329 => (if t329 = true then (if bt325.1 = bt327.1 then (if bt325.2 = bt327.2 then ((bits_Low.f a0 a3).bind fun t330 => ((cleatref01_Low.f k a0 a3).bind fun t331 => (some (t330 == t331)))) else (none)) else (none)) else (none))))) = some r := h
  clear h
  replace H := Option.bind_eq_some_iff.mp H
  obtain ⟨⟨t325, t326⟩, A50, H⟩ := H
  replace H : ((cleatref01_Rotate.f k a0 a1 a2).bind fun bt327 => ((cleatlaw01_told.f k).bind fun t329 => (if t329 = true then (if t325 = bt327.1 then (if t326 = bt327.2 then ((bits_Low.f a0 a3).bind fun t330 => ((cleatref01_Low.f k a0 a3).bind fun t331 => (some (t330 == t331)))) else (none)) else (none)) else (none)))) = some r := H
  have A5 := Aside0.mk A50
  clear A50
  replace H := Option.bind_eq_some_iff.mp H
  obtain ⟨⟨t327, t328⟩, A60, H⟩ := H
  replace H : ((cleatlaw01_told.f k).bind fun t329 => (if t329 = true then (if t325 = t327 then (if t326 = t328 then ((bits_Low.f a0 a3).bind fun t330 => ((cleatref01_Low.f k a0 a3).bind fun t331 => (some (t330 == t331)))) else (none)) else (none)) else (none))) = some r := H
  have A6 := Aside0.mk A60
  clear A60
  replace H := Option.bind_eq_some_iff.mp H
  obtain ⟨t329, A70, H⟩ := H
  replace H : (if t329 = true then (if t325 = t327 then (if t326 = t328 then ((bits_Low.f a0 a3).bind fun t330 => ((cleatref01_Low.f k a0 a3).bind fun t331 => (some (t330 == t331)))) else (none)) else (none)) else (none)) = some r := H
  have A7 := Aside0.mk A70
  clear A70
  by_cases c8 : t329 = true
  · subst c8
    have H1 : (if t325 = t327 then (if t326 = t328 then ((bits_Low.f a0 a3).bind fun t330 => ((cleatref01_Low.f k a0 a3).bind fun t331 => (some (t330 == t331)))) else (none)) else (none)) = some r := by rw [if_pos rfl] at H; exact H
    clear H
    have H := H1
    clear H1
    by_cases c9 : t325 = t327
    · rw [if_pos c9] at H
      have c9b0 : (t325 == t327) = true := beq_iff_eq.mpr c9
      have c9b1 : (t325 != t327) = false := bne_eq_false_iff_eq.mpr c9
      clear c9
      by_cases c10 : t326 = t328
      · rw [if_pos c10] at H
        have c10b0 : (t326 == t328) = true := beq_iff_eq.mpr c10
        have c10b1 : (t326 != t328) = false := bne_eq_false_iff_eq.mpr c10
        clear c10
        replace H := Option.bind_eq_some_iff.mp H
        obtain ⟨t330, A110, H⟩ := H
        replace H : ((cleatref01_Low.f k a0 a3).bind fun t331 => (some (t330 == t331))) = some r := H
        have A11 := Aside0.mk A110
        clear A110
        replace H := Option.bind_eq_some_iff.mp H
        obtain ⟨t331, A120, H⟩ := H
        replace H : (some (t330 == t331)) = some r := H
        have A12 := Aside0.mk A120
        clear A120
        obtain rfl := Option.some.inj H
        go_enter Try.func8, Try.ntmps8
        go_wp2_with (first | ((with_reducible refine gate_callee (f := 31) rfl ?_); refine goesL_ (some 17) rfl rfl Try.func31 (by kernel_rfl) rfl #[.int .u64 a0, .int .i64 a1, .int .i64 a2] rfl (by (try simp only [List.map_toArray, List.map_cons, List.map_nil]); first | done | rfl | (simp only [List.length_drop, List.length_take]; rfl)) ?_; (with_reducible refine (bits_Rotate.calls k a0 a1 a2 t325 t326 _ A5.out).mono ?_); rintro e w13 ⟨rfl, hb⟩; refine ⟨_, rfl, ?_⟩; have n0_ := Aside0.mk (below_step (by repeat (first | (with_reducible first | exact HB.out | apply below_alloc | apply pw_below_drewN | apply below_drew1) | exact HB.out)) hb); clear HB; have HB := n0_; clear n0_; (try clear hb); (try clear hb2); (try clear hk); (try clear hi)) | ((with_reducible refine gate_callee (f := 32) rfl ?_); refine goesL_ (some 24) rfl rfl Try.func32 (by kernel_rfl) rfl #[.int .u64 a0, .int .i64 a1, .int .i64 a2] rfl (by (try simp only [List.map_toArray, List.map_cons, List.map_nil]); first | done | rfl | (simp only [List.length_drop, List.length_take]; rfl)) ?_; (with_reducible refine (cleatref01_Rotate.calls k a0 a1 a2 t327 t328 _ A6.out).mono ?_); rintro e w' ⟨rfl, ⟨nd, rfl⟩⟩; refine ⟨_, rfl, ?_⟩) | ((with_reducible refine gate_callee (f := 30) rfl ?_); refine goesL_ (some 27) rfl rfl Try.func30 (by kernel_rfl) rfl #[] rfl (by (try simp only [List.map_toArray, List.map_cons, List.map_nil]); first | done | rfl | (simp only [List.length_drop, List.length_take]; rfl)) ?_; (with_reducible refine (cleatlaw01_told.calls k  true _ A7.out).mono ?_); rintro e w14 ⟨rfl, hb⟩; refine ⟨_, rfl, ?_⟩; have n0_ := Aside0.mk (below_step (by repeat (first | (with_reducible first | exact HB.out | apply below_alloc | apply pw_below_drewN | apply below_drew1) | exact HB.out)) hb); clear HB; have HB := n0_; clear n0_; (try clear hb); (try clear hb2); (try clear hk); (try clear hi)) | (go_at_call 33; (with_reducible refine (bits_Low.calls a0 a3 t330 _ A11.out).mono ?_); rintro e w15 ⟨rfl, hb⟩; have n0_ := Aside0.mk (below_step (by repeat (first | (with_reducible first | exact HB.out | apply below_alloc | apply pw_below_drewN | apply below_drew1) | exact HB.out)) hb); clear HB; have HB := n0_; clear n0_; (try clear hb); (try clear hb2); (try clear hk); (try clear hi)) | (go_at_call 34; (with_reducible refine (cleatref01_Low.calls k a0 a3 t331 _ A12.out).mono ?_); rintro e w' ⟨rfl, ⟨nd, rfl⟩⟩))
        go_ret
        exact ⟨by first | rfl | (simp [errW_none, errW_some] <;> rfl) | (simp [*, errW_none, errW_some] <;> rfl), by repeat (first | (with_reducible first | exact HB.out | apply below_alloc | apply pw_below_drewN | apply below_drew1) | exact HB.out)⟩
      · rw [if_neg c10] at H
        exact absurd H (by simp)
    · rw [if_neg c9] at H
      exact absurd H (by simp)
  · replace c8 := Bool.eq_false_iff.mpr c8
    subst c8
    have H1 : (none) = some r := by rw [if_neg (show ¬ (false = true) by decide)] at H; exact H
    clear H
    have H := H1
    clear H1
    exact absurd H (by simp)

/-- THE ONE PURE STATEMENT of cleatlaw01_BitsTurned: yours. -/
def cleatlaw01_BitsTurned.Pure : Prop := ∀ (a0 : Int) (a1 : Int) (a2 : Int) (a3 : Int), (Lit.int .u64 a0).wf = true → (Lit.int .i64 a1).wf = true → (Lit.int .i64 a2).wf = true → (Lit.int .i64 a3).wf = true → ∃ k, cleatlaw01_BitsTurned.f k a0 a1 a2 a3 = some true
theorem cleatlaw01_BitsTurned.walk (P : cleatlaw01_BitsTurned.Pure) (a0 : Int) (a1 : Int) (a2 : Int) (a3 : Int) (w : World) (w0 : (Lit.int .u64 a0).wf = true) (w1 : (Lit.int .i64 a1).wf = true) (w2 : (Lit.int .i64 a2).wf = true) (w3 : (Lit.int .i64 a3).wf = true) :
    Calls Try.prog 8 #[.int .u64 a0, .int .i64 a1, .int .i64 a2, .int .i64 a3] w fun e w' => e = .returned (.bool true) ∧ Below w.heap.size w w' := by
  obtain ⟨k, h⟩ := P a0 a1 a2 a3 w0 w1 w2 w3
  refine (cleatlaw01_BitsTurned.calls k a0 a1 a2 a3 true w h).mono ?_
  rintro e w' ⟨rfl, hd⟩
  exact ⟨rfl, hd⟩

end Go.Proofs.Ytclomjndhcpmfaa.P
