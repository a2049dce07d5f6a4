/- Written for this claim by a program of this session (drive.py, over the print of the kit): Lean functions with the answers of Go functions, and the proofs that the Go code comes to these answers, under no condition but the readings of the arguments that each theorem names. -/
import Derived.Test.YtfajpcinmpbhgaaPx0
import Derived.Test.YtfajpcinmpbhgaaPx1
import Derived.Test.YtfajpcinmpbhgaaPx2
import Derived.Test.YtfajpcinmpbhgaaPx4
namespace Go.Proofs.Ytfajpcinmpbhgaa.P
open Go.RowKit Go.Proofs.YtfajpcinmpbhgaaW.PrintWords Go.Proofs.YtfajpcinmpbhgaaW.PrintLast Go.Proofs.YtfajpcinmpbhgaaW.PrintMore
attribute [local go_sem] max2_int min2_int max_two min_two max_three min_three max_four min_four   -- for this text's walks alone
set_option linter.unusedVariables false
set_option linter.unusedSimpArgs false

/-! ### cleatlaw18_WireDoes: function 5 -/
def cleatlaw18_WireDoes.j0 : Nat → Int → Int → ByteArray → Bool → Option (Bool)
  | 0, _, _, _, _ => none
  | k + 1, x0, x1, x2, x27 => (cleatlaw18_sent.f k).bind fun t181 => (if t181 = true then (if x27 = true then ((wire_Put.f x0).bind fun t182 => ((cleatref18_Put.f k x0).bind fun t183 => (if t182.toList = t183.toList then ((wire_PutInt.f x1).bind fun t184 => ((cleatref18_PutInt.f k x1).bind fun t185 => (if t184.toList = t185.toList then ((wire_PutText.f x2).bind fun t186 => ((cleatref18_PutText.f k x2).bind fun t187 => (some (t186.toList == t187.toList)))) else (none)))) else (none)))) else (none)) else (none))
def cleatlaw18_WireDoes.f (k : Nat) (a0 : Int) (a1 : Int) (a2 : ByteArray) (a3 : Int) : Option (Bool) := if (a2.size : Int) > 2000 then (some true) else ((wire_Get.f k a2).bind fun bt163 => ((cleatref18_Get.f k a2).bind fun bt166 => ((wire_GetInt.f k a2).bind fun bt169 => ((cleatref18_GetInt.f k a2).bind fun bt172 => ((wire_GetText.f k a2 a3).bind fun bt175 => ((cleatref18_GetText.f k a2 a3).bind fun bt178 => (if bt163.1 = bt166.1 then (if bt163.2.1 = bt166.2.1 then (if bt163.2.2 = bt166.2.2 then (if bt169.1 = bt172.1 then (if bt169.2.1 = bt172.2.1 then (if bt169.2.2 = bt172.2.2 then (if bt175.1.toList = bt178.1.toList then (if bt175.2.1 = bt178.2.1 then (cleatlaw18_WireDoes.j0 k a0 a1 a2 (bt175.2.2 == bt178.2.2)) else (cleatlaw18_WireDoes.j0 k a0 a1 a2 false)) else (cleatlaw18_WireDoes.j0 k a0 a1 a2 false)) else (cleatlaw18_WireDoes.j0 k a0 a1 a2 false)) else (cleatlaw18_WireDoes.j0 k a0 a1 a2 false)) else (cleatlaw18_WireDoes.j0 k a0 a1 a2 false)) else (cleatlaw18_WireDoes.j0 k a0 a1 a2 false)) else (cleatlaw18_WireDoes.j0 k a0 a1 a2 false)) else (cleatlaw18_WireDoes.j0 k a0 a1 a2 false))))))))
theorem cleatlaw18_WireDoes.mono_l : ∀ k, (∀ y0 y1 y2 y3, LeO (cleatlaw18_WireDoes.j0 k y0 y1 y2 y3) (cleatlaw18_WireDoes.j0 (k + 1) y0 y1 y2 y3))
  | 0 => fun _ _ _ _ r h => by simp [cleatlaw18_WireDoes.j0] at h
  | k + 1 => by
    have ih0 := cleatlaw18_WireDoes.mono_l k
    · intro y0 y1 y2 y3
      unfold cleatlaw18_WireDoes.j0
      repeat' first
      | (with_reducible exact ih0 _ _ _ _)
      | (with_reducible exact cleatlaw18_sent.mono _)
      | (with_reducible exact cleatref18_Get.mono _ _)
      | (with_reducible exact cleatref18_GetInt.mono _ _)
      | (with_reducible exact cleatref18_GetText.mono _ _ _)
      | (with_reducible exact cleatref18_Put.mono _ _)
      | (with_reducible exact cleatref18_PutInt.mono _ _)
      | (with_reducible exact cleatref18_PutText.mono _ _)
      | (with_reducible exact wire_Get.mono _ _)
      | (with_reducible exact wire_GetInt.mono _ _)
      | (with_reducible exact wire_GetText.mono _ _ _)
      | (with_reducible exact LeO.refl _)
      | (with_reducible exact LeO.none _)
      | (with_reducible refine LeO.ite ?_ ?_)
      | (with_reducible refine LeO.bind ?_ (fun _ => ?_))
      | exact ih0 _ _ _ _
      | exact cleatlaw18_sent.mono _
      | exact cleatref18_Get.mono _ _
      | exact cleatref18_GetInt.mono _ _
      | exact cleatref18_GetText.mono _ _ _
      | exact cleatref18_Put.mono _ _
      | exact cleatref18_PutInt.mono _ _
      | exact cleatref18_PutText.mono _ _
      | exact wire_Get.mono _ _
      | exact wire_GetInt.mono _ _
      | exact wire_GetText.mono _ _ _
      | exact LeO.none _
      | refine LeO.ite ?_ ?_
      | refine LeO.bind ?_ (fun _ => ?_)
theorem cleatlaw18_WireDoes.mono : ∀ a0 a1 a2 a3 k, LeO (cleatlaw18_WireDoes.f k a0 a1 a2 a3) (cleatlaw18_WireDoes.f (k + 1) a0 a1 a2 a3) := by
  intro a0 a1 a2 a3 k
  have ih0 := cleatlaw18_WireDoes.mono_l k
  unfold cleatlaw18_WireDoes.f
  repeat' first
      | (with_reducible exact ih0 _ _ _ _)
      | (with_reducible exact cleatlaw18_sent.mono _)
      | (with_reducible exact cleatref18_Get.mono _ _)
      | (with_reducible exact cleatref18_GetInt.mono _ _)
      | (with_reducible exact cleatref18_GetText.mono _ _ _)
      | (with_reducible exact cleatref18_Put.mono _ _)
      | (with_reducible exact cleatref18_PutInt.mono _ _)
      | (with_reducible exact cleatref18_PutText.mono _ _)
      | (with_reducible exact wire_Get.mono _ _)
      | (with_reducible exact wire_GetInt.mono _ _)
      | (with_reducible exact wire_GetText.mono _ _ _)
      | (with_reducible exact LeO.refl _)
      | (with_reducible exact LeO.none _)
      | (with_reducible refine LeO.ite ?_ ?_)
      | (with_reducible refine LeO.bind ?_ (fun _ => ?_))
      | exact ih0 _ _ _ _
      | exact cleatlaw18_sent.mono _
      | exact cleatref18_Get.mono _ _
      | exact cleatref18_GetInt.mono _ _
      | exact cleatref18_GetText.mono _ _ _
      | exact cleatref18_Put.mono _ _
      | exact cleatref18_PutInt.mono _ _
      | exact cleatref18_PutText.mono _ _
      | exact wire_Get.mono _ _
      | exact wire_GetInt.mono _ _
      | exact wire_GetText.mono _ _ _
      | exact LeO.none _
      | refine LeO.ite ?_ ?_
      | refine LeO.bind ?_ (fun _ => ?_)
set_option maxHeartbeats 8000000 in
set_option maxRecDepth 100000 in
theorem cleatlaw18_WireDoes.calls (k : Nat) (a0 : Int) (a1 : Int) (a2 : ByteArray) (a3 : Int) (r : Bool) (w : World) (h : cleatlaw18_WireDoes.f k a0 a1 a2 a3 = some r) :
    Calls Try.prog 5 #[.int .u64 a0, .int .i64 a1, .string a2, .int .i64 a3] w fun e w' => e = .returned (.bool r) ∧ Below w.heap.size w w' := by
  have HB := Aside0.mk (Below.refl w.heap.size w)
  have H : (if (a2.size : Int) > 2000 then (some true) else ((wire_Get.f k a2).bind fun bt163 => ((cleatref18_Get.f k a2).bind fun bt166 => ((wire_GetInt.f k a2).bind fun bt169 => ((cleatref18_GetInt.f k a2).bind fun bt172 => ((wire_GetText.f k a2 a3).bind fun bt175 => ((cleatref18_GetText.f k a2 a3).bind fun bt178 => (if bt163.1 = bt166.1 then (if bt163.2.1 = bt166.2.1 then (if bt163.2.2 = bt166.2.2 then (if bt169.1 = bt172.1 then (if bt169.2.1 = bt172.2.1 then (if bt169.2.2 = bt172.2.2 then (if bt175.1.toList = bt178.1.toList then (if bt175.2.1 = bt178.2.1 then (cleatlaw18_WireDoes.j0 k a0 a1 a2 (bt175.2.2 == bt178.2.2)) else (cleatlaw18_WireDoes.j0 k a0 a1 a2 false)) else (cleatlaw18_WireDoes.j0 k a0 a1 a2 false)) else (cleatlaw18_WireDoes.j0 k a0 a1 a2 false)) else (cleatlaw18_WireDoes.j0 k a0 a1 a2 false)) else (cleatlaw18_WireDoes.j0 k a0 a1 a2 false)) else (cleatlaw18_WireDoes.j0 k a0 a1 a2 false)) else (cleatlaw18_WireDoes.j0 k a0 a1 a2 false)) else (cleatlaw18_WireDoes.j0 k a0 a1 a2 false))))))))) = some r := h
  clear h
  by_cases c5 : (a2.size : Int) > 2000
  · rw [if_pos c5] at H
    have c5b0 : decide (2000 < (a2.size : Int)) = true := decide_eq_true c5
    have c5b1 : decide (2000 < a2.size) = true := decide_eq_true (by omega)
    clear c5
    obtain rfl := Option.some.inj H
    go_enter Try.func5, Try.ntmps5
    go_wp2
    go_ret
    exact ⟨by first | rfl | (simp [errW_none, errW_some] <;> rfl) | (simp [*, errW_none, errW_some] <;> rfl), by repeat (first | (with_reducible first | exact HB.out | apply below_alloc | apply pw_below_drewN | apply below_drew1) | exact HB.out)⟩
  · rw [if_neg c5] at H
    have c5b0 : decide (2000 < (a2.size : Int)) = false := decide_eq_false c5
    have c5b1 : decide (2000 < a2.size) = false := decide_eq_false (by omega)
    clear c5
    replace H := Option.bind_eq_some_iff.mp H
    obtain ⟨⟨t163, t164, t165⟩, A60, H⟩ := H
    replace H : ((cleatref18_Get.f k a2).bind fun bt166 => ((wire_GetInt.f k a2).bind fun bt169 => ((cleatref18_GetInt.f k a2).bind fun bt172 => ((wire_GetText.f k a2 a3).bind fun bt175 => ((cleatref18_GetText.f k a2 a3).bind fun bt178 => (if t163 = bt166.1 then (if t164 = bt166.2.1 then (if t165 = bt166.2.2 then (if bt169.1 = bt172.1 then (if bt169.2.1 = bt172.2.1 then (if bt169.2.2 = bt172.2.2 then (if bt175.1.toList = bt178.1.toList then (if bt175.2.1 = bt178.2.1 then (cleatlaw18_WireDoes.j0 k a0 a1 a2 (bt175.2.2 == bt178.2.2)) else (cleatlaw18_WireDoes.j0 k a0 a1 a2 false)) else (cleatlaw18_WireDoes.j0 k a0 a1 a2 false)) else (cleatlaw18_WireDoes.j0 k a0 a1 a2 false)) else (cleatlaw18_WireDoes.j0 k a0 a1 a2 false)) else (cleatlaw18_WireDoes.j0 k a0 a1 a2 false)) else (cleatlaw18_WireDoes.j0 k a0 a1 a2 false)) else (cleatlaw18_WireDoes.j0 k a0 a1 a2 false)) else (cleatlaw18_WireDoes.j0 k a0 a1 a2 false))))))) = some r := H
    have A6 := Aside0.mk A60
    clear A60
    replace H := Option.bind_eq_some_iff.mp H
    obtain ⟨⟨t166, t167, t168⟩, A70, H⟩ := H
    replace H : ((wire_GetInt.f k a2).bind fun bt169 => ((cleatref18_GetInt.f k a2).bind fun bt172 => ((wire_GetText.f k a2 a3).bind fun bt175 => ((cleatref18_GetText.f k a2 a3).bind fun bt178 => (if t163 = t166 then (if t164 = t167 then (if t165 = t168 then (if bt169.1 = bt172.1 then (if bt169.2.1 = bt172.2.1 then (if bt169.2.2 = bt172.2.2 then (if bt175.1.toList = bt178.1.toList then (if bt175.2.1 = bt178.2.1 then (cleatlaw18_WireDoes.j0 k a0 a1 a2 (bt175.2.2 == bt178.2.2)) else (cleatlaw18_WireDoes.j0 k a0 a1 a2 false)) else (cleatlaw18_WireDoes.j0 k a0 a1 a2 false)) else (cleatlaw18_WireDoes.j0 k a0 a1 a2 false)) else (cleatlaw18_WireDoes.j0 k a0 a1 a2 false)) else (cleatlaw18_WireDoes.j0 k a0 a1 a2 false)) else (cleatlaw18_WireDoes.j0 k a0 a1 a2 false)) else (cleatlaw18_WireDoes.j0 k a0 a1 a2 false)) else (cleatlaw18_WireDoes.j0 k a0 a1 a2 false)))))) = some r := H
    have A7 := Aside0.mk A70
    clear A70
    replace H := Option.bind_eq_some_iff.mp H
    obtain ⟨⟨t169, t170, t171⟩, A80, H⟩ := H
    replace H : ((cleatref18_GetInt.f k a2).bind fun bt172 => ((wire_GetText.f k a2 a3).bind fun bt175 => ((cleatref18_GetText.f k a2 a3).bind fun bt178 => (if t163 = t166 then (if t164 = t167 then (if t165 = t168 then (if t169 = bt172.1 then (if t170 = bt172.2.1 then (if t171 = bt172.2.2 then (if bt175.1.toList = bt178.1.toList then (if bt175.2.1 = bt178.2.1 then (cleatlaw18_WireDoes.j0 k a0 a1 a2 (bt175.2.2 == bt178.2.2)) else (cleatlaw18_WireDoes.j0 k a0 a1 a2 false)) else (cleatlaw18_WireDoes.j0 k a0 a1 a2 false)) else (cleatlaw18_WireDoes.j0 k a0 a1 a2 false)) else (cleatlaw18_WireDoes.j0 k a0 a1 a2 false)) else (cleatlaw18_WireDoes.j0 k a0 a1 a2 false)) else (cleatlaw18_WireDoes.j0 k a0 a1 a2 false)) else (cleatlaw18_WireDoes.j0 k a0 a1 a2 false)) else (cleatlaw18_WireDoes.j0 k a0 a1 a2 false))))) = some r := H
    have A8 := Aside0.mk A80
    clear A80
    replace H := Option.bind_eq_some_iff.mp H
    obtain ⟨⟨t172, t173, t174⟩, A90, H⟩ := H
    replace H : ((wire_GetText.f k a2 a3).bind fun bt175 => ((cleatref18_GetText.f k a2 a3).bind fun bt178 => (if t163 = t166 then (if t164 = t167 then (if t165 = t168 then (if t169 = t172 then (if t170 = t173 then (if t171 = t174 then (if bt175.1.toList = bt178.1.toList then (if bt175.2.1 = bt178.2.1 then (cleatlaw18_WireDoes.j0 k a0 a1 a2 (bt175.2.2 == bt178.2.2)) else (cleatlaw18_WireDoes.j0 k a0 a1 a2 false)) else (cleatlaw18_WireDoes.j0 k a0 a1 a2 false)) else (cleatlaw18_WireDoes.j0 k a0 a1 a2 false)) else (cleatlaw18_WireDoes.j0 k a0 a1 a2 false)) else (cleatlaw18_WireDoes.j0 k a0 a1 a2 false)) else (cleatlaw18_WireDoes.j0 k a0 a1 a2 false)) else (cleatlaw18_WireDoes.j0 k a0 a1 a2 false)) else (cleatlaw18_WireDoes.j0 k a0 a1 a2 false)))) = some r := H
    have A9 := Aside0.mk A90
    clear A90
    replace H := Option.bind_eq_some_iff.mp H
    obtain ⟨⟨t175, t176, t177⟩, A100, H⟩ := H
    replace H : ((cleatref18_GetText.f k a2 a3).bind fun bt178 => (if t163 = t166 then (if t164 = t167 then (if t165 = t168 then (if t169 = t172 then (if t170 = t173 then (if t171 = t174 then (if t175.toList = bt178.1.toList then (if t176 = bt178.2.1 then (cleatlaw18_WireDoes.j0 k a0 a1 a2 (t177 == bt178.2.2)) else (cleatlaw18_WireDoes.j0 k a0 a1 a2 false)) else (cleatlaw18_WireDoes.j0 k a0 a1 a2 false)) else (cleatlaw18_WireDoes.j0 k a0 a1 a2 false)) else (cleatlaw18_WireDoes.j0 k a0 a1 a2 false)) else (cleatlaw18_WireDoes.j0 k a0 a1 a2 false)) else (cleatlaw18_WireDoes.j0 k a0 a1 a2 false)) else (cleatlaw18_WireDoes.j0 k a0 a1 a2 false)) else (cleatlaw18_WireDoes.j0 k a0 a1 a2 false))) = some r := H
    have A10 := Aside0.mk A100
    clear A100
    replace H := Option.bind_eq_some_iff.mp H
    obtain ⟨⟨t178, t179, t180⟩, A110, H⟩ := H
    replace H : (if t163 = t166 then (if t164 = t167 then (if t165 = t168 then (if t169 = t172 then (if t170 = t173 then (if t171 = t174 then (if t175.toList = t178.toList then (if t176 = t179 then (cleatlaw18_WireDoes.j0 k a0 a1 a2 (t177 == t180)) else (cleatlaw18_WireDoes.j0 k a0 a1 a2 false)) else (cleatlaw18_WireDoes.j0 k a0 a1 a2 false)) else (cleatlaw18_WireDoes.j0 k a0 a1 a2 false)) else (cleatlaw18_WireDoes.j0 k a0 a1 a2 false)) else (cleatlaw18_WireDoes.j0 k a0 a1 a2 false)) else (cleatlaw18_WireDoes.j0 k a0 a1 a2 false)) else (cleatlaw18_WireDoes.j0 k a0 a1 a2 false)) else (cleatlaw18_WireDoes.j0 k a0 a1 a2 false)) = some r := H
    have A11 := Aside0.mk A110
    clear A110
    have HC12 := Aside0.mk H
    clear H
    go_enter Try.func5, Try.ntmps5
    go_upto_region 9 with (first | ((with_reducible refine gate_callee (f := 12) rfl ?_); refine goesL_ (some 33) rfl rfl Try.func12 (by kernel_rfl) rfl #[.string a2] rfl (by (try simp only [List.map_toArray, List.map_cons, List.map_nil]); first | done | rfl | (simp only [List.length_drop, List.length_take]; rfl)) ?_; (with_reducible refine (wire_Get.calls k a2 t163 t164 t165 _ A6.out).mono ?_); rintro e w' ⟨rfl, ⟨nd, rfl⟩⟩; refine ⟨_, rfl, ?_⟩) | ((with_reducible refine gate_callee (f := 13) rfl ?_); refine goesL_ (some 39) rfl rfl Try.func13 (by kernel_rfl) rfl #[.string a2] rfl (by (try simp only [List.map_toArray, List.map_cons, List.map_nil]); first | done | rfl | (simp only [List.length_drop, List.length_take]; rfl)) ?_; (with_reducible refine (cleatref18_Get.calls k a2 t166 t167 t168 _ A7.out).mono ?_); rintro e w' ⟨rfl, ⟨nd, rfl⟩⟩; refine ⟨_, rfl, ?_⟩) | ((with_reducible refine gate_callee (f := 14) rfl ?_); refine goesL_ (some 45) rfl rfl Try.func14 (by kernel_rfl) rfl #[.string a2] rfl (by (try simp only [List.map_toArray, List.map_cons, List.map_nil]); first | done | rfl | (simp only [List.length_drop, List.length_take]; rfl)) ?_; (with_reducible refine (wire_GetInt.calls k a2 t169 t170 t171 _ A8.out).mono ?_); rintro e w' ⟨rfl, ⟨nd, rfl⟩⟩; refine ⟨_, rfl, ?_⟩) | ((with_reducible refine gate_callee (f := 15) rfl ?_); refine goesL_ (some 51) rfl rfl Try.func15 (by kernel_rfl) rfl #[.string a2] rfl (by (try simp only [List.map_toArray, List.map_cons, List.map_nil]); first | done | rfl | (simp only [List.length_drop, List.length_take]; rfl)) ?_; (with_reducible refine (cleatref18_GetInt.calls k a2 t172 t173 t174 _ A9.out).mono ?_); rintro e w' ⟨rfl, ⟨nd, rfl⟩⟩; refine ⟨_, rfl, ?_⟩) | ((with_reducible refine gate_callee (f := 11) rfl ?_); refine goesL_ (some 58) rfl rfl Try.func11 (by kernel_rfl) rfl #[.string a2, .int .i64 a3] rfl (by (try simp only [List.map_toArray, List.map_cons, List.map_nil]); first | done | rfl | (simp only [List.length_drop, List.length_take]; rfl)) ?_; (with_reducible refine (wire_GetText.calls k a2 a3 t175 t176 t177 _ A10.out).mono ?_); rintro e w' ⟨rfl, ⟨nd, rfl⟩⟩; refine ⟨_, rfl, ?_⟩) | ((with_reducible refine gate_callee (f := 16) rfl ?_); refine goesL_ (some 65) rfl rfl Try.func16 (by kernel_rfl) rfl #[.string a2, .int .i64 a3] rfl (by (try simp only [List.map_toArray, List.map_cons, List.map_nil]); first | done | rfl | (simp only [List.length_drop, List.length_take]; rfl)) ?_; (with_reducible refine (cleatref18_GetText.calls k a2 a3 t178 t179 t180 _ A11.out).mono ?_); rintro e w' ⟨rfl, ⟨nd, rfl⟩⟩; refine ⟨_, rfl, ?_⟩))
    (try simp only [Act.put, List.setIfInBounds_toArray, List.set_cons_zero, List.set_cons_succ])
    go_cut [27] (fun v27 wc => ∃ (kq : Nat) (x27_11 : Bool), v27 = .bool x27_11 ∧ Aside0 (cleatlaw18_WireDoes.j0 kq a0 a1 a2 x27_11 = some r) ∧ Aside0 (kq ≤ k) ∧ Aside0 (Below w.heap.size w wc))
    case first =>
      have H := HC12.out
      clear HC12
      (try (rw [drewN_self w]; have n0_ := fun n_ => pw_below_drewN HB.out n_; clear HB; generalize hq_ : World.drewN w _ = w; have HB := Aside0.mk (hq_ ▸ n0_ _); clear hq_ n0_))
      by_cases c13 : t163 = t166
      · rw [if_pos c13] at H
        have c13b0 : (t163 == t166) = true := beq_iff_eq.mpr c13
        have c13b1 : (t163 != t166) = false := bne_eq_false_iff_eq.mpr c13
        clear c13
        (first | rw [c13b0] | (simp only [i64_w, i32_w]; rw [c13b0]) | skip)
        by_cases c14 : t164 = t167
        · rw [if_pos c14] at H
          have c14b0 : (t164 == t167) = true := beq_iff_eq.mpr c14
          have c14b1 : (t164 != t167) = false := bne_eq_false_iff_eq.mpr c14
          clear c14
          by_cases c15 : t165 = t168
          · rw [if_pos c15] at H
            have c15b0 : (t165 == t168) = true := beq_iff_eq.mpr c15
            have c15b1 : (t165 != t168) = false := bne_eq_false_iff_eq.mpr c15
            clear c15
            by_cases c16 : t169 = t172
            · rw [if_pos c16] at H
              have c16b0 : (t169 == t172) = true := beq_iff_eq.mpr c16
              have c16b1 : (t169 != t172) = false := bne_eq_false_iff_eq.mpr c16
              clear c16
              by_cases c17 : t170 = t173
              · rw [if_pos c17] at H
                have c17b0 : (t170 == t173) = true := beq_iff_eq.mpr c17
                have c17b1 : (t170 != t173) = false := bne_eq_false_iff_eq.mpr c17
                clear c17
                by_cases c18 : t171 = t174
                · rw [if_pos c18] at H
                  have c18b0 : (t171 == t174) = true := beq_iff_eq.mpr c18
                  have c18b1 : (t171 != t174) = false := bne_eq_false_iff_eq.mpr c18
                  clear c18
                  by_cases c19 : t175.toList = t178.toList
                  · rw [if_pos c19] at H
                    have c19b0 : (t175.toList == t178.toList) = true := beq_iff_eq.mpr c19
                    have c19b1 : (t175.toList != t178.toList) = false := bne_eq_false_iff_eq.mpr c19
                    clear c19
                    by_cases c20 : t176 = t179
                    · rw [if_pos c20] at H
                      have c20b0 : (t176 == t179) = true := beq_iff_eq.mpr c20
                      have c20b1 : (t176 != t179) = false := bne_eq_false_iff_eq.mpr c20
                      clear c20
                      have H' := Aside0.mk H
                      clear H
                      go_wp2
                      go_meet
                      case rel => exact ⟨_, ((t177 == t180)), (by first | rfl | (simp; done) | (simp [*]; done)), H', ⟨by first | omega | exact Nat.le_refl _⟩, ⟨by repeat (first | (with_reducible first | exact HB.out | apply below_alloc | apply pw_below_drewN | apply below_drew1) | exact HB.out)⟩⟩
                    · rw [if_neg c20] at H
                      have c20b0 : (t176 == t179) = false := beq_eq_false_iff_ne.mpr c20
                      have c20b1 : (t176 != t179) = true := bne_iff_ne.mpr c20
                      have H' := Aside0.mk H
                      clear H
                      go_wp2
                      go_meet
                      case rel => exact ⟨_, (false), (by first | rfl | (simp; done) | (simp [*]; done)), H', ⟨by first | omega | exact Nat.le_refl _⟩, ⟨by repeat (first | (with_reducible first | exact HB.out | apply below_alloc | apply pw_below_drewN | apply below_drew1) | exact HB.out)⟩⟩
                  · rw [if_neg c19] at H
                    have c19b0 : (t175.toList == t178.toList) = false := beq_eq_false_iff_ne.mpr c19
                    have c19b1 : (t175.toList != t178.toList) = true := bne_iff_ne.mpr c19
                    have H' := Aside0.mk H
                    clear H
                    go_wp2
                    go_meet
                    case rel => exact ⟨_, (false), (by first | rfl | (simp; done) | (simp [*]; done)), H', ⟨by first | omega | exact Nat.le_refl _⟩, ⟨by repeat (first | (with_reducible first | exact HB.out | apply below_alloc | apply pw_below_drewN | apply below_drew1) | exact HB.out)⟩⟩
                · rw [if_neg c18] at H
                  have c18b0 : (t171 == t174) = false := beq_eq_false_iff_ne.mpr c18
                  have c18b1 : (t171 != t174) = true := bne_iff_ne.mpr c18
                  have H' := Aside0.mk H
                  clear H
                  go_wp2
                  go_meet
                  case rel => exact ⟨_, (false), (by first | rfl | (simp; done) | (simp [*]; done)), H', ⟨by first | omega | exact Nat.le_refl _⟩, ⟨by repeat (first | (with_reducible first | exact HB.out | apply below_alloc | apply pw_below_drewN | apply below_drew1) | exact HB.out)⟩⟩
              · rw [if_neg c17] at H
                have c17b0 : (t170 == t173) = false := beq_eq_false_iff_ne.mpr c17
                have c17b1 : (t170 != t173) = true := bne_iff_ne.mpr c17
                have H' := Aside0.mk H
                clear H
                go_wp2
                go_meet
                case rel => exact ⟨_, (false), (by first | rfl | (simp; done) | (simp [*]; done)), H', ⟨by first | omega | exact Nat.le_refl _⟩, ⟨by repeat (first | (with_reducible first | exact HB.out | apply below_alloc | apply pw_below_drewN | apply below_drew1) | exact HB.out)⟩⟩
            · rw [if_neg c16] at H
              have c16b0 : (t169 == t172) = false := beq_eq_false_iff_ne.mpr c16
              have c16b1 : (t169 != t172) = true := bne_iff_ne.mpr c16
              have H' := Aside0.mk H
              clear H
              go_wp2
              go_meet
              case rel => exact ⟨_, (false), (by first | rfl | (simp; done) | (simp [*]; done)), H', ⟨by first | omega | exact Nat.le_refl _⟩, ⟨by repeat (first | (with_reducible first | exact HB.out | apply below_alloc | apply pw_below_drewN | apply below_drew1) | exact HB.out)⟩⟩
          · rw [if_neg c15] at H
            have c15b0 : (t165 == t168) = false := beq_eq_false_iff_ne.mpr c15
            have c15b1 : (t165 != t168) = true := bne_iff_ne.mpr c15
            have H' := Aside0.mk H
            clear H
            go_wp2
            go_meet
            case rel => exact ⟨_, (false), (by first | rfl | (simp; done) | (simp [*]; done)), H', ⟨by first | omega | exact Nat.le_refl _⟩, ⟨by repeat (first | (with_reducible first | exact HB.out | apply below_alloc | apply pw_below_drewN | apply below_drew1) | exact HB.out)⟩⟩
        · rw [if_neg c14] at H
          have c14b0 : (t164 == t167) = false := beq_eq_false_iff_ne.mpr c14
          have c14b1 : (t164 != t167) = true := bne_iff_ne.mpr c14
          have H' := Aside0.mk H
          clear H
          go_wp2
          go_meet
          case rel => exact ⟨_, (false), (by first | rfl | (simp; done) | (simp [*]; done)), H', ⟨by first | omega | exact Nat.le_refl _⟩, ⟨by repeat (first | (with_reducible first | exact HB.out | apply below_alloc | apply pw_below_drewN | apply below_drew1) | exact HB.out)⟩⟩
      · rw [if_neg c13] at H
        have c13b0 : (t163 == t166) = false := beq_eq_false_iff_ne.mpr c13
        have c13b1 : (t163 != t166) = true := bne_iff_ne.mpr c13
        (first | rw [c13b0] | (simp only [i64_w, i32_w]; rw [c13b0]) | skip)
        have H' := Aside0.mk H
        clear H
        go_wp2
        go_meet
        case rel => exact ⟨_, (false), (by first | rfl | (simp; done) | (simp [*]; done)), H', ⟨by first | omega | exact Nat.le_refl _⟩, ⟨by repeat (first | (with_reducible first | exact HB.out | apply below_alloc | apply pw_below_drewN | apply below_drew1) | exact HB.out)⟩⟩
    case rest =>
      clear HC12
      try clear c1
      try clear c2
      try clear p2
      try clear c5
      try clear c5b0
      try clear c5b1
      try clear c11
      try clear c12
      try clear c13
      try clear c13b0
      try clear c13b1
      try clear c14
      try clear c14b0
      try clear c14b1
      try clear c15
      try clear c15b0
      try clear c15b1
      try clear c16
      try clear c16b0
      try clear c16b1
      try clear c17
      try clear c17b0
      try clear c17b1
      try clear c18
      try clear c18b0
      try clear c18b1
      try clear c19
      try clear c19b0
      try clear c19b1
      try clear c20
      try clear c20b0
      try clear c20b1
      obtain ⟨kq, x27_11, rfl, HA, HJ11, HB⟩ := hcut
      cases kq with
      | zero => exact absurd HA.out (by simp [cleatlaw18_WireDoes.j0])
      | succ kj11 =>
        have H := HA.out
        clear HA
        simp only [cleatlaw18_WireDoes.j0] at H
        replace H := Option.bind_eq_some_iff.mp H
        obtain ⟨t181, A210, H⟩ := H
        replace H : (if t181 = true then (if x27_11 = true then ((wire_Put.f a0).bind fun t182 => ((cleatref18_Put.f kj11 a0).bind fun t183 => (if t182.toList = t183.toList then ((wire_PutInt.f a1).bind fun t184 => ((cleatref18_PutInt.f kj11 a1).bind fun t185 => (if t184.toList = t185.toList then ((wire_PutText.f a2).bind fun t186 => ((cleatref18_PutText.f kj11 a2).bind fun t187 => (some (t186.toList == t187.toList)))) else (none)))) else (none)))) else (none)) else (none)) = some r := H
        have A21 := Aside0.mk A210
        clear A210
        by_cases c22 : t181 = true
        · subst c22
          have H1 : (if x27_11 = true then ((wire_Put.f a0).bind fun t182 => ((cleatref18_Put.f kj11 a0).bind fun t183 => (if t182.toList = t183.toList then ((wire_PutInt.f a1).bind fun t184 => ((cleatref18_PutInt.f kj11 a1).bind fun t185 => (if t184.toList = t185.toList then ((wire_PutText.f a2).bind fun t186 => ((cleatref18_PutText.f kj11 a2).bind fun t187 => (some (t186.toList == t187.toList)))) else (none)))) else (none)))) else (none)) = some r := by rw [if_pos rfl] at H; exact H
          clear H
          have H := H1
          clear H1
          by_cases c23 : x27_11 = true
          · subst c23
            have H1 : ((wire_Put.f a0).bind fun t182 => ((cleatref18_Put.f kj11 a0).bind fun t183 => (if t182.toList = t183.toList then ((wire_PutInt.f a1).bind fun t184 => ((cleatref18_PutInt.f kj11 a1).bind fun t185 => (if t184.toList = t185.toList then ((wire_PutText.f a2).bind fun t186 => ((cleatref18_PutText.f kj11 a2).bind fun t187 => (some (t186.toList == t187.toList)))) else (none)))) else (none)))) = some r := by rw [if_pos rfl] at H; exact H
            clear H
            have H := H1
            clear H1
            replace H := Option.bind_eq_some_iff.mp H
            obtain ⟨t182, A240, H⟩ := H
            replace H : ((cleatref18_Put.f kj11 a0).bind fun t183 => (if t182.toList = t183.toList then ((wire_PutInt.f a1).bind fun t184 => ((cleatref18_PutInt.f kj11 a1).bind fun t185 => (if t184.toList = t185.toList then ((wire_PutText.f a2).bind fun t186 => ((cleatref18_PutText.f kj11 a2).bind fun t187 => (some (t186.toList == t187.toList)))) else (none)))) else (none))) = some r := H
            have A24 := Aside0.mk A240
            clear A240
            replace H := Option.bind_eq_some_iff.mp H
            obtain ⟨t183, A250, H⟩ := H
            replace H : (if t182.toList = t183.toList then ((wire_PutInt.f a1).bind fun t184 => ((cleatref18_PutInt.f kj11 a1).bind fun t185 => (if t184.toList = t185.toList then ((wire_PutText.f a2).bind fun t186 => ((cleatref18_PutText.f kj11 a2).bind fun t187 => (some (t186.toList == t187.toList)))) else (none)))) else (none)) = some r := H
            have A25 := Aside0.mk A250
            clear A250
            by_cases c26 : t182.toList = t183.toList
            · rw [if_pos c26] at H
              have c26b0 : (t182.toList == t183.toList) = true := beq_iff_eq.mpr c26
              have c26b1 : (t182.toList != t183.toList) = false := bne_eq_false_iff_eq.mpr c26
              clear c26
              replace H := Option.bind_eq_some_iff.mp H
              obtain ⟨t184, A270, H⟩ := H
              replace H : ((cleatref18_PutInt.f kj11 a1).bind fun t185 => (if t184.toList = t185.toList then ((wire_PutText.f a2).bind fun t186 => ((cleatref18_PutText.f kj11 a2).bind fun t187 => (some (t186.toList == t187.toList)))) else (none))) = some r := H
              have A27 := Aside0.mk A270
              clear A270
              replace H := Option.bind_eq_some_iff.mp H
              obtain ⟨t185, A280, H⟩ := H
              replace H : (if t184.toList = t185.toList then ((wire_PutText.f a2).bind fun t186 => ((cleatref18_PutText.f kj11 a2).bind fun t187 => (some (t186.toList == t187.toList)))) else (none)) = some r := H
              have A28 := Aside0.mk A280
              clear A280
              by_cases c29 : t184.toList = t185.toList
              · rw [if_pos c29] at H
                have c29b0 : (t184.toList == t185.toList) = true := beq_iff_eq.mpr c29
                have c29b1 : (t184.toList != t185.toList) = false := bne_eq_false_iff_eq.mpr c29
                clear c29
                replace H := Option.bind_eq_some_iff.mp H
                obtain ⟨t186, A300, H⟩ := H
                replace H : ((cleatref18_PutText.f kj11 a2).bind fun t187 => (some (t186.toList == t187.toList))) = some r := H
                have A30 := Aside0.mk A300
                clear A300
                replace H := Option.bind_eq_some_iff.mp H
                obtain ⟨t187, A310, H⟩ := H
                replace H : (some (t186.toList == t187.toList)) = some r := H
                have A31 := Aside0.mk A310
                clear A310
                obtain rfl := Option.some.inj H
                go_wp2_with (first | ((with_reducible refine gate_callee (f := 10) rfl ?_); refine goesL_ (some 112) rfl rfl Try.func10 (by kernel_rfl) rfl #[] rfl (by (try simp only [List.map_toArray, List.map_cons, List.map_nil]); first | done | rfl | (simp only [List.length_drop, List.length_take]; rfl)) ?_; (with_reducible refine (cleatlaw18_sent.calls kj11  true _ A21.out).mono ?_); rintro e w32 ⟨rfl, hb⟩; refine ⟨_, rfl, ?_⟩; have n0_ := Aside0.mk (below_step (by repeat (first | (with_reducible first | exact HB.out | apply below_alloc | apply pw_below_drewN | apply below_drew1) | exact HB.out)) hb); clear HB; have HB := n0_; clear n0_; (try clear hb); (try clear hb2); (try clear hk); (try clear hi)) | (go_at_call 8; (with_reducible refine (wire_Put.calls a0 t182 _ A24.out).mono ?_); rintro e w33 ⟨rfl, hb⟩; have n0_ := Aside0.mk (below_step (by repeat (first | (with_reducible first | exact HB.out | apply below_alloc | apply pw_below_drewN | apply below_drew1) | exact HB.out)) hb); clear HB; have HB := n0_; clear n0_; (try clear hb); (try clear hb2); (try clear hk); (try clear hi)) | (go_at_call 17; (with_reducible refine (cleatref18_Put.calls kj11 a0 t183 _ A25.out).mono ?_); rintro e w34 ⟨rfl, hb⟩; have n0_ := Aside0.mk (below_step (by repeat (first | (with_reducible first | exact HB.out | apply below_alloc | apply pw_below_drewN | apply below_drew1) | exact HB.out)) hb); clear HB; have HB := n0_; clear n0_; (try clear hb); (try clear hb2); (try clear hk); (try clear hi)) | (go_at_call 18; (with_reducible refine (wire_PutInt.calls a1 t184 _ A27.out).mono ?_); rintro e w35 ⟨rfl, hb⟩; have n0_ := Aside0.mk (below_step (by repeat (first | (with_reducible first | exact HB.out | apply below_alloc | apply pw_below_drewN | apply below_drew1) | exact HB.out)) hb); clear HB; have HB := n0_; clear n0_; (try clear hb); (try clear hb2); (try clear hk); (try clear hi)) | (go_at_call 19; (with_reducible refine (cleatref18_PutInt.calls kj11 a1 t185 _ A28.out).mono ?_); rintro e w36 ⟨rfl, hb⟩; have n0_ := Aside0.mk (below_step (by repeat (first | (with_reducible first | exact HB.out | apply below_alloc | apply pw_below_drewN | apply below_drew1) | exact HB.out)) hb); clear HB; have HB := n0_; clear n0_; (try clear hb); (try clear hb2); (try clear hk); (try clear hi)) | (go_at_call 9; (with_reducible refine (wire_PutText.calls a2 t186 _ A30.out).mono ?_); rintro e w37 ⟨rfl, hb⟩; have n0_ := Aside0.mk (below_step (by repeat (first | (with_reducible first | exact HB.out | apply below_alloc | apply pw_below_drewN | apply below_drew1) | exact HB.out)) hb); clear HB; have HB := n0_; clear n0_; (try clear hb); (try clear hb2); (try clear hk); (try clear hi)) | (go_at_call 20; (with_reducible refine (cleatref18_PutText.calls kj11 a2 t187 _ A31.out).mono ?_); rintro e w38 ⟨rfl, hb⟩; have n0_ := Aside0.mk (below_step (by repeat (first | (with_reducible first | exact HB.out | apply below_alloc | apply pw_below_drewN | apply below_drew1) | exact HB.out)) hb); clear HB; have HB := n0_; clear n0_; (try clear hb); (try clear hb2); (try clear hk); (try clear hi)))
                go_ret
                exact ⟨by first | rfl | (simp [errW_none, errW_some] <;> rfl) | (simp [*, errW_none, errW_some] <;> rfl), by repeat (first | (with_reducible first | exact HB.out | apply below_alloc | apply pw_below_drewN | apply below_drew1) | exact HB.out)⟩
              · rw [if_neg c29] at H
                exact absurd H (by simp)
            · rw [if_neg c26] at H
              exact absurd H (by simp)
          · replace c23 := Bool.eq_false_iff.mpr c23
            subst c23
            have H1 : (none) = some r := by rw [if_neg (show ¬ (false = true) by decide)] at H; exact H
            clear H
            have H := H1
            clear H1
            exact absurd H (by simp)
        · replace c22 := Bool.eq_false_iff.mpr c22
          subst c22
          have H1 : (none) = some r := by rw [if_neg (show ¬ (false = true) by decide)] at H; exact H
          clear H
          have H := H1
          clear H1
          exact absurd H (by simp)

/-- THE ONE PURE STATEMENT of cleatlaw18_WireDoes: yours. -/
def cleatlaw18_WireDoes.Pure : Prop := ∀ (a0 : Int) (a1 : Int) (a2 : ByteArray) (a3 : Int), (Lit.int .u64 a0).wf = true → (Lit.int .i64 a1).wf = true → a2.size ≤ 140737488351232 → (Lit.int .i64 a3).wf = true → ∃ k, cleatlaw18_WireDoes.f k a0 a1 a2 a3 = some true
theorem cleatlaw18_WireDoes.walk (P : cleatlaw18_WireDoes.Pure) (a0 : Int) (a1 : Int) (a2 : ByteArray) (a3 : Int) (w : World) (w0 : (Lit.int .u64 a0).wf = true) (w1 : (Lit.int .i64 a1).wf = true) (w2 : a2.size ≤ 140737488351232) (w3 : (Lit.int .i64 a3).wf = true) :
    Calls Try.prog 5 #[.int .u64 a0, .int .i64 a1, .string a2, .int .i64 a3] w fun e w' => e = .returned (.bool true) ∧ Below w.heap.size w w' := by
  obtain ⟨k, h⟩ := P a0 a1 a2 a3 w0 w1 w2 w3
  refine (cleatlaw18_WireDoes.calls k a0 a1 a2 a3 true w h).mono ?_
  rintro e w' ⟨rfl, hd⟩
  exact ⟨rfl, hd⟩

/-! ### cleatlaw18_WireBack: function 6 -/
def cleatlaw18_WireBack.f (k : Nat) (a0 : Int) (a1 : Int) (a2 : ByteArray) (a3 : ByteArray) : Option (Bool) := if (wrap64 ((a2.size : Int) + (a3.size : Int))) > 2000 then (some true) else ((wire_Put.f a0).bind fun t188 => ((wire_PutInt.f a1).bind fun t189 => ((wire_PutText.f a2).bind fun t190 => (if t188.size + a3.size ≤ 9223372036854775807 then ((wire_Get.f k (t188 ++ a3)).bind fun bt191 => (if t189.size + a3.size ≤ 9223372036854775807 then ((wire_GetInt.f k (t189 ++ a3)).bind fun bt194 => (if t190.size + a3.size ≤ 9223372036854775807 then ((wire_GetText.f k (t190 ++ a3) 2000).bind fun bt197 => ((cleatlaw18_sent.f k).bind fun t200 => (if t200 = true then (if bt191.2.2 = 0 then (if bt191.1 = a0 then (if bt191.2.1 = (t188.size : Int) then (if bt194.2.2 = 0 then (if bt194.1 = a1 then (if bt194.2.1 = (t189.size : Int) then (if bt197.2.2 = 0 then (if bt197.1.toList = a2.toList then (some (bt197.2.1 == (t190.size : Int))) else (none)) else (none)) else (none)) else (none)) else (none)) else (none)) else (none)) else (none)) else (none)))) else (none))) else (none))) else (none)))))
theorem cleatlaw18_WireBack.mono : ∀ a0 a1 a2 a3 k, LeO (cleatlaw18_WireBack.f k a0 a1 a2 a3) (cleatlaw18_WireBack.f (k + 1) a0 a1 a2 a3) := by
  intro a0 a1 a2 a3 k
  unfold cleatlaw18_WireBack.f
  repeat' first
      | (with_reducible exact cleatlaw18_sent.mono _)
      | (with_reducible exact wire_Get.mono _ _)
      | (with_reducible exact wire_GetInt.mono _ _)
      | (with_reducible exact wire_GetText.mono _ _ _)
      | (with_reducible exact LeO.refl _)
      | (with_reducible exact LeO.none _)
      | (with_reducible refine LeO.ite ?_ ?_)
      | (with_reducible refine LeO.bind ?_ (fun _ => ?_))
      | exact cleatlaw18_sent.mono _
      | exact wire_Get.mono _ _
      | exact wire_GetInt.mono _ _
      | exact wire_GetText.mono _ _ _
      | exact LeO.none _
      | refine LeO.ite ?_ ?_
      | refine LeO.bind ?_ (fun _ => ?_)
set_option maxHeartbeats 8000000 in
set_option maxRecDepth 100000 in
theorem cleatlaw18_WireBack.calls (k : Nat) (a0 : Int) (a1 : Int) (a2 : ByteArray) (a3 : ByteArray) (r : Bool) (w : World) (h : cleatlaw18_WireBack.f k a0 a1 a2 a3 = some r) :
    Calls Try.prog 6 #[.int .u64 a0, .int .i64 a1, .string a2, .string a3] w fun e w' => e = .returned (.bool r) ∧ Below w.heap.size w w' := by
  have HB := Aside0.mk (Below.refl w.heap.size w)
  have H : (if (wrap64 ((a2.size : Int) + (a3.size : Int))) > 2000 then (some true) else ((wire_Put.f a0).bind fun t188 => ((wire_PutInt.f a1).bind fun t189 => ((wire_PutText.f a2).bind fun t190 => (if t188.size + a3.size ≤ 9223372036854775807 then ((wire_Get.f k (t188 ++ a3)).bind fun bt191 => (if t189.size + a3.size ≤ 9223372036854775807 then ((wire_GetInt.f k (t189 ++ a3)).bind fun bt194 => (if t190.size + a3.size ≤ 9223372036854775807 then ((wire_GetText.f k (t190 ++ a3) 2000).bind fun bt197 => ((cleatlaw18_sent.f k).bind fun t200 => (if t200 = true then (if bt191.2.2 = 0 then (if bt191.1 = a0 then (if bt191.2.1 = (t188.size : Int) then (if bt194.2.2 = 0 then (if bt194.1 = a1 then (if bt194.2.1 = (t189.size : Int) then (if bt197.2.2 = 0 then (if bt197.1.toList = a2.toList then (some (bt197.2.1 == (t190.size : Int))) else (none)) else (none)) else (none)) else (none)) else (none)) else (none)) else (none)) else (none)) else (none)))) else (none))) else (none))) else (none)))))) = some r := h
  clear h
  by_cases c5 : (wrap64 ((a2.size : Int) + (a3.size : Int))) > 2000
  · rw [if_pos c5] at H
    have c5b0 : decide (2000 < (wrap64 ((a2.size : Int) + (a3.size : Int)))) = true := decide_eq_true c5
    clear c5
    obtain rfl := Option.some.inj H
    go_enter Try.func6, Try.ntmps6
    go_wp2
    go_ret
    exact ⟨by first | rfl | (simp [errW_none, errW_some] <;> rfl) | (simp [*, errW_none, errW_some] <;> rfl), by repeat (first | (with_reducible first | exact HB.out | apply below_alloc | apply pw_below_drewN | apply below_drew1) | exact HB.out)⟩
  · rw [if_neg c5] at H
    have c5b0 : decide (2000 < (wrap64 ((a2.size : Int) + (a3.size : Int)))) = false := decide_eq_false c5
    clear c5
    replace H := Option.bind_eq_some_iff.mp H
    obtain ⟨t188, A60, H⟩ := H
    replace H : ((wire_PutInt.f a1).bind fun t189 => ((wire_PutText.f a2).bind fun t190 => (if t188.size + a3.size ≤ 9223372036854775807 then ((wire_Get.f k (t188 ++ a3)).bind fun bt191 => (if t189.size + a3.size ≤ 9223372036854775807 then ((wire_GetInt.f k (t189 ++ a3)).bind fun bt194 => (if t190.size + a3.size ≤ 9223372036854775807 then ((wire_GetText.f k (t190 ++ a3) 2000).bind fun bt197 => ((cleatlaw18_sent.f k).bind fun t200 => (if t200 = true then (if bt191.2.2 = 0 then (if bt191.1 = a0 then (if bt191.2.1 = (t188.size : Int) then (if bt194.2.2 = 0 then (if bt194.1 = a1 then (if bt194.2.1 = (t189.size : Int) then (if bt197.2.2 = 0 then (if bt197.1.toList = a2.toList then (some (bt197.2.1 == (t190.size : Int))) else (none)) else (none)) else (none)) else (none)) else (none)) else (none)) else (none)) else (none)) else (none)))) else (none))) else (none))) else (none)))) = some r := H
    have A6 := Aside0.mk A60
    clear A60
    replace H := Option.bind_eq_some_iff.mp H
    obtain ⟨t189, A70, H⟩ := H
    replace H : ((wire_PutText.f a2).bind fun t190 => (if t188.size + a3.size ≤ 9223372036854775807 then ((wire_Get.f k (t188 ++ a3)).bind fun bt191 => (if t189.size + a3.size ≤ 9223372036854775807 then ((wire_GetInt.f k (t189 ++ a3)).bind fun bt194 => (if t190.size + a3.size ≤ 9223372036854775807 then ((wire_GetText.f k (t190 ++ a3) 2000).bind fun bt197 => ((cleatlaw18_sent.f k).bind fun t200 => (if t200 = true then (if bt191.2.2 = 0 then (if bt191.1 = a0 then (if bt191.2.1 = (t188.size : Int) then (if bt194.2.2 = 0 then (if bt194.1 = a1 then (if bt194.2.1 = (t189.size : Int) then (if bt197.2.2 = 0 then (if bt197.1.toList = a2.toList then (some (bt197.2.1 == (t190.size : Int))) else (none)) else (none)) else (none)) else (none)) else (none)) else (none)) else (none)) else (none)) else (none)))) else (none))) else (none))) else (none))) = some r := H
    have A7 := Aside0.mk A70
    clear A70
    replace H := Option.bind_eq_some_iff.mp H
    obtain ⟨t190, A80, H⟩ := H
    replace H : (if t188.size + a3.size ≤ 9223372036854775807 then ((wire_Get.f k (t188 ++ a3)).bind fun bt191 => (if t189.size + a3.size ≤ 9223372036854775807 then ((wire_GetInt.f k (t189 ++ a3)).bind fun bt194 => (if t190.size + a3.size ≤ 9223372036854775807 then ((wire_GetText.f k (t190 ++ a3) 2000).bind fun bt197 => ((cleatlaw18_sent.f k).bind fun t200 => (if t200 = true then (if bt191.2.2 = 0 then (if bt191.1 = a0 then (if bt191.2.1 = (t188.size : Int) then (if bt194.2.2 = 0 then (if bt194.1 = a1 then (if bt194.2.1 = (t189.size : Int) then (if bt197.2.2 = 0 then (if bt197.1.toList = a2.toList then (some (bt197.2.1 == (t190.size : Int))) else (none)) else (none)) else (none)) else (none)) else (none)) else (none)) else (none)) else (none)) else (none)))) else (none))) else (none))) else (none)) = some r := H
    have A8 := Aside0.mk A80
    clear A80
    by_cases c9 : t188.size + a3.size ≤ 9223372036854775807
    · rw [if_pos c9] at H
      have c9b0 := eq_true c9
      have c9b1 : decide (t188.size + a3.size ≤ 9223372036854775807) = true := decide_eq_true c9
      try have c9b2 : (9223372036854775807 < t188.size + a3.size) = False := eq_false (Nat.not_lt.2 c9)
      replace H := Option.bind_eq_some_iff.mp H
      obtain ⟨⟨t191, t192, t193⟩, A100, H⟩ := H
      replace H : (if t189.size + a3.size ≤ 9223372036854775807 then ((wire_GetInt.f k (t189 ++ a3)).bind fun bt194 => (if t190.size + a3.size ≤ 9223372036854775807 then ((wire_GetText.f k (t190 ++ a3) 2000).bind fun bt197 => ((cleatlaw18_sent.f k).bind fun t200 => (if t200 = true then (if t193 = 0 then (if t191 = a0 then (if t192 = (t188.size : Int) then (if bt194.2.2 = 0 then (if bt194.1 = a1 then (if bt194.2.1 = (t189.size : Int) then (if bt197.2.2 = 0 then (if bt197.1.toList = a2.toList then (some (bt197.2.1 == (t190.size : Int))) else (none)) else (none)) else (none)) else (none)) else (none)) else (none)) else (none)) else (none)) else (none)))) else (none))) else (none)) = some r := H
      have A10 := Aside0.mk A100
      clear A100
      by_cases c11 : t189.size + a3.size ≤ 9223372036854775807
      · rw [if_pos c11] at H
        have c11b0 := eq_true c11
        have c11b1 : decide (t189.size + a3.size ≤ 9223372036854775807) = true := decide_eq_true c11
        try have c11b2 : (9223372036854775807 < t189.size + a3.size) = False := eq_false (Nat.not_lt.2 c11)
        replace H := Option.bind_eq_some_iff.mp H
        obtain ⟨⟨t194, t195, t196⟩, A120, H⟩ := H
        replace H : (if t190.size + a3.size ≤ 9223372036854775807 then ((wire_GetText.f k (t190 ++ a3) 2000).bind fun bt197 => ((cleatlaw18_sent.f k).bind fun t200 => (if t200 = true then (if t193 = 0 then (if t191 = a0 then (if t192 = (t188.size : Int) then (if t196 = 0 then (if t194 = a1 then (if t195 = (t189.size : Int) then (if bt197.2.2 = 0 then (if bt197.1.toList = a2.toList then (some (bt197.2.1 == (t190.size : Int))) else (none)) else (none)) else (none)) else (none)) else (none)) else (none)) else (none)) else (none)) else (none)))) else (none)) = some r := H
        have A12 := Aside0.mk A120
        clear A120
        by_cases c13 : t190.size + a3.size ≤ 9223372036854775807
        · rw [if_pos c13] at H
          have c13b0 := eq_true c13
          have c13b1 : decide (t190.size + a3.size ≤ 9223372036854775807) = true := decide_eq_true c13
          try have c13b2 : (9223372036854775807 < t190.size + a3.size) = False := eq_false (Nat.not_lt.2 c13)
          replace H := Option.bind_eq_some_iff.mp H
          obtain ⟨⟨t197, t198, t199⟩, A140, H⟩ := H
          replace H : ((cleatlaw18_sent.f k).bind fun t200 => (if t200 = true then (if t193 = 0 then (if t191 = a0 then (if t192 = (t188.size : Int) then (if t196 = 0 then (if t194 = a1 then (if t195 = (t189.size : Int) then (if t199 = 0 then (if t197.toList = a2.toList then (some (t198 == (t190.size : Int))) else (none)) else (none)) else (none)) else (none)) else (none)) else (none)) else (none)) else (none)) else (none))) = some r := H
          have A14 := Aside0.mk A140
          clear A140
          replace H := Option.bind_eq_some_iff.mp H
          obtain ⟨t200, A150, H⟩ := H
          replace H : (if t200 = true then (if t193 = 0 then (if t191 = a0 then (if t192 = (t188.size : Int) then (if t196 = 0 then (if t194 = a1 then (if t195 = (t189.size : Int) then (if t199 = 0 then (if t197.toList = a2.toList then (some (t198 == (t190.size : Int))) else (none)) else (none)) else (none)) else (none)) else (none)) else (none)) else (none)) else (none)) else (none)) = some r := H
          have A15 := Aside0.mk A150
          clear A150
          by_cases c16 : t200 = true
          · subst c16
            have H1 : (if t193 = 0 then (if t191 = a0 then (if t192 = (t188.size : Int) then (if t196 = 0 then (if t194 = a1 then (if t195 = (t189.size : Int) then (if t199 = 0 then (if t197.toList = a2.toList then (some (t198 == (t190.size : Int))) else (none)) else (none)) else (none)) else (none)) else (none)) else (none)) else (none)) else (none)) = some r := by rw [if_pos rfl] at H; exact H
            clear H
            have H := H1
            clear H1
            by_cases c17 : t193 = 0
            · rw [if_pos c17] at H
              have c17b0 : (t193 == 0) = true := beq_iff_eq.mpr c17
              have c17b1 : (t193 != 0) = false := bne_eq_false_iff_eq.mpr c17
              clear c17
              by_cases c18 : t191 = a0
              · rw [if_pos c18] at H
                have c18b0 : (t191 == a0) = true := beq_iff_eq.mpr c18
                have c18b1 : (t191 != a0) = false := bne_eq_false_iff_eq.mpr c18
                clear c18
                by_cases c19 : t192 = (t188.size : Int)
                · rw [if_pos c19] at H
                  have c19b0 : (t192 == (t188.size : Int)) = true := beq_iff_eq.mpr c19
                  have c19b1 : (t192 != (t188.size : Int)) = false := bne_eq_false_iff_eq.mpr c19
                  clear c19
                  by_cases c20 : t196 = 0
                  · rw [if_pos c20] at H
                    have c20b0 : (t196 == 0) = true := beq_iff_eq.mpr c20
                    have c20b1 : (t196 != 0) = false := bne_eq_false_iff_eq.mpr c20
                    clear c20
                    by_cases c21 : t194 = a1
                    · rw [if_pos c21] at H
                      have c21b0 : (t194 == a1) = true := beq_iff_eq.mpr c21
                      have c21b1 : (t194 != a1) = false := bne_eq_false_iff_eq.mpr c21
                      clear c21
                      by_cases c22 : t195 = (t189.size : Int)
                      · rw [if_pos c22] at H
                        have c22b0 : (t195 == (t189.size : Int)) = true := beq_iff_eq.mpr c22
                        have c22b1 : (t195 != (t189.size : Int)) = false := bne_eq_false_iff_eq.mpr c22
                        clear c22
                        by_cases c23 : t199 = 0
                        · rw [if_pos c23] at H
                          have c23b0 : (t199 == 0) = true := beq_iff_eq.mpr c23
                          have c23b1 : (t199 != 0) = false := bne_eq_false_iff_eq.mpr c23
                          clear c23
                          by_cases c24 : t197.toList = a2.toList
                          · rw [if_pos c24] at H
                            have c24b0 : (t197.toList == a2.toList) = true := beq_iff_eq.mpr c24
                            have c24b1 : (t197.toList != a2.toList) = false := bne_eq_false_iff_eq.mpr c24
                            clear c24
                            obtain rfl := Option.some.inj H
                            go_enter Try.func6, Try.ntmps6
                            go_wp2_with (first | ((with_reducible refine gate_callee (f := 8) rfl ?_); refine goesL_ (some 28) rfl rfl Try.func8 (by kernel_rfl) rfl #[.int .u64 a0] rfl (by (try simp only [List.map_toArray, List.map_cons, List.map_nil]); first | done | rfl | (simp only [List.length_drop, List.length_take]; rfl)) ?_; (with_reducible refine (wire_Put.calls a0 t188 _ A6.out).mono ?_); rintro e w25 ⟨rfl, hb⟩; refine ⟨_, rfl, ?_⟩; have n0_ := Aside0.mk (below_step (by repeat (first | (with_reducible first | exact HB.out | apply below_alloc | apply pw_below_drewN | apply below_drew1) | exact HB.out)) hb); clear HB; have HB := n0_; clear n0_; (try clear hb); (try clear hb2); (try clear hk); (try clear hi)) | ((with_reducible refine gate_callee (f := 18) rfl ?_); refine goesL_ (some 30) rfl rfl Try.func18 (by kernel_rfl) rfl #[.int .i64 a1] rfl (by (try simp only [List.map_toArray, List.map_cons, List.map_nil]); first | done | rfl | (simp only [List.length_drop, List.length_take]; rfl)) ?_; (with_reducible refine (wire_PutInt.calls a1 t189 _ A7.out).mono ?_); rintro e w26 ⟨rfl, hb⟩; refine ⟨_, rfl, ?_⟩; have n0_ := Aside0.mk (below_step (by repeat (first | (with_reducible first | exact HB.out | apply below_alloc | apply pw_below_drewN | apply below_drew1) | exact HB.out)) hb); clear HB; have HB := n0_; clear n0_; (try clear hb); (try clear hb2); (try clear hk); (try clear hi)) | ((with_reducible refine gate_callee (f := 9) rfl ?_); refine goesL_ (some 32) rfl rfl Try.func9 (by kernel_rfl) rfl #[.string a2] rfl (by (try simp only [List.map_toArray, List.map_cons, List.map_nil]); first | done | rfl | (simp only [List.length_drop, List.length_take]; rfl)) ?_; (with_reducible refine (wire_PutText.calls a2 t190 _ A8.out).mono ?_); rintro e w27 ⟨rfl, hb⟩; refine ⟨_, rfl, ?_⟩; have n0_ := Aside0.mk (below_step (by repeat (first | (with_reducible first | exact HB.out | apply below_alloc | apply pw_below_drewN | apply below_drew1) | exact HB.out)) hb); clear HB; have HB := n0_; clear n0_; (try clear hb); (try clear hb2); (try clear hk); (try clear hi)) | ((with_reducible refine gate_callee (f := 12) rfl ?_); refine goesL_ (some 37) rfl rfl Try.func12 (by kernel_rfl) rfl #[.string (t188 ++ a3)] rfl (by (try simp only [List.map_toArray, List.map_cons, List.map_nil]); first | done | rfl | (simp only [List.length_drop, List.length_take]; rfl)) ?_; (with_reducible refine (wire_Get.calls k (t188 ++ a3) t191 t192 t193 _ A10.out).mono ?_); rintro e w' ⟨rfl, ⟨nd, rfl⟩⟩; refine ⟨_, rfl, ?_⟩) | ((with_reducible refine gate_callee (f := 14) rfl ?_); refine goesL_ (some 45) rfl rfl Try.func14 (by kernel_rfl) rfl #[.string (t189 ++ a3)] rfl (by (try simp only [List.map_toArray, List.map_cons, List.map_nil]); first | done | rfl | (simp only [List.length_drop, List.length_take]; rfl)) ?_; (with_reducible refine (wire_GetInt.calls k (t189 ++ a3) t194 t195 t196 _ A12.out).mono ?_); rintro e w' ⟨rfl, ⟨nd, rfl⟩⟩; refine ⟨_, rfl, ?_⟩) | ((with_reducible refine gate_callee (f := 11) rfl ?_); refine goesL_ (some 53) rfl rfl Try.func11 (by kernel_rfl) rfl #[.string (t190 ++ a3), .int .i64 2000] rfl (by (try simp only [List.map_toArray, List.map_cons, List.map_nil]); first | done | rfl | (simp only [List.length_drop, List.length_take]; rfl)) ?_; (with_reducible refine (wire_GetText.calls k (t190 ++ a3) 2000 t197 t198 t199 _ A14.out).mono ?_); rintro e w' ⟨rfl, ⟨nd, rfl⟩⟩; refine ⟨_, rfl, ?_⟩) | ((with_reducible refine gate_callee (f := 10) rfl ?_); refine goesL_ (some 57) rfl rfl Try.func10 (by kernel_rfl) rfl #[] rfl (by (try simp only [List.map_toArray, List.map_cons, List.map_nil]); first | done | rfl | (simp only [List.length_drop, List.length_take]; rfl)) ?_; (with_reducible refine (cleatlaw18_sent.calls k  true _ A15.out).mono ?_); rintro e w28 ⟨rfl, hb⟩; refine ⟨_, rfl, ?_⟩; have n0_ := Aside0.mk (below_step (by repeat (first | (with_reducible first | exact HB.out | apply below_alloc | apply pw_below_drewN | apply below_drew1) | exact HB.out)) hb); clear HB; have HB := n0_; clear n0_; (try clear hb); (try clear hb2); (try clear hk); (try clear hi)))
                            go_ret
                            exact ⟨by first | rfl | (simp [errW_none, errW_some] <;> rfl) | (simp [*, errW_none, errW_some] <;> rfl), by repeat (first | (with_reducible first | exact HB.out | apply below_alloc | apply pw_below_drewN | apply below_drew1) | exact HB.out)⟩
                          · rw [if_neg c24] at H
                            exact absurd H (by simp)
                        · rw [if_neg c23] at H
                          exact absurd H (by simp)
                      · rw [if_neg c22] at H
                        exact absurd H (by simp)
                    · rw [if_neg c21] at H
                      exact absurd H (by simp)
                  · rw [if_neg c20] at H
                    exact absurd H (by simp)
                · rw [if_neg c19] at H
                  exact absurd H (by simp)
              · rw [if_neg c18] at H
                exact absurd H (by simp)
            · rw [if_neg c17] at H
              exact absurd H (by simp)
          · replace c16 := Bool.eq_false_iff.mpr c16
            subst c16
            have H1 : (none) = some r := by rw [if_neg (show ¬ (false = true) by decide)] at H; exact H
            clear H
            have H := H1
            clear H1
            exact absurd H (by simp)
        · rw [if_neg c13] at H
          exact absurd H (by simp)
      · rw [if_neg c11] at H
        exact absurd H (by simp)
    · rw [if_neg c9] at H
      exact absurd H (by simp)

/-- THE ONE PURE STATEMENT of cleatlaw18_WireBack: yours. -/
def cleatlaw18_WireBack.Pure : Prop := ∀ (a0 : Int) (a1 : Int) (a2 : ByteArray) (a3 : ByteArray), (Lit.int .u64 a0).wf = true → (Lit.int .i64 a1).wf = true → a2.size ≤ 140737488351232 → a3.size ≤ 140737488351232 → ∃ k, cleatlaw18_WireBack.f k a0 a1 a2 a3 = some true
theorem cleatlaw18_WireBack.walk (P : cleatlaw18_WireBack.Pure) (a0 : Int) (a1 : Int) (a2 : ByteArray) (a3 : ByteArray) (w : World) (w0 : (Lit.int .u64 a0).wf = true) (w1 : (Lit.int .i64 a1).wf = true) (w2 : a2.size ≤ 140737488351232) (w3 : a3.size ≤ 140737488351232) :
    Calls Try.prog 6 #[.int .u64 a0, .int .i64 a1, .string a2, .string a3] w fun e w' => e = .returned (.bool true) ∧ Below w.heap.size w w' := by
  obtain ⟨k, h⟩ := P a0 a1 a2 a3 w0 w1 w2 w3
  refine (cleatlaw18_WireBack.calls k a0 a1 a2 a3 true w h).mono ?_
  rintro e w' ⟨rfl, hd⟩
  exact ⟨rfl, hd⟩

end Go.Proofs.Ytfajpcinmpbhgaa.P
