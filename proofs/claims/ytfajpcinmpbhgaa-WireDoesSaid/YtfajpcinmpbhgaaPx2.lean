/- Written for this claim by a program of this session (drive.py, over the print of the kit): Lean functions with the answers of Go functions, and the proofs that the Go code comes to these answers, under no condition but the readings of the arguments that each theorem names. -/
import Derived.Test.YtfajpcinmpbhgaaPx0
import Derived.Test.YtfajpcinmpbhgaaPx1
namespace Go.Proofs.Ytfajpcinmpbhgaa.P
open Go.RowKit Go.Proofs.YtfajpcinmpbhgaaW.PrintWords Go.Proofs.YtfajpcinmpbhgaaW.PrintLast Go.Proofs.YtfajpcinmpbhgaaW.PrintMore
attribute [local go_sem] max2_int min2_int max_two min_two max_three min_three max_four min_four   -- for this text's walks alone
set_option linter.unusedVariables false
set_option linter.unusedSimpArgs false

/-! ### wire_PutInt: function 18 -/
def wire_PutInt.f (a0 : Int) : Option (ByteArray) := (wire_Put.f (Go.bits .xor .u64 (IntKind.u64.wrap ((IntKind.u64.wrap (a0)) * 2)) (IntKind.u64.wrap (a0 / 9223372036854775808)))).bind fun t104 => (some t104)
set_option maxHeartbeats 8000000 in
set_option maxRecDepth 100000 in
theorem wire_PutInt.calls (a0 : Int) (r : ByteArray) (w : World) (h : wire_PutInt.f a0 = some r) :
    Calls Try.prog 18 #[.int .i64 a0] w fun e w' => e = .returned (.string r) ∧ Below w.heap.size w w' := by
  have HB := Aside0.mk (Below.refl w.heap.size w)
  have H : ((wire_Put.f (Go.bits .xor .u64 (IntKind.u64.wrap ((IntKind.u64.wrap (a0)) * 2)) (IntKind.u64.wrap (a0 / 9223372036854775808)))).bind fun t104 => (some t104)) = some r := h
  clear h
  replace H := Option.bind_eq_some_iff.mp H
  obtain ⟨t104, A20, H⟩ := H
  replace H : (some t104) = some r := H
  have A2 := Aside0.mk A20
  clear A20
  obtain rfl := Option.some.inj H
  go_enter Try.func18, Try.ntmps18
  go_wp2_with (first | ((with_reducible refine gate_callee (f := 8) rfl ?_); refine goesL_ (some 10) rfl rfl Try.func8 (by kernel_rfl) rfl #[.int .u64 (Go.bits .xor .u64 (IntKind.u64.wrap ((IntKind.u64.wrap (a0)) * 2)) (IntKind.u64.wrap (a0 / 9223372036854775808)))] rfl (by (try simp only [List.map_toArray, List.map_cons, List.map_nil]); first | done | rfl | (simp only [List.length_drop, List.length_take]; rfl)) ?_; (with_reducible refine (wire_Put.calls (Go.bits .xor .u64 (IntKind.u64.wrap ((IntKind.u64.wrap (a0)) * 2)) (IntKind.u64.wrap (a0 / 9223372036854775808))) t104 _ A2.out).mono ?_); rintro e w3 ⟨rfl, hb⟩; refine ⟨_, rfl, ?_⟩; have n0_ := Aside0.mk (below_step (by repeat (first | (with_reducible first | exact HB.out | apply below_alloc | apply pw_below_drewN | apply below_drew1) | exact HB.out)) hb); clear HB; have HB := n0_; clear n0_; (try clear hb); (try clear hb2); (try clear hk); (try clear hi)))
  go_ret
  exact ⟨by first | rfl | (simp [errW_none, errW_some] <;> rfl) | (simp [*, errW_none, errW_some] <;> rfl), by repeat (first | (with_reducible first | exact HB.out | apply below_alloc | apply pw_below_drewN | apply below_drew1) | exact HB.out)⟩

/-! ### cleatlaw18_sent: function 10 -/
def cleatlaw18_sent.f (k : Nat)  : Option (Bool) := (wire_Get.f k (⟨#[128]⟩ : ByteArray)).bind fun bt105 => ((wire_Get.f k (⟨#[128, 0]⟩ : ByteArray)).bind fun bt108 => ((wire_Get.f k (⟨#[172, 2, 122]⟩ : ByteArray)).bind fun bt111 => ((wire_GetText.f k (⟨#[2, 97, 98, 99]⟩ : ByteArray) 9).bind fun bt114 => ((wire_GetText.f k (⟨#[2, 97, 98, 99]⟩ : ByteArray) 1).bind fun bt117 => ((wire_Put.f 300).bind fun t120 => (if t120.toList = ([172, 2] : List UInt8) then ((wire_PutInt.f (-1)).bind fun t121 => (if t121.toList = ([1] : List UInt8) then ((wire_PutText.f (⟨#[97, 98]⟩ : ByteArray)).bind fun t122 => (if t122.toList = ([2, 97, 98] : List UInt8) then (if bt105.2.2 = 9 then (if bt108.2.2 = 3 then (if bt111.2.2 = 0 then (if bt111.1 = 300 then (if bt111.2.1 = 2 then (if bt114.2.2 = 0 then (if bt114.1.toList = ([97, 98] : List UInt8) then (if bt114.2.1 = 3 then (some (bt117.2.2 == 2)) else (none)) else (none)) else (none)) else (none)) else (none)) else (none)) else (none)) else (none)) else (none))) else (none))) else (none)))))))
theorem cleatlaw18_sent.mono : ∀ k, LeO (cleatlaw18_sent.f k ) (cleatlaw18_sent.f (k + 1) ) := by
  intro  k
  unfold cleatlaw18_sent.f
  repeat' first
      | (with_reducible exact wire_Get.mono _ _)
      | (with_reducible exact wire_GetText.mono _ _ _)
      | (with_reducible exact LeO.refl _)
      | (with_reducible exact LeO.none _)
      | (with_reducible refine LeO.ite ?_ ?_)
      | (with_reducible refine LeO.bind ?_ (fun _ => ?_))
      | exact wire_Get.mono _ _
      | exact wire_GetText.mono _ _ _
      | exact LeO.none _
      | refine LeO.ite ?_ ?_
      | refine LeO.bind ?_ (fun _ => ?_)
set_option maxHeartbeats 8000000 in
set_option maxRecDepth 100000 in
theorem cleatlaw18_sent.calls (k : Nat)  (r : Bool) (w : World) (h : cleatlaw18_sent.f k  = some r) :
    Calls Try.prog 10 #[] w fun e w' => e = .returned (.bool r) ∧ Below w.heap.size w w' := by
  have HB := Aside0.mk (Below.refl w.heap.size w)
  have H : ((wire_Get.f k (⟨#[128]⟩ : ByteArray)).bind fun bt105 => ((wire_Get.f k (⟨#[128, 0]⟩ : ByteArray)).bind fun bt108 => ((wire_Get.f k (⟨#[172, 2, 122]⟩ : ByteArray)).bind fun bt111 => ((wire_GetText.f k (⟨#[2, 97, 98, 99]⟩ : ByteArray) 9).bind fun bt114 => ((wire_GetText.f k (⟨#[2, 97, 98, 99]⟩ : ByteArray) 1).bind fun bt117 => ((wire_Put.f 300).bind fun t120 => (if t120.toList = ([172, 2] : List UInt8) then ((wire_PutInt.f (-1)).bind fun t121 => (if t121.toList = ([1] : List UInt8) then ((wire_PutText.f (⟨#[97, 98]⟩ : ByteArray)).bind fun t122 => (if t122.toList = ([2, 97, 98] : List UInt8) then (if bt105.2.2 = 9 then (if bt108.2.2 = 3 then (if bt111.2.2 = 0 then (if bt111.1 = 300 then (if bt111.2.1 = 2 then (if bt114.2.2 = 0 then (if bt114.1.toList = ([97, 98] : List UInt8) then (if bt114.2.1 = 3 then (some (bt117.2.2 == 2)) else (none)) else (none)) else (none)) else (none)) else (none)) else (none)) else (none)) else (none)) else (none))) else (none))) else (none)))))))) = some r := h
  clear h
  replace H := Option.bind_eq_some_iff.mp H
  obtain ⟨⟨t105, t106, t107⟩, A10, H⟩ := H
  replace H : ((wire_Get.f k (⟨#[128, 0]⟩ : ByteArray)).bind fun bt108 => ((wire_Get.f k (⟨#[172, 2, 122]⟩ : ByteArray)).bind fun bt111 => ((wire_GetText.f k (⟨#[2, 97, 98, 99]⟩ : ByteArray) 9).bind fun bt114 => ((wire_GetText.f k (⟨#[2, 97, 98, 99]⟩ : ByteArray) 1).bind fun bt117 => ((wire_Put.f 300).bind fun t120 => (if t120.toList = ([172, 2] : List UInt8) then ((wire_PutInt.f (-1)).bind fun t121 => (if t121.toList = ([1] : List UInt8) then ((wire_PutText.f (⟨#[97, 98]⟩ : ByteArray)).bind fun t122 => (if t122.toList = ([2, 97, 98] : List UInt8) then (if t107 = 9 then (if bt108.2.2 = 3 then (if bt111.2.2 = 0 then (if bt111.1 = 300 then (if bt111.2.1 = 2 then (if bt114.2.2 = 0 then (if bt114.1.toList = ([97, 98] : List UInt8) then (if bt114.2.1 = 3 then (some (bt117.2.2 == 2)) else (none)) else (none)) else (none)) else (none)) else (none)) else (none)) else (none)) else (none)) else (none))) else (none))) else (none))))))) = some r := H
  have A1 := Aside0.mk A10
  clear A10
  replace H := Option.bind_eq_some_iff.mp H
  obtain ⟨⟨t108, t109, t110⟩, A20, H⟩ := H
  replace H : ((wire_Get.f k (⟨#[172, 2, 122]⟩ : ByteArray)).bind fun bt111 => ((wire_GetText.f k (⟨#[2, 97, 98, 99]⟩ : ByteArray) 9).bind fun bt114 => ((wire_GetText.f k (⟨#[2, 97, 98, 99]⟩ : ByteArray) 1).bind fun bt117 => ((wire_Put.f 300).bind fun t120 => (if t120.toList = ([172, 2] : List UInt8) then ((wire_PutInt.f (-1)).bind fun t121 => (if t121.toList = ([1] : List UInt8) then ((wire_PutText.f (⟨#[97, 98]⟩ : ByteArray)).bind fun t122 => (if t122.toList = ([2, 97, 98] : List UInt8) then (if t107 = 9 then (if t110 = 3 then (if bt111.2.2 = 0 then (if bt111.1 = 300 then (if bt111.2.1 = 2 then (if bt114.2.2 = 0 then (if bt114.1.toList = ([97, 98] : List UInt8) then (if bt114.2.1 = 3 then (some (bt117.2.2 == 2)) else (none)) else (none)) else (none)) else (none)) else (none)) else (none)) else (none)) else (none)) else (none))) else (none))) else (none)))))) = some r := H
  have A2 := Aside0.mk A20
  clear A20
  replace H := Option.bind_eq_some_iff.mp H
  obtain ⟨⟨t111, t112, t113⟩, A30, H⟩ := H
  replace H : ((wire_GetText.f k (⟨#[2, 97, 98, 99]⟩ : ByteArray) 9).bind fun bt114 => ((wire_GetText.f k (⟨#[2, 97, 98, 99]⟩ : ByteArray) 1).bind fun bt117 => ((wire_Put.f 300).bind fun t120 => (if t120.toList = ([172, 2] : List UInt8) then ((wire_PutInt.f (-1)).bind fun t121 => (if t121.toList = ([1] : List UInt8) then ((wire_PutText.f (⟨#[97, 98]⟩ : ByteArray)).bind fun t122 => (if t122.toList = ([2, 97, 98] : List UInt8) then (if t107 = 9 then (if t110 = 3 then (if t113 = 0 then (if t111 = 300 then (if t112 = 2 then (if bt114.2.2 = 0 then (if bt114.1.toList = ([97, 98] : List UInt8) then (if bt114.2.1 = 3 then (some (bt117.2.2 == 2)) else (none)) else (none)) else (none)) else (none)) else (none)) else (none)) else (none)) else (none)) else (none))) else (none))) else (none))))) = some r := H
  have A3 := Aside0.mk A30
  clear A30
  replace H := Option.bind_eq_some_iff.mp H
  obtain ⟨⟨t114, t115, t116⟩, A40, H⟩ := H
  replace H : ((wire_GetText.f k (⟨#[2, 97, 98, 99]⟩ : ByteArray) 1).bind fun bt117 => ((wire_Put.f 300).bind fun t120 => (if t120.toList = ([172, 2] : List UInt8) then ((wire_PutInt.f (-1)).bind fun t121 => (if t121.toList = ([1] : List UInt8) then ((wire_PutText.f (⟨#[97, 98]⟩ : ByteArray)).bind fun t122 => (if t122.toList = ([2, 97, 98] : List UInt8) then (if t107 = 9 then (if t110 = 3 then (if t113 = 0 then (if t111 = 300 then (if t112 = 2 then (if t116 = 0 then (if t114.toList = ([97, 98] : List UInt8) then (if t115 = 3 then (some (bt117.2.2 == 2)) else (none)) else (none)) else (none)) else (none)) else (none)) else (none)) else (none)) else (none)) else (none))) else (none))) else (none)))) = some r := H
  have A4 := Aside0.mk A40
  clear A40
  replace H := Option.bind_eq_some_iff.mp H
  obtain ⟨⟨t117, t118, t119⟩, A50, H⟩ := H
  replace H : ((wire_Put.f 300).bind fun t120 => (if t120.toList = ([172, 2] : List UInt8) then ((wire_PutInt.f (-1)).bind fun t121 => (if t121.toList = ([1] : List UInt8) then ((wire_PutText.f (⟨#[97, 98]⟩ : ByteArray)).bind fun t122 => (if t122.toList = ([2, 97, 98] : List UInt8) then (if t107 = 9 then (if t110 = 3 then (if t113 = 0 then (if t111 = 300 then (if t112 = 2 then (if t116 = 0 then (if t114.toList = ([97, 98] : List UInt8) then (if t115 = 3 then (some (t119 == 2)) else (none)) else (none)) else (none)) else (none)) else (none)) else (none)) else (none)) else (none)) else (none))) else (none))) else (none))) = some r := H
  have A5 := Aside0.mk A50
  clear A50
  replace H := Option.bind_eq_some_iff.mp H
  obtain ⟨t120, A60, H⟩ := H
  replace H : (if t120.toList = ([172, 2] : List UInt8) then ((wire_PutInt.f (-1)).bind fun t121 => (if t121.toList = ([1] : List UInt8) then ((wire_PutText.f (⟨#[97, 98]⟩ : ByteArray)).bind fun t122 => (if t122.toList = ([2, 97, 98] : List UInt8) then (if t107 = 9 then (if t110 = 3 then (if t113 = 0 then (if t111 = 300 then (if t112 = 2 then (if t116 = 0 then (if t114.toList = ([97, 98] : List UInt8) then (if t115 = 3 then (some (t119 == 2)) else (none)) else (none)) else (none)) else (none)) else (none)) else (none)) else (none)) else (none)) else (none))) else (none))) else (none)) = some r := H
  have A6 := Aside0.mk A60
  clear A60
  by_cases c7 : t120.toList = ([172, 2] : List UInt8)
  · rw [if_pos c7] at H
    have c7b0 : (t120.toList == ([172, 2] : List UInt8)) = true := beq_iff_eq.mpr c7
    have c7b1 : (t120.toList != ([172, 2] : List UInt8)) = false := bne_eq_false_iff_eq.mpr c7
    clear c7
    replace H := Option.bind_eq_some_iff.mp H
    obtain ⟨t121, A80, H⟩ := H
    replace H : (if t121.toList = ([1] : List UInt8) then ((wire_PutText.f (⟨#[97, 98]⟩ : ByteArray)).bind fun t122 => (if t122.toList = ([2, 97, 98] : List UInt8) then (if t107 = 9 then (if t110 = 3 then (if t113 = 0 then (if t111 = 300 then (if t112 = 2 then (if t116 = 0 then (if t114.toList = ([97, 98] : List UInt8) then (if t115 = 3 then (some (t119 == 2)) else (none)) else (none)) else (none)) else (none)) else (none)) else (none)) else (none)) else (none)) else (none))) else (none)) = some r := H
    have A8 := Aside0.mk A80
    clear A80
    by_cases c9 : t121.toList = ([1] : List UInt8)
    · rw [if_pos c9] at H
      have c9b0 : (t121.toList == ([1] : List UInt8)) = true := beq_iff_eq.mpr c9
      have c9b1 : (t121.toList != ([1] : List UInt8)) = false := bne_eq_false_iff_eq.mpr c9
      clear c9
      replace H := Option.bind_eq_some_iff.mp H
      obtain ⟨t122, A100, H⟩ := H
      replace H : (if t122.toList = ([2, 97, 98] : List UInt8) then (if t107 = 9 then (if t110 = 3 then (if t113 = 0 then (if t111 = 300 then (if t112 = 2 then (if t116 = 0 then (if t114.toList = ([97, 98] : List UInt8) then (if t115 = 3 then (some (t119 == 2)) else (none)) else (none)) else (none)) else (none)) else (none)) else (none)) else (none)) else (none)) else (none)) = some r := H
      have A10 := Aside0.mk A100
      clear A100
      by_cases c11 : t122.toList = ([2, 97, 98] : List UInt8)
      · rw [if_pos c11] at H
        have c11b0 : (t122.toList == ([2, 97, 98] : List UInt8)) = true := beq_iff_eq.mpr c11
        have c11b1 : (t122.toList != ([2, 97, 98] : List UInt8)) = false := bne_eq_false_iff_eq.mpr c11
        clear c11
        by_cases c12 : t107 = 9
        · rw [if_pos c12] at H
          have c12b0 : (t107 == 9) = true := beq_iff_eq.mpr c12
          have c12b1 : (t107 != 9) = false := bne_eq_false_iff_eq.mpr c12
          clear c12
          by_cases c13 : t110 = 3
          · rw [if_pos c13] at H
            have c13b0 : (t110 == 3) = true := beq_iff_eq.mpr c13
            have c13b1 : (t110 != 3) = false := bne_eq_false_iff_eq.mpr c13
            clear c13
            by_cases c14 : t113 = 0
            · rw [if_pos c14] at H
              have c14b0 : (t113 == 0) = true := beq_iff_eq.mpr c14
              have c14b1 : (t113 != 0) = false := bne_eq_false_iff_eq.mpr c14
              clear c14
              by_cases c15 : t111 = 300
              · rw [if_pos c15] at H
                have c15b0 : (t111 == 300) = true := beq_iff_eq.mpr c15
                have c15b1 : (t111 != 300) = false := bne_eq_false_iff_eq.mpr c15
                clear c15
                by_cases c16 : t112 = 2
                · rw [if_pos c16] at H
                  have c16b0 : (t112 == 2) = true := beq_iff_eq.mpr c16
                  have c16b1 : (t112 != 2) = false := bne_eq_false_iff_eq.mpr c16
                  clear c16
                  by_cases c17 : t116 = 0
                  · rw [if_pos c17] at H
                    have c17b0 : (t116 == 0) = true := beq_iff_eq.mpr c17
                    have c17b1 : (t116 != 0) = false := bne_eq_false_iff_eq.mpr c17
                    clear c17
                    by_cases c18 : t114.toList = ([97, 98] : List UInt8)
                    · rw [if_pos c18] at H
                      have c18b0 : (t114.toList == ([97, 98] : List UInt8)) = true := beq_iff_eq.mpr c18
                      have c18b1 : (t114.toList != ([97, 98] : List UInt8)) = false := bne_eq_false_iff_eq.mpr c18
                      clear c18
                      by_cases c19 : t115 = 3
                      · rw [if_pos c19] at H
                        have c19b0 : (t115 == 3) = true := beq_iff_eq.mpr c19
                        have c19b1 : (t115 != 3) = false := bne_eq_false_iff_eq.mpr c19
                        clear c19
                        obtain rfl := Option.some.inj H
                        go_enter Try.func10, Try.ntmps10
                        go_wp2_with (first | ((with_reducible refine gate_callee (f := 12) rfl ?_); refine goesL_ (some 17) rfl rfl Try.func12 (by kernel_rfl) rfl #[.string (⟨#[128]⟩ : ByteArray)] rfl (by (try simp only [List.map_toArray, List.map_cons, List.map_nil]); first | done | rfl | (simp only [List.length_drop, List.length_take]; rfl)) ?_; (with_reducible refine (wire_Get.calls k (⟨#[128]⟩ : ByteArray) t105 t106 t107 _ A1.out).mono ?_); rintro e w' ⟨rfl, ⟨nd, rfl⟩⟩; refine ⟨_, rfl, ?_⟩) | ((with_reducible refine gate_callee (f := 12) rfl ?_); refine goesL_ (some 22) rfl rfl Try.func12 (by kernel_rfl) rfl #[.string (⟨#[128, 0]⟩ : ByteArray)] rfl (by (try simp only [List.map_toArray, List.map_cons, List.map_nil]); first | done | rfl | (simp only [List.length_drop, List.length_take]; rfl)) ?_; (with_reducible refine (wire_Get.calls k (⟨#[128, 0]⟩ : ByteArray) t108 t109 t110 _ A2.out).mono ?_); rintro e w' ⟨rfl, ⟨nd, rfl⟩⟩; refine ⟨_, rfl, ?_⟩) | ((with_reducible refine gate_callee (f := 12) rfl ?_); refine goesL_ (some 27) rfl rfl Try.func12 (by kernel_rfl) rfl #[.string (⟨#[172, 2, 122]⟩ : ByteArray)] rfl (by (try simp only [List.map_toArray, List.map_cons, List.map_nil]); first | done | rfl | (simp only [List.length_drop, List.length_take]; rfl)) ?_; (with_reducible refine (wire_Get.calls k (⟨#[172, 2, 122]⟩ : ByteArray) t111 t112 t113 _ A3.out).mono ?_); rintro e w' ⟨rfl, ⟨nd, rfl⟩⟩; refine ⟨_, rfl, ?_⟩) | ((with_reducible refine gate_callee (f := 11) rfl ?_); refine goesL_ (some 32) rfl rfl Try.func11 (by kernel_rfl) rfl #[.string (⟨#[2, 97, 98, 99]⟩ : ByteArray), .int .i64 9] rfl (by (try simp only [List.map_toArray, List.map_cons, List.map_nil]); first | done | rfl | (simp only [List.length_drop, List.length_take]; rfl)) ?_; (with_reducible refine (wire_GetText.calls k (⟨#[2, 97, 98, 99]⟩ : ByteArray) 9 t114 t115 t116 _ A4.out).mono ?_); rintro e w' ⟨rfl, ⟨nd, rfl⟩⟩; refine ⟨_, rfl, ?_⟩) | ((with_reducible refine gate_callee (f := 11) rfl ?_); refine goesL_ (some 37) rfl rfl Try.func11 (by kernel_rfl) rfl #[.string (⟨#[2, 97, 98, 99]⟩ : ByteArray), .int .i64 1] rfl (by (try simp only [List.map_toArray, List.map_cons, List.map_nil]); first | done | rfl | (simp only [List.length_drop, List.length_take]; rfl)) ?_; (with_reducible refine (wire_GetText.calls k (⟨#[2, 97, 98, 99]⟩ : ByteArray) 1 t117 t118 t119 _ A5.out).mono ?_); rintro e w' ⟨rfl, ⟨nd, rfl⟩⟩; refine ⟨_, rfl, ?_⟩) | ((with_reducible refine gate_callee (f := 8) rfl ?_); refine goesL_ (some 41) rfl rfl Try.func8 (by kernel_rfl) rfl #[.int .u64 300] rfl (by (try simp only [List.map_toArray, List.map_cons, List.map_nil]); first | done | rfl | (simp only [List.length_drop, List.length_take]; rfl)) ?_; (with_reducible refine (wire_Put.calls 300 t120 _ A6.out).mono ?_); rintro e w20 ⟨rfl, hb⟩; refine ⟨_, rfl, ?_⟩; have n0_ := Aside0.mk (below_step (by repeat (first | (with_reducible first | exact HB.out | apply below_alloc | apply pw_below_drewN | apply below_drew1) | exact HB.out)) hb); clear HB; have HB := n0_; clear n0_; (try clear hb); (try clear hb2); (try clear hk); (try clear hi)) | (go_at_call 18; (with_reducible refine (wire_PutInt.calls (-1) t121 _ A8.out).mono ?_); rintro e w21 ⟨rfl, hb⟩; have n0_ := Aside0.mk (below_step (by repeat (first | (with_reducible first | exact HB.out | apply below_alloc | apply pw_below_drewN | apply below_drew1) | exact HB.out)) hb); clear HB; have HB := n0_; clear n0_; (try clear hb); (try clear hb2); (try clear hk); (try clear hi)) | (go_at_call 9; (with_reducible refine (wire_PutText.calls (⟨#[97, 98]⟩ : ByteArray) t122 _ A10.out).mono ?_); rintro e w22 ⟨rfl, hb⟩; have n0_ := Aside0.mk (below_step (by repeat (first | (with_reducible first | exact HB.out | apply below_alloc | apply pw_below_drewN | apply below_drew1) | exact HB.out)) hb); clear HB; have HB := n0_; clear n0_; (try clear hb); (try clear hb2); (try clear hk); (try clear hi)))
                        go_ret
                        exact ⟨by first | rfl | (simp [errW_none, errW_some] <;> rfl) | (simp [*, errW_none, errW_some] <;> rfl), by repeat (first | (with_reducible first | exact HB.out | apply below_alloc | apply pw_below_drewN | apply below_drew1) | exact HB.out)⟩
                      · rw [if_neg c19] at H
                        exact absurd H (by simp)
                    · rw [if_neg c18] at H
                      exact absurd H (by simp)
                  · rw [if_neg c17] at H
                    exact absurd H (by simp)
                · rw [if_neg c16] at H
                  exact absurd H (by simp)
              · rw [if_neg c15] at H
                exact absurd H (by simp)
            · rw [if_neg c14] at H
              exact absurd H (by simp)
          · rw [if_neg c13] at H
            exact absurd H (by simp)
        · rw [if_neg c12] at H
          exact absurd H (by simp)
      · rw [if_neg c11] at H
        exact absurd H (by simp)
    · rw [if_neg c9] at H
      exact absurd H (by simp)
  · rw [if_neg c7] at H
    exact absurd H (by simp)

/-! ### cleatlaw18_WireMore: function 3 -/
def cleatlaw18_WireMore.j0 : Nat → Int → ByteArray → ByteArray → Bool → Option (Bool)
  | 0, _, _, _, _ => none
  | k + 1, x2, x7, x8, x29 => if x29 = true then ((cleatlaw18_sent.f k).bind fun t125 => (some t125)) else (if 0 ≤ x2 then (if x2 ≤ (x8.size : Int) then ((wire_GetText.f k (x8.extract 0 (x2 : Int).toNat) 2000).bind fun bt126 => (if x2 ≥ (x7.size : Int) then ((cleatlaw18_sent.f k).bind fun t129 => (if t129 = true then (some (bt126.2.2 == 9)) else (none))) else (if x2 ≤ (x7.size : Int) then ((wire_Get.f k (x7.extract 0 (x2 : Int).toNat)).bind fun bt130 => ((cleatlaw18_sent.f k).bind fun t133 => (if t133 = true then (if bt126.2.2 = 9 then (some (bt130.2.2 == 9)) else (none)) else (none)))) else (none)))) else (none)) else (none))
def cleatlaw18_WireMore.f (k : Nat) (a0 : Int) (a1 : ByteArray) (a2 : Int) : Option (Bool) := if (a1.size : Int) > 2000 then (some true) else ((wire_Put.f a0).bind fun t123 => ((wire_PutText.f a1).bind fun t124 => (if a2 < 0 then (cleatlaw18_WireMore.j0 k a2 t123 t124 true) else (cleatlaw18_WireMore.j0 k a2 t123 t124 (decide (a2 ≥ (t124.size : Int)))))))
theorem cleatlaw18_WireMore.mono_l : ∀ k, (∀ y0 y1 y2 y3, LeO (cleatlaw18_WireMore.j0 k y0 y1 y2 y3) (cleatlaw18_WireMore.j0 (k + 1) y0 y1 y2 y3))
  | 0 => fun _ _ _ _ r h => by simp [cleatlaw18_WireMore.j0] at h
  | k + 1 => by
    have ih0 := cleatlaw18_WireMore.mono_l k
    · intro y0 y1 y2 y3
      unfold cleatlaw18_WireMore.j0
      repeat' first
      | (with_reducible exact ih0 _ _ _ _)
      | (with_reducible exact cleatlaw18_sent.mono _)
      | (with_reducible exact wire_Get.mono _ _)
      | (with_reducible exact wire_GetText.mono _ _ _)
      | (with_reducible exact LeO.refl _)
      | (with_reducible exact LeO.none _)
      | (with_reducible refine LeO.ite ?_ ?_)
      | (with_reducible refine LeO.bind ?_ (fun _ => ?_))
      | exact ih0 _ _ _ _
      | exact cleatlaw18_sent.mono _
      | exact wire_Get.mono _ _
      | exact wire_GetText.mono _ _ _
      | exact LeO.none _
      | refine LeO.ite ?_ ?_
      | refine LeO.bind ?_ (fun _ => ?_)
theorem cleatlaw18_WireMore.mono : ∀ a0 a1 a2 k, LeO (cleatlaw18_WireMore.f k a0 a1 a2) (cleatlaw18_WireMore.f (k + 1) a0 a1 a2) := by
  intro a0 a1 a2 k
  have ih0 := cleatlaw18_WireMore.mono_l k
  unfold cleatlaw18_WireMore.f
  repeat' first
      | (with_reducible exact ih0 _ _ _ _)
      | (with_reducible exact cleatlaw18_sent.mono _)
      | (with_reducible exact wire_Get.mono _ _)
      | (with_reducible exact wire_GetText.mono _ _ _)
      | (with_reducible exact LeO.refl _)
      | (with_reducible exact LeO.none _)
      | (with_reducible refine LeO.ite ?_ ?_)
      | (with_reducible refine LeO.bind ?_ (fun _ => ?_))
      | exact ih0 _ _ _ _
      | exact cleatlaw18_sent.mono _
      | exact wire_Get.mono _ _
      | exact wire_GetText.mono _ _ _
      | exact LeO.none _
      | refine LeO.ite ?_ ?_
      | refine LeO.bind ?_ (fun _ => ?_)
set_option maxHeartbeats 8000000 in
set_option maxRecDepth 100000 in
theorem cleatlaw18_WireMore.calls (k : Nat) (a0 : Int) (a1 : ByteArray) (a2 : Int) (r : Bool) (w : World) (h : cleatlaw18_WireMore.f k a0 a1 a2 = some r) :
    Calls Try.prog 3 #[.int .u64 a0, .string a1, .int .i64 a2] w fun e w' => e = .returned (.bool r) ∧ Below w.heap.size w w' := by
  have HB := Aside0.mk (Below.refl w.heap.size w)
  have H : (if (a1.size : Int) > 2000 then (some true) else ((wire_Put.f a0).bind fun t123 => ((wire_PutText.f a1).bind fun t124 => (if a2 < 0 then (cleatlaw18_WireMore.j0 k a2 t123 t124 true) else (cleatlaw18_WireMore.j0 k a2 t123 t124 (decide (a2 ≥ (t124.size : Int)))))))) = some r := h
  clear h
  by_cases c4 : (a1.size : Int) > 2000
  · rw [if_pos c4] at H
    have c4b0 : decide (2000 < (a1.size : Int)) = true := decide_eq_true c4
    have c4b1 : decide (2000 < a1.size) = true := decide_eq_true (by omega)
    clear c4
    obtain rfl := Option.some.inj H
    go_enter Try.func3, Try.ntmps3
    go_wp2
    go_ret
    exact ⟨by first | rfl | (simp [errW_none, errW_some] <;> rfl) | (simp [*, errW_none, errW_some] <;> rfl), by repeat (first | (with_reducible first | exact HB.out | apply below_alloc | apply pw_below_drewN | apply below_drew1) | exact HB.out)⟩
  · rw [if_neg c4] at H
    have c4b0 : decide (2000 < (a1.size : Int)) = false := decide_eq_false c4
    have c4b1 : decide (2000 < a1.size) = false := decide_eq_false (by omega)
    clear c4
    replace H := Option.bind_eq_some_iff.mp H
    obtain ⟨t123, A50, H⟩ := H
    replace H : ((wire_PutText.f a1).bind fun t124 => (if a2 < 0 then (cleatlaw18_WireMore.j0 k a2 t123 t124 true) else (cleatlaw18_WireMore.j0 k a2 t123 t124 (decide (a2 ≥ (t124.size : Int)))))) = some r := H
    have A5 := Aside0.mk A50
    clear A50
    replace H := Option.bind_eq_some_iff.mp H
    obtain ⟨t124, A60, H⟩ := H
    replace H : (if a2 < 0 then (cleatlaw18_WireMore.j0 k a2 t123 t124 true) else (cleatlaw18_WireMore.j0 k a2 t123 t124 (decide (a2 ≥ (t124.size : Int))))) = some r := H
    have A6 := Aside0.mk A60
    clear A60
    have HC7 := Aside0.mk H
    clear H
    go_enter Try.func3, Try.ntmps3
    go_upto_region 5 with (first | ((with_reducible refine gate_callee (f := 8) rfl ?_); refine goesL_ (some 19) rfl rfl Try.func8 (by kernel_rfl) rfl #[.int .u64 a0] rfl (by (try simp only [List.map_toArray, List.map_cons, List.map_nil]); first | done | rfl | (simp only [List.length_drop, List.length_take]; rfl)) ?_; (with_reducible refine (wire_Put.calls a0 t123 _ A5.out).mono ?_); rintro e w8 ⟨rfl, hb⟩; refine ⟨_, rfl, ?_⟩; have n0_ := Aside0.mk (below_step (by repeat (first | (with_reducible first | exact HB.out | apply below_alloc | apply pw_below_drewN | apply below_drew1) | exact HB.out)) hb); clear HB; have HB := n0_; clear n0_; (try clear hb); (try clear hb2); (try clear hk); (try clear hi)) | ((with_reducible refine gate_callee (f := 9) rfl ?_); refine goesL_ (some 21) rfl rfl Try.func9 (by kernel_rfl) rfl #[.string a1] rfl (by (try simp only [List.map_toArray, List.map_cons, List.map_nil]); first | done | rfl | (simp only [List.length_drop, List.length_take]; rfl)) ?_; (with_reducible refine (wire_PutText.calls a1 t124 _ A6.out).mono ?_); rintro e w9 ⟨rfl, hb⟩; refine ⟨_, rfl, ?_⟩; have n0_ := Aside0.mk (below_step (by repeat (first | (with_reducible first | exact HB.out | apply below_alloc | apply pw_below_drewN | apply below_drew1) | exact HB.out)) hb); clear HB; have HB := n0_; clear n0_; (try clear hb); (try clear hb2); (try clear hk); (try clear hi)))
    (try simp only [Act.put, List.setIfInBounds_toArray, List.set_cons_zero, List.set_cons_succ])
    go_cut [29] (fun v29 wc => ∃ (kq : Nat) (x29_6 : Bool), v29 = .bool x29_6 ∧ Aside0 (cleatlaw18_WireMore.j0 kq a2 t123 t124 x29_6 = some r) ∧ Aside0 (kq ≤ k) ∧ Aside0 (Below w.heap.size w wc))
    case first =>
      have H := HC7.out
      clear HC7
      (try (rw [drewN_self w]; have n0_ := fun n_ => pw_below_drewN HB.out n_; clear HB; generalize hq_ : World.drewN w _ = w; have HB := Aside0.mk (hq_ ▸ n0_ _); clear hq_ n0_))
      by_cases c10 : a2 < 0
      · rw [if_pos c10] at H
        have c10b0 : decide (a2 < 0) = true := decide_eq_true c10
        clear c10
        (first | rw [c10b0] | (simp only [i64_w, i32_w]; rw [c10b0]) | skip)
        have H' := Aside0.mk H
        clear H
        go_wp2
        go_meet
        case rel => exact ⟨_, (true), (by first | rfl | (simp; done) | (simp [*]; done)), H', ⟨by first | omega | exact Nat.le_refl _⟩, ⟨by repeat (first | (with_reducible first | exact HB.out | apply below_alloc | apply pw_below_drewN | apply below_drew1) | exact HB.out)⟩⟩
      · rw [if_neg c10] at H
        have c10b0 : decide (a2 < 0) = false := decide_eq_false c10
        clear c10
        (first | rw [c10b0] | (simp only [i64_w, i32_w]; rw [c10b0]) | skip)
        have H' := Aside0.mk H
        clear H
        go_wp2
        go_meet
        case rel => exact ⟨_, (decide (a2 ≥ (t124.size : Int))), (by first | rfl | (simp; done) | (simp [*]; done)), H', ⟨by first | omega | exact Nat.le_refl _⟩, ⟨by repeat (first | (with_reducible first | exact HB.out | apply below_alloc | apply pw_below_drewN | apply below_drew1) | exact HB.out)⟩⟩
    case rest =>
      clear HC7
      try clear c1
      try clear p2
      try clear c3
      try clear c4
      try clear c4b0
      try clear c4b1
      try clear c8
      try clear c9
      try clear c10
      try clear c10b0
      obtain ⟨kq, x29_6, rfl, HA, HJ6, HB⟩ := hcut
      cases kq with
      | zero => exact absurd HA.out (by simp [cleatlaw18_WireMore.j0])
      | succ kj6 =>
        have H := HA.out
        clear HA
        simp only [cleatlaw18_WireMore.j0] at H
        by_cases c11 : x29_6 = true
        · subst c11
          have H1 : ((cleatlaw18_sent.f kj6).bind fun t125 => (some t125)) = some r := by rw [if_pos rfl] at H; exact H
          clear H
          have H := H1
          clear H1
          replace H := Option.bind_eq_some_iff.mp H
          obtain ⟨t125, A120, H⟩ := H
          replace H : (some t125) = some r := H
          have A12 := Aside0.mk A120
          clear A120
          obtain rfl := Option.some.inj H
          go_wp2_with (first | ((with_reducible refine gate_callee (f := 10) rfl ?_); refine goesL_ (some 30) rfl rfl Try.func10 (by kernel_rfl) rfl #[] rfl (by (try simp only [List.map_toArray, List.map_cons, List.map_nil]); first | done | rfl | (simp only [List.length_drop, List.length_take]; rfl)) ?_; (with_reducible refine (cleatlaw18_sent.calls kj6  t125 _ A12.out).mono ?_); rintro e w13 ⟨rfl, hb⟩; refine ⟨_, rfl, ?_⟩; have n0_ := Aside0.mk (below_step (by repeat (first | (with_reducible first | exact HB.out | apply below_alloc | apply pw_below_drewN | apply below_drew1) | exact HB.out)) hb); clear HB; have HB := n0_; clear n0_; (try clear hb); (try clear hb2); (try clear hk); (try clear hi)))
          go_ret
          exact ⟨by first | rfl | (simp [errW_none, errW_some] <;> rfl) | (simp [*, errW_none, errW_some] <;> rfl), by repeat (first | (with_reducible first | exact HB.out | apply below_alloc | apply pw_below_drewN | apply below_drew1) | exact HB.out)⟩
        · replace c11 := Bool.eq_false_iff.mpr c11
          subst c11
          have H1 : (if 0 ≤ a2 then (if a2 ≤ (t124.size : Int) then ((wire_GetText.f kj6 (t124.extract 0 (a2 : Int).toNat) 2000).bind fun bt126 => (if a2 ≥ (t123.size : Int) then ((cleatlaw18_sent.f kj6).bind fun t129 => (if t129 = true then (some (bt126.2.2 == 9)) else (none))) else (if a2 ≤ (t123.size : Int) then ((wire_Get.f kj6 (t123.extract 0 (a2 : Int).toNat)).bind fun bt130 => ((cleatlaw18_sent.f kj6).bind fun t133 => (if t133 = true then (if bt126.2.2 = 9 then (some (bt130.2.2 == 9)) else (none)) else (none)))) else (none)))) else (none)) else (none)) = some r := by rw [if_neg (show ¬ (false = true) by decide)] at H; exact H
          clear H
          have H := H1
          clear H1
          by_cases c14 : 0 ≤ a2
          · rw [if_pos c14] at H
            have c14b0 := eq_true c14
            have c14b1 : decide (0 ≤ a2) = true := decide_eq_true c14
            clear c14
            by_cases c15 : a2 ≤ (t124.size : Int)
            · rw [if_pos c15] at H
              have c15b0 := eq_true c15
              have c15b1 : decide (a2 ≤ (t124.size : Int)) = true := decide_eq_true c15
              clear c15
              replace H := Option.bind_eq_some_iff.mp H
              obtain ⟨⟨t126, t127, t128⟩, A160, H⟩ := H
              replace H : (if a2 ≥ (t123.size : Int) then ((cleatlaw18_sent.f kj6).bind fun t129 => (if t129 = true then (some (t128 == 9)) else (none))) else (if a2 ≤ (t123.size : Int) then ((wire_Get.f kj6 (t123.extract 0 (a2 : Int).toNat)).bind fun bt130 => ((cleatlaw18_sent.f kj6).bind fun t133 => (if t133 = true then (if t128 = 9 then (some (bt130.2.2 == 9)) else (none)) else (none)))) else (none))) = some r := H
              have A16 := Aside0.mk A160
              clear A160
              by_cases c17 : a2 ≥ (t123.size : Int)
              · rw [if_pos c17] at H
                have c17b0 : decide ((t123.size : Int) ≤ a2) = true := decide_eq_true c17
                clear c17
                replace H := Option.bind_eq_some_iff.mp H
                obtain ⟨t129, A180, H⟩ := H
                replace H : (if t129 = true then (some (t128 == 9)) else (none)) = some r := H
                have A18 := Aside0.mk A180
                clear A180
                by_cases c19 : t129 = true
                · subst c19
                  have H1 : (some (t128 == 9)) = some r := by rw [if_pos rfl] at H; exact H
                  clear H
                  have H := H1
                  clear H1
                  obtain rfl := Option.some.inj H
                  go_wp2_with (first | ((with_reducible refine gate_callee (f := 11) rfl ?_); refine goesL_ (some 35) rfl rfl Try.func11 (by kernel_rfl) rfl #[.string (t124.extract 0 (a2 : Int).toNat), .int .i64 2000] rfl (by (try simp only [List.map_toArray, List.map_cons, List.map_nil]); first | done | rfl | (simp only [List.length_drop, List.length_take]; rfl)) ?_; (with_reducible refine (wire_GetText.calls kj6 (t124.extract 0 (a2 : Int).toNat) 2000 t126 t127 t128 _ A16.out).mono ?_); rintro e w' ⟨rfl, ⟨nd, rfl⟩⟩; refine ⟨_, rfl, ?_⟩) | ((with_reducible refine gate_callee (f := 10) rfl ?_); refine goesL_ (some 43) rfl rfl Try.func10 (by kernel_rfl) rfl #[] rfl (by (try simp only [List.map_toArray, List.map_cons, List.map_nil]); first | done | rfl | (simp only [List.length_drop, List.length_take]; rfl)) ?_; (with_reducible refine (cleatlaw18_sent.calls kj6  true _ A18.out).mono ?_); rintro e w20 ⟨rfl, hb⟩; refine ⟨_, rfl, ?_⟩; have n0_ := Aside0.mk (below_step (by repeat (first | (with_reducible first | exact HB.out | apply below_alloc | apply pw_below_drewN | apply below_drew1) | exact HB.out)) hb); clear HB; have HB := n0_; clear n0_; (try clear hb); (try clear hb2); (try clear hk); (try clear hi)))
                  go_ret
                  exact ⟨by first | rfl | (simp [errW_none, errW_some] <;> rfl) | (simp [*, errW_none, errW_some] <;> rfl), by repeat (first | (with_reducible first | exact HB.out | apply below_alloc | apply pw_below_drewN | apply below_drew1) | exact HB.out)⟩
                · replace c19 := Bool.eq_false_iff.mpr c19
                  subst c19
                  have H1 : (none) = some r := by rw [if_neg (show ¬ (false = true) by decide)] at H; exact H
                  clear H
                  have H := H1
                  clear H1
                  exact absurd H (by simp)
              · rw [if_neg c17] at H
                have c17b0 : decide ((t123.size : Int) ≤ a2) = false := decide_eq_false c17
                clear c17
                have c21b0 := eq_true (of_decide_eq_true (by first | (with_reducible assumption) | assumption) : 0 ≤ a2)
                by_cases c22 : a2 ≤ (t123.size : Int)
                · rw [if_pos c22] at H
                  have c22b0 := eq_true c22
                  have c22b1 : decide (a2 ≤ (t123.size : Int)) = true := decide_eq_true c22
                  clear c22
                  replace H := Option.bind_eq_some_iff.mp H
                  obtain ⟨⟨t130, t131, t132⟩, A230, H⟩ := H
                  replace H : ((cleatlaw18_sent.f kj6).bind fun t133 => (if t133 = true then (if t128 = 9 then (some (t132 == 9)) else (none)) else (none))) = some r := H
                  have A23 := Aside0.mk A230
                  clear A230
                  replace H := Option.bind_eq_some_iff.mp H
                  obtain ⟨t133, A240, H⟩ := H
                  replace H : (if t133 = true then (if t128 = 9 then (some (t132 == 9)) else (none)) else (none)) = some r := H
                  have A24 := Aside0.mk A240
                  clear A240
                  by_cases c25 : t133 = true
                  · subst c25
                    have H1 : (if t128 = 9 then (some (t132 == 9)) else (none)) = some r := by rw [if_pos rfl] at H; exact H
                    clear H
                    have H := H1
                    clear H1
                    by_cases c26 : t128 = 9
                    · rw [if_pos c26] at H
                      have c26b0 : (t128 == 9) = true := beq_iff_eq.mpr c26
                      have c26b1 : (t128 != 9) = false := bne_eq_false_iff_eq.mpr c26
                      clear c26
                      obtain rfl := Option.some.inj H
                      go_wp2_with (first | ((with_reducible refine gate_callee (f := 11) rfl ?_); refine goesL_ (some 35) rfl rfl Try.func11 (by kernel_rfl) rfl #[.string (t124.extract 0 (a2 : Int).toNat), .int .i64 2000] rfl (by (try simp only [List.map_toArray, List.map_cons, List.map_nil]); first | done | rfl | (simp only [List.length_drop, List.length_take]; rfl)) ?_; (with_reducible refine (wire_GetText.calls kj6 (t124.extract 0 (a2 : Int).toNat) 2000 t126 t127 t128 _ A16.out).mono ?_); rintro e w' ⟨rfl, ⟨nd, rfl⟩⟩; refine ⟨_, rfl, ?_⟩) | ((with_reducible refine gate_callee (f := 12) rfl ?_); refine goesL_ (some 52) rfl rfl Try.func12 (by kernel_rfl) rfl #[.string (t123.extract 0 (a2 : Int).toNat)] rfl (by (try simp only [List.map_toArray, List.map_cons, List.map_nil]); first | done | rfl | (simp only [List.length_drop, List.length_take]; rfl)) ?_; (with_reducible refine (wire_Get.calls kj6 (t123.extract 0 (a2 : Int).toNat) t130 t131 t132 _ A23.out).mono ?_); rintro e w' ⟨rfl, ⟨nd, rfl⟩⟩; refine ⟨_, rfl, ?_⟩) | ((with_reducible refine gate_callee (f := 10) rfl ?_); refine goesL_ (some 56) rfl rfl Try.func10 (by kernel_rfl) rfl #[] rfl (by (try simp only [List.map_toArray, List.map_cons, List.map_nil]); first | done | rfl | (simp only [List.length_drop, List.length_take]; rfl)) ?_; (with_reducible refine (cleatlaw18_sent.calls kj6  true _ A24.out).mono ?_); rintro e w27 ⟨rfl, hb⟩; refine ⟨_, rfl, ?_⟩; have n0_ := Aside0.mk (below_step (by repeat (first | (with_reducible first | exact HB.out | apply below_alloc | apply pw_below_drewN | apply below_drew1) | exact HB.out)) hb); clear HB; have HB := n0_; clear n0_; (try clear hb); (try clear hb2); (try clear hk); (try clear hi)))
                      go_ret
                      exact ⟨by first | rfl | (simp [errW_none, errW_some] <;> rfl) | (simp [*, errW_none, errW_some] <;> rfl), by repeat (first | (with_reducible first | exact HB.out | apply below_alloc | apply pw_below_drewN | apply below_drew1) | exact HB.out)⟩
                    · rw [if_neg c26] at H
                      exact absurd H (by simp)
                  · replace c25 := Bool.eq_false_iff.mpr c25
                    subst c25
                    have H1 : (none) = some r := by rw [if_neg (show ¬ (false = true) by decide)] at H; exact H
                    clear H
                    have H := H1
                    clear H1
                    exact absurd H (by simp)
                · rw [if_neg c22] at H
                  exact absurd H (by simp)
            · rw [if_neg c15] at H
              exact absurd H (by simp)
          · rw [if_neg c14] at H
            exact absurd H (by simp)

/-- THE ONE PURE STATEMENT of cleatlaw18_WireMore: yours. -/
def cleatlaw18_WireMore.Pure : Prop := ∀ (a0 : Int) (a1 : ByteArray) (a2 : Int), (Lit.int .u64 a0).wf = true → a1.size ≤ 140737488351232 → (Lit.int .i64 a2).wf = true → ∃ k, cleatlaw18_WireMore.f k a0 a1 a2 = some true
theorem cleatlaw18_WireMore.walk (P : cleatlaw18_WireMore.Pure) (a0 : Int) (a1 : ByteArray) (a2 : Int) (w : World) (w0 : (Lit.int .u64 a0).wf = true) (w1 : a1.size ≤ 140737488351232) (w2 : (Lit.int .i64 a2).wf = true) :
    Calls Try.prog 3 #[.int .u64 a0, .string a1, .int .i64 a2] w fun e w' => e = .returned (.bool true) ∧ Below w.heap.size w w' := by
  obtain ⟨k, h⟩ := P a0 a1 a2 w0 w1 w2
  refine (cleatlaw18_WireMore.calls k a0 a1 a2 true w h).mono ?_
  rintro e w' ⟨rfl, hd⟩
  exact ⟨rfl, hd⟩

end Go.Proofs.Ytfajpcinmpbhgaa.P
