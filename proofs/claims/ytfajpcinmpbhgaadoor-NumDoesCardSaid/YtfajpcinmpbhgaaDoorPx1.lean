/- Written for this claim by a program of this session (drive.py, over the print of the kit): Lean functions with the answers of Go functions, and the proofs that the Go code comes to these answers, under no condition but the readings of the arguments that each theorem names. -/
import Derived.Test.YtfajpcinmpbhgaaDoorPx0
namespace Go.Proofs.YtfajpcinmpbhgaaDoor.P
open Go.RowKit Go.Proofs.YtfajpcinmpbhgaaDoorW.PrintWords Go.Proofs.YtfajpcinmpbhgaaDoorW.PrintLast Go.Proofs.YtfajpcinmpbhgaaDoorW.PrintMore
attribute [local go_sem] max2_int min2_int max_two min_two max_three min_three max_four min_four   -- for this text's walks alone
set_option linter.unusedVariables false
set_option linter.unusedSimpArgs false

/-! ### stringslite_HasPrefix: function 28 -/
def stringslite_HasPrefix.f (a0 : ByteArray) (a1 : ByteArray) : Option (Bool) := if (a0.size : Int) ≥ (a1.size : Int) then (if 0 ≤ (a1.size : Int) then (if (a1.size : Int) ≤ (a0.size : Int) then (some ((a0.extract 0 ((a1.size : Int) : Int).toNat).toList == a1.toList)) else (none)) else (none)) else (some false)
set_option maxHeartbeats 8000000 in
set_option maxRecDepth 100000 in
theorem stringslite_HasPrefix.calls (a0 : ByteArray) (a1 : ByteArray) (r : Bool) (w : World) (h : stringslite_HasPrefix.f a0 a1 = some r) :
    Calls Tryd.prog 28 #[.string a0, .string a1] w fun e w' => e = .returned (.bool r) ∧ Drawn0 w w' := by
  have H : (if (a0.size : Int) ≥ (a1.size : Int) then (if 0 ≤ (a1.size : Int) then (if (a1.size : Int) ≤ (a0.size : Int) then (some ((a0.extract 0 ((a1.size : Int) : Int).toNat).toList == a1.toList)) else (none)) else (none)) else (some false)) = some r := h
  clear h
  by_cases c3 : (a0.size : Int) ≥ (a1.size : Int)
  · rw [if_pos c3] at H
    have c3b0 : decide ((a1.size : Int) ≤ (a0.size : Int)) = true := decide_eq_true c3
    have c3b1 : decide (a1.size ≤ a0.size) = true := decide_eq_true (Int.ofNat_le.mp c3)
    clear c3
    by_cases c4 : 0 ≤ (a1.size : Int)
    · rw [if_pos c4] at H
      have c4b0 := eq_true c4
      have c4b1 : decide (0 ≤ (a1.size : Int)) = true := decide_eq_true c4
      clear c4
      by_cases c5 : (a1.size : Int) ≤ (a0.size : Int)
      · rw [if_pos c5] at H
        have c5b0 := eq_true c5
        have c5b1 : decide ((a1.size : Int) ≤ (a0.size : Int)) = true := decide_eq_true c5
        clear c5
        obtain rfl := Option.some.inj H
        go_enter Tryd.func28, Tryd.ntmps28
        go_wp2
        go_ret
        exact ⟨by first | rfl | (simp; done) | (simp [*]; done), by repeat (first | exact Drawn0.refl _ | apply Drawn0.step)⟩
      · rw [if_neg c5] at H
        exact absurd H (by simp)
    · rw [if_neg c4] at H
      exact absurd H (by simp)
  · rw [if_neg c3] at H
    have c3b0 : decide ((a1.size : Int) ≤ (a0.size : Int)) = false := decide_eq_false c3
    have c3b1 : decide (a1.size ≤ a0.size) = false := decide_eq_false (fun h => c3 (Int.ofNat_le.mpr h))
    clear c3
    obtain rfl := Option.some.inj H
    go_enter Tryd.func28, Tryd.ntmps28
    go_wp2
    go_ret
    exact ⟨by first | rfl | (simp; done) | (simp [*]; done), by repeat (first | exact Drawn0.refl _ | apply Drawn0.step)⟩

/-! ### stringslite_CutPrefix: function 26 -/
def stringslite_CutPrefix.f (a0 : ByteArray) (a1 : ByteArray) : Option (ByteArray × Bool) := (stringslite_HasPrefix.f a0 a1).bind fun t101 => (if t101 = true then (if 0 ≤ (a1.size : Int) then (if (a1.size : Int) ≤ (a0.size : Int) then (some (a0.extract ((a1.size : Int) : Int).toNat a0.size, true)) else (none)) else (none)) else (some (a0, false)))
set_option maxHeartbeats 8000000 in
set_option maxRecDepth 100000 in
theorem stringslite_CutPrefix.calls (a0 : ByteArray) (a1 : ByteArray) (r1 : ByteArray) (r2 : Bool) (w : World) (h : stringslite_CutPrefix.f a0 a1 = some (r1, r2)) :
    Calls Tryd.prog 26 #[.string a0, .string a1] w fun e w' => e = .returned (.tuple #[.string r1, .bool r2]) ∧ Drawn0 w w' := by
  have H : ((stringslite_HasPrefix.f a0 a1).bind fun t101 => (if t101 = true then (if 0 ≤ (a1.size : Int) then (if (a1.size : Int) ≤ (a0.size : Int) then (some (a0.extract ((a1.size : Int) : Int).toNat a0.size, true)) else (none)) else (none)) else (some (a0, false)))) = some (r1, r2) := h
  clear h
  replace H := Option.bind_eq_some_iff.mp H
  obtain ⟨t101, A30, H⟩ := H
  replace H : (if t101 = true then (if 0 ≤ (a1.size : Int) then (if (a1.size : Int) ≤ (a0.size : Int) then (some (a0.extract ((a1.size : Int) : Int).toNat a0.size, true)) else (none)) else (none)) else (some (a0, false))) = some (r1, r2) := H
  have A3 := Aside0.mk A30
  clear A30
  by_cases c4 : t101 = true
  · subst c4
    have H1 : (if 0 ≤ (a1.size : Int) then (if (a1.size : Int) ≤ (a0.size : Int) then (some (a0.extract ((a1.size : Int) : Int).toNat a0.size, true)) else (none)) else (none)) = some (r1, r2) := by rw [if_pos rfl] at H; exact H
    clear H
    have H := H1
    clear H1
    by_cases c5 : 0 ≤ (a1.size : Int)
    · rw [if_pos c5] at H
      have c5b0 := eq_true c5
      have c5b1 : decide (0 ≤ (a1.size : Int)) = true := decide_eq_true c5
      clear c5
      by_cases c6 : (a1.size : Int) ≤ (a0.size : Int)
      · rw [if_pos c6] at H
        have c6b0 := eq_true c6
        have c6b1 : decide ((a1.size : Int) ≤ (a0.size : Int)) = true := decide_eq_true c6
        clear c6
        simp only [Option.some.injEq, Prod.mk.injEq] at H
        obtain ⟨rfl, rfl⟩ := H
        go_enter Tryd.func26, Tryd.ntmps26
        go_wp2_with (first | ((with_reducible refine gate_callee (f := 28) rfl ?_); refine goesL_ (some 8) rfl rfl Tryd.func28 (by kernel_rfl) rfl #[.string a0, .string a1] rfl (by (try simp only [List.map_toArray, List.map_cons, List.map_nil]); first | done | rfl | (simp only [List.length_drop, List.length_take]; rfl)) ?_; (with_reducible refine (stringslite_HasPrefix.calls a0 a1 true _ A3.out).mono ?_); rintro e w' ⟨rfl, ⟨nd, rfl⟩⟩; refine ⟨_, rfl, ?_⟩))
        go_ret2
        exact ⟨by first | rfl | (simp; done) | (simp [*]; done), by repeat (first | exact Drawn0.refl _ | apply Drawn0.step)⟩
      · rw [if_neg c6] at H
        exact absurd H (by simp)
    · rw [if_neg c5] at H
      exact absurd H (by simp)
  · replace c4 := Bool.eq_false_iff.mpr c4
    subst c4
    have H1 : (some (a0, false)) = some (r1, r2) := by rw [if_neg (show ¬ (false = true) by decide)] at H; exact H
    clear H
    have H := H1
    clear H1
    simp only [Option.some.injEq, Prod.mk.injEq] at H
    obtain ⟨rfl, rfl⟩ := H
    go_enter Tryd.func26, Tryd.ntmps26
    go_wp2_with (first | ((with_reducible refine gate_callee (f := 28) rfl ?_); refine goesL_ (some 8) rfl rfl Tryd.func28 (by kernel_rfl) rfl #[.string a0, .string a1] rfl (by (try simp only [List.map_toArray, List.map_cons, List.map_nil]); first | done | rfl | (simp only [List.length_drop, List.length_take]; rfl)) ?_; (with_reducible refine (stringslite_HasPrefix.calls a0 a1 false _ A3.out).mono ?_); rintro e w' ⟨rfl, ⟨nd, rfl⟩⟩; refine ⟨_, rfl, ?_⟩))
    go_ret2
    exact ⟨by first | rfl | (simp; done) | (simp [*]; done), by repeat (first | exact Drawn0.refl _ | apply Drawn0.step)⟩

/-! ### strings_CutPrefix: function 21 -/
def strings_CutPrefix.f (a0 : ByteArray) (a1 : ByteArray) : Option (ByteArray × Bool) := (stringslite_CutPrefix.f a0 a1).bind fun bt102 => (some (bt102.1, bt102.2))
set_option maxHeartbeats 8000000 in
set_option maxRecDepth 100000 in
theorem strings_CutPrefix.calls (a0 : ByteArray) (a1 : ByteArray) (r1 : ByteArray) (r2 : Bool) (w : World) (h : strings_CutPrefix.f a0 a1 = some (r1, r2)) :
    Calls Tryd.prog 21 #[.string a0, .string a1] w fun e w' => e = .returned (.tuple #[.string r1, .bool r2]) ∧ Drawn0 w w' := by
  have H : ((stringslite_CutPrefix.f a0 a1).bind fun bt102 => (some (bt102.1, bt102.2))) = some (r1, r2) := h
  clear h
  replace H := Option.bind_eq_some_iff.mp H
  obtain ⟨⟨t102, t103⟩, A30, H⟩ := H
  replace H : (some (t102, t103)) = some (r1, r2) := H
  have A3 := Aside0.mk A30
  clear A30
  simp only [Option.some.injEq, Prod.mk.injEq] at H
  obtain ⟨rfl, rfl⟩ := H
  go_enter Tryd.func21, Tryd.ntmps21
  go_wp2_with (first | ((with_reducible refine gate_callee (f := 26) rfl ?_); refine goesL_ (some 8) rfl rfl Tryd.func26 (by kernel_rfl) rfl #[.string a0, .string a1] rfl (by (try simp only [List.map_toArray, List.map_cons, List.map_nil]); first | done | rfl | (simp only [List.length_drop, List.length_take]; rfl)) ?_; (with_reducible refine (stringslite_CutPrefix.calls a0 a1 t102 t103 _ A3.out).mono ?_); rintro e w' ⟨rfl, ⟨nd, rfl⟩⟩; refine ⟨_, rfl, ?_⟩))
  go_ret2
  exact ⟨by first | rfl | (simp; done) | (simp [*]; done), by repeat (first | exact Drawn0.refl _ | apply Drawn0.step)⟩

/-! ### num_digit: function 22 -/
/-- The digit of a rune; below 0: it is none. -/
def num_dig (c : Int) : Int := if 48 ≤ c ∧ c ≤ 57 then c - 48 else if 97 ≤ c ∧ c ≤ 102 then c - 87 else if 65 ≤ c ∧ c ≤ 70 then c - 55 else -1
def num_digit.f (a0 a1 : Int) : Option (Int × Bool) := if num_dig a0 < 0 then some (0, false) else some (num_dig a0, decide (num_dig a0 < a1))
set_option maxHeartbeats 4000000 in
theorem num_digit.some_ (c v a1 : Int) (w : World) (hv0 : 0 ≤ v) (hv1 : v ≤ 15) (h : (c = v + 48 ∧ v ≤ 9) ∨ (c = v + 87 ∧ 10 ≤ v) ∨ (c = v + 55 ∧ 10 ≤ v)) :
    Calls Tryd.prog 22 #[.int .i32 c, .int .i64 a1] w fun e w' => e = .returned (.tuple #[.int .u64 v, .bool (decide (v < a1))]) ∧ Below w.heap.size w w' := by
  rcases h with ⟨rfl, h9⟩ | ⟨rfl, h9⟩ | ⟨rfl, h9⟩
  all_goals
    go_enter Tryd.func22, Tryd.ntmps22
    go_wp2
    all_goals go_ret2
    all_goals exact ⟨by simp; try omega, by repeat (first | exact Below.refl _ _ | apply below_drew | apply pw_below_drewN | apply below_alloc)⟩
set_option maxHeartbeats 4000000 in
theorem num_digit.none_ (c a1 : Int) (w : World) (h : c < 48 ∨ (57 < c ∧ c < 65) ∨ (70 < c ∧ c < 97) ∨ 102 < c) :
    Calls Tryd.prog 22 #[.int .i32 c, .int .i64 a1] w fun e w' => e = .returned (.tuple #[.int .u64 0, .bool false]) ∧ Below w.heap.size w w' := by
  rcases h with h | ⟨h, h2⟩ | ⟨h, h2⟩ | h
  all_goals
    go_enter Tryd.func22, Tryd.ntmps22
    go_wp2
    all_goals go_ret2
    all_goals exact ⟨by rfl, by repeat (first | exact Below.refl _ _ | apply below_drew | apply pw_below_drewN | apply below_alloc)⟩
theorem num_digit.calls (a0 a1 : Int) (r1 : Int) (r2 : Bool) (w : World) (h : num_digit.f a0 a1 = some (r1, r2)) :
    Calls Tryd.prog 22 #[.int .i32 a0, .int .i64 a1] w fun e w' => e = .returned (.tuple #[.int .u64 r1, .bool r2]) ∧ Below w.heap.size w w' := by
  unfold num_digit.f at h
  by_cases hn : num_dig a0 < 0
  · rw [if_pos hn] at h
    obtain ⟨rfl, rfl⟩ := Prod.mk.inj (Option.some.inj h)
    refine num_digit.none_ a0 a1 w ?_
    unfold num_dig at hn
    (repeat' split at hn) <;> omega
  · rw [if_neg hn] at h
    obtain ⟨rfl, rfl⟩ := Prod.mk.inj (Option.some.inj h)
    refine num_digit.some_ a0 (num_dig a0) a1 w (by omega) ?_ ?_
    all_goals (unfold num_dig at hn ⊢; (repeat' split at hn) <;> (try rw [if_pos (by assumption)]) <;> (try rw [if_neg (by assumption), if_pos (by assumption)]) <;> (try rw [if_neg (by assumption), if_neg (by assumption), if_pos (by assumption)]) <;> omega)

/-! ### num_Value: function 8 -/
/-- The digits of a number's text, one by one: the number so far, and whether it was too great. -/
def num_loop (base : Int) : List UInt8 → Int → Bool → Option (Int × Int)
  | [], v, g => if g = true then some (0, 4) else some (v, 0)
  | c :: l, v, g => if c.toNat < 128 then (num_digit.f (c.toNat : Int) base).bind fun p => if p.2 = true then num_loop base l (IntKind.u64.wrap (IntKind.u64.wrap (v * base) + p.1)) (g || decide (IntKind.u64.wrap (18446744073709551615 - p.1) / base < v)) else some (0, 3) else some (0, 3)
def num_Value.f (a0 : ByteArray) : Option (Int × Int) :=
  (strings_CutPrefix.f a0 ⟨#[48, 120]⟩).bind fun p => if p.2 = true then (if p.1.data.toList = [] then some (0, 3) else num_loop 16 p.1.data.toList 0 false) else (if a0.data.toList = [] then some (0, 3) else num_loop 10 a0.data.toList 0 false)
theorem num_digit_high (r base : Int) (h : 128 ≤ r) : num_digit.f r base = some (0, false) := by
  have : num_dig r < 0 := by
    unfold num_dig
    rw [if_neg (by omega), if_neg (by omega), if_neg (by omega)]
    decide
  unfold num_digit.f
  rw [if_pos this]
theorem num_digit_in {c b d : Int} {ok : Bool} (h : num_digit.f c b = some (d, ok)) : 0 ≤ d ∧ d ≤ 15 := by
  unfold num_digit.f at h
  split at h
  · obtain ⟨rfl, _⟩ := Prod.mk.inj (Option.some.inj h); omega
  · obtain ⟨rfl, _⟩ := Prod.mk.inj (Option.some.inj h)
    rename_i hn
    have : num_dig c ≤ 15 := by
      unfold num_dig
      (repeat' split) <;> omega
    omega
/-- The world with a string's iterator that the call has made. -/
def NumI (w : World) (K : Nat) (s : ByteArray) (pos : Nat) (wr : World) : Prop := wr.heap[K]? = some (.stringIter s pos) ∧ Below w.heap.size w wr ∧ w.heap.size ≤ K
theorem num_drop (s : ByteArray) (pos : Nat) (h : pos < s.size) : s.data.toList.drop pos = s[pos] :: s.data.toList.drop (pos + 1) := by
  rw [List.drop_eq_getElem_cons (by simpa using h)]; rfl
theorem NumI.next {w wr w2 : World} {K : Nat} {s : ByteArray} {pos n : Nat} (h : NumI w K s pos wr) (hb : Below (wr.iterAt K s (pos + n)).heap.size (wr.iterAt K s (pos + n)) w2) : NumI w K s (pos + n) w2 := by
  obtain ⟨h1, h2, h3⟩ := h
  have hk : K < wr.heap.size := (Array.getElem?_eq_some_iff.1 h1).1
  have hi := Lib.iterAt_heap wr K s pos (pos + n) h1
  have hs := Lib.iterAt_size wr K s (pos + n)
  have hb0 := Lib.below_iterAt h2 h3 s (pos + n)
  exact ⟨(hb.block K (by omega)).trans hi, below_then hb0 hb0.size hb, h3⟩
/-- Where the jump goes: the frame, the answer, the frame of memory. -/
def NumJ0 (w : World) (r1 r2 : Int) (a : Act) (w' : World) : Prop := (r1 = 0 ∧ r2 = 3 ∧ Below w.heap.size w w') ∧ ∃ (u0 u1 u2 u3 u4 u5 u6 u7 u8 u9 u10 u11 u12 u13 u14 u15 u16 u17 u18 u19 u20 u21 u22 u23 u24 u25 u26 u27 u28 u29 u30 u31 u32 u33 u34 u35 u36 u37 u38 u39 u40 u41 u42 u43 u44 u45 u46 u47 u48 u49 u50 u51 u52 : Value), a = { tmps := #[u0, u1, u2, u3, u4, u5, u6, u7, u8, u9, u10, u11, u12, u13, u14, u15, u16, u17, u18, u19, u20, u21, u22, u23, u24, u25, u26, u27, u28, u29, u30, u31, u32, u33, u34, u35, u36, u37, u38, u39, u40, u41, u42, u43, u44, u45, u46, u47, u48, u49, u50, u51, u52], defers := [] }
set_option maxHeartbeats 8000000 in
set_option maxRecDepth 100000 in
theorem num_Value.calls (a0 : ByteArray) (r1 r2 : Int) (w : World) (h : num_Value.f a0 = some (r1, r2)) :
    Calls Tryd.prog 8 #[.string a0] w fun e w' => e = .returned (.tuple #[.int .u64 r1, .int .i64 r2]) ∧ Below w.heap.size w w' := by
  unfold num_Value.f at h
  obtain ⟨⟨t, is⟩, hc, h⟩ := Option.bind_eq_some_iff.mp h
  have HC := Aside0.mk hc
  clear hc
  cases is
  · rw [if_neg (by simp)] at h
    by_cases he : a0.data.toList = []
    · rw [if_pos he] at h
      obtain ⟨h1, h2⟩ := Prod.mk.inj (Option.some.inj h)
      have H1 := Aside0.mk h1
      have H2 := Aside0.mk h2
      clear h h1 h2
      have he1 : a0.toList.isEmpty = true := by rw [ByteArray.toList_eq, he]; rfl
      clear he
      go_enter Tryd.func8, Tryd.ntmps8
      go_wp2
      refine wp_scope_jumps 0 (NumJ0 w r1 r2) (fun _ _ => 0) rfl ?_ ?_
      · go_wp2_with (first | (go_at_call 21; refine (strings_CutPrefix.calls _ _ _ _ _ HC.out).mono ?_; rintro e w1 ⟨rfl, ⟨n1, rfl⟩⟩))
        simp only [Exit.jump]
        go_ret2
        exact ⟨by have e1 := H1.out; have e2 := H2.out; subst e1 e2; rfl, pw_below_drewN (Below.refl _ _) _⟩
      · rintro a' W ⟨⟨h1, h2, hB⟩, u0, u1, u2, u3, u4, u5, u6, u7, u8, u9, u10, u11, u12, u13, u14, u15, u16, u17, u18, u19, u20, u21, u22, u23, u24, u25, u26, u27, u28, u29, u30, u31, u32, u33, u34, u35, u36, u37, u38, u39, u40, u41, u42, u43, u44, u45, u46, u47, u48, u49, u50, u51, u52, rfl⟩
        go_wp2
        simp only [Exit.jump]
        go_ret2
        exact ⟨by subst h1 h2; rfl, hB⟩
    · rw [if_neg he] at h
      have H := Aside0.mk h
      clear h
      have he1 : a0.toList.isEmpty = false := by rw [ByteArray.toList_eq]; simpa using he
      clear he
      go_enter Tryd.func8, Tryd.ntmps8
      go_wp2
      refine wp_scope_jumps 0 (NumJ0 w r1 r2) (fun _ _ => 0) rfl ?_ ?_
      · go_wp2_with (first | (go_at_call 21; refine (strings_CutPrefix.calls _ _ _ _ _ HC.out).mono ?_; rintro e w1 ⟨rfl, ⟨n1, rfl⟩⟩))
        go_loopw [7, 8] (fun v7 v8 wr => ∃ (pos : Nat) (v : Int) (g : Bool), v7 = .int .u64 v ∧ v8 = .bool g ∧ NumI w w.heap.size a0 pos wr ∧ pos ≤ a0.size ∧ 0 ≤ v ∧ v < 18446744073709551616 ∧ Aside0 (num_loop 10 (a0.data.toList.drop pos) v g = some (r1, r2))) (fun _ _ wr => match wr.heap[w.heap.size]? with | some (.stringIter s p) => s.size - p | _ => 0)
        case atStart => exact ⟨0, 0, false, rfl, rfl, ⟨World.alloc_heap_new _ _, below_alloc (pw_below_drewN (Below.refl _ _) _) _, Nat.le_refl _⟩, Nat.zero_le _, by decide, by decide, ⟨H.out⟩⟩
        case round =>
          obtain ⟨pos, v, g, rfl, rfl, hI, hp, hv0, hv1, HL⟩ := hrel
          by_cases hlt : pos < a0.size
          · have hd := num_drop a0 pos hlt
            have hL := HL.out
            rw [hd] at hL
            simp only [num_loop] at hL
            by_cases ha : a0[pos].toNat < 128
            · rw [if_pos ha] at hL
              obtain ⟨⟨d, ok⟩, hdg, hL⟩ := Option.bind_eq_some_iff.mp hL
              have hnx := fun ty => Lib.run_next_ascii_at (P := Tryd.prog) wr w.heap.size a0 pos ty hI.1 hlt ha
              have hdb := num_digit_in hdg
              have HD := Aside0.mk hdg
              have HI := Aside0.mk hI
              clear hdg hI hd ha
              cases ok
              · obtain ⟨h1, h2⟩ := Prod.mk.inj (Option.some.inj hL)
                have H1 := Aside0.mk h1
                have H2 := Aside0.mk h2
                clear h1 h2 hL
                go_wp2_with (first | (go_at_call 22; refine (num_digit.calls _ _ _ _ _ HD.out).mono ?_; rintro e w2 ⟨rfl, hb2⟩))
                go_step3
                exact ⟨rfl, ⟨H1.out.symm, H2.out.symm, (NumI.next HI.out hb2).2.1⟩, _, _, _, _, _, _, _, _, _, _, _, _, _, _, _, _, _, _, _, _, _, _, _, _, _, _, _, _, _, _, _, _, _, _, _, _, _, _, _, _, _, _, _, _, _, _, _, _, _, _, _, _, _, rfl⟩
              · have HLL := Aside0.mk hL
                clear hL
                have ew : IntKind.u64.wrap (18446744073709551615 - d) = 18446744073709551615 - d := by rw [IntKind.wrap_u64]; omega
                have EW := Aside0.mk ew
                clear ew
                have hwv := IntKind.wrap_u64 (IntKind.u64.wrap (v * 10) + d)
                have hw0 : 0 ≤ IntKind.u64.wrap (IntKind.u64.wrap (v * 10) + d) ∧ IntKind.u64.wrap (IntKind.u64.wrap (v * 10) + d) < 18446744073709551616 := by rw [hwv]; omega
                clear hwv
                have HW := Aside0.mk hw0
                clear hw0
                cases g
                · go_wp2_with (first | (go_at_call 22; refine (num_digit.calls _ _ _ _ _ HD.out).mono ?_; rintro e w2 ⟨rfl, hb2⟩))
                  go_roundw
                  case rel => exact ⟨pos + 1, _, _, rfl, rfl, NumI.next HI.out hb2, by omega, HW.out.1, HW.out.2, ⟨by have := HLL.out; rw [EW.out] at this; exact this⟩⟩
                  case measure =>
                    have e1 := (NumI.next HI.out hb2).1
                    have e2 := HI.out.1
                    rw [e1, e2]
                    show a0.size - (pos + 1) < a0.size - pos
                    omega
                · go_wp2_with (first | (go_at_call 22; refine (num_digit.calls _ _ _ _ _ HD.out).mono ?_; rintro e w2 ⟨rfl, hb2⟩))
                  go_roundw
                  case rel => exact ⟨pos + 1, _, _, rfl, rfl, NumI.next HI.out hb2, by omega, HW.out.1, HW.out.2, ⟨HLL.out⟩⟩
                  case measure =>
                    have e1 := (NumI.next HI.out hb2).1
                    have e2 := HI.out.1
                    rw [e1, e2]
                    show a0.size - (pos + 1) < a0.size - pos
                    omega
            · rw [if_neg ha] at hL
              obtain ⟨h1, h2⟩ := Prod.mk.inj (Option.some.inj hL)
              have H1 := Aside0.mk h1
              have H2 := Aside0.mk h2
              have hdec := decode_high a0 pos hlt (by omega)
              have hnx := fun ty => Lib.run_next_any_at (P := Tryd.prog) wr w.heap.size a0 pos ty hI.1 hlt
              obtain ⟨rn, hrn⟩ : ∃ rn : Nat, (Utf8.decode a0 pos).1 = rn := ⟨_, rfl⟩
              obtain ⟨sz, hsz⟩ : ∃ sz : Nat, (Utf8.decode a0 pos).2 = sz := ⟨_, rfl⟩
              rw [hrn, hsz] at hnx
              have hr128 : 128 ≤ (rn : Int) := by omega
              have HD := Aside0.mk (num_digit_high (rn : Int) 10 hr128)
              have HI := Aside0.mk hI
              clear h1 h2 hL hdec hrn hsz hI hd ha
              go_wp2_with (first | (go_at_call 22; refine (num_digit.calls _ _ _ _ _ HD.out).mono ?_; rintro e w2 ⟨rfl, hb2⟩))
              go_step3
              exact ⟨rfl, ⟨H1.out.symm, H2.out.symm, (NumI.next HI.out hb2).2.1⟩, _, _, _, _, _, _, _, _, _, _, _, _, _, _, _, _, _, _, _, _, _, _, _, _, _, _, _, _, _, _, _, _, _, _, _, _, _, _, _, _, _, _, _, _, _, _, _, _, _, _, _, _, _, rfl⟩
          · have hpe : pos = a0.size := by omega
            have hnx := fun ty => Lib.run_next_end_at (P := Tryd.prog) wr w.heap.size a0 pos ty hI.1 hlt
            have hL := HL.out
            rw [List.drop_of_length_le (by rw [← Lib.size_eq]; omega)] at hL
            simp only [num_loop] at hL
            have HI := Aside0.mk hI
            clear hI hpe
            cases g
            · obtain ⟨h1, h2⟩ := Prod.mk.inj (Option.some.inj ((if_neg (by decide)).symm.trans hL))
              have H1 := Aside0.mk h1
              have H2 := Aside0.mk h2
              clear h1 h2 hL
              go_wp2
              simp only [Exit.jump]
              go_ret2
              exact ⟨by have e1 := H1.out; have e2 := H2.out; subst e1 e2; rfl, HI.out.2.1⟩
            · obtain ⟨h1, h2⟩ := Prod.mk.inj (Option.some.inj ((if_pos rfl).symm.trans hL))
              have H1 := Aside0.mk h1
              have H2 := Aside0.mk h2
              clear h1 h2 hL
              go_wp2
              simp only [Exit.jump]
              go_ret2
              exact ⟨by have e1 := H1.out; have e2 := H2.out; subst e1 e2; rfl, HI.out.2.1⟩
      · rintro a' W ⟨⟨h1, h2, hB⟩, u0, u1, u2, u3, u4, u5, u6, u7, u8, u9, u10, u11, u12, u13, u14, u15, u16, u17, u18, u19, u20, u21, u22, u23, u24, u25, u26, u27, u28, u29, u30, u31, u32, u33, u34, u35, u36, u37, u38, u39, u40, u41, u42, u43, u44, u45, u46, u47, u48, u49, u50, u51, u52, rfl⟩
        go_wp2
        simp only [Exit.jump]
        go_ret2
        exact ⟨by subst h1 h2; rfl, hB⟩
  · rw [if_pos rfl] at h
    by_cases he : t.data.toList = []
    · rw [if_pos he] at h
      obtain ⟨h1, h2⟩ := Prod.mk.inj (Option.some.inj h)
      have H1 := Aside0.mk h1
      have H2 := Aside0.mk h2
      clear h h1 h2
      have he1 : t.toList.isEmpty = true := by rw [ByteArray.toList_eq, he]; rfl
      clear he
      go_enter Tryd.func8, Tryd.ntmps8
      go_wp2
      refine wp_scope_jumps 0 (NumJ0 w r1 r2) (fun _ _ => 0) rfl ?_ ?_
      · go_wp2_with (first | (go_at_call 21; refine (strings_CutPrefix.calls _ _ _ _ _ HC.out).mono ?_; rintro e w1 ⟨rfl, ⟨n1, rfl⟩⟩))
        simp only [Exit.jump]
        go_ret2
        exact ⟨by have e1 := H1.out; have e2 := H2.out; subst e1 e2; rfl, pw_below_drewN (Below.refl _ _) _⟩
      · rintro a' W ⟨⟨h1, h2, hB⟩, u0, u1, u2, u3, u4, u5, u6, u7, u8, u9, u10, u11, u12, u13, u14, u15, u16, u17, u18, u19, u20, u21, u22, u23, u24, u25, u26, u27, u28, u29, u30, u31, u32, u33, u34, u35, u36, u37, u38, u39, u40, u41, u42, u43, u44, u45, u46, u47, u48, u49, u50, u51, u52, rfl⟩
        go_wp2
        simp only [Exit.jump]
        go_ret2
        exact ⟨by subst h1 h2; rfl, hB⟩
    · rw [if_neg he] at h
      have H := Aside0.mk h
      clear h
      have he1 : t.toList.isEmpty = false := by rw [ByteArray.toList_eq]; simpa using he
      clear he
      go_enter Tryd.func8, Tryd.ntmps8
      go_wp2
      refine wp_scope_jumps 0 (NumJ0 w r1 r2) (fun _ _ => 0) rfl ?_ ?_
      · go_wp2_with (first | (go_at_call 21; refine (strings_CutPrefix.calls _ _ _ _ _ HC.out).mono ?_; rintro e w1 ⟨rfl, ⟨n1, rfl⟩⟩))
        go_loopw [7, 8] (fun v7 v8 wr => ∃ (pos : Nat) (v : Int) (g : Bool), v7 = .int .u64 v ∧ v8 = .bool g ∧ NumI w w.heap.size t pos wr ∧ pos ≤ t.size ∧ 0 ≤ v ∧ v < 18446744073709551616 ∧ Aside0 (num_loop 16 (t.data.toList.drop pos) v g = some (r1, r2))) (fun _ _ wr => match wr.heap[w.heap.size]? with | some (.stringIter s p) => s.size - p | _ => 0)
        case atStart => exact ⟨0, 0, false, rfl, rfl, ⟨World.alloc_heap_new _ _, below_alloc (pw_below_drewN (Below.refl _ _) _) _, Nat.le_refl _⟩, Nat.zero_le _, by decide, by decide, ⟨H.out⟩⟩
        case round =>
          obtain ⟨pos, v, g, rfl, rfl, hI, hp, hv0, hv1, HL⟩ := hrel
          by_cases hlt : pos < t.size
          · have hd := num_drop t pos hlt
            have hL := HL.out
            rw [hd] at hL
            simp only [num_loop] at hL
            by_cases ha : t[pos].toNat < 128
            · rw [if_pos ha] at hL
              obtain ⟨⟨d, ok⟩, hdg, hL⟩ := Option.bind_eq_some_iff.mp hL
              have hnx := fun ty => Lib.run_next_ascii_at (P := Tryd.prog) wr w.heap.size t pos ty hI.1 hlt ha
              have hdb := num_digit_in hdg
              have HD := Aside0.mk hdg
              have HI := Aside0.mk hI
              clear hdg hI hd ha
              cases ok
              · obtain ⟨h1, h2⟩ := Prod.mk.inj (Option.some.inj hL)
                have H1 := Aside0.mk h1
                have H2 := Aside0.mk h2
                clear h1 h2 hL
                go_wp2_with (first | (go_at_call 22; refine (num_digit.calls _ _ _ _ _ HD.out).mono ?_; rintro e w2 ⟨rfl, hb2⟩))
                go_step3
                exact ⟨rfl, ⟨H1.out.symm, H2.out.symm, (NumI.next HI.out hb2).2.1⟩, _, _, _, _, _, _, _, _, _, _, _, _, _, _, _, _, _, _, _, _, _, _, _, _, _, _, _, _, _, _, _, _, _, _, _, _, _, _, _, _, _, _, _, _, _, _, _, _, _, _, _, _, _, rfl⟩
              · have HLL := Aside0.mk hL
                clear hL
                have ew : IntKind.u64.wrap (18446744073709551615 - d) = 18446744073709551615 - d := by rw [IntKind.wrap_u64]; omega
                have EW := Aside0.mk ew
                clear ew
                have hwv := IntKind.wrap_u64 (IntKind.u64.wrap (v * 16) + d)
                have hw0 : 0 ≤ IntKind.u64.wrap (IntKind.u64.wrap (v * 16) + d) ∧ IntKind.u64.wrap (IntKind.u64.wrap (v * 16) + d) < 18446744073709551616 := by rw [hwv]; omega
                clear hwv
                have HW := Aside0.mk hw0
                clear hw0
                cases g
                · go_wp2_with (first | (go_at_call 22; refine (num_digit.calls _ _ _ _ _ HD.out).mono ?_; rintro e w2 ⟨rfl, hb2⟩))
                  go_roundw
                  case rel => exact ⟨pos + 1, _, _, rfl, rfl, NumI.next HI.out hb2, by omega, HW.out.1, HW.out.2, ⟨by have := HLL.out; rw [EW.out] at this; exact this⟩⟩
                  case measure =>
                    have e1 := (NumI.next HI.out hb2).1
                    have e2 := HI.out.1
                    rw [e1, e2]
                    show t.size - (pos + 1) < t.size - pos
                    omega
                · go_wp2_with (first | (go_at_call 22; refine (num_digit.calls _ _ _ _ _ HD.out).mono ?_; rintro e w2 ⟨rfl, hb2⟩))
                  go_roundw
                  case rel => exact ⟨pos + 1, _, _, rfl, rfl, NumI.next HI.out hb2, by omega, HW.out.1, HW.out.2, ⟨HLL.out⟩⟩
                  case measure =>
                    have e1 := (NumI.next HI.out hb2).1
                    have e2 := HI.out.1
                    rw [e1, e2]
                    show t.size - (pos + 1) < t.size - pos
                    omega
            · rw [if_neg ha] at hL
              obtain ⟨h1, h2⟩ := Prod.mk.inj (Option.some.inj hL)
              have H1 := Aside0.mk h1
              have H2 := Aside0.mk h2
              have hdec := decode_high t pos hlt (by omega)
              have hnx := fun ty => Lib.run_next_any_at (P := Tryd.prog) wr w.heap.size t pos ty hI.1 hlt
              obtain ⟨rn, hrn⟩ : ∃ rn : Nat, (Utf8.decode t pos).1 = rn := ⟨_, rfl⟩
              obtain ⟨sz, hsz⟩ : ∃ sz : Nat, (Utf8.decode t pos).2 = sz := ⟨_, rfl⟩
              rw [hrn, hsz] at hnx
              have hr128 : 128 ≤ (rn : Int) := by omega
              have HD := Aside0.mk (num_digit_high (rn : Int) 16 hr128)
              have HI := Aside0.mk hI
              clear h1 h2 hL hdec hrn hsz hI hd ha
              go_wp2_with (first | (go_at_call 22; refine (num_digit.calls _ _ _ _ _ HD.out).mono ?_; rintro e w2 ⟨rfl, hb2⟩))
              go_step3
              exact ⟨rfl, ⟨H1.out.symm, H2.out.symm, (NumI.next HI.out hb2).2.1⟩, _, _, _, _, _, _, _, _, _, _, _, _, _, _, _, _, _, _, _, _, _, _, _, _, _, _, _, _, _, _, _, _, _, _, _, _, _, _, _, _, _, _, _, _, _, _, _, _, _, _, _, _, _, rfl⟩
          · have hpe : pos = t.size := by omega
            have hnx := fun ty => Lib.run_next_end_at (P := Tryd.prog) wr w.heap.size t pos ty hI.1 hlt
            have hL := HL.out
            rw [List.drop_of_length_le (by rw [← Lib.size_eq]; omega)] at hL
            simp only [num_loop] at hL
            have HI := Aside0.mk hI
            clear hI hpe
            cases g
            · obtain ⟨h1, h2⟩ := Prod.mk.inj (Option.some.inj ((if_neg (by decide)).symm.trans hL))
              have H1 := Aside0.mk h1
              have H2 := Aside0.mk h2
              clear h1 h2 hL
              go_wp2
              simp only [Exit.jump]
              go_ret2
              exact ⟨by have e1 := H1.out; have e2 := H2.out; subst e1 e2; rfl, HI.out.2.1⟩
            · obtain ⟨h1, h2⟩ := Prod.mk.inj (Option.some.inj ((if_pos rfl).symm.trans hL))
              have H1 := Aside0.mk h1
              have H2 := Aside0.mk h2
              clear h1 h2 hL
              go_wp2
              simp only [Exit.jump]
              go_ret2
              exact ⟨by have e1 := H1.out; have e2 := H2.out; subst e1 e2; rfl, HI.out.2.1⟩
      · rintro a' W ⟨⟨h1, h2, hB⟩, u0, u1, u2, u3, u4, u5, u6, u7, u8, u9, u10, u11, u12, u13, u14, u15, u16, u17, u18, u19, u20, u21, u22, u23, u24, u25, u26, u27, u28, u29, u30, u31, u32, u33, u34, u35, u36, u37, u38, u39, u40, u41, u42, u43, u44, u45, u46, u47, u48, u49, u50, u51, u52, rfl⟩
        go_wp2
        simp only [Exit.jump]
        go_ret2
        exact ⟨by subst h1 h2; rfl, hB⟩

/-! ### cleatref10_digit: function 23 -/
mutual
def cleatref10_digit.j0 : Nat → Int → Int → Int → Bool → Option (Int)
  | 0, _, _, _, _ => none
  | k + 1, x0, x1, x5, x11 => if x11 = true then (cleatref10_digit.j1 k x0 x1 ((x0 - 48) % 256)) else (cleatref10_digit.j1 k x0 x1 x5)
def cleatref10_digit.j1 : Nat → Int → Int → Int → Option (Int)
  | 0, _, _, _ => none
  | k + 1, x0, x1, x5 => if x0 ≥ 97 then (cleatref10_digit.j2 k x0 x1 x5 (decide (x0 ≤ 102))) else (cleatref10_digit.j2 k x0 x1 x5 false)
def cleatref10_digit.j2 : Nat → Int → Int → Int → Bool → Option (Int)
  | 0, _, _, _, _ => none
  | k + 1, x0, x1, x5, x20 => if x20 = true then (cleatref10_digit.j3 k x0 x1 (((x0 - 97) % 256) + 10)) else (cleatref10_digit.j3 k x0 x1 x5)
def cleatref10_digit.j3 : Nat → Int → Int → Int → Option (Int)
  | 0, _, _, _ => none
  | k + 1, x0, x1, x5 => if x0 ≥ 65 then (cleatref10_digit.j4 k x0 x1 x5 (decide (x0 ≤ 70))) else (cleatref10_digit.j4 k x0 x1 x5 false)
def cleatref10_digit.j4 : Nat → Int → Int → Int → Bool → Option (Int)
  | 0, _, _, _, _ => none
  | k + 1, x0, x1, x5, x30 => if x30 = true then (if (((x0 - 65) % 256) + 10) ≥ x1 then (some (-1)) else (some (((x0 - 65) % 256) + 10))) else (if x5 ≥ x1 then (some (-1)) else (some x5))
end
def cleatref10_digit.f (k : Nat) (a0 : Int) (a1 : Int) : Option (Int) := if a0 ≥ 48 then (cleatref10_digit.j0 k a0 a1 (-1) (decide (a0 ≤ 57))) else (cleatref10_digit.j0 k a0 a1 (-1) false)
theorem cleatref10_digit.mono_l : ∀ k, (∀ y0 y1 y2 y3, LeO (cleatref10_digit.j0 k y0 y1 y2 y3) (cleatref10_digit.j0 (k + 1) y0 y1 y2 y3)) ∧ (∀ y0 y1 y2, LeO (cleatref10_digit.j1 k y0 y1 y2) (cleatref10_digit.j1 (k + 1) y0 y1 y2)) ∧ (∀ y0 y1 y2 y3, LeO (cleatref10_digit.j2 k y0 y1 y2 y3) (cleatref10_digit.j2 (k + 1) y0 y1 y2 y3)) ∧ (∀ y0 y1 y2, LeO (cleatref10_digit.j3 k y0 y1 y2) (cleatref10_digit.j3 (k + 1) y0 y1 y2)) ∧ (∀ y0 y1 y2 y3, LeO (cleatref10_digit.j4 k y0 y1 y2 y3) (cleatref10_digit.j4 (k + 1) y0 y1 y2 y3))
  | 0 => ⟨fun _ _ _ _ r h => by simp [cleatref10_digit.j0] at h, fun _ _ _ r h => by simp [cleatref10_digit.j1] at h, fun _ _ _ _ r h => by simp [cleatref10_digit.j2] at h, fun _ _ _ r h => by simp [cleatref10_digit.j3] at h, fun _ _ _ _ r h => by simp [cleatref10_digit.j4] at h⟩
  | k + 1 => by
    obtain ⟨ih0, ih1, ih2, ih3, ih4⟩ := cleatref10_digit.mono_l k
    refine ⟨?_, ?_, ?_, ?_, ?_⟩
    · intro y0 y1 y2 y3
      unfold cleatref10_digit.j0
      repeat' first
      | (with_reducible exact ih0 _ _ _ _)
      | (with_reducible exact ih1 _ _ _)
      | (with_reducible exact ih2 _ _ _ _)
      | (with_reducible exact ih3 _ _ _)
      | (with_reducible exact ih4 _ _ _ _)
      | (with_reducible exact LeO.refl _)
      | (with_reducible exact LeO.none _)
      | (with_reducible refine LeO.ite ?_ ?_)
      | (with_reducible refine LeO.bind ?_ (fun _ => ?_))
      | exact ih0 _ _ _ _
      | exact ih1 _ _ _
      | exact ih2 _ _ _ _
      | exact ih3 _ _ _
      | exact ih4 _ _ _ _
      | exact LeO.none _
      | refine LeO.ite ?_ ?_
      | refine LeO.bind ?_ (fun _ => ?_)
    · intro y0 y1 y2
      unfold cleatref10_digit.j1
      repeat' first
      | (with_reducible exact ih0 _ _ _ _)
      | (with_reducible exact ih1 _ _ _)
      | (with_reducible exact ih2 _ _ _ _)
      | (with_reducible exact ih3 _ _ _)
      | (with_reducible exact ih4 _ _ _ _)
      | (with_reducible exact LeO.refl _)
      | (with_reducible exact LeO.none _)
      | (with_reducible refine LeO.ite ?_ ?_)
      | (with_reducible refine LeO.bind ?_ (fun _ => ?_))
      | exact ih0 _ _ _ _
      | exact ih1 _ _ _
      | exact ih2 _ _ _ _
      | exact ih3 _ _ _
      | exact ih4 _ _ _ _
      | exact LeO.none _
      | refine LeO.ite ?_ ?_
      | refine LeO.bind ?_ (fun _ => ?_)
    · intro y0 y1 y2 y3
      unfold cleatref10_digit.j2
      repeat' first
      | (with_reducible exact ih0 _ _ _ _)
      | (with_reducible exact ih1 _ _ _)
      | (with_reducible exact ih2 _ _ _ _)
      | (with_reducible exact ih3 _ _ _)
      | (with_reducible exact ih4 _ _ _ _)
      | (with_reducible exact LeO.refl _)
      | (with_reducible exact LeO.none _)
      | (with_reducible refine LeO.ite ?_ ?_)
      | (with_reducible refine LeO.bind ?_ (fun _ => ?_))
      | exact ih0 _ _ _ _
      | exact ih1 _ _ _
      | exact ih2 _ _ _ _
      | exact ih3 _ _ _
      | exact ih4 _ _ _ _
      | exact LeO.none _
      | refine LeO.ite ?_ ?_
      | refine LeO.bind ?_ (fun _ => ?_)
    · intro y0 y1 y2
      unfold cleatref10_digit.j3
      repeat' first
      | (with_reducible exact ih0 _ _ _ _)
      | (with_reducible exact ih1 _ _ _)
      | (with_reducible exact ih2 _ _ _ _)
      | (with_reducible exact ih3 _ _ _)
      | (with_reducible exact ih4 _ _ _ _)
      | (with_reducible exact LeO.refl _)
      | (with_reducible exact LeO.none _)
      | (with_reducible refine LeO.ite ?_ ?_)
      | (with_reducible refine LeO.bind ?_ (fun _ => ?_))
      | exact ih0 _ _ _ _
      | exact ih1 _ _ _
      | exact ih2 _ _ _ _
      | exact ih3 _ _ _
      | exact ih4 _ _ _ _
      | exact LeO.none _
      | refine LeO.ite ?_ ?_
      | refine LeO.bind ?_ (fun _ => ?_)
    · intro y0 y1 y2 y3
      unfold cleatref10_digit.j4
      repeat' first
      | (with_reducible exact ih0 _ _ _ _)
      | (with_reducible exact ih1 _ _ _)
      | (with_reducible exact ih2 _ _ _ _)
      | (with_reducible exact ih3 _ _ _)
      | (with_reducible exact ih4 _ _ _ _)
      | (with_reducible exact LeO.refl _)
      | (with_reducible exact LeO.none _)
      | (with_reducible refine LeO.ite ?_ ?_)
      | (with_reducible refine LeO.bind ?_ (fun _ => ?_))
      | exact ih0 _ _ _ _
      | exact ih1 _ _ _
      | exact ih2 _ _ _ _
      | exact ih3 _ _ _
      | exact ih4 _ _ _ _
      | exact LeO.none _
      | refine LeO.ite ?_ ?_
      | refine LeO.bind ?_ (fun _ => ?_)
theorem cleatref10_digit.mono : ∀ a0 a1 k, LeO (cleatref10_digit.f k a0 a1) (cleatref10_digit.f (k + 1) a0 a1) := by
  intro a0 a1 k
  obtain ⟨ih0, ih1, ih2, ih3, ih4⟩ := cleatref10_digit.mono_l k
  unfold cleatref10_digit.f
  repeat' first
      | (with_reducible exact ih0 _ _ _ _)
      | (with_reducible exact ih1 _ _ _)
      | (with_reducible exact ih2 _ _ _ _)
      | (with_reducible exact ih3 _ _ _)
      | (with_reducible exact ih4 _ _ _ _)
      | (with_reducible exact LeO.refl _)
      | (with_reducible exact LeO.none _)
      | (with_reducible refine LeO.ite ?_ ?_)
      | (with_reducible refine LeO.bind ?_ (fun _ => ?_))
      | exact ih0 _ _ _ _
      | exact ih1 _ _ _
      | exact ih2 _ _ _ _
      | exact ih3 _ _ _
      | exact ih4 _ _ _ _
      | exact LeO.none _
      | refine LeO.ite ?_ ?_
      | refine LeO.bind ?_ (fun _ => ?_)
set_option maxHeartbeats 8000000 in
set_option maxRecDepth 100000 in
theorem cleatref10_digit.calls (k : Nat) (a0 : Int) (a1 : Int) (r : Int) (w : World) (h : cleatref10_digit.f k a0 a1 = some r) :
    Calls Tryd.prog 23 #[.int .u8 a0, .int .i64 a1] w fun e w' => e = .returned (.int .i64 r) ∧ Drawn0 w w' := by
  have H : (if a0 ≥ 48 then (cleatref10_digit.j0 k a0 a1 (-1) (decide (a0 ≤ 57))) else (cleatref10_digit.j0 k a0 a1 (-1) false)) = some r := h
  clear h
  have HC3 := Aside0.mk H
  clear H
  go_enter Tryd.func23, Tryd.ntmps23
  go_upto_region 2 with (fail)
  go_cut [11] (fun v11 wc => ∃ (kq : Nat) (x11_2 : Bool), v11 = .bool x11_2 ∧ Aside0 (cleatref10_digit.j0 kq a0 a1 (-1) x11_2 = some r) ∧ Aside0 (kq ≤ k) ∧ Drawn0 w wc)
  case first =>
    have H := HC3.out
    clear HC3
    (try (rw [drewN_self w]; have n0_ := fun n_ => pw_below_drewN HB.out n_; clear HB; generalize hq_ : World.drewN w _ = w; have HB := Aside0.mk (hq_ ▸ n0_ _); clear hq_ n0_))
    by_cases c4 : a0 ≥ 48
    · rw [if_pos c4] at H
      have c4b0 : decide (48 ≤ a0) = true := decide_eq_true c4
      clear c4
      (first | rw [c4b0] | (simp only [i64_w, i32_w]; rw [c4b0]) | skip)
      have H' := Aside0.mk H
      clear H
      go_wp2
      go_meet
      case rel => exact ⟨_, (decide (a0 ≤ 57)), (by first | rfl | (simp; done) | (simp [*]; done)), H', ⟨by first | omega | exact Nat.le_refl _⟩, by repeat (first | exact Drawn0.refl _ | apply Drawn0.step)⟩
    · rw [if_neg c4] at H
      have c4b0 : decide (48 ≤ a0) = false := decide_eq_false c4
      clear c4
      (first | rw [c4b0] | (simp only [i64_w, i32_w]; rw [c4b0]) | skip)
      have H' := Aside0.mk H
      clear H
      go_wp2
      go_meet
      case rel => exact ⟨_, (false), (by first | rfl | (simp; done) | (simp [*]; done)), H', ⟨by first | omega | exact Nat.le_refl _⟩, by repeat (first | exact Drawn0.refl _ | apply Drawn0.step)⟩
  case rest =>
    clear HC3
    try clear c2
    try clear p2
    try clear c4
    try clear c4b0
    obtain ⟨kq, x11_2, rfl, HA, HJ2, ⟨mc2, rfl⟩⟩ := hcut
    cases kq with
    | zero => exact absurd HA.out (by simp [cleatref10_digit.j0])
    | succ kj2 =>
      have H := HA.out
      clear HA
      simp only [cleatref10_digit.j0] at H
      have HC5 := Aside0.mk H
      clear H
      go_upto_if 11 with (fail)
      go_cut [5] (fun v5 wc => ∃ (kq : Nat) (x5_4 : Int), v5 = .int .i64 x5_4 ∧ Aside0 (cleatref10_digit.j1 kq a0 a1 x5_4 = some r) ∧ Aside0 (kq ≤ kj2) ∧ Drawn0 w wc)
      case first =>
        have H := HC5.out
        clear HC5
        (try (rw [drewN_self wc]; have n0_ := fun n_ => pw_below_drewN HB.out n_; clear HB; generalize hq_ : World.drewN wc _ = wc; have HB := Aside0.mk (hq_ ▸ n0_ _); clear hq_ n0_))
        by_cases c6 : x11_2 = true
        · subst c6
          have H1 : (cleatref10_digit.j1 kj2 a0 a1 ((a0 - 48) % 256)) = some r := by rw [if_pos rfl] at H; exact H
          clear H
          have H := H1
          clear H1
          have H' := Aside0.mk H
          clear H
          go_wp2
          go_meet
          case rel => exact ⟨_, ((a0 - 48) % 256), (by first | rfl | (simp; done) | (simp [*]; done)), H', ⟨by have := HJ2.out; first | omega | exact Nat.le_refl _⟩, by repeat (first | exact Drawn0.refl _ | apply Drawn0.step)⟩
        · replace c6 := Bool.eq_false_iff.mpr c6
          subst c6
          have H1 : (cleatref10_digit.j1 kj2 a0 a1 (-1)) = some r := by rw [if_neg (show ¬ (false = true) by decide)] at H; exact H
          clear H
          have H := H1
          clear H1
          have H' := Aside0.mk H
          clear H
          go_wp2
          go_meet
          case rel => exact ⟨_, ((-1)), (by first | rfl | (simp; done) | (simp [*]; done)), H', ⟨by have := HJ2.out; first | omega | exact Nat.le_refl _⟩, by repeat (first | exact Drawn0.refl _ | apply Drawn0.step)⟩
      case rest =>
        clear HC5
        try clear c2
        try clear p2
        try clear c4
        try clear c4b0
        try clear c6
        try clear p2
        obtain ⟨kq, x5_4, rfl, HA, HJ4, ⟨mc4, rfl⟩⟩ := hcut
        cases kq with
        | zero => exact absurd HA.out (by simp [cleatref10_digit.j1])
        | succ kj4 =>
          have H := HA.out
          clear HA
          simp only [cleatref10_digit.j1] at H
          have HC7 := Aside0.mk H
          clear H
          go_upto_region 4 with (fail)
          go_cut [20] (fun v20 wc => ∃ (kq : Nat) (x20_6 : Bool), v20 = .bool x20_6 ∧ Aside0 (cleatref10_digit.j2 kq a0 a1 x5_4 x20_6 = some r) ∧ Aside0 (kq ≤ kj4) ∧ Drawn0 w wc)
          case first =>
            have H := HC7.out
            clear HC7
            (try (rw [drewN_self wc]; have n0_ := fun n_ => pw_below_drewN HB.out n_; clear HB; generalize hq_ : World.drewN wc _ = wc; have HB := Aside0.mk (hq_ ▸ n0_ _); clear hq_ n0_))
            by_cases c8 : a0 ≥ 97
            · rw [if_pos c8] at H
              have c8b0 : decide (97 ≤ a0) = true := decide_eq_true c8
              clear c8
              (first | rw [c8b0] | (simp only [i64_w, i32_w]; rw [c8b0]) | skip)
              have H' := Aside0.mk H
              clear H
              go_wp2
              go_meet
              case rel => exact ⟨_, (decide (a0 ≤ 102)), (by first | rfl | (simp; done) | (simp [*]; done)), H', ⟨by have := HJ2.out; have := HJ4.out; first | omega | exact Nat.le_refl _⟩, by repeat (first | exact Drawn0.refl _ | apply Drawn0.step)⟩
            · rw [if_neg c8] at H
              have c8b0 : decide (97 ≤ a0) = false := decide_eq_false c8
              clear c8
              (first | rw [c8b0] | (simp only [i64_w, i32_w]; rw [c8b0]) | skip)
              have H' := Aside0.mk H
              clear H
              go_wp2
              go_meet
              case rel => exact ⟨_, (false), (by first | rfl | (simp; done) | (simp [*]; done)), H', ⟨by have := HJ2.out; have := HJ4.out; first | omega | exact Nat.le_refl _⟩, by repeat (first | exact Drawn0.refl _ | apply Drawn0.step)⟩
          case rest =>
            clear HC7
            try clear c2
            try clear p2
            try clear c4
            try clear c4b0
            try clear c6
            try clear c8
            try clear c8b0
            try clear p2
            obtain ⟨kq, x20_6, rfl, HA, HJ6, ⟨mc6, rfl⟩⟩ := hcut
            cases kq with
            | zero => exact absurd HA.out (by simp [cleatref10_digit.j2])
            | succ kj6 =>
              have H := HA.out
              clear HA
              simp only [cleatref10_digit.j2] at H
              have HC9 := Aside0.mk H
              clear H
              go_upto_if 20 with (fail)
              go_cut [5] (fun v5 wc => ∃ (kq : Nat) (x5_8 : Int), v5 = .int .i64 x5_8 ∧ Aside0 (cleatref10_digit.j3 kq a0 a1 x5_8 = some r) ∧ Aside0 (kq ≤ kj6) ∧ Drawn0 w wc)
              case first =>
                have H := HC9.out
                clear HC9
                (try (rw [drewN_self wc]; have n0_ := fun n_ => pw_below_drewN HB.out n_; clear HB; generalize hq_ : World.drewN wc _ = wc; have HB := Aside0.mk (hq_ ▸ n0_ _); clear hq_ n0_))
                by_cases c10 : x20_6 = true
                · subst c10
                  have H1 : (cleatref10_digit.j3 kj6 a0 a1 (((a0 - 97) % 256) + 10)) = some r := by rw [if_pos rfl] at H; exact H
                  clear H
                  have H := H1
                  clear H1
                  have H' := Aside0.mk H
                  clear H
                  go_wp2
                  go_meet
                  case rel => exact ⟨_, (((a0 - 97) % 256) + 10), (by first | rfl | (simp; done) | (simp [*]; done)), H', ⟨by have := HJ2.out; have := HJ4.out; have := HJ6.out; first | omega | exact Nat.le_refl _⟩, by repeat (first | exact Drawn0.refl _ | apply Drawn0.step)⟩
                · replace c10 := Bool.eq_false_iff.mpr c10
                  subst c10
                  have H1 : (cleatref10_digit.j3 kj6 a0 a1 x5_4) = some r := by rw [if_neg (show ¬ (false = true) by decide)] at H; exact H
                  clear H
                  have H := H1
                  clear H1
                  have H' := Aside0.mk H
                  clear H
                  go_wp2
                  go_meet
                  case rel => exact ⟨_, (x5_4), (by first | rfl | (simp; done) | (simp [*]; done)), H', ⟨by have := HJ2.out; have := HJ4.out; have := HJ6.out; first | omega | exact Nat.le_refl _⟩, by repeat (first | exact Drawn0.refl _ | apply Drawn0.step)⟩
              case rest =>
                clear HC9
                try clear c1
                try clear c2
                try clear p2
                try clear c4
                try clear c4b0
                try clear c6
                try clear c8
                try clear c8b0
                try clear c10
                try clear p2
                obtain ⟨kq, x5_8, rfl, HA, HJ8, ⟨mc8, rfl⟩⟩ := hcut
                cases kq with
                | zero => exact absurd HA.out (by simp [cleatref10_digit.j3])
                | succ kj8 =>
                  have H := HA.out
                  clear HA
                  simp only [cleatref10_digit.j3] at H
                  have HC11 := Aside0.mk H
                  clear H
                  go_upto_region 6 with (fail)
                  go_cut [30] (fun v30 wc => ∃ (kq : Nat) (x30_10 : Bool), v30 = .bool x30_10 ∧ Aside0 (cleatref10_digit.j4 kq a0 a1 x5_8 x30_10 = some r) ∧ Aside0 (kq ≤ kj8) ∧ Drawn0 w wc)
                  case first =>
                    have H := HC11.out
                    clear HC11
                    (try (rw [drewN_self wc]; have n0_ := fun n_ => pw_below_drewN HB.out n_; clear HB; generalize hq_ : World.drewN wc _ = wc; have HB := Aside0.mk (hq_ ▸ n0_ _); clear hq_ n0_))
                    by_cases c12 : a0 ≥ 65
                    · rw [if_pos c12] at H
                      have c12b0 : decide (65 ≤ a0) = true := decide_eq_true c12
                      clear c12
                      (first | rw [c12b0] | (simp only [i64_w, i32_w]; rw [c12b0]) | skip)
                      have H' := Aside0.mk H
                      clear H
                      go_wp2
                      go_meet
                      case rel => exact ⟨_, (decide (a0 ≤ 70)), (by first | rfl | (simp; done) | (simp [*]; done)), H', ⟨by have := HJ2.out; have := HJ4.out; have := HJ6.out; have := HJ8.out; first | omega | exact Nat.le_refl _⟩, by repeat (first | exact Drawn0.refl _ | apply Drawn0.step)⟩
                    · rw [if_neg c12] at H
                      have c12b0 : decide (65 ≤ a0) = false := decide_eq_false c12
                      clear c12
                      (first | rw [c12b0] | (simp only [i64_w, i32_w]; rw [c12b0]) | skip)
                      have H' := Aside0.mk H
                      clear H
                      go_wp2
                      go_meet
                      case rel => exact ⟨_, (false), (by first | rfl | (simp; done) | (simp [*]; done)), H', ⟨by have := HJ2.out; have := HJ4.out; have := HJ6.out; have := HJ8.out; first | omega | exact Nat.le_refl _⟩, by repeat (first | exact Drawn0.refl _ | apply Drawn0.step)⟩
                  case rest =>
                    clear HC11
                    try clear c1
                    try clear c2
                    try clear p2
                    try clear c4
                    try clear c4b0
                    try clear c6
                    try clear c8
                    try clear c8b0
                    try clear c10
                    try clear c12
                    try clear c12b0
                    try clear p2
                    obtain ⟨kq, x30_10, rfl, HA, HJ10, ⟨mc10, rfl⟩⟩ := hcut
                    cases kq with
                    | zero => exact absurd HA.out (by simp [cleatref10_digit.j4])
                    | succ kj10 =>
                      have H := HA.out
                      clear HA
                      simp only [cleatref10_digit.j4] at H
                      by_cases c13 : x30_10 = true
                      · subst c13
                        have H1 : (if (((a0 - 65) % 256) + 10) ≥ a1 then (some (-1)) else (some (((a0 - 65) % 256) + 10))) = some r := by rw [if_pos rfl] at H; exact H
                        clear H
                        have H := H1
                        clear H1
                        by_cases c14 : (((a0 - 65) % 256) + 10) ≥ a1
                        · rw [if_pos c14] at H
                          have c14b0 : decide (a1 ≤ (((a0 - 65) % 256) + 10)) = true := decide_eq_true c14
                          clear c14
                          obtain rfl := Option.some.inj H
                          go_wp2
                          go_ret
                          exact ⟨by first | rfl | (simp; done) | (simp [*]; done), by repeat (first | exact Drawn0.refl _ | apply Drawn0.step)⟩
                        · rw [if_neg c14] at H
                          have c14b0 : decide (a1 ≤ (((a0 - 65) % 256) + 10)) = false := decide_eq_false c14
                          clear c14
                          obtain rfl := Option.some.inj H
                          go_wp2
                          go_ret
                          exact ⟨by first | rfl | (simp; done) | (simp [*]; done), by repeat (first | exact Drawn0.refl _ | apply Drawn0.step)⟩
                      · replace c13 := Bool.eq_false_iff.mpr c13
                        subst c13
                        have H1 : (if x5_8 ≥ a1 then (some (-1)) else (some x5_8)) = some r := by rw [if_neg (show ¬ (false = true) by decide)] at H; exact H
                        clear H
                        have H := H1
                        clear H1
                        by_cases c15 : x5_8 ≥ a1
                        · rw [if_pos c15] at H
                          have c15b0 : decide (a1 ≤ x5_8) = true := decide_eq_true c15
                          clear c15
                          obtain rfl := Option.some.inj H
                          go_wp2
                          go_ret
                          exact ⟨by first | rfl | (simp; done) | (simp [*]; done), by repeat (first | exact Drawn0.refl _ | apply Drawn0.step)⟩
                        · rw [if_neg c15] at H
                          have c15b0 : decide (a1 ≤ x5_8) = false := decide_eq_false c15
                          clear c15
                          obtain rfl := Option.some.inj H
                          go_wp2
                          go_ret
                          exact ⟨by first | rfl | (simp; done) | (simp [*]; done), by repeat (first | exact Drawn0.refl _ | apply Drawn0.step)⟩

end Go.Proofs.YtfajpcinmpbhgaaDoor.P
