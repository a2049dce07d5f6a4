/- Written for this claim by a program of this session (drive.py, over the print of the kit): Lean functions with the answers of Go functions, and the proofs that the Go code comes to these answers, under no condition but the readings of the arguments that each theorem names. -/
import Derived.Test.YtkpkkjbigndnoaaDoorPx0
import Derived.Test.YtkpkkjbigndnoaaDoorPx6
import Derived.Test.YtkpkkjbigndnoaaDoorPx10
import Derived.Test.YtkpkkjbigndnoaaDoorPx12
import Derived.Test.YtkpkkjbigndnoaaDoorPx16
import Derived.Laws.BytesArg
import Derived.Laws.IdiomStrings
namespace Go.Proofs.YtkpkkjbigndnoaaDoor.P
open Go.RowKit Go.Proofs.YtkpkkjbigndnoaaDoorW.PrintWords Go.Proofs.YtkpkkjbigndnoaaDoorW.PrintLast Go.Proofs.YtkpkkjbigndnoaaDoorW.PrintMore
attribute [local go_sem] max2_int min2_int max_two min_two max_three min_three max_four min_four   -- for this text's walks alone
set_option linter.unusedVariables false
set_option linter.unusedSimpArgs false

/-! ### fix_bytes: function 40 -/
-- IMPORT Derived.Laws.BytesArg
-- IMPORT Derived.Laws.IdiomStrings
/-- A number's bytes, the lowest one first. -/
def fix_leL (v : Int) : Nat → List Int
  | 0 => []
  | n + 1 => v % 256 :: fix_leL (v / 256) n
theorem fix_leL_length : ∀ (n : Nat) (v : Int), (fix_leL v n).length = n
  | 0, _ => rfl
  | n + 1, v => by rw [fix_leL, List.length_cons, fix_leL_length n]
theorem fix_leL_get : ∀ (n i : Nat) (v : Int), i < n → (fix_leL v n).getD i 0 = v / 256 ^ i % 256
  | 0, _, _, h => absurd h (by omega)
  | n + 1, 0, v, _ => by simp [fix_leL]
  | n + 1, i + 1, v, h => by
    rw [fix_leL, List.getD_cons_succ, fix_leL_get n i (v / 256) (by omega), Int.pow_succ, Int.mul_comm, Int.ediv_ediv_of_nonneg (by decide)]
def fix_bytes.f (v n : Int) : Option ByteArray := if n = 4 ∨ n = 8 then (if 0 ≤ v ∧ v < 18446744073709551616 then some (strOfNums (fix_leL v n.toNat)) else none) else none
theorem fix_leL_4 (v : Int) : fix_leL v 4 = [v % 256, v / 256 % 256, v / 65536 % 256, v / 16777216 % 256] := by
  have e : fix_leL v 4 = [v % 256, v / 256 % 256, v / 256 / 256 % 256, v / 256 / 256 / 256 % 256] := rfl
  rw [e, show v / 256 / 256 / 256 = v / 16777216 by omega, show v / 256 / 256 = v / 65536 by omega]
set_option maxRecDepth 100000 in
theorem fix_bytes_4 (v : Int) (w : World) (h0 : 0 ≤ v) (h1 : v < 18446744073709551616) :
    Calls Tryd.prog 40 #[.int .u64 v, .int .i64 4] w fun e w' => e = .returned (.string (strOfNums (fix_leL v 4))) ∧ Below w.heap.size w w' := by
  rw [fix_leL_4]
  have H1 := Aside0.mk h1
  clear h1
  have hmk : ∀ w, (Instr.makeSlice 101 (.int .i64 4) (.int .i64 4)).run Tryd.prog w = .ok (.slice (some ⟨w.heap.size, 0, none⟩) 4 4) (w.alloc (.cells #[.int .u8 0, .int .u8 0, .int .u8 0, .int .u8 0] 5)) := fun _ => by kernel_rfl
  have hcv := run_convert_bytes_arg (P := Tryd.prog) (w.alloc (.cells #[.int .u8 (v % 256), .int .u8 (v / 256 % 256), .int .u8 (v / 65536 % 256), .int .u8 (v / 16777216 % 256)] 5)) 101 5 Tryd.underlying101 Tryd.underlying5 w.heap.size 0 4 4 [v % 256, v / 256 % 256, v / 65536 % 256, v / 16777216 % 256] rfl
    (by intro i hi; rw [Nat.zero_add, World.cell?_alloc_mark]; match i, hi with | 0, _ => rfl | 1, _ => rfl | 2, _ => rfl | 3, _ => rfl) 9 Tryd.underlying9
  go_enter Tryd.func40, Tryd.ntmps40
  go_wp2
  refine wp_loop_rounds 5 ?_
  rw [rounds_succ]
  go_wp2
  rw [rounds_succ]
  go_wp2
  rw [rounds_succ]
  go_wp2
  rw [rounds_succ]
  go_wp2
  rw [rounds_succ]
  go_wp2
  go_ret
  exact ⟨rfl, below_alloc (Below.refl _ _) _⟩
theorem fix_leL_8 (v : Int) : fix_leL v 8 = [v % 256, v / 256 % 256, v / 65536 % 256, v / 16777216 % 256, v / 4294967296 % 256, v / 1099511627776 % 256, v / 281474976710656 % 256, v / 72057594037927936 % 256] := by
  have e : fix_leL v 8 = [v % 256, v / 256 % 256, v / 256 / 256 % 256, v / 256 / 256 / 256 % 256, v / 256 / 256 / 256 / 256 % 256, v / 256 / 256 / 256 / 256 / 256 % 256, v / 256 / 256 / 256 / 256 / 256 / 256 % 256, v / 256 / 256 / 256 / 256 / 256 / 256 / 256 % 256] := rfl
  rw [e, show v / 256 / 256 / 256 / 256 / 256 / 256 / 256 = v / 72057594037927936 by omega, show v / 256 / 256 / 256 / 256 / 256 / 256 = v / 281474976710656 by omega, show v / 256 / 256 / 256 / 256 / 256 = v / 1099511627776 by omega, show v / 256 / 256 / 256 / 256 = v / 4294967296 by omega, show v / 256 / 256 / 256 = v / 16777216 by omega, show v / 256 / 256 = v / 65536 by omega]
set_option maxRecDepth 100000 in
theorem fix_bytes_8 (v : Int) (w : World) (h0 : 0 ≤ v) (h1 : v < 18446744073709551616) :
    Calls Tryd.prog 40 #[.int .u64 v, .int .i64 8] w fun e w' => e = .returned (.string (strOfNums (fix_leL v 8))) ∧ Below w.heap.size w w' := by
  rw [fix_leL_8]
  have H1 := Aside0.mk h1
  clear h1
  have hmk : ∀ w, (Instr.makeSlice 101 (.int .i64 8) (.int .i64 8)).run Tryd.prog w = .ok (.slice (some ⟨w.heap.size, 0, none⟩) 8 8) (w.alloc (.cells #[.int .u8 0, .int .u8 0, .int .u8 0, .int .u8 0, .int .u8 0, .int .u8 0, .int .u8 0, .int .u8 0] 5)) := fun _ => by kernel_rfl
  have hcv := run_convert_bytes_arg (P := Tryd.prog) (w.alloc (.cells #[.int .u8 (v % 256), .int .u8 (v / 256 % 256), .int .u8 (v / 65536 % 256), .int .u8 (v / 16777216 % 256), .int .u8 (v / 4294967296 % 256), .int .u8 (v / 1099511627776 % 256), .int .u8 (v / 281474976710656 % 256), .int .u8 (v / 72057594037927936 % 256)] 5)) 101 5 Tryd.underlying101 Tryd.underlying5 w.heap.size 0 8 8 [v % 256, v / 256 % 256, v / 65536 % 256, v / 16777216 % 256, v / 4294967296 % 256, v / 1099511627776 % 256, v / 281474976710656 % 256, v / 72057594037927936 % 256] rfl
    (by intro i hi; rw [Nat.zero_add, World.cell?_alloc_mark]; match i, hi with | 0, _ => rfl | 1, _ => rfl | 2, _ => rfl | 3, _ => rfl | 4, _ => rfl | 5, _ => rfl | 6, _ => rfl | 7, _ => rfl) 9 Tryd.underlying9
  go_enter Tryd.func40, Tryd.ntmps40
  go_wp2
  refine wp_loop_rounds 9 ?_
  rw [rounds_succ]
  go_wp2
  rw [rounds_succ]
  go_wp2
  rw [rounds_succ]
  go_wp2
  rw [rounds_succ]
  go_wp2
  rw [rounds_succ]
  go_wp2
  rw [rounds_succ]
  go_wp2
  rw [rounds_succ]
  go_wp2
  rw [rounds_succ]
  go_wp2
  rw [rounds_succ]
  go_wp2
  go_ret
  exact ⟨rfl, below_alloc (Below.refl _ _) _⟩
theorem fix_bytes.calls (v n : Int) (r : ByteArray) (w : World) (h : fix_bytes.f v n = some r) :
    Calls Tryd.prog 40 #[.int .u64 v, .int .i64 n] w fun e w' => e = .returned (.string r) ∧ Below w.heap.size w w' := by
  unfold fix_bytes.f at h
  split at h
  · rename_i hn
    split at h
    · rename_i hv
      obtain rfl := Option.some.inj h
      rcases hn with rfl | rfl
      · exact fix_bytes_4 v w hv.1 hv.2
      · exact fix_bytes_8 v w hv.1 hv.2
    · simp at h
  · simp at h

/-! ### fix_number: function 41 -/
def fix_number.l0 : Nat → ByteArray → Int → Int → Int → Option (Int)
 | 0, _, _, _, _ => none
 | k + 1, x0, x3, x6, x7 => if x7 < x6 then (if 0 ≤ x7 then (if x7 < (x0.size : Int) then (if 0 ≤ (wrap64 (8 * x7)) then (fix_number.l0 k x0 (Go.bits .or .u64 x3 (shl .u64 (IntKind.u64.wrap (bt x0 x7)) (wrap64 (8 * x7)))) x6 (wrap64 (x7 + 1))) else (none)) else (none)) else (none)) else (some x3)
def fix_number.f (k : Nat) (a0 : ByteArray) : Option (Int) := fix_number.l0 k a0 0 (a0.size : Int) 0
theorem fix_number.mono_l : ∀ k, (∀ y0 y1 y2 y3, LeO (fix_number.l0 k y0 y1 y2 y3) (fix_number.l0 (k + 1) y0 y1 y2 y3))
 | 0 => fun _ _ _ _ r h => by simp [fix_number.l0] at h
 | k + 1 => by
  have ih0 := fix_number.mono_l k
  ·
   intro y0 y1 y2 y3
   unfold fix_number.l0
   repeat' first
   | (with_reducible exact ih0 _ _ _ _)
   | (with_reducible exact LeO.refl _)
   | (with_reducible exact LeO.none _)
   | (with_reducible refine LeO.ite ?_ ?_)
   | (with_reducible refine LeO.bind ?_ (fun _ => ?_))
   | exact ih0 _ _ _ _
   | exact LeO.none _
   | refine LeO.ite ?_ ?_
   | refine LeO.bind ?_ (fun _ => ?_)
theorem fix_number.mono : ∀ a0 k, LeO (fix_number.f k a0) (fix_number.f (k + 1) a0) := by
 intro a0 k
 have ih0 := fix_number.mono_l k
 unfold fix_number.f
 repeat' first
   | (with_reducible exact ih0 _ _ _ _)
   | (with_reducible exact LeO.refl _)
   | (with_reducible exact LeO.none _)
   | (with_reducible refine LeO.ite ?_ ?_)
   | (with_reducible refine LeO.bind ?_ (fun _ => ?_))
   | exact ih0 _ _ _ _
   | exact LeO.none _
   | refine LeO.ite ?_ ?_
   | refine LeO.bind ?_ (fun _ => ?_)
set_option maxHeartbeats 8000000 in
set_option maxRecDepth 100000 in
theorem fix_number.calls (k : Nat) (a0 : ByteArray) (r : Int) (w : World) (h : fix_number.f k a0 = some r) :
    Calls Tryd.prog 41 #[.string a0] w fun e w' => e = .returned (.int .u64 r) ∧ Drawn0 w w' := by
 have H : (fix_number.l0 k a0 0 (a0.size : Int) 0) = some r := h
 clear h
 have H' := Aside0.mk H
 clear H
 go_enter Tryd.func41, Tryd.ntmps41
 go_wp2
 go_loopg [3, 7] k (fun kq v3 v7 w' => ∃ (x3_1 : Int) (x7_1 : Int), v3 = .int .u64 x3_1 ∧ v7 = .int .i64 x7_1 ∧ Aside0 (fix_number.l0 kq a0 x3_1 (a0.size : Int) x7_1 = some r) ∧ Aside0 (kq ≤ k) ∧ Drawn0 w w')
 case atStart => exact ⟨(0), (0), (by first | rfl | (simp; done) | (simp [*]; done)), (by first | rfl | (simp; done) | (simp [*]; done)), H', ⟨Nat.le_refl _⟩, by repeat (first | exact Drawn0.refl _ | apply Drawn0.step)⟩
 case round =>
  clear H'
  obtain ⟨x3_1, x7_1, rfl, rfl, HA, HK1, ⟨m1, rfl⟩⟩ := hrel
  cases gk with
  | zero => exact absurd HA.out (by simp [fix_number.l0])
  | succ k1 =>
   have H := HA.out
   clear HA
   simp only [fix_number.l0] at H
   by_cases c2 : x7_1 < (a0.size : Int)
   ·
    rw [if_pos c2] at H
    have c2b0 : decide (x7_1 < (a0.size : Int)) = true := decide_eq_true c2
    clear c2
    by_cases c3 : 0 ≤ x7_1
    ·
     rw [if_pos c3] at H
     have c3b0 : decide (0 ≤ x7_1) = true := decide_eq_true c3
     clear c3
     by_cases c4 : x7_1 < (a0.size : Int)
     ·
      rw [if_pos c4] at H
      have c4b0 : decide (x7_1 < (a0.size : Int)) = true := decide_eq_true c4
      clear c4
      obtain ⟨ji6, hji6⟩ : ∃ j_ : Int, (wrap64 (8 * x7_1)) = j_ := ⟨_, rfl⟩
      replace H : (if 0 ≤ (ji6) then (fix_number.l0 k1 a0 (Go.bits .or .u64 x3_1 (shl .u64 (IntKind.u64.wrap (bt a0 x7_1)) (ji6))) (a0.size : Int) (wrap64 (x7_1 + 1))) else (none)) = some r := by first | (rw [hji6] at H; exact H) | (simp only [hji6] at H ⊢; exact H)
      have hji6w : (IntKind.i64.wrap (8 * x7_1)) = ji6 := (i64_w _).trans hji6
      by_cases c7 : 0 ≤ (ji6)
      ·
       rw [if_pos c7] at H
       have c7b0 := eq_true c7
       have c7b1 : decide (0 ≤ (ji6)) = true := decide_eq_true c7
       clear c7
       obtain ⟨ji8, hji8⟩ : ∃ j_ : Int, (shl .u64 (IntKind.u64.wrap (bt a0 x7_1)) (ji6)) = j_ := ⟨_, rfl⟩
       replace H : (fix_number.l0 k1 a0 (Go.bits .or .u64 x3_1 (ji8)) (a0.size : Int) (wrap64 (x7_1 + 1))) = some r := by first | (rw [hji8] at H; exact H) | (simp only [hji8] at H ⊢; exact H)
       have hji8_ : (IntKind.u64.wrap ((IntKind.u64.wrap (bt a0 x7_1)) * 2 ^ min (ji6).toNat 64)) = ji8 := hji8
       have hji8z : (ji6) ≤ 64 → (IntKind.u64.wrap ((IntKind.u64.wrap (bt a0 x7_1)) * 2 ^ (ji6).toNat)) = ji8 := shl_small hji8
       have H' := Aside0.mk H
       clear H
       have p5 : 0 ≤ (x7_1 : Int) := of_decide_eq_true (by first | (with_reducible assumption) | assumption)
       have q5 : x7_1 < (a0.size : Int) := of_decide_eq_true (by first | (with_reducible assumption) | assumption)
       have hx5 := bt_at a0 x7_1
       replace p5 := eq_true p5
       replace q5 := eq_true q5
       go_wp2
       go_roundg k1
       case measure => have := HK1.out; omega
       case rel => exact ⟨(Go.bits .or .u64 x3_1 (ji8)), (wrap64 (x7_1 + 1)), (by first | rfl | (simp; done) | (simp only [← hji8] <;> (first | rfl | simp)) | (simp [*]; done)), (by first | rfl | (simp; done) | (simp [*]; done)), H', ⟨by have := HK1.out; omega⟩, by repeat (first | exact Drawn0.refl _ | apply Drawn0.step)⟩
      ·
       rw [if_neg c7] at H
       exact absurd H (by simp)
     ·
      rw [if_neg c4] at H
      exact absurd H (by simp)
    ·
     rw [if_neg c3] at H
     exact absurd H (by simp)
   ·
    rw [if_neg c2] at H
    have c2b0 : decide (x7_1 < (a0.size : Int)) = false := decide_eq_false c2
    clear c2
    obtain rfl := Option.some.inj H
    go_wp2
    go_ret
    exact ⟨by first | rfl | (simp; done) | (simp [*]; done), by repeat (first | exact Drawn0.refl _ | apply Drawn0.step)⟩

/-! ### fix_Apply: function 19 -/
def fix_Apply.f (k : Nat) (a0 : Int) (a1 : ByteArray) (a2 : Int) (a3 : Int) : Option (ByteArray × Int) := (fix_right.f a0 9 a1).bind fun t252 => (if t252 = true then (if a0 = 1 then ((fix_bytes.f a3 8).bind fun t253 => (some (t253, 0))) else ((fix_number.f k a1).bind fun t254 => ((fix_Word.f k a0 ((t254) % 4294967296) a2 a3).bind fun bt255 => (if bt255.2 = 0 then ((fix_bytes.f (IntKind.u64.wrap (bt255.1)) 4).bind fun t257 => (some (t257, 0))) else (some ((⟨#[]⟩ : ByteArray), bt255.2)))))) else (some ((⟨#[]⟩ : ByteArray), 1)))
theorem fix_Apply.mono : ∀ a0 a1 a2 a3 k, LeO (fix_Apply.f k a0 a1 a2 a3) (fix_Apply.f (k + 1) a0 a1 a2 a3) := by
 intro a0 a1 a2 a3 k
 unfold fix_Apply.f
 repeat' first
   | (with_reducible exact fix_Word.mono _ _ _ _ _)
   | (with_reducible exact fix_number.mono _ _)
   | (with_reducible exact LeO.refl _)
   | (with_reducible exact LeO.none _)
   | (with_reducible refine LeO.ite ?_ ?_)
   | (with_reducible refine LeO.bind ?_ (fun _ => ?_))
   | exact fix_Word.mono _ _ _ _ _
   | exact fix_number.mono _ _
   | exact LeO.none _
   | refine LeO.ite ?_ ?_
   | refine LeO.bind ?_ (fun _ => ?_)
set_option maxHeartbeats 8000000 in
set_option maxRecDepth 100000 in
theorem fix_Apply.calls (k : Nat) (a0 : Int) (a1 : ByteArray) (a2 : Int) (a3 : Int) (r1 : ByteArray) (r2 : Int) (w : World) (h : fix_Apply.f k a0 a1 a2 a3 = some (r1, r2)) (hTab : TabW w := by first | exact hTab | exact TabW.drew hTab | exact TabW.drewN hTab _ | exact TabW.below hTab (by repeat (first | (with_reducible first | exact HB.out | apply below_alloc | apply pw_below_drewN | apply below_drew1) | refine Below.setCell ?_ (Aside0.out (by assumption)) _ | exact HB.out | exact Below.refl _ _))) :
    Calls Tryd.prog 19 #[.int .i64 a0, .string a1, .int .u64 a2, .int .u64 a3] w fun e w' => e = .returned (.tuple #[.string r1, .int .i64 r2]) ∧ Below w.heap.size w w' := by
 have HB := Aside0.mk (Below.refl w.heap.size w)
 have H : ((fix_right.f a0 9 a1).bind fun t252 => (if t252 = true then (if a0 = 1 then ((fix_bytes.f a3 8).bind fun t253 => (some (t253, 0))) else ((fix_number.f k a1).bind fun t254 => ((fix_Word.f k a0 ((t254) % 4294967296) a2 a3).bind fun bt255 => (if bt255.2 = 0 then ((fix_bytes.f (IntKind.u64.wrap (bt255.1)) 4).bind fun t257 => (some (t257, 0))) else (some ((⟨#[]⟩ : ByteArray), bt255.2)))))) else (some ((⟨#[]⟩ : ByteArray), 1)))) = some (r1, r2) := h
 clear h
 replace H := Option.bind_eq_some_iff.mp H
 obtain ⟨t252, A50, H⟩ := H
 replace H : (if t252 = true then (if a0 = 1 then ((fix_bytes.f a3 8).bind fun t253 => (some (t253, 0))) else ((fix_number.f k a1).bind fun t254 => ((fix_Word.f k a0 ((t254) % 4294967296) a2 a3).bind fun bt255 => (if bt255.2 = 0 then ((fix_bytes.f (IntKind.u64.wrap (bt255.1)) 4).bind fun t257 => (some (t257, 0))) else (some ((⟨#[]⟩ : ByteArray), bt255.2)))))) else (some ((⟨#[]⟩ : ByteArray), 1))) = some (r1, r2) := H
 have A5 := Aside0.mk A50
 clear A50
 by_cases c6 : t252 = true
 ·
  subst c6
  have H1 : (if a0 = 1 then ((fix_bytes.f a3 8).bind fun t253 => (some (t253, 0))) else ((fix_number.f k a1).bind fun t254 => ((fix_Word.f k a0 ((t254) % 4294967296) a2 a3).bind fun bt255 => (if bt255.2 = 0 then ((fix_bytes.f (IntKind.u64.wrap (bt255.1)) 4).bind fun t257 => (some (t257, 0))) else (some ((⟨#[]⟩ : ByteArray), bt255.2)))))) = some (r1, r2) := by rw [if_pos rfl] at H; exact H
  clear H
  have H := H1
  clear H1
  by_cases c7 : a0 = 1
  ·
   rw [if_pos c7] at H
   have c7b0 : (a0 == 1) = true := beq_iff_eq.mpr c7
   have c7b1 : (a0 != 1) = false := bne_eq_false_iff_eq.mpr c7
   clear c7
   replace H := Option.bind_eq_some_iff.mp H
   obtain ⟨t253, A80, H⟩ := H
   replace H : (some (t253, 0)) = some (r1, r2) := H
   have A8 := Aside0.mk A80
   clear A80
   simp only [Option.some.injEq, Prod.mk.injEq] at H
   obtain ⟨rfl, rfl⟩ := H
   go_enter Tryd.func19, Tryd.ntmps19
   go_wp2_with (first | ((with_reducible refine gate_callee (f := 39) rfl ?_); refine goesL_ (some 14) rfl rfl Tryd.func39 (by kernel_rfl) rfl #[.int .i64 a0, .int .i64 9, .string a1] rfl (by (try simp only [List.map_toArray, List.map_cons, List.map_nil]); first | done | rfl | (simp only [List.length_drop, List.length_take]; rfl)) ?_; (with_reducible refine (fix_right.calls a0 9 a1 true _ A5.out).mono ?_); rintro e w' ⟨rfl, ⟨nd, rfl⟩⟩; refine ⟨_, rfl, ?_⟩) | ((with_reducible refine gate_callee (f := 40) rfl ?_); refine goesL_ (some 19) rfl rfl Tryd.func40 (by kernel_rfl) rfl #[.int .u64 a3, .int .i64 8] rfl (by (try simp only [List.map_toArray, List.map_cons, List.map_nil]); first | done | rfl | (simp only [List.length_drop, List.length_take]; rfl)) ?_; (with_reducible refine (fix_bytes.calls a3 8 t253 _ A8.out).mono ?_); rintro e w9 ⟨rfl, hb⟩; refine ⟨_, rfl, ?_⟩; have n0_ := Aside0.mk (below_step (by repeat (first | (with_reducible first | exact HB.out | apply below_alloc | apply pw_below_drewN | apply below_drew1) | exact HB.out)) hb); clear HB; have HB := n0_; clear n0_; (try clear hb); (try clear hb2); (try clear hk); (try clear hi)))
   go_ret2
   exact ⟨by first | rfl | (simp [errW_none, errW_some] <;> rfl) | (simp [*, errW_none, errW_some] <;> rfl), by repeat (first | (with_reducible first | exact HB.out | apply below_alloc | apply pw_below_drewN | apply below_drew1) | exact HB.out)⟩
  ·
   rw [if_neg c7] at H
   have c7b0 : (a0 == 1) = false := beq_eq_false_iff_ne.mpr c7
   have c7b1 : (a0 != 1) = true := bne_iff_ne.mpr c7
   replace H := Option.bind_eq_some_iff.mp H
   obtain ⟨t254, A100, H⟩ := H
   replace H : ((fix_Word.f k a0 ((t254) % 4294967296) a2 a3).bind fun bt255 => (if bt255.2 = 0 then ((fix_bytes.f (IntKind.u64.wrap (bt255.1)) 4).bind fun t257 => (some (t257, 0))) else (some ((⟨#[]⟩ : ByteArray), bt255.2)))) = some (r1, r2) := H
   have A10 := Aside0.mk A100
   clear A100
   replace H := Option.bind_eq_some_iff.mp H
   obtain ⟨⟨t255, t256⟩, A110, H⟩ := H
   replace H : (if t256 = 0 then ((fix_bytes.f (IntKind.u64.wrap (t255)) 4).bind fun t257 => (some (t257, 0))) else (some ((⟨#[]⟩ : ByteArray), t256))) = some (r1, r2) := H
   have A11 := Aside0.mk A110
   clear A110
   by_cases c12 : t256 = 0
   ·
    rw [if_pos c12] at H
    have c12b0 : (t256 == 0) = true := beq_iff_eq.mpr c12
    have c12b1 : (t256 != 0) = false := bne_eq_false_iff_eq.mpr c12
    clear c12
    replace H := Option.bind_eq_some_iff.mp H
    obtain ⟨t257, A130, H⟩ := H
    replace H : (some (t257, 0)) = some (r1, r2) := H
    have A13 := Aside0.mk A130
    clear A130
    simp only [Option.some.injEq, Prod.mk.injEq] at H
    obtain ⟨rfl, rfl⟩ := H
    go_enter Tryd.func19, Tryd.ntmps19
    go_wp2_with (first | ((with_reducible refine gate_callee (f := 39) rfl ?_); refine goesL_ (some 14) rfl rfl Tryd.func39 (by kernel_rfl) rfl #[.int .i64 a0, .int .i64 9, .string a1] rfl (by (try simp only [List.map_toArray, List.map_cons, List.map_nil]); first | done | rfl | (simp only [List.length_drop, List.length_take]; rfl)) ?_; (with_reducible refine (fix_right.calls a0 9 a1 true _ A5.out).mono ?_); rintro e w' ⟨rfl, ⟨nd, rfl⟩⟩; refine ⟨_, rfl, ?_⟩) | ((with_reducible refine gate_callee (f := 41) rfl ?_); refine goesL_ (some 23) rfl rfl Tryd.func41 (by kernel_rfl) rfl #[.string a1] rfl (by (try simp only [List.map_toArray, List.map_cons, List.map_nil]); first | done | rfl | (simp only [List.length_drop, List.length_take]; rfl)) ?_; (with_reducible refine (fix_number.calls k a1 t254 _ A10.out).mono ?_); rintro e w' ⟨rfl, ⟨nd, rfl⟩⟩; refine ⟨_, rfl, ?_⟩) | ((with_reducible refine gate_callee (f := 22) rfl ?_); refine goesL_ (some 27) rfl rfl Tryd.func22 (by kernel_rfl) rfl #[.int .i64 a0, .int .u32 ((t254) % 4294967296), .int .u64 a2, .int .u64 a3] rfl (by (try simp only [List.map_toArray, List.map_cons, List.map_nil]); first | done | rfl | (simp only [List.length_drop, List.length_take]; rfl)) ?_; (with_reducible refine (fix_Word.calls k a0 ((t254) % 4294967296) a2 a3 t255 t256 _ A11.out).mono ?_); rintro e w14 ⟨rfl, hb⟩; refine ⟨_, rfl, ?_⟩; have n0_ := Aside0.mk (below_step (by repeat (first | (with_reducible first | exact HB.out | apply below_alloc | apply pw_below_drewN | apply below_drew1) | exact HB.out)) hb); clear HB; have HB := n0_; clear n0_; (try clear hb); (try clear hb2); (try clear hk); (try clear hi)) | ((with_reducible refine gate_callee (f := 40) rfl ?_); refine goesL_ (some 35) rfl rfl Tryd.func40 (by kernel_rfl) rfl #[.int .u64 (IntKind.u64.wrap (t255)), .int .i64 4] rfl (by (try simp only [List.map_toArray, List.map_cons, List.map_nil]); first | done | rfl | (simp only [List.length_drop, List.length_take]; rfl)) ?_; (with_reducible refine (fix_bytes.calls (IntKind.u64.wrap (t255)) 4 t257 _ A13.out).mono ?_); rintro e w15 ⟨rfl, hb⟩; refine ⟨_, rfl, ?_⟩; have n0_ := Aside0.mk (below_step (by repeat (first | (with_reducible first | exact HB.out | apply below_alloc | apply pw_below_drewN | apply below_drew1) | exact HB.out)) hb); clear HB; have HB := n0_; clear n0_; (try clear hb); (try clear hb2); (try clear hk); (try clear hi)))
    go_ret2
    exact ⟨by first | rfl | (simp [errW_none, errW_some] <;> rfl) | (simp [*, errW_none, errW_some] <;> rfl), by repeat (first | (with_reducible first | exact HB.out | apply below_alloc | apply pw_below_drewN | apply below_drew1) | exact HB.out)⟩
   ·
    rw [if_neg c12] at H
    have c12b0 : (t256 == 0) = false := beq_eq_false_iff_ne.mpr c12
    have c12b1 : (t256 != 0) = true := bne_iff_ne.mpr c12
    simp only [Option.some.injEq, Prod.mk.injEq] at H
    obtain ⟨rfl, rfl⟩ := H
    go_enter Tryd.func19, Tryd.ntmps19
    go_wp2_with (first | ((with_reducible refine gate_callee (f := 39) rfl ?_); refine goesL_ (some 14) rfl rfl Tryd.func39 (by kernel_rfl) rfl #[.int .i64 a0, .int .i64 9, .string a1] rfl (by (try simp only [List.map_toArray, List.map_cons, List.map_nil]); first | done | rfl | (simp only [List.length_drop, List.length_take]; rfl)) ?_; (with_reducible refine (fix_right.calls a0 9 a1 true _ A5.out).mono ?_); rintro e w' ⟨rfl, ⟨nd, rfl⟩⟩; refine ⟨_, rfl, ?_⟩) | ((with_reducible refine gate_callee (f := 41) rfl ?_); refine goesL_ (some 23) rfl rfl Tryd.func41 (by kernel_rfl) rfl #[.string a1] rfl (by (try simp only [List.map_toArray, List.map_cons, List.map_nil]); first | done | rfl | (simp only [List.length_drop, List.length_take]; rfl)) ?_; (with_reducible refine (fix_number.calls k a1 t254 _ A10.out).mono ?_); rintro e w' ⟨rfl, ⟨nd, rfl⟩⟩; refine ⟨_, rfl, ?_⟩) | ((with_reducible refine gate_callee (f := 22) rfl ?_); refine goesL_ (some 27) rfl rfl Tryd.func22 (by kernel_rfl) rfl #[.int .i64 a0, .int .u32 ((t254) % 4294967296), .int .u64 a2, .int .u64 a3] rfl (by (try simp only [List.map_toArray, List.map_cons, List.map_nil]); first | done | rfl | (simp only [List.length_drop, List.length_take]; rfl)) ?_; (with_reducible refine (fix_Word.calls k a0 ((t254) % 4294967296) a2 a3 t255 t256 _ A11.out).mono ?_); rintro e w16 ⟨rfl, hb⟩; refine ⟨_, rfl, ?_⟩; have n0_ := Aside0.mk (below_step (by repeat (first | (with_reducible first | exact HB.out | apply below_alloc | apply pw_below_drewN | apply below_drew1) | exact HB.out)) hb); clear HB; have HB := n0_; clear n0_; (try clear hb); (try clear hb2); (try clear hk); (try clear hi)))
    go_ret2
    exact ⟨by first | rfl | (simp [errW_none, errW_some] <;> rfl) | (simp [*, errW_none, errW_some] <;> rfl), by repeat (first | (with_reducible first | exact HB.out | apply below_alloc | apply pw_below_drewN | apply below_drew1) | exact HB.out)⟩
 ·
  replace c6 := Bool.eq_false_iff.mpr c6
  subst c6
  have H1 : (some ((⟨#[]⟩ : ByteArray), 1)) = some (r1, r2) := by rw [if_neg (show ¬ (false = true) by decide)] at H; exact H
  clear H
  have H := H1
  clear H1
  simp only [Option.some.injEq, Prod.mk.injEq] at H
  obtain ⟨rfl, rfl⟩ := H
  go_enter Tryd.func19, Tryd.ntmps19
  go_wp2_with (first | ((with_reducible refine gate_callee (f := 39) rfl ?_); refine goesL_ (some 14) rfl rfl Tryd.func39 (by kernel_rfl) rfl #[.int .i64 a0, .int .i64 9, .string a1] rfl (by (try simp only [List.map_toArray, List.map_cons, List.map_nil]); first | done | rfl | (simp only [List.length_drop, List.length_take]; rfl)) ?_; (with_reducible refine (fix_right.calls a0 9 a1 false _ A5.out).mono ?_); rintro e w' ⟨rfl, ⟨nd, rfl⟩⟩; refine ⟨_, rfl, ?_⟩))
  go_ret2
  exact ⟨by first | rfl | (simp [errW_none, errW_some] <;> rfl) | (simp [*, errW_none, errW_some] <;> rfl), by repeat (first | (with_reducible first | exact HB.out | apply below_alloc | apply pw_below_drewN | apply below_drew1) | exact HB.out)⟩

/-! ### fix_Goal: function 21 -/
theorem goal_box_ (d0 d1 d2 d3 d4 d5 d6 d7 d8 d9 : Int) (w : World) (o : Obj) : ((w.alloc (.cells #[.int .i64 d0, .int .i64 d1, .int .i64 d2, .int .i64 d3, .int .i64 d4, .int .i64 d5, .int .u64 d6, .int .i64 d7, .int .i64 d8, .int .i64 d9] 24)).alloc o).cell? ⟨w.heap.size, 5, none⟩ = some (.int .i64 d5) := by
  have h1 := heap_last_ w (.cells #[.int .i64 d0, .int .i64 d1, .int .i64 d2, .int .i64 d3, .int .i64 d4, .int .i64 d5, .int .u64 d6, .int .i64 d7, .int .i64 d8, .int .i64 d9] 24)
  have h2 := (below_alloc (Below.refl _ (w.alloc (.cells #[.int .i64 d0, .int .i64 d1, .int .i64 d2, .int .i64 d3, .int .i64 d4, .int .i64 d5, .int .u64 d6, .int .i64 d7, .int .i64 d8, .int .i64 d9] 24))) o).block w.heap.size (Array.getElem?_eq_some_iff.1 h1).1
  exact (blk_cell (h2.trans h1) 5).trans rfl
def fix_Goal.f (k : Nat) (j : Int) (y : ByteArray) (a : Int) : Option (Int × Int) := (fix_right.f j 6 y).bind fun b => if b = true then (fix_number.f k y).bind fun v =>
  if j = 1 then some (v, 0) else (code_Decode.f k (v % 4294967296)).bind fun d => (code_Encode.f k d.1 d.2.1 d.2.2.1 d.2.2.2.1 d.2.2.2.2.1 0 d.2.2.2.2.2.2.1 d.2.2.2.2.2.2.2.1 d.2.2.2.2.2.2.2.2.1 d.2.2.2.2.2.2.2.2.2.1).bind fun q =>
    if d.2.2.2.2.2.2.2.2.2.2 = 0 then if q.2 = 0 then (part_Fits.f k j q.1).bind fun t => if t = true then if j = 6 then some (IntKind.u64.wrap (Go.bits .andNot .u64 a 4095 + IntKind.u64.wrap (4096 * IntKind.u64.wrap d.2.2.2.2.2.1)), 0) else some (IntKind.u64.wrap (a + IntKind.u64.wrap d.2.2.2.2.2.1), 0) else some (0, 11) else some (0, 11) else some (0, 11)
  else some (0, 1)
theorem fix_Goal.mono : ∀ j y a k, LeO (fix_Goal.f k j y a) (fix_Goal.f (k + 1) j y a) := by
  intro j y a k
  unfold fix_Goal.f
  exact LeO.bind (LeO.refl _) (fun _ => LeO.ite (LeO.bind (fix_number.mono y k) (fun _ => LeO.ite (LeO.refl _) (LeO.bind (code_Decode.mono _ k) (fun _ => LeO.bind (code_Encode.mono _ _ _ _ _ _ _ _ _ _ k) (fun _ => LeO.ite (LeO.ite (LeO.bind (part_Fits.mono j _ k) (fun _ => LeO.refl _)) (LeO.refl _)) (LeO.refl _)))))) (LeO.refl _))
set_option maxHeartbeats 4000000 in
set_option maxRecDepth 100000 in
theorem fix_Goal.calls (k : Nat) (j : Int) (y : ByteArray) (a r1 r2 : Int) (w : World) (h : fix_Goal.f k j y a = some (r1, r2)) (hTab : TabW w := by first | exact hTab | exact TabW.drew hTab | exact TabW.drewN hTab _ | exact TabW.below hTab (by repeat (first | (with_reducible first | exact HB.out | apply below_alloc | apply pw_below_drewN | apply below_drew1) | refine Below.setCell ?_ (Aside0.out (by assumption)) _ | exact HB.out | exact Below.refl _ _))) :
    Calls Tryd.prog 21 #[.int .i64 j, .string y, .int .u64 a] w fun e w' => e = .returned (.tuple #[.int .u64 r1, .int .i64 r2]) ∧ Below w.heap.size w w' := by
  unfold fix_Goal.f at h
  obtain ⟨b, hr, h⟩ := Option.bind_eq_some_iff.mp h
  have HR := Aside0.mk hr
  clear hr
  by_cases hbt : b = true
  · rw [if_pos hbt] at h
    subst hbt
    obtain ⟨v, hn, h⟩ := Option.bind_eq_some_iff.mp h
    have HN := Aside0.mk hn
    clear hn
    by_cases hj : j = 1
    · rw [if_pos hj] at h
      injection h with h
      injection h with h1 h2
      subst h1 h2 hj
      go_enter Tryd.func21, Tryd.ntmps21
      go_wp2_with (first | (go_at_call 39; refine (fix_right.calls _ 6 y true _ HR.out).mono ?_; rintro e w0 ⟨rfl, ⟨n0, rfl⟩⟩) | (go_at_call 41; refine (fix_number.calls k y v _ HN.out).mono ?_; rintro e w1 ⟨rfl, ⟨n1, rfl⟩⟩))
      go_ret2
      exact ⟨rfl, by repeat (first | exact Below.refl _ _ | apply pw_below_drewN)⟩
    · rw [if_neg hj] at h
      have bj : (j == 1) = false := by simpa using hj
      obtain ⟨⟨d0, d1, d2, d3, d4, d5, d6, d7, d8, d9, d10⟩, hd, h3⟩ := Option.bind_eq_some_iff.mp h
      clear h
      obtain ⟨⟨q1, q2⟩, he, h⟩ := Option.bind_eq_some_iff.mp h3
      clear h3
      have HD := Aside0.mk hd
      have HE := Aside0.mk he
      clear hd he hj
      simp only at h HE
      have hI5 := goal_box_ d0 d1 d2 d3 d4 d5 d6 d7 d8 d9
      have HI5 := Aside0.mk hI5
      clear hI5
      by_cases c0 : d10 = 0
      · rw [if_pos c0] at h
        subst c0
        by_cases c1 : q2 = 0
        · rw [if_pos c1] at h
          subst c1
          obtain ⟨t, ht, h4⟩ := Option.bind_eq_some_iff.mp h
          clear h
          have h := h4
          clear h4
          have HT := Aside0.mk ht
          clear ht
          by_cases ct : t = true
          · rw [if_pos ct] at h
            subst ct
            by_cases c6 : j = 6
            · rw [if_pos c6] at h
              injection h with h
              injection h with h1 h2
              subst h1 h2 c6
              go_enter Tryd.func21, Tryd.ntmps21
              go_wp2_with (first | (go_at_call 39; refine (fix_right.calls _ 6 y true _ HR.out).mono ?_; rintro e w0 ⟨rfl, ⟨n0, rfl⟩⟩) | (go_at_call 41; refine (fix_number.calls k y v _ HN.out).mono ?_; rintro e w1 ⟨rfl, ⟨n1, rfl⟩⟩) | (go_at_call 13; refine (code_Decode.calls k _ _ _ _ _ _ _ _ _ _ _ _ _ HD.out (by repeat (first | exact hTab | apply TabW.drewN))).mono ?_; rintro e w3 ⟨rfl, hb⟩; have HB3 := Aside0.mk (below_step (by repeat (first | exact Below.refl _ _ | apply pw_below_drewN) : Below w.heap.size w _) hb); clear hb) | (go_at_call 10; refine (code_Encode.calls k _ _ _ _ _ _ _ _ _ _ _ _ _ HE.out (TabW.below hTab (below_alloc (below_alloc HB3.out _) _))).mono ?_; rintro e w4 ⟨rfl, hb⟩; have hcl := pw_cell_below hb (HI5.out _ _); have HB4 := Aside0.mk (below_step (below_alloc (below_alloc HB3.out _) _) hb); clear hb) | (go_at_call 24; refine (part_Fits.calls k _ _ _ _ HT.out (TabW.below hTab HB4.out)).mono ?_; rintro e w5 ⟨rfl, hb⟩; have hcl5 := pw_cell_below hb hcl; have HB5 := Aside0.mk (below_step HB4.out hb); clear hb))
              go_ret2
              exact ⟨rfl, HB5.out⟩
            · rw [if_neg c6] at h
              have b6 : (j == 6) = false := by simpa using c6
              injection h with h
              injection h with h1 h2
              subst h1 h2
              clear c6
              go_enter Tryd.func21, Tryd.ntmps21
              go_wp2_with (first | (go_at_call 39; refine (fix_right.calls _ 6 y true _ HR.out).mono ?_; rintro e w0 ⟨rfl, ⟨n0, rfl⟩⟩) | (go_at_call 41; refine (fix_number.calls k y v _ HN.out).mono ?_; rintro e w1 ⟨rfl, ⟨n1, rfl⟩⟩) | (go_at_call 13; refine (code_Decode.calls k _ _ _ _ _ _ _ _ _ _ _ _ _ HD.out (by repeat (first | exact hTab | apply TabW.drewN))).mono ?_; rintro e w3 ⟨rfl, hb⟩; have HB3 := Aside0.mk (below_step (by repeat (first | exact Below.refl _ _ | apply pw_below_drewN) : Below w.heap.size w _) hb); clear hb) | (go_at_call 10; refine (code_Encode.calls k _ _ _ _ _ _ _ _ _ _ _ _ _ HE.out (TabW.below hTab (below_alloc (below_alloc HB3.out _) _))).mono ?_; rintro e w4 ⟨rfl, hb⟩; have hcl := pw_cell_below hb (HI5.out _ _); have HB4 := Aside0.mk (below_step (below_alloc (below_alloc HB3.out _) _) hb); clear hb) | (go_at_call 24; refine (part_Fits.calls k _ _ _ _ HT.out (TabW.below hTab HB4.out)).mono ?_; rintro e w5 ⟨rfl, hb⟩; have hcl5 := pw_cell_below hb hcl; have HB5 := Aside0.mk (below_step HB4.out hb); clear hb))
              go_ret2
              exact ⟨rfl, HB5.out⟩
          · rw [if_neg ct] at h
            obtain rfl : t = false := by simpa using ct
            injection h with h
            injection h with h1 h2
            subst h1 h2
            clear ct
            go_enter Tryd.func21, Tryd.ntmps21
            go_wp2_with (first | (go_at_call 39; refine (fix_right.calls _ 6 y true _ HR.out).mono ?_; rintro e w0 ⟨rfl, ⟨n0, rfl⟩⟩) | (go_at_call 41; refine (fix_number.calls k y v _ HN.out).mono ?_; rintro e w1 ⟨rfl, ⟨n1, rfl⟩⟩) | (go_at_call 13; refine (code_Decode.calls k _ _ _ _ _ _ _ _ _ _ _ _ _ HD.out (by repeat (first | exact hTab | apply TabW.drewN))).mono ?_; rintro e w3 ⟨rfl, hb⟩; have HB3 := Aside0.mk (below_step (by repeat (first | exact Below.refl _ _ | apply pw_below_drewN) : Below w.heap.size w _) hb); clear hb) | (go_at_call 10; refine (code_Encode.calls k _ _ _ _ _ _ _ _ _ _ _ _ _ HE.out (TabW.below hTab (below_alloc (below_alloc HB3.out _) _))).mono ?_; rintro e w4 ⟨rfl, hb⟩; have hcl := pw_cell_below hb (HI5.out _ _); have HB4 := Aside0.mk (below_step (below_alloc (below_alloc HB3.out _) _) hb); clear hb) | (go_at_call 24; refine (part_Fits.calls k _ _ _ _ HT.out (TabW.below hTab HB4.out)).mono ?_; rintro e w5 ⟨rfl, hb⟩; have hcl5 := pw_cell_below hb hcl; have HB5 := Aside0.mk (below_step HB4.out hb); clear hb))
            go_ret2
            exact ⟨rfl, HB5.out⟩
        · rw [if_neg c1] at h
          have b1 : (q2 != 0) = true := by simpa using c1
          injection h with h
          injection h with h1 h2
          subst h1 h2
          clear c1
          go_enter Tryd.func21, Tryd.ntmps21
          go_wp2_with (first | (go_at_call 39; refine (fix_right.calls _ 6 y true _ HR.out).mono ?_; rintro e w0 ⟨rfl, ⟨n0, rfl⟩⟩) | (go_at_call 41; refine (fix_number.calls k y v _ HN.out).mono ?_; rintro e w1 ⟨rfl, ⟨n1, rfl⟩⟩) | (go_at_call 13; refine (code_Decode.calls k _ _ _ _ _ _ _ _ _ _ _ _ _ HD.out (by repeat (first | exact hTab | apply TabW.drewN))).mono ?_; rintro e w3 ⟨rfl, hb⟩; have HB3 := Aside0.mk (below_step (by repeat (first | exact Below.refl _ _ | apply pw_below_drewN) : Below w.heap.size w _) hb); clear hb) | (go_at_call 10; refine (code_Encode.calls k _ _ _ _ _ _ _ _ _ _ _ _ _ HE.out (TabW.below hTab (below_alloc (below_alloc HB3.out _) _))).mono ?_; rintro e w4 ⟨rfl, hb⟩; have hcl := pw_cell_below hb (HI5.out _ _); have HB4 := Aside0.mk (below_step (below_alloc (below_alloc HB3.out _) _) hb); clear hb))
          go_ret2
          exact ⟨rfl, HB4.out⟩
      · rw [if_neg c0] at h
        have b0 : (d10 != 0) = true := by simpa using c0
        injection h with h
        injection h with h1 h2
        subst h1 h2
        clear c0
        go_enter Tryd.func21, Tryd.ntmps21
        go_wp2_with (first | (go_at_call 39; refine (fix_right.calls _ 6 y true _ HR.out).mono ?_; rintro e w0 ⟨rfl, ⟨n0, rfl⟩⟩) | (go_at_call 41; refine (fix_number.calls k y v _ HN.out).mono ?_; rintro e w1 ⟨rfl, ⟨n1, rfl⟩⟩) | (go_at_call 13; refine (code_Decode.calls k _ _ _ _ _ _ _ _ _ _ _ _ _ HD.out (by repeat (first | exact hTab | apply TabW.drewN))).mono ?_; rintro e w3 ⟨rfl, hb⟩; have HB3 := Aside0.mk (below_step (by repeat (first | exact Below.refl _ _ | apply pw_below_drewN) : Below w.heap.size w _) hb); clear hb) | (go_at_call 10; refine (code_Encode.calls k _ _ _ _ _ _ _ _ _ _ _ _ _ HE.out (TabW.below hTab (below_alloc (below_alloc HB3.out _) _))).mono ?_; rintro e w4 ⟨rfl, hb⟩; have hcl := pw_cell_below hb (HI5.out _ _); have HB4 := Aside0.mk (below_step (below_alloc (below_alloc HB3.out _) _) hb); clear hb))
        go_ret2
        exact ⟨rfl, HB4.out⟩
  · rw [if_neg hbt] at h
    injection h with h
    injection h with h1 h2
    subst h1 h2
    obtain rfl : b = false := by simpa using hbt
    clear hbt
    go_enter Tryd.func21, Tryd.ntmps21
    go_wp2_with (first | (go_at_call 39; refine (fix_right.calls _ 6 y false _ HR.out).mono ?_; rintro e w0 ⟨rfl, ⟨n0, rfl⟩⟩))
    go_ret2
    exact ⟨rfl, by repeat (first | exact Below.refl _ _ | apply pw_below_drewN)⟩

/-! ### cleatlaw26_fixed: function 20 -/
def cleatlaw26_fixed.f (k : Nat)  : Option (Bool) := (fix_Value.f 6 8192 4100).bind fun bt258 => ((fix_Value.f 2 0 2).bind fun bt260 => ((fix_Value.f 3 0 1048576).bind fun bt262 => ((fix_Apply.f k 2 (⟨#[0, 0, 0, 148]⟩ : ByteArray) 64 56).bind fun bt264 => ((fix_Goal.f k 2 bt264.1 64).bind fun bt266 => ((fix_Apply.f k 2 (⟨#[0, 0, 0, 0]⟩ : ByteArray) 64 56).bind fun bt268 => ((fix_Value.f 0 0 0).bind fun bt270 => (if bt258.2 = 0 then (if bt258.1 = 18446744073709551615 then (if bt260.2 = 5 then (if bt262.2 = 4 then (if bt264.2 = bt258.2 then (if bt264.1.toList = ([254, 255, 255, 151] : List UInt8) then (if bt266.2 = bt258.2 then (if bt266.1 = 56 then (if bt268.2 = 11 then (some (bt270.2 == 1)) else (none)) else (none)) else (none)) else (none)) else (none)) else (none)) else (none)) else (none)) else (none))))))))
theorem cleatlaw26_fixed.mono : ∀ k, LeO (cleatlaw26_fixed.f k ) (cleatlaw26_fixed.f (k + 1) ) := by
 intro  k
 unfold cleatlaw26_fixed.f
 repeat' first
   | (with_reducible exact fix_Apply.mono _ _ _ _ _)
   | (with_reducible exact fix_Goal.mono _ _ _ _)
   | (with_reducible exact LeO.refl _)
   | (with_reducible exact LeO.none _)
   | (with_reducible refine LeO.ite ?_ ?_)
   | (with_reducible refine LeO.bind ?_ (fun _ => ?_))
   | exact fix_Apply.mono _ _ _ _ _
   | exact fix_Goal.mono _ _ _ _
   | exact LeO.none _
   | refine LeO.ite ?_ ?_
   | refine LeO.bind ?_ (fun _ => ?_)
set_option maxHeartbeats 8000000 in
set_option maxRecDepth 100000 in
theorem cleatlaw26_fixed.calls (k : Nat)  (r : Bool) (w : World) (h : cleatlaw26_fixed.f k  = some r) (hTab : TabW w := by first | exact hTab | exact TabW.drew hTab | exact TabW.drewN hTab _ | exact TabW.below hTab (by repeat (first | (with_reducible first | exact HB.out | apply below_alloc | apply pw_below_drewN | apply below_drew1) | refine Below.setCell ?_ (Aside0.out (by assumption)) _ | exact HB.out | exact Below.refl _ _))) :
    Calls Tryd.prog 20 #[] w fun e w' => e = .returned (.bool r) ∧ Below w.heap.size w w' := by
 have HB := Aside0.mk (Below.refl w.heap.size w)
 have H : ((fix_Value.f 6 8192 4100).bind fun bt258 => ((fix_Value.f 2 0 2).bind fun bt260 => ((fix_Value.f 3 0 1048576).bind fun bt262 => ((fix_Apply.f k 2 (⟨#[0, 0, 0, 148]⟩ : ByteArray) 64 56).bind fun bt264 => ((fix_Goal.f k 2 bt264.1 64).bind fun bt266 => ((fix_Apply.f k 2 (⟨#[0, 0, 0, 0]⟩ : ByteArray) 64 56).bind fun bt268 => ((fix_Value.f 0 0 0).bind fun bt270 => (if bt258.2 = 0 then (if bt258.1 = 18446744073709551615 then (if bt260.2 = 5 then (if bt262.2 = 4 then (if bt264.2 = bt258.2 then (if bt264.1.toList = ([254, 255, 255, 151] : List UInt8) then (if bt266.2 = bt258.2 then (if bt266.1 = 56 then (if bt268.2 = 11 then (some (bt270.2 == 1)) else (none)) else (none)) else (none)) else (none)) else (none)) else (none)) else (none)) else (none)) else (none))))))))) = some r := h
 clear h
 replace H := Option.bind_eq_some_iff.mp H
 obtain ⟨⟨t258, t259⟩, A10, H⟩ := H
 replace H : ((fix_Value.f 2 0 2).bind fun bt260 => ((fix_Value.f 3 0 1048576).bind fun bt262 => ((fix_Apply.f k 2 (⟨#[0, 0, 0, 148]⟩ : ByteArray) 64 56).bind fun bt264 => ((fix_Goal.f k 2 bt264.1 64).bind fun bt266 => ((fix_Apply.f k 2 (⟨#[0, 0, 0, 0]⟩ : ByteArray) 64 56).bind fun bt268 => ((fix_Value.f 0 0 0).bind fun bt270 => (if t259 = 0 then (if t258 = 18446744073709551615 then (if bt260.2 = 5 then (if bt262.2 = 4 then (if bt264.2 = t259 then (if bt264.1.toList = ([254, 255, 255, 151] : List UInt8) then (if bt266.2 = t259 then (if bt266.1 = 56 then (if bt268.2 = 11 then (some (bt270.2 == 1)) else (none)) else (none)) else (none)) else (none)) else (none)) else (none)) else (none)) else (none)) else (none)))))))) = some r := H
 have A1 := Aside0.mk A10
 clear A10
 replace H := Option.bind_eq_some_iff.mp H
 obtain ⟨⟨t260, t261⟩, A20, H⟩ := H
 replace H : ((fix_Value.f 3 0 1048576).bind fun bt262 => ((fix_Apply.f k 2 (⟨#[0, 0, 0, 148]⟩ : ByteArray) 64 56).bind fun bt264 => ((fix_Goal.f k 2 bt264.1 64).bind fun bt266 => ((fix_Apply.f k 2 (⟨#[0, 0, 0, 0]⟩ : ByteArray) 64 56).bind fun bt268 => ((fix_Value.f 0 0 0).bind fun bt270 => (if t259 = 0 then (if t258 = 18446744073709551615 then (if t261 = 5 then (if bt262.2 = 4 then (if bt264.2 = t259 then (if bt264.1.toList = ([254, 255, 255, 151] : List UInt8) then (if bt266.2 = t259 then (if bt266.1 = 56 then (if bt268.2 = 11 then (some (bt270.2 == 1)) else (none)) else (none)) else (none)) else (none)) else (none)) else (none)) else (none)) else (none)) else (none))))))) = some r := H
 have A2 := Aside0.mk A20
 clear A20
 replace H := Option.bind_eq_some_iff.mp H
 obtain ⟨⟨t262, t263⟩, A30, H⟩ := H
 replace H : ((fix_Apply.f k 2 (⟨#[0, 0, 0, 148]⟩ : ByteArray) 64 56).bind fun bt264 => ((fix_Goal.f k 2 bt264.1 64).bind fun bt266 => ((fix_Apply.f k 2 (⟨#[0, 0, 0, 0]⟩ : ByteArray) 64 56).bind fun bt268 => ((fix_Value.f 0 0 0).bind fun bt270 => (if t259 = 0 then (if t258 = 18446744073709551615 then (if t261 = 5 then (if t263 = 4 then (if bt264.2 = t259 then (if bt264.1.toList = ([254, 255, 255, 151] : List UInt8) then (if bt266.2 = t259 then (if bt266.1 = 56 then (if bt268.2 = 11 then (some (bt270.2 == 1)) else (none)) else (none)) else (none)) else (none)) else (none)) else (none)) else (none)) else (none)) else (none)))))) = some r := H
 have A3 := Aside0.mk A30
 clear A30
 replace H := Option.bind_eq_some_iff.mp H
 obtain ⟨⟨t264, t265⟩, A40, H⟩ := H
 replace H : ((fix_Goal.f k 2 t264 64).bind fun bt266 => ((fix_Apply.f k 2 (⟨#[0, 0, 0, 0]⟩ : ByteArray) 64 56).bind fun bt268 => ((fix_Value.f 0 0 0).bind fun bt270 => (if t259 = 0 then (if t258 = 18446744073709551615 then (if t261 = 5 then (if t263 = 4 then (if t265 = t259 then (if t264.toList = ([254, 255, 255, 151] : List UInt8) then (if bt266.2 = t259 then (if bt266.1 = 56 then (if bt268.2 = 11 then (some (bt270.2 == 1)) else (none)) else (none)) else (none)) else (none)) else (none)) else (none)) else (none)) else (none)) else (none))))) = some r := H
 have A4 := Aside0.mk A40
 clear A40
 replace H := Option.bind_eq_some_iff.mp H
 obtain ⟨⟨t266, t267⟩, A50, H⟩ := H
 replace H : ((fix_Apply.f k 2 (⟨#[0, 0, 0, 0]⟩ : ByteArray) 64 56).bind fun bt268 => ((fix_Value.f 0 0 0).bind fun bt270 => (if t259 = 0 then (if t258 = 18446744073709551615 then (if t261 = 5 then (if t263 = 4 then (if t265 = t259 then (if t264.toList = ([254, 255, 255, 151] : List UInt8) then (if t267 = t259 then (if t266 = 56 then (if bt268.2 = 11 then (some (bt270.2 == 1)) else (none)) else (none)) else (none)) else (none)) else (none)) else (none)) else (none)) else (none)) else (none)))) = some r := H
 have A5 := Aside0.mk A50
 clear A50
 replace H := Option.bind_eq_some_iff.mp H
 obtain ⟨⟨t268, t269⟩, A60, H⟩ := H
 replace H : ((fix_Value.f 0 0 0).bind fun bt270 => (if t259 = 0 then (if t258 = 18446744073709551615 then (if t261 = 5 then (if t263 = 4 then (if t265 = t259 then (if t264.toList = ([254, 255, 255, 151] : List UInt8) then (if t267 = t259 then (if t266 = 56 then (if t269 = 11 then (some (bt270.2 == 1)) else (none)) else (none)) else (none)) else (none)) else (none)) else (none)) else (none)) else (none)) else (none))) = some r := H
 have A6 := Aside0.mk A60
 clear A60
 replace H := Option.bind_eq_some_iff.mp H
 obtain ⟨⟨t270, t271⟩, A70, H⟩ := H
 replace H : (if t259 = 0 then (if t258 = 18446744073709551615 then (if t261 = 5 then (if t263 = 4 then (if t265 = t259 then (if t264.toList = ([254, 255, 255, 151] : List UInt8) then (if t267 = t259 then (if t266 = 56 then (if t269 = 11 then (some (t271 == 1)) else (none)) else (none)) else (none)) else (none)) else (none)) else (none)) else (none)) else (none)) else (none)) = some r := H
 have A7 := Aside0.mk A70
 clear A70
 by_cases c8 : t259 = 0
 ·
  rw [if_pos c8] at H
  have c8b0 : (t259 == 0) = true := beq_iff_eq.mpr c8
  have c8b1 : (t259 != 0) = false := bne_eq_false_iff_eq.mpr c8
  clear c8
  by_cases c9 : t258 = 18446744073709551615
  ·
   rw [if_pos c9] at H
   have c9b0 : (t258 == 18446744073709551615) = true := beq_iff_eq.mpr c9
   have c9b1 : (t258 != 18446744073709551615) = false := bne_eq_false_iff_eq.mpr c9
   clear c9
   by_cases c10 : t261 = 5
   ·
    rw [if_pos c10] at H
    have c10b0 : (t261 == 5) = true := beq_iff_eq.mpr c10
    have c10b1 : (t261 != 5) = false := bne_eq_false_iff_eq.mpr c10
    clear c10
    by_cases c11 : t263 = 4
    ·
     rw [if_pos c11] at H
     have c11b0 : (t263 == 4) = true := beq_iff_eq.mpr c11
     have c11b1 : (t263 != 4) = false := bne_eq_false_iff_eq.mpr c11
     clear c11
     by_cases c12 : t265 = t259
     ·
      rw [if_pos c12] at H
      have c12b0 : (t265 == t259) = true := beq_iff_eq.mpr c12
      have c12b1 : (t265 != t259) = false := bne_eq_false_iff_eq.mpr c12
      clear c12
      by_cases c13 : t264.toList = ([254, 255, 255, 151] : List UInt8)
      ·
       rw [if_pos c13] at H
       have c13b0 : (t264.toList == ([254, 255, 255, 151] : List UInt8)) = true := beq_iff_eq.mpr c13
       have c13b1 : (t264.toList != ([254, 255, 255, 151] : List UInt8)) = false := bne_eq_false_iff_eq.mpr c13
       clear c13
       by_cases c14 : t267 = t259
       ·
        rw [if_pos c14] at H
        have c14b0 : (t267 == t259) = true := beq_iff_eq.mpr c14
        have c14b1 : (t267 != t259) = false := bne_eq_false_iff_eq.mpr c14
        clear c14
        by_cases c15 : t266 = 56
        ·
         rw [if_pos c15] at H
         have c15b0 : (t266 == 56) = true := beq_iff_eq.mpr c15
         have c15b1 : (t266 != 56) = false := bne_eq_false_iff_eq.mpr c15
         clear c15
         by_cases c16 : t269 = 11
         ·
          rw [if_pos c16] at H
          have c16b0 : (t269 == 11) = true := beq_iff_eq.mpr c16
          have c16b1 : (t269 != 11) = false := bne_eq_false_iff_eq.mpr c16
          clear c16
          obtain rfl := Option.some.inj H
          go_enter Tryd.func20, Tryd.ntmps20
          go_wp2_with (first | ((with_reducible refine gate_callee (f := 23) rfl ?_); refine goesL_ (some 16) rfl rfl Tryd.func23 (by kernel_rfl) rfl #[.int .i64 6, .int .u64 8192, .int .u64 4100] rfl (by (try simp only [List.map_toArray, List.map_cons, List.map_nil]); first | done | rfl | (simp only [List.length_drop, List.length_take]; rfl)) ?_; (with_reducible refine (fix_Value.calls 6 8192 4100 t258 t259 _ A1.out).mono ?_); rintro e w17 ⟨rfl, hb⟩; refine ⟨_, rfl, ?_⟩; have n0_ := Aside0.mk (below_step (by repeat (first | (with_reducible first | exact HB.out | apply below_alloc | apply pw_below_drewN | apply below_drew1) | exact HB.out)) hb); clear HB; have HB := n0_; clear n0_; (try clear hb); (try clear hb2); (try clear hk); (try clear hi)) | ((with_reducible refine gate_callee (f := 23) rfl ?_); refine goesL_ (some 20) rfl rfl Tryd.func23 (by kernel_rfl) rfl #[.int .i64 2, .int .u64 0, .int .u64 2] rfl (by (try simp only [List.map_toArray, List.map_cons, List.map_nil]); first | done | rfl | (simp only [List.length_drop, List.length_take]; rfl)) ?_; (with_reducible refine (fix_Value.calls 2 0 2 t260 t261 _ A2.out).mono ?_); rintro e w18 ⟨rfl, hb⟩; refine ⟨_, rfl, ?_⟩; have n0_ := Aside0.mk (below_step (by repeat (first | (with_reducible first | exact HB.out | apply below_alloc | apply pw_below_drewN | apply below_drew1) | exact HB.out)) hb); clear HB; have HB := n0_; clear n0_; (try clear hb); (try clear hb2); (try clear hk); (try clear hi)) | ((with_reducible refine gate_callee (f := 23) rfl ?_); refine goesL_ (some 24) rfl rfl Tryd.func23 (by kernel_rfl) rfl #[.int .i64 3, .int .u64 0, .int .u64 1048576] rfl (by (try simp only [List.map_toArray, List.map_cons, List.map_nil]); first | done | rfl | (simp only [List.length_drop, List.length_take]; rfl)) ?_; (with_reducible refine (fix_Value.calls 3 0 1048576 t262 t263 _ A3.out).mono ?_); rintro e w19 ⟨rfl, hb⟩; refine ⟨_, rfl, ?_⟩; have n0_ := Aside0.mk (below_step (by repeat (first | (with_reducible first | exact HB.out | apply below_alloc | apply pw_below_drewN | apply below_drew1) | exact HB.out)) hb); clear HB; have HB := n0_; clear n0_; (try clear hb); (try clear hb2); (try clear hk); (try clear hi)) | ((with_reducible refine gate_callee (f := 19) rfl ?_); refine goesL_ (some 28) rfl rfl Tryd.func19 (by kernel_rfl) rfl #[.int .i64 2, .string (⟨#[0, 0, 0, 148]⟩ : ByteArray), .int .u64 64, .int .u64 56] rfl (by (try simp only [List.map_toArray, List.map_cons, List.map_nil]); first | done | rfl | (simp only [List.length_drop, List.length_take]; rfl)) ?_; (with_reducible refine (fix_Apply.calls k 2 (⟨#[0, 0, 0, 148]⟩ : ByteArray) 64 56 t264 t265 _ A4.out).mono ?_); rintro e w20 ⟨rfl, hb⟩; refine ⟨_, rfl, ?_⟩; have n0_ := Aside0.mk (below_step (by repeat (first | (with_reducible first | exact HB.out | apply below_alloc | apply pw_below_drewN | apply below_drew1) | exact HB.out)) hb); clear HB; have HB := n0_; clear n0_; (try clear hb); (try clear hb2); (try clear hk); (try clear hi)) | ((with_reducible refine gate_callee (f := 21) rfl ?_); refine goesL_ (some 33) rfl rfl Tryd.func21 (by kernel_rfl) rfl #[.int .i64 2, .string t264, .int .u64 64] rfl (by (try simp only [List.map_toArray, List.map_cons, List.map_nil]); first | done | rfl | (simp only [List.length_drop, List.length_take]; rfl)) ?_; (with_reducible refine (fix_Goal.calls k 2 t264 64 t266 t267 _ A5.out).mono ?_); rintro e w21 ⟨rfl, hb⟩; refine ⟨_, rfl, ?_⟩; have n0_ := Aside0.mk (below_step (by repeat (first | (with_reducible first | exact HB.out | apply below_alloc | apply pw_below_drewN | apply below_drew1) | exact HB.out)) hb); clear HB; have HB := n0_; clear n0_; (try clear hb); (try clear hb2); (try clear hk); (try clear hi)) | ((with_reducible refine gate_callee (f := 19) rfl ?_); refine goesL_ (some 37) rfl rfl Tryd.func19 (by kernel_rfl) rfl #[.int .i64 2, .string (⟨#[0, 0, 0, 0]⟩ : ByteArray), .int .u64 64, .int .u64 56] rfl (by (try simp only [List.map_toArray, List.map_cons, List.map_nil]); first | done | rfl | (simp only [List.length_drop, List.length_take]; rfl)) ?_; (with_reducible refine (fix_Apply.calls k 2 (⟨#[0, 0, 0, 0]⟩ : ByteArray) 64 56 t268 t269 _ A6.out).mono ?_); rintro e w22 ⟨rfl, hb⟩; refine ⟨_, rfl, ?_⟩; have n0_ := Aside0.mk (below_step (by repeat (first | (with_reducible first | exact HB.out | apply below_alloc | apply pw_below_drewN | apply below_drew1) | exact HB.out)) hb); clear HB; have HB := n0_; clear n0_; (try clear hb); (try clear hb2); (try clear hk); (try clear hi)) | ((with_reducible refine gate_callee (f := 23) rfl ?_); refine goesL_ (some 41) rfl rfl Tryd.func23 (by kernel_rfl) rfl #[.int .i64 0, .int .u64 0, .int .u64 0] rfl (by (try simp only [List.map_toArray, List.map_cons, List.map_nil]); first | done | rfl | (simp only [List.length_drop, List.length_take]; rfl)) ?_; (with_reducible refine (fix_Value.calls 0 0 0 t270 t271 _ A7.out).mono ?_); rintro e w23 ⟨rfl, hb⟩; refine ⟨_, rfl, ?_⟩; have n0_ := Aside0.mk (below_step (by repeat (first | (with_reducible first | exact HB.out | apply below_alloc | apply pw_below_drewN | apply below_drew1) | exact HB.out)) hb); clear HB; have HB := n0_; clear n0_; (try clear hb); (try clear hb2); (try clear hk); (try clear hi)))
          go_ret
          exact ⟨by first | rfl | (simp [errW_none, errW_some] <;> rfl) | (simp [*, errW_none, errW_some] <;> rfl), by repeat (first | (with_reducible first | exact HB.out | apply below_alloc | apply pw_below_drewN | apply below_drew1) | exact HB.out)⟩
         ·
          rw [if_neg c16] at H
          exact absurd H (by simp)
        ·
         rw [if_neg c15] at H
         exact absurd H (by simp)
       ·
        rw [if_neg c14] at H
        exact absurd H (by simp)
      ·
       rw [if_neg c13] at H
       exact absurd H (by simp)
     ·
      rw [if_neg c12] at H
      exact absurd H (by simp)
    ·
     rw [if_neg c11] at H
     exact absurd H (by simp)
   ·
    rw [if_neg c10] at H
    exact absurd H (by simp)
  ·
   rw [if_neg c9] at H
   exact absurd H (by simp)
 ·
  rw [if_neg c8] at H
  exact absurd H (by simp)

/-! ### cleatlaw26_FixLeads: function 7 -/
def cleatlaw26_FixLeads.f (k : Nat) (a0 : Int) (a1 : ByteArray) (a2 : Int) (a3 : Int) : Option (Bool) := if (a1.size : Int) > 40 then (some true) else ((fix_Apply.f k a0 a1 a2 a3).bind fun bt272 => (if bt272.2 = 0 then (if a0 > 6 then ((fix_Goal.f k a0 bt272.1 a2).bind fun bt275 => ((cleatlaw26_fixed.f k).bind fun t277 => (if t277 = true then (if bt275.2 = 1 then (some ((bt272.1.size : Int) == 4)) else (none)) else (none)))) else ((fix_Goal.f k a0 bt272.1 a2).bind fun bt278 => (if a0 = 6 then ((cleatlaw26_fixed.f k).bind fun t280 => (if t280 = true then (if bt278.2 = 0 then (some (bt278.1 == (IntKind.u64.wrap (a3 - (Int.tmod a3 4096))))) else (none)) else (none))) else ((cleatlaw26_fixed.f k).bind fun t281 => (if t281 = true then (if bt278.2 = 0 then (if bt278.1 = a3 then (some ((bt272.1.size : Int) == (a1.size : Int))) else (none)) else (none)) else (none)))))) else ((cleatlaw26_fixed.f k).bind fun t274 => (if t274 = true then (some (bt272.1.toList == ([] : List UInt8))) else (none)))))
theorem cleatlaw26_FixLeads.mono : ∀ a0 a1 a2 a3 k, LeO (cleatlaw26_FixLeads.f k a0 a1 a2 a3) (cleatlaw26_FixLeads.f (k + 1) a0 a1 a2 a3) := by
 intro a0 a1 a2 a3 k
 unfold cleatlaw26_FixLeads.f
 repeat' first
   | (with_reducible exact cleatlaw26_fixed.mono _)
   | (with_reducible exact fix_Apply.mono _ _ _ _ _)
   | (with_reducible exact fix_Goal.mono _ _ _ _)
   | (with_reducible exact LeO.refl _)
   | (with_reducible exact LeO.none _)
   | (with_reducible refine LeO.ite ?_ ?_)
   | (with_reducible refine LeO.bind ?_ (fun _ => ?_))
   | exact cleatlaw26_fixed.mono _
   | exact fix_Apply.mono _ _ _ _ _
   | exact fix_Goal.mono _ _ _ _
   | exact LeO.none _
   | refine LeO.ite ?_ ?_
   | refine LeO.bind ?_ (fun _ => ?_)
set_option maxHeartbeats 8000000 in
set_option maxRecDepth 100000 in
theorem cleatlaw26_FixLeads.calls (k : Nat) (a0 : Int) (a1 : ByteArray) (a2 : Int) (a3 : Int) (r : Bool) (w : World) (h : cleatlaw26_FixLeads.f k a0 a1 a2 a3 = some r) (hTab : TabW w := by first | exact hTab | exact TabW.drew hTab | exact TabW.drewN hTab _ | exact TabW.below hTab (by repeat (first | (with_reducible first | exact HB.out | apply below_alloc | apply pw_below_drewN | apply below_drew1) | refine Below.setCell ?_ (Aside0.out (by assumption)) _ | exact HB.out | exact Below.refl _ _))) :
    Calls Tryd.prog 7 #[.int .i64 a0, .string a1, .int .u64 a2, .int .u64 a3] w fun e w' => e = .returned (.bool r) ∧ Below w.heap.size w w' := by
 have HB := Aside0.mk (Below.refl w.heap.size w)
 have H : (if (a1.size : Int) > 40 then (some true) else ((fix_Apply.f k a0 a1 a2 a3).bind fun bt272 => (if bt272.2 = 0 then (if a0 > 6 then ((fix_Goal.f k a0 bt272.1 a2).bind fun bt275 => ((cleatlaw26_fixed.f k).bind fun t277 => (if t277 = true then (if bt275.2 = 1 then (some ((bt272.1.size : Int) == 4)) else (none)) else (none)))) else ((fix_Goal.f k a0 bt272.1 a2).bind fun bt278 => (if a0 = 6 then ((cleatlaw26_fixed.f k).bind fun t280 => (if t280 = true then (if bt278.2 = 0 then (some (bt278.1 == (IntKind.u64.wrap (a3 - (Int.tmod a3 4096))))) else (none)) else (none))) else ((cleatlaw26_fixed.f k).bind fun t281 => (if t281 = true then (if bt278.2 = 0 then (if bt278.1 = a3 then (some ((bt272.1.size : Int) == (a1.size : Int))) else (none)) else (none)) else (none)))))) else ((cleatlaw26_fixed.f k).bind fun t274 => (if t274 = true then (some (bt272.1.toList == ([] : List UInt8))) else (none)))))) = some r := h
 clear h
 by_cases c5 : (a1.size : Int) > 40
 ·
  rw [if_pos c5] at H
  have c5b0 : decide (40 < (a1.size : Int)) = true := decide_eq_true c5
  have c5b1 : decide (40 < a1.size) = true := decide_eq_true (by omega)
  clear c5
  obtain rfl := Option.some.inj H
  go_enter Tryd.func7, Tryd.ntmps7
  go_wp2
  go_ret
  exact ⟨by first | rfl | (simp [errW_none, errW_some] <;> rfl) | (simp [*, errW_none, errW_some] <;> rfl), by repeat (first | (with_reducible first | exact HB.out | apply below_alloc | apply pw_below_drewN | apply below_drew1) | exact HB.out)⟩
 ·
  rw [if_neg c5] at H
  have c5b0 : decide (40 < (a1.size : Int)) = false := decide_eq_false c5
  have c5b1 : decide (40 < a1.size) = false := decide_eq_false (by omega)
  clear c5
  replace H := Option.bind_eq_some_iff.mp H
  obtain ⟨⟨t272, t273⟩, A60, H⟩ := H
  replace H : (if t273 = 0 then (if a0 > 6 then ((fix_Goal.f k a0 t272 a2).bind fun bt275 => ((cleatlaw26_fixed.f k).bind fun t277 => (if t277 = true then (if bt275.2 = 1 then (some ((t272.size : Int) == 4)) else (none)) else (none)))) else ((fix_Goal.f k a0 t272 a2).bind fun bt278 => (if a0 = 6 then ((cleatlaw26_fixed.f k).bind fun t280 => (if t280 = true then (if bt278.2 = 0 then (some (bt278.1 == (IntKind.u64.wrap (a3 - (Int.tmod a3 4096))))) else (none)) else (none))) else ((cleatlaw26_fixed.f k).bind fun t281 => (if t281 = true then (if bt278.2 = 0 then (if bt278.1 = a3 then (some ((t272.size : Int) == (a1.size : Int))) else (none)) else (none)) else (none)))))) else ((cleatlaw26_fixed.f k).bind fun t274 => (if t274 = true then (some (t272.toList == ([] : List UInt8))) else (none)))) = some r := H
  have A6 := Aside0.mk A60
  clear A60
  by_cases c7 : t273 = 0
  ·
   rw [if_pos c7] at H
   have c7b0 : (t273 == 0) = true := beq_iff_eq.mpr c7
   have c7b1 : (t273 != 0) = false := bne_eq_false_iff_eq.mpr c7
   clear c7
   by_cases c8 : a0 > 6
   ·
    rw [if_pos c8] at H
    have c8b0 : decide (6 < a0) = true := decide_eq_true c8
    clear c8
    replace H := Option.bind_eq_some_iff.mp H
    obtain ⟨⟨t275, t276⟩, A90, H⟩ := H
    replace H : ((cleatlaw26_fixed.f k).bind fun t277 => (if t277 = true then (if t276 = 1 then (some ((t272.size : Int) == 4)) else (none)) else (none))) = some r := H
    have A9 := Aside0.mk A90
    clear A90
    replace H := Option.bind_eq_some_iff.mp H
    obtain ⟨t277, A100, H⟩ := H
    replace H : (if t277 = true then (if t276 = 1 then (some ((t272.size : Int) == 4)) else (none)) else (none)) = some r := H
    have A10 := Aside0.mk A100
    clear A100
    by_cases c11 : t277 = true
    ·
     subst c11
     have H1 : (if t276 = 1 then (some ((t272.size : Int) == 4)) else (none)) = some r := by rw [if_pos rfl] at H; exact H
     clear H
     have H := H1
     clear H1
     by_cases c12 : t276 = 1
     ·
      rw [if_pos c12] at H
      have c12b0 : (t276 == 1) = true := beq_iff_eq.mpr c12
      have c12b1 : (t276 != 1) = false := bne_eq_false_iff_eq.mpr c12
      clear c12
      obtain rfl := Option.some.inj H
      go_enter Tryd.func7, Tryd.ntmps7
      go_wp2_with (first | ((with_reducible refine gate_callee (f := 19) rfl ?_); refine goesL_ (some 23) rfl rfl Tryd.func19 (by kernel_rfl) rfl #[.int .i64 a0, .string a1, .int .u64 a2, .int .u64 a3] rfl (by (try simp only [List.map_toArray, List.map_cons, List.map_nil]); first | done | rfl | (simp only [List.length_drop, List.length_take]; rfl)) ?_; (with_reducible refine (fix_Apply.calls k a0 a1 a2 a3 t272 t273 _ A6.out).mono ?_); rintro e w13 ⟨rfl, hb⟩; refine ⟨_, rfl, ?_⟩; have n0_ := Aside0.mk (below_step (by repeat (first | (with_reducible first | exact HB.out | apply below_alloc | apply pw_below_drewN | apply below_drew1) | exact HB.out)) hb); clear HB; have HB := n0_; clear n0_; (try clear hb); (try clear hb2); (try clear hk); (try clear hi)) | ((with_reducible refine gate_callee (f := 21) rfl ?_); refine goesL_ (some 39) rfl rfl Tryd.func21 (by kernel_rfl) rfl #[.int .i64 a0, .string t272, .int .u64 a2] rfl (by (try simp only [List.map_toArray, List.map_cons, List.map_nil]); first | done | rfl | (simp only [List.length_drop, List.length_take]; rfl)) ?_; (with_reducible refine (fix_Goal.calls k a0 t272 a2 t275 t276 _ A9.out).mono ?_); rintro e w14 ⟨rfl, hb⟩; refine ⟨_, rfl, ?_⟩; have n0_ := Aside0.mk (below_step (by repeat (first | (with_reducible first | exact HB.out | apply below_alloc | apply pw_below_drewN | apply below_drew1) | exact HB.out)) hb); clear HB; have HB := n0_; clear n0_; (try clear hb); (try clear hb2); (try clear hk); (try clear hi)) | ((with_reducible refine gate_callee (f := 20) rfl ?_); refine goesL_ (some 42) rfl rfl Tryd.func20 (by kernel_rfl) rfl #[] rfl (by (try simp only [List.map_toArray, List.map_cons, List.map_nil]); first | done | rfl | (simp only [List.length_drop, List.length_take]; rfl)) ?_; (with_reducible refine (cleatlaw26_fixed.calls k  true _ A10.out).mono ?_); rintro e w15 ⟨rfl, hb⟩; refine ⟨_, rfl, ?_⟩; have n0_ := Aside0.mk (below_step (by repeat (first | (with_reducible first | exact HB.out | apply below_alloc | apply pw_below_drewN | apply below_drew1) | exact HB.out)) hb); clear HB; have HB := n0_; clear n0_; (try clear hb); (try clear hb2); (try clear hk); (try clear hi)))
      go_ret
      exact ⟨by first | rfl | (simp [errW_none, errW_some] <;> rfl) | (simp [*, errW_none, errW_some] <;> rfl), by repeat (first | (with_reducible first | exact HB.out | apply below_alloc | apply pw_below_drewN | apply below_drew1) | exact HB.out)⟩
     ·
      rw [if_neg c12] at H
      exact absurd H (by simp)
    ·
     replace c11 := Bool.eq_false_iff.mpr c11
     subst c11
     have H1 : (none) = some r := by rw [if_neg (show ¬ (false = true) by decide)] at H; exact H
     clear H
     have H := H1
     clear H1
     exact absurd H (by simp)
   ·
    rw [if_neg c8] at H
    have c8b0 : decide (6 < a0) = false := decide_eq_false c8
    clear c8
    replace H := Option.bind_eq_some_iff.mp H
    obtain ⟨⟨t278, t279⟩, A160, H⟩ := H
    replace H : (if a0 = 6 then ((cleatlaw26_fixed.f k).bind fun t280 => (if t280 = true then (if t279 = 0 then (some (t278 == (IntKind.u64.wrap (a3 - (Int.tmod a3 4096))))) else (none)) else (none))) else ((cleatlaw26_fixed.f k).bind fun t281 => (if t281 = true then (if t279 = 0 then (if t278 = a3 then (some ((t272.size : Int) == (a1.size : Int))) else (none)) else (none)) else (none)))) = some r := H
    have A16 := Aside0.mk A160
    clear A160
    by_cases c17 : a0 = 6
    ·
     rw [if_pos c17] at H
     have c17b0 : (a0 == 6) = true := beq_iff_eq.mpr c17
     have c17b1 : (a0 != 6) = false := bne_eq_false_iff_eq.mpr c17
     clear c17
     replace H := Option.bind_eq_some_iff.mp H
     obtain ⟨t280, A180, H⟩ := H
     replace H : (if t280 = true then (if t279 = 0 then (some (t278 == (IntKind.u64.wrap (a3 - (Int.tmod a3 4096))))) else (none)) else (none)) = some r := H
     have A18 := Aside0.mk A180
     clear A180
     by_cases c19 : t280 = true
     ·
      subst c19
      have H1 : (if t279 = 0 then (some (t278 == (IntKind.u64.wrap (a3 - (Int.tmod a3 4096))))) else (none)) = some r := by rw [if_pos rfl] at H; exact H
      clear H
      have H := H1
      clear H1
      by_cases c20 : t279 = 0
      ·
       rw [if_pos c20] at H
       have c20b0 : (t279 == 0) = true := beq_iff_eq.mpr c20
       have c20b1 : (t279 != 0) = false := bne_eq_false_iff_eq.mpr c20
       clear c20
       obtain rfl := Option.some.inj H
       go_enter Tryd.func7, Tryd.ntmps7
       go_wp2_with (first | ((with_reducible refine gate_callee (f := 19) rfl ?_); refine goesL_ (some 23) rfl rfl Tryd.func19 (by kernel_rfl) rfl #[.int .i64 a0, .string a1, .int .u64 a2, .int .u64 a3] rfl (by (try simp only [List.map_toArray, List.map_cons, List.map_nil]); first | done | rfl | (simp only [List.length_drop, List.length_take]; rfl)) ?_; (with_reducible refine (fix_Apply.calls k a0 a1 a2 a3 t272 t273 _ A6.out).mono ?_); rintro e w21 ⟨rfl, hb⟩; refine ⟨_, rfl, ?_⟩; have n0_ := Aside0.mk (below_step (by repeat (first | (with_reducible first | exact HB.out | apply below_alloc | apply pw_below_drewN | apply below_drew1) | exact HB.out)) hb); clear HB; have HB := n0_; clear n0_; (try clear hb); (try clear hb2); (try clear hk); (try clear hi)) | ((with_reducible refine gate_callee (f := 21) rfl ?_); refine goesL_ (some 56) rfl rfl Tryd.func21 (by kernel_rfl) rfl #[.int .i64 a0, .string t272, .int .u64 a2] rfl (by (try simp only [List.map_toArray, List.map_cons, List.map_nil]); first | done | rfl | (simp only [List.length_drop, List.length_take]; rfl)) ?_; (with_reducible refine (fix_Goal.calls k a0 t272 a2 t278 t279 _ A16.out).mono ?_); rintro e w22 ⟨rfl, hb⟩; refine ⟨_, rfl, ?_⟩; have n0_ := Aside0.mk (below_step (by repeat (first | (with_reducible first | exact HB.out | apply below_alloc | apply pw_below_drewN | apply below_drew1) | exact HB.out)) hb); clear HB; have HB := n0_; clear n0_; (try clear hb); (try clear hb2); (try clear hk); (try clear hi)) | ((with_reducible refine gate_callee (f := 20) rfl ?_); refine goesL_ (some 61) rfl rfl Tryd.func20 (by kernel_rfl) rfl #[] rfl (by (try simp only [List.map_toArray, List.map_cons, List.map_nil]); first | done | rfl | (simp only [List.length_drop, List.length_take]; rfl)) ?_; (with_reducible refine (cleatlaw26_fixed.calls k  true _ A18.out).mono ?_); rintro e w23 ⟨rfl, hb⟩; refine ⟨_, rfl, ?_⟩; have n0_ := Aside0.mk (below_step (by repeat (first | (with_reducible first | exact HB.out | apply below_alloc | apply pw_below_drewN | apply below_drew1) | exact HB.out)) hb); clear HB; have HB := n0_; clear n0_; (try clear hb); (try clear hb2); (try clear hk); (try clear hi)))
       go_ret
       exact ⟨by first | rfl | (simp [errW_none, errW_some] <;> rfl) | (simp [*, errW_none, errW_some] <;> rfl), by repeat (first | (with_reducible first | exact HB.out | apply below_alloc | apply pw_below_drewN | apply below_drew1) | exact HB.out)⟩
      ·
       rw [if_neg c20] at H
       exact absurd H (by simp)
     ·
      replace c19 := Bool.eq_false_iff.mpr c19
      subst c19
      have H1 : (none) = some r := by rw [if_neg (show ¬ (false = true) by decide)] at H; exact H
      clear H
      have H := H1
      clear H1
      exact absurd H (by simp)
    ·
     rw [if_neg c17] at H
     have c17b0 : (a0 == 6) = false := beq_eq_false_iff_ne.mpr c17
     have c17b1 : (a0 != 6) = true := bne_iff_ne.mpr c17
     replace H := Option.bind_eq_some_iff.mp H
     obtain ⟨t281, A240, H⟩ := H
     replace H : (if t281 = true then (if t279 = 0 then (if t278 = a3 then (some ((t272.size : Int) == (a1.size : Int))) else (none)) else (none)) else (none)) = some r := H
     have A24 := Aside0.mk A240
     clear A240
     by_cases c25 : t281 = true
     ·
      subst c25
      have H1 : (if t279 = 0 then (if t278 = a3 then (some ((t272.size : Int) == (a1.size : Int))) else (none)) else (none)) = some r := by rw [if_pos rfl] at H; exact H
      clear H
      have H := H1
      clear H1
      by_cases c26 : t279 = 0
      ·
       rw [if_pos c26] at H
       have c26b0 : (t279 == 0) = true := beq_iff_eq.mpr c26
       have c26b1 : (t279 != 0) = false := bne_eq_false_iff_eq.mpr c26
       clear c26
       by_cases c27 : t278 = a3
       ·
        rw [if_pos c27] at H
        have c27b0 : (t278 == a3) = true := beq_iff_eq.mpr c27
        have c27b1 : (t278 != a3) = false := bne_eq_false_iff_eq.mpr c27
        clear c27
        obtain rfl := Option.some.inj H
        go_enter Tryd.func7, Tryd.ntmps7
        go_wp2_with (first | ((with_reducible refine gate_callee (f := 19) rfl ?_); refine goesL_ (some 23) rfl rfl Tryd.func19 (by kernel_rfl) rfl #[.int .i64 a0, .string a1, .int .u64 a2, .int .u64 a3] rfl (by (try simp only [List.map_toArray, List.map_cons, List.map_nil]); first | done | rfl | (simp only [List.length_drop, List.length_take]; rfl)) ?_; (with_reducible refine (fix_Apply.calls k a0 a1 a2 a3 t272 t273 _ A6.out).mono ?_); rintro e w28 ⟨rfl, hb⟩; refine ⟨_, rfl, ?_⟩; have n0_ := Aside0.mk (below_step (by repeat (first | (with_reducible first | exact HB.out | apply below_alloc | apply pw_below_drewN | apply below_drew1) | exact HB.out)) hb); clear HB; have HB := n0_; clear n0_; (try clear hb); (try clear hb2); (try clear hk); (try clear hi)) | ((with_reducible refine gate_callee (f := 21) rfl ?_); refine goesL_ (some 56) rfl rfl Tryd.func21 (by kernel_rfl) rfl #[.int .i64 a0, .string t272, .int .u64 a2] rfl (by (try simp only [List.map_toArray, List.map_cons, List.map_nil]); first | done | rfl | (simp only [List.length_drop, List.length_take]; rfl)) ?_; (with_reducible refine (fix_Goal.calls k a0 t272 a2 t278 t279 _ A16.out).mono ?_); rintro e w29 ⟨rfl, hb⟩; refine ⟨_, rfl, ?_⟩; have n0_ := Aside0.mk (below_step (by repeat (first | (with_reducible first | exact HB.out | apply below_alloc | apply pw_below_drewN | apply below_drew1) | exact HB.out)) hb); clear HB; have HB := n0_; clear n0_; (try clear hb); (try clear hb2); (try clear hk); (try clear hi)) | ((with_reducible refine gate_callee (f := 20) rfl ?_); refine goesL_ (some 74) rfl rfl Tryd.func20 (by kernel_rfl) rfl #[] rfl (by (try simp only [List.map_toArray, List.map_cons, List.map_nil]); first | done | rfl | (simp only [List.length_drop, List.length_take]; rfl)) ?_; (with_reducible refine (cleatlaw26_fixed.calls k  true _ A24.out).mono ?_); rintro e w30 ⟨rfl, hb⟩; refine ⟨_, rfl, ?_⟩; have n0_ := Aside0.mk (below_step (by repeat (first | (with_reducible first | exact HB.out | apply below_alloc | apply pw_below_drewN | apply below_drew1) | exact HB.out)) hb); clear HB; have HB := n0_; clear n0_; (try clear hb); (try clear hb2); (try clear hk); (try clear hi)))
        go_ret
        exact ⟨by first | rfl | (simp [errW_none, errW_some] <;> rfl) | (simp [*, errW_none, errW_some] <;> rfl), by repeat (first | (with_reducible first | exact HB.out | apply below_alloc | apply pw_below_drewN | apply below_drew1) | exact HB.out)⟩
       ·
        rw [if_neg c27] at H
        exact absurd H (by simp)
      ·
       rw [if_neg c26] at H
       exact absurd H (by simp)
     ·
      replace c25 := Bool.eq_false_iff.mpr c25
      subst c25
      have H1 : (none) = some r := by rw [if_neg (show ¬ (false = true) by decide)] at H; exact H
      clear H
      have H := H1
      clear H1
      exact absurd H (by simp)
  ·
   rw [if_neg c7] at H
   have c7b0 : (t273 == 0) = false := beq_eq_false_iff_ne.mpr c7
   have c7b1 : (t273 != 0) = true := bne_iff_ne.mpr c7
   replace H := Option.bind_eq_some_iff.mp H
   obtain ⟨t274, A310, H⟩ := H
   replace H : (if t274 = true then (some (t272.toList == ([] : List UInt8))) else (none)) = some r := H
   have A31 := Aside0.mk A310
   clear A310
   by_cases c32 : t274 = true
   ·
    subst c32
    have H1 : (some (t272.toList == ([] : List UInt8))) = some r := by rw [if_pos rfl] at H; exact H
    clear H
    have H := H1
    clear H1
    obtain rfl := Option.some.inj H
    go_enter Tryd.func7, Tryd.ntmps7
    go_wp2_with (first | ((with_reducible refine gate_callee (f := 19) rfl ?_); refine goesL_ (some 23) rfl rfl Tryd.func19 (by kernel_rfl) rfl #[.int .i64 a0, .string a1, .int .u64 a2, .int .u64 a3] rfl (by (try simp only [List.map_toArray, List.map_cons, List.map_nil]); first | done | rfl | (simp only [List.length_drop, List.length_take]; rfl)) ?_; (with_reducible refine (fix_Apply.calls k a0 a1 a2 a3 t272 t273 _ A6.out).mono ?_); rintro e w33 ⟨rfl, hb⟩; refine ⟨_, rfl, ?_⟩; have n0_ := Aside0.mk (below_step (by repeat (first | (with_reducible first | exact HB.out | apply below_alloc | apply pw_below_drewN | apply below_drew1) | exact HB.out)) hb); clear HB; have HB := n0_; clear n0_; (try clear hb); (try clear hb2); (try clear hk); (try clear hi)) | ((with_reducible refine gate_callee (f := 20) rfl ?_); refine goesL_ (some 28) rfl rfl Tryd.func20 (by kernel_rfl) rfl #[] rfl (by (try simp only [List.map_toArray, List.map_cons, List.map_nil]); first | done | rfl | (simp only [List.length_drop, List.length_take]; rfl)) ?_; (with_reducible refine (cleatlaw26_fixed.calls k  true _ A31.out).mono ?_); rintro e w34 ⟨rfl, hb⟩; refine ⟨_, rfl, ?_⟩; have n0_ := Aside0.mk (below_step (by repeat (first | (with_reducible first | exact HB.out | apply below_alloc | apply pw_below_drewN | apply below_drew1) | exact HB.out)) hb); clear HB; have HB := n0_; clear n0_; (try clear hb); (try clear hb2); (try clear hk); (try clear hi)))
    go_ret
    exact ⟨by first | rfl | (simp [errW_none, errW_some] <;> rfl) | (simp [*, errW_none, errW_some] <;> rfl), by repeat (first | (with_reducible first | exact HB.out | apply below_alloc | apply pw_below_drewN | apply below_drew1) | exact HB.out)⟩
   ·
    replace c32 := Bool.eq_false_iff.mpr c32
    subst c32
    have H1 : (none) = some r := by rw [if_neg (show ¬ (false = true) by decide)] at H; exact H
    clear H
    have H := H1
    clear H1
    exact absurd H (by simp)

/-- THE ONE PURE STATEMENT of cleatlaw26_FixLeads: yours. -/
def cleatlaw26_FixLeads.Pure : Prop := ∀ (a0 : Int) (a1 : ByteArray) (a2 : Int) (a3 : Int), (Lit.int .i64 a0).wf = true → a1.size ≤ 140737488351232 → (Lit.int .u64 a2).wf = true → (Lit.int .u64 a3).wf = true → ∃ k, cleatlaw26_FixLeads.f k a0 a1 a2 a3 = some true
theorem cleatlaw26_FixLeads.walk (P : cleatlaw26_FixLeads.Pure) (a0 : Int) (a1 : ByteArray) (a2 : Int) (a3 : Int) (w : World) (w0 : (Lit.int .i64 a0).wf = true) (w1 : a1.size ≤ 140737488351232) (w2 : (Lit.int .u64 a2).wf = true) (w3 : (Lit.int .u64 a3).wf = true) (hTab : TabW w) :
    Calls Tryd.prog 7 #[.int .i64 a0, .string a1, .int .u64 a2, .int .u64 a3] w fun e w' => e = .returned (.bool true) ∧ Below w.heap.size w w' := by
 obtain ⟨k, h⟩ := P a0 a1 a2 a3 w0 w1 w2 w3
 refine (cleatlaw26_FixLeads.calls k a0 a1 a2 a3 true w h).mono ?_
 rintro e w' ⟨rfl, hd⟩
 exact ⟨rfl, hd⟩
end Go.Proofs.YtkpkkjbigndnoaaDoor.P
