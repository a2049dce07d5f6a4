/- How a number is loaded by parts of 16 bits (chapter 6). -/
import Derived.Test.YtkmochnefidlmaaDoorMAlu
import Derived.Test.YtkmochnefidlmaaDoorPx11
import Derived.Test.YtkmochnefidlmaaDoorPx14
import Derived.Laws.BitsAllLaws
namespace Go.Proofs.YtkmochnefidlmaaDoor.M
open Go.RowKit Go.Proofs.YtkmochnefidlmaaDoor.P Go.Proofs.YtkmochnefidlmaaDoorW.PrintWords Go.Proofs.YtkmochnefidlmaaDoorW.PrintLast Go.Proofs.YtkmochnefidlmaaDoorW.PrintMore
set_option linter.unusedVariables false
set_option linter.unusedSimpArgs false

theorem w64s (x : Int) (h0 : -9223372036854775808 ≤ x) (h1 : x < 9223372036854775808) : wrap64 x = x := by unfold wrap64; omega
theorem andNot_low (d s : Nat) (hs : s ≤ 48) (hd : d < 2 ^ s) : bits .andNot .u64 (d : Int) ((65535 * 2 ^ s : Nat) : Int) = (d : Int) := by
  have h48 : (2 : Nat) ^ s ≤ 2 ^ 48 := Nat.pow_le_pow_right (by decide) hs
  have e48 : (2 : Nat) ^ 48 = 281474976710656 := by decide
  have e64 : (2 : Nat) ^ 64 = 18446744073709551616 := by decide
  have key : BitVec.ofNat 64 d &&& ~~~(BitVec.ofNat 64 (65535 * 2 ^ s)) = BitVec.ofNat 64 d := by
    apply BitVec.eq_of_getLsbD_eq
    intro i hi
    rw [BitVec.getLsbD_and, BitVec.getLsbD_not, BitVec.getLsbD_ofNat, BitVec.getLsbD_ofNat]
    by_cases h : i < s
    · rw [Nat.testBit_mul_two_pow]
      simp [hi, h]
    · have : d.testBit i = false := Nat.testBit_lt_two_pow (Nat.lt_of_lt_of_le hd (Nat.pow_le_pow_right (by decide) (by omega)))
      rw [this]; simp
  have e1 : BitVec.ofInt IntKind.u64.bits (d : Int) = BitVec.ofNat 64 d := by
    show BitVec.ofInt 64 (d : Int) = _
    exact BitVec.ofInt_natCast ..
  have e2 : BitVec.ofInt IntKind.u64.bits ((65535 * 2 ^ s : Nat) : Int) = BitVec.ofNat 64 (65535 * 2 ^ s) := by
    show BitVec.ofInt 64 _ = _
    exact BitVec.ofInt_natCast ..
  unfold bits
  simp only [e1, e2]
  have e3 : (BitVec.ofNat 64 d &&& ~~~(BitVec.ofNat 64 (65535 * 2 ^ s))).toNat = d := by
    rw [key, BitVec.toNat_ofNat]
    exact Nat.mod_eq_of_lt (by omega)
  show IntKind.u64.wrap (((BitVec.ofNat 64 d &&& ~~~(BitVec.ofNat 64 (65535 * 2 ^ s))).toNat : Nat) : Int) = _
  rw [e3, IntKind.wrap_u64]
  omega
theorem keep_nat (d n s : Nat) (hs : s ≤ 48) (hd : d < 2 ^ s) (hn : n < 65536) : bits .or .u64 (bits .andNot .u64 (d : Int) ((65535 * 2 ^ s : Nat) : Int)) ((n * 2 ^ s : Nat) : Int) = ((d + n * 2 ^ s : Nat) : Int) := by
  have h48 : (2 : Nat) ^ s ≤ 2 ^ 48 := Nat.pow_le_pow_right (by decide) hs
  have e48 : (2 : Nat) ^ 48 = 281474976710656 := by decide
  have hn2 : n * 2 ^ s ≤ 65535 * 281474976710656 := Nat.mul_le_mul (by omega) (by omega)
  rw [andNot_low d s hs hd, u64_or_nat _ _ (by omega) (by omega), Nat.or_comm]
  have h := Nat.shiftLeft_add_eq_or_of_lt hd n
  rw [Nat.shiftLeft_eq] at h
  rw [← h, Nat.add_comm]
/-- A part of 16 bits. -/
def part (v j : Nat) : Nat := v / 65536 ^ j % 65536
theorem part_lt (v j : Nat) : part v j < 65536 := Nat.mod_lt _ (by decide)
def mkI (op : Int) (n j : Nat) : S25 := ⟨op, 0, 0, 0, 0, (n : Int), 0, 0, ((16 * j : Nat) : Int), 0⟩
theorem part_at (v j : Nat) (hv : v < 18446744073709551616) (hj : j < 4) : wrap64 (Go.bits .and .u64 (shr .u64 (v : Int) (wrap64 (16 * (j : Int)))) 65535) = ((part v j : Nat) : Int) := by
  have e : shr .u64 (v : Int) (wrap64 (16 * (j : Int))) = ((v / 65536 ^ j : Nat) : Int) := by
    rw [w64s _ (by omega) (by omega)]
    unfold shr
    rw [Nat.min_eq_left (by show (16 * (j : Int)).toNat ≤ 64; omega), show (16 * (j : Int)).toNat = 16 * j by omega, show (65536 : Nat) ^ j = 2 ^ (16 * j) by rw [Nat.pow_mul]]
    push_cast
    rfl
  have hle : v / 65536 ^ j < 18446744073709551616 := Nat.lt_of_le_of_lt (Nat.div_le_self _ _) hv
  rw [e, show (65535 : Int) = ((65535 : Nat) : Int) from rfl, u64_and_nat _ _ hle (by decide), show (65535 : Nat) = 2 ^ 16 - 1 from rfl, Nat.and_two_pow_sub_one_eq_mod]
  have := part_lt v j
  unfold part at *
  rw [show (2 : Nat) ^ 16 = 65536 from rfl]
  exact w64s _ (by omega) (by omega)
/-- One part more. -/
def stepL (v j : Nat) (l : List S25) : List S25 := if part v j = 0 then l else l ++ [mkI (if l.length = 0 then 1 else 3) (part v j) j]
def loadL (v : Nat) : List S25 := if (stepL v 3 (stepL v 2 (stepL v 1 (stepL v 0 [])))).length = 0 then [mkI 1 0 0] else stepL v 3 (stepL v 2 (stepL v 1 (stepL v 0 [])))
theorem stepL_len (v j : Nat) (l : List S25) : (stepL v j l).length ≤ l.length + 1 := by unfold stepL; split <;> simp
theorem load_step (v j k : Nat) (l : List S25) (hv : v < 18446744073709551616) (hj : j < 4) (hl : l.length ≤ 10) : alu_Load.l0 (k + 1) (v : Int) l (j : Int) = alu_Load.l0 k (v : Int) (stepL v j l) ((j + 1 : Nat) : Int) := by
  simp only [alu_Load.l0]
  have hw : wrap64 ((j : Int) + 1) = ((j + 1 : Nat) : Int) := by rw [w64s _ (by omega) (by omega)]; omega
  have hs : wrap64 (16 * (j : Int)) = ((16 * j : Nat) : Int) := by rw [w64s _ (by omega) (by omega)]; omega
  rw [if_pos (by omega), if_pos (by rw [hs]; omega), part_at v j hv hj, hw, hs]
  unfold stepL mkI
  by_cases h0 : part v j = 0
  · rw [if_pos (by omega), if_pos h0]
  · rw [if_neg (by omega), if_neg h0]
    by_cases h1 : l.length = 0
    · rw [if_pos (by omega), if_pos (by omega), if_pos h1]
    · rw [if_neg (by omega), if_pos (by omega), if_neg h1]
theorem load_at (v k : Nat) (hv : v < 18446744073709551616) (hk : 5 ≤ k) : alu_Load.f k (v : Int) = some (loadL v) := by
  obtain ⟨k, rfl⟩ : ∃ q, k = q + 5 := ⟨k - 5, by omega⟩
  unfold alu_Load.f
  have l0 := stepL_len v 0 []
  have l1 := stepL_len v 1 (stepL v 0 [])
  have l2 := stepL_len v 2 (stepL v 1 (stepL v 0 []))
  simp only [List.length_nil] at l0
  have e0 := load_step v 0 (k + 4) [] hv (by omega) (by simp)
  have e1 := load_step v 1 (k + 3) (stepL v 0 []) hv (by omega) (by omega)
  have e2 := load_step v 2 (k + 2) (stepL v 1 (stepL v 0 [])) hv (by omega) (by omega)
  have e3 := load_step v 3 (k + 1) (stepL v 2 (stepL v 1 (stepL v 0 []))) hv (by omega) (by omega)
  rw [show (0 : Int) = ((0 : Nat) : Int) from rfl, e0, e1, e2, e3]
  simp only [alu_Load.l0]
  rw [if_neg (by omega)]
  unfold loadL
  generalize stepL v 3 (stepL v 2 (stepL v 1 (stepL v 0 []))) = L
  by_cases h : L.length = 0
  · rw [if_pos (by omega), if_pos h]; rfl
  · rw [if_neg (by omega), if_neg h]
/-- A row that loads: the first sets, the others keep; further and further up. -/
def okL : Bool → Nat → List S25 → Prop
  | _, _, [] => True
  | b, m, x :: xs => ∃ n j, m ≤ j ∧ j < 4 ∧ n < 65536 ∧ (b = false → n ≠ 0) ∧ x = mkI (if b = true then 1 else 3) n j ∧ okL false (j + 1) xs
def valL : List S25 → Nat
  | [] => 0
  | x :: xs => x.f5.toNat * 2 ^ x.f8.toNat + valL xs
theorem okL_first (n j : Nat) (xs : List S25) (hj : j < 4) (hn : n < 65536) (h : okL false (j + 1) xs) : okL true 0 (mkI 1 n j :: xs) := ⟨n, j, Nat.zero_le _, hj, hn, (fun q => by cases q), rfl, h⟩
theorem okL_next (m n j : Nat) (xs : List S25) (hm : m ≤ j) (hj : j < 4) (hn : n < 65536) (h0 : n ≠ 0) (h : okL false (j + 1) xs) : okL false m (mkI 3 n j :: xs) := ⟨n, j, hm, hj, hn, fun _ => h0, rfl, h⟩
theorem part_sum (v : Nat) (hv : v < 18446744073709551616) : v = part v 0 + part v 1 * 65536 + part v 2 * 4294967296 + part v 3 * 281474976710656 := by
  unfold part
  rw [show (65536 : Nat) ^ 0 = 1 from rfl, show (65536 : Nat) ^ 1 = 65536 from rfl, show (65536 : Nat) ^ 2 = 4294967296 by decide, show (65536 : Nat) ^ 3 = 281474976710656 by decide]
  omega
theorem val_mk (op : Int) (n j : Nat) (xs : List S25) : valL (mkI op n j :: xs) = n * 2 ^ (16 * j) + valL xs := rfl
theorem p16_0 : (2 : Nat) ^ (16 * 0) = 1 := rfl
theorem p16_1 : (2 : Nat) ^ (16 * 1) = 65536 := by decide
theorem p16_2 : (2 : Nat) ^ (16 * 2) = 4294967296 := by decide
theorem p16_3 : (2 : Nat) ^ (16 * 3) = 281474976710656 := by decide
theorem load_cases (a b c d : Nat) (p0 : a < 65536) (p1 : b < 65536) (p2 : c < 65536) (p3 : d < 65536) (v : Nat) (e0 : part v 0 = a) (e1 : part v 1 = b) (e2 : part v 2 = c) (e3 : part v 3 = d) :
    okL true 0 (loadL v) ∧ valL (loadL v) = a + b * 65536 + c * 4294967296 + d * 281474976710656 ∧ 1 ≤ (loadL v).length ∧ (loadL v).length ≤ 4 := by
  unfold loadL stepL
  rw [e0, e1, e2, e3]
  by_cases h0 : a = 0 <;> by_cases h1 : b = 0 <;> by_cases h2 : c = 0 <;> by_cases h3 : d = 0 <;>
    simp only [h0, h1, h2, h3, if_true, if_false, List.nil_append, List.length_nil, List.length_cons, List.cons_append, Nat.zero_add, Nat.reduceAdd, Nat.reduceEqDiff, Nat.succ_ne_zero] <;>
    refine ⟨?_, ?_, ?_, ?_⟩ <;>
    first
    | ((repeat (first | exact True.intro | refine okL_first _ _ _ (by omega) (by omega) ?_ | refine okL_next _ _ _ _ (by omega) (by omega) (by omega) (by assumption) ?_)); done)
    | (simp only [val_mk, p16_0, p16_1, p16_2, p16_3]; unfold valL; omega)
    | (simp; done)
theorem load_ok (v : Nat) (hv : v < 18446744073709551616) : okL true 0 (loadL v) ∧ valL (loadL v) = v ∧ 1 ≤ (loadL v).length ∧ (loadL v).length ≤ 4 := by
  have h := load_cases _ _ _ _ (part_lt v 0) (part_lt v 1) (part_lt v 2) (part_lt v 3) v rfl rfl rfl rfl
  have s := part_sum v hv
  exact ⟨h.1, h.2.1.trans s.symm, h.2.2⟩
end Go.Proofs.YtkmochnefidlmaaDoor.M
