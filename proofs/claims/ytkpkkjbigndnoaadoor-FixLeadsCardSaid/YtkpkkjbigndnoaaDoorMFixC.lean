/- Bytes and numbers (chapter 26). -/
import Derived.Test.YtkpkkjbigndnoaaDoorMFixB
import Derived.Test.YtkpkkjbigndnoaaDoorPx17
namespace Go.Proofs.YtkpkkjbigndnoaaDoor.M
open Go.RowKit Go.Proofs.YtkpkkjbigndnoaaDoor.P Go.Proofs.YtkpkkjbigndnoaaDoorW.PrintWords Go.Proofs.YtkpkkjbigndnoaaDoorW.PrintLast Go.Proofs.YtkpkkjbigndnoaaDoorW.PrintMore
set_option linter.unusedVariables false
set_option linter.unusedSimpArgs false
def leV : List Int → Int
  | [] => 0
  | x :: xs => x + 256 * leV xs
def isBy (l : List Int) : Prop := ∀ x, x ∈ l → 0 ≤ x ∧ x < 256
def byV (s : ByteArray) : List Int := s.data.toList.map fun b => (b.toNat : Int)
theorem byV_length (s : ByteArray) : (byV s).length = s.size := by rw [byV, List.length_map, Array.length_toList]; rfl
theorem leV_lt : ∀ (l : List Int), isBy l → 0 ≤ leV l ∧ leV l < 256 ^ l.length
  | [], _ => by simp [leV]
  | x :: xs, h => by
    have h1 := leV_lt xs (fun y hy => h y (List.mem_cons_of_mem _ hy))
    have h2 := h x (List.mem_cons_self ..)
    rw [leV, List.length_cons, Int.pow_succ]
    omega
theorem leV_snoc : ∀ (l : List Int) (y : Int), leV (l ++ [y]) = leV l + y * 256 ^ l.length
  | [], y => by simp [leV]
  | x :: xs, y => by
    rw [List.cons_append, leV, leV_snoc xs y, leV, List.length_cons, Int.pow_succ, Int.mul_add]
    have : 256 * (y * 256 ^ xs.length) = y * (256 ^ xs.length * 256) := by rw [Int.mul_comm, Int.mul_assoc]
    omega
theorem or_shl (v x : Int) (i : Nat) (hi : i < 8) (h0 : 0 ≤ v) (h1 : v < 256 ^ i) (x0 : 0 ≤ x) (x1 : x < 256) : Go.bits .or .u64 v (shl .u64 (IntKind.u64.wrap x) (wrap64 (8 * (i : Int)))) = v + x * 256 ^ i := by
  obtain ⟨V, rfl⟩ := Int.eq_ofNat_of_zero_le h0
  obtain ⟨X, rfl⟩ := Int.eq_ofNat_of_zero_le x0
  have e : (2 : Nat) ^ (8 * i) = 256 ^ i := by rw [Nat.pow_mul]
  have e2 : ((256 ^ i : Nat) : Int) = (256 : Int) ^ i := by simp
  have hV : V < 2 ^ (8 * i) := by rw [e]; omega
  have hX : X * 2 ^ (8 * i) < 2 ^ 64 := by
    have h8 : 2 ^ (8 * i) * 256 ≤ 2 ^ 64 := by
      rw [show (256 : Nat) = 2 ^ 8 by decide, ← Nat.pow_add]
      exact Nat.pow_le_pow_right (by decide) (by omega)
    have h9 := Nat.mul_le_mul_right (2 ^ (8 * i)) (show X ≤ 255 by omega)
    have h10 := Nat.two_pow_pos (8 * i)
    omega
  have hs : shl .u64 (IntKind.u64.wrap (X : Int)) (wrap64 (8 * (i : Int))) = ((X * 2 ^ (8 * i) : Nat) : Int) := by
    unfold shl
    rw [show wrap64 (8 * (i : Int)) = ((8 * i : Nat) : Int) by unfold wrap64; omega, Int.toNat_natCast, show IntKind.u64.wrap (X : Int) = X by rw [IntKind.wrap_u64]; omega]
    rw [show min (8 * i) IntKind.u64.bits = 8 * i by show min (8 * i) 64 = _; omega, IntKind.wrap_u64]
    have : ((X * 2 ^ (8 * i) : Nat) : Int) = (X : Int) * 2 ^ (8 * i) := by simp
    rw [← this]
    have e64 : (2 : Nat) ^ 64 = 18446744073709551616 := by decide
    omega
  rw [hs]
  have hlt : 2 ^ (8 * i) * X + V < 2 ^ 64 := by
    have h8 : 2 ^ (8 * i) * 256 ≤ 2 ^ 64 := by
      rw [show (256 : Nat) = 2 ^ 8 by decide, ← Nat.pow_add]
      exact Nat.pow_le_pow_right (by decide) (by omega)
    have h9 := Nat.mul_le_mul_left (2 ^ (8 * i)) (show X + 1 ≤ 256 by omega)
    rw [Nat.mul_add, Nat.mul_one] at h9
    omega
  have e64 : (2 : Nat) ^ 64 = 18446744073709551616 := by decide
  have key : (BitVec.ofInt 64 (V : Int) ||| BitVec.ofInt 64 ((X * 2 ^ (8 * i) : Nat) : Int)).toNat = 2 ^ (8 * i) * X + V := by
    rw [BitVec.toNat_or, BitVec.toNat_ofInt, BitVec.toNat_ofInt, show (((V : Nat) : Int) % ((2 ^ 64 : Nat) : Int)).toNat = V by omega,
      show (((X * 2 ^ (8 * i) : Nat) : Int) % ((2 ^ 64 : Nat) : Int)).toNat = X * 2 ^ (8 * i) by omega, Nat.mul_comm X, Nat.or_comm, Nat.two_pow_add_eq_or_of_lt hV]
  show IntKind.u64.wrap ((BitVec.ofInt 64 (V : Int) ||| BitVec.ofInt 64 ((X * 2 ^ (8 * i) : Nat) : Int)).toNat : Nat) = _
  rw [key, IntKind.wrap_u64, ← e2, ← e]
  have : ((2 ^ (8 * i) * X + V : Nat) : Int) = (V : Int) + (X : Int) * ((2 ^ (8 * i) : Nat) : Int) := by
    rw [Nat.mul_comm]; simp; omega
  rw [this]
  omega
theorem leV_leL : ∀ (n : Nat) (v : Int), 0 ≤ v → v < 256 ^ n → leV (fix_leL v n) = v
  | 0, v, h0, h1 => by simp at h1; simp [fix_leL, leV]; omega
  | n + 1, v, h0, h1 => by
    rw [Int.pow_succ] at h1
    rw [fix_leL, leV, leV_leL n (v / 256) (by omega) (by omega)]
    omega
theorem leL_isBy : ∀ (n : Nat) (v : Int), isBy (fix_leL v n)
  | 0, _, x, hx => by cases hx
  | n + 1, v, x, hx => by
    rcases List.mem_cons.1 hx with rfl | hx
    · omega
    · exact leL_isBy n _ x hx
theorem bytes_data (l : List Int) (h : isBy l) : byV (strOfNums l) = l := by
  unfold byV
  rw [strOfNums_data, List.map_map]
  conv => rhs; rw [← List.map_id l]
  apply List.map_congr_left
  intro x hx
  obtain ⟨h0, h1⟩ := h x hx
  simp only [Function.comp, id]
  rw [UInt8.toNat_ofNat']
  omega
theorem bytes_isBy (y : ByteArray) : isBy (byV y) := by
  intro x hx
  unfold byV at hx
  obtain ⟨b, _, rfl⟩ := List.mem_map.1 hx
  have := b.toNat_lt
  omega
theorem bt_get (y : ByteArray) (i : Nat) (h : i < y.size) : bt y (i : Int) = (byV y)[i]'(by rw [byV_length]; exact h) := by
  unfold bt byV
  simp [h]
  rfl
theorem number_loop (y : ByteArray) (h8 : y.size ≤ 8) : ∀ (d i k : Nat), i + d = y.size → d < k → fix_number.l0 k y (leV ((byV y).take i)) (y.size : Int) (i : Int) = some (leV (byV y))
  | 0, i, k + 1, hi, hk => by
    unfold fix_number.l0
    rw [if_neg (by omega), List.take_of_length_le (by rw [byV_length]; omega)]
  | d + 1, i, k + 1, hi, hk => by
    have hlt : i < y.size := by omega
    have hlen := byV_length y
    have hlt' : i < (byV y).length := by omega
    unfold fix_number.l0
    rw [if_pos (by omega), if_pos (by omega), if_pos (by omega), if_pos (by unfold wrap64; omega)]
    have hx := bytes_isBy y _ (List.getElem_mem hlt')
    have ht := leV_lt ((byV y).take i) (fun z hz => bytes_isBy y z (List.mem_of_mem_take hz))
    rw [List.length_take, Nat.min_eq_left (by omega)] at ht
    rw [bt_get y i hlt, or_shl _ _ i (by omega) ht.1 ht.2 hx.1 hx.2, show wrap64 ((i : Int) + 1) = ((i + 1 : Nat) : Int) by unfold wrap64; omega]
    have hs : leV ((byV y).take i) + (byV y)[i] * 256 ^ i = leV ((byV y).take (i + 1)) := by
      rw [List.take_succ_eq_append_getElem hlt', leV_snoc, List.length_take, Nat.min_eq_left (by omega)]
    rw [hs]
    exact number_loop y h8 d (i + 1) k (by omega) (by omega)
  | d, i, 0, hi, hk => by omega
theorem number_at (k : Nat) (hk : 20 ≤ k) (y : ByteArray) (h8 : y.size ≤ 8) : fix_number.f k y = some (leV (byV y)) := number_loop y h8 y.size 0 k (by omega) (by omega)
theorem right_at (j m : Int) (y : ByteArray) : fix_right.f j m y = some (if j = 1 then ((y.size : Int) == 8) else if j > 1 ∧ j ≤ m then ((y.size : Int) == 4) else false) := by
  unfold fix_right.f
  by_cases h1 : j = 1
  · rw [if_pos h1, if_pos h1]
  · rw [if_neg h1, if_neg h1]
    by_cases h2 : j > 1
    · rw [if_pos h2]
      by_cases h3 : j ≤ m
      · rw [if_pos h3, if_pos ⟨h2, h3⟩]
      · rw [if_neg h3, if_neg (by omega)]
    · rw [if_neg h2, if_neg (by omega)]
theorem size_leL (v : Int) (n : Nat) : (strOfNums (fix_leL v n)).size = n := by rw [strOfNums_size, fix_leL_length]
theorem number_leL (k : Nat) (hk : 20 ≤ k) (v : Int) (n : Nat) (hn : n ≤ 8) (h0 : 0 ≤ v) (h1 : v < 256 ^ n) : fix_number.f k (strOfNums (fix_leL v n)) = some v := by
  rw [number_at k hk _ (by rw [size_leL]; exact hn), bytes_data _ (leL_isBy n v), leV_leL n v h0 h1]
end Go.Proofs.YtkpkkjbigndnoaaDoor.M
